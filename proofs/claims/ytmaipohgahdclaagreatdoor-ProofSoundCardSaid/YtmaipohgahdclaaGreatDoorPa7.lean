/- The proof's own texts, joined: part 7. No conditions. -/
import Derived.Test.YtmaipohgahdclaaGreatDoorProg
import Derived.Below
import Derived.Deep.Draws
import Derived.Deep.AppendLies
import Derived.Maps.AppendAt
import Derived.OwnWalk
import Derived.Laws.BytesArg
import Derived.Laws.MakeOwn
import Derived.Laws.OwnMore
import Derived.Deep.OwnRows
import Derived.Tactics
import Derived.Lib.ConvBytes
import Derived.Laws.Slices
import Derived.WalkKit
import Derived.KernelRfl
import Derived.RowKit3
import Derived.Deep.LoopGhost
import Derived.Deep.QuietTactic
import Derived.BigQuiet
import Derived.WideLaws
import Derived.Deep.DeepCutAuto
import Derived.Deep.CutBlock
import Derived.Deep.RegionHeld3
import Derived.Laws.Rows
import Derived.Lib.AppendStr
import Derived.ArgAppend
import Derived.Laws.IdiomCopy
import Derived.OrdersHeld
import Derived.Laws.BitsLemmas
import Derived.RowKit
import Derived.Laws.StructEq
import Derived.Test.YtmaipohgahdclaaGreatDoorPa0
import Derived.Test.YtmaipohgahdclaaGreatDoorPa1
import Derived.Test.YtmaipohgahdclaaGreatDoorPa2
section
namespace Go.Proofs.YtmaipohgahdclaaGreatDoor.Pr
open Go.RowKit Go.Proofs.YtmaipohgahdclaaGreatDoorW.PrintWords Go.Proofs.YtmaipohgahdclaaGreatDoorW.PrintLast Go.Proofs.YtmaipohgahdclaaGreatDoorW.PrintMore
attribute [local go_sem] QaU QaS max_two min_two QaM QaL QaT QaR
set_option linter.unusedVariables false
set_option linter.unusedSimpArgs false
attribute [local go_sem high] eqA24
mutual
def Qae.l0 : Nat → List (S56) → List (S56) → Int → Int → Int → ByteArray → Int → ByteArray → ByteArray → ByteArray → ByteArray → ByteArray → ByteArray → ByteArray → Option ((List (S56)))
 | 0, _, _, _, _, _, _, _, _, _, _, _, _, _, _ => none
 | k + 1, x1, x6, x7, x102000, x102001, x102002, x102003, x102004, x102005, x102006, x102007, x102008, x105000, x105001 => if x7 < (x1.length : Int) then (if x102003 = 2 then (if 0 ≤ x7 then (Qae.j1 k x1 x6 x7 ((((Qap x1 x7).f0.f0).toList) == x102005.toList && ((((Qap x1 x7).f0.f1).toList) == x102006.toList)) x102000 x102001 x102002 x102003 x102004 x102005 x102006 x102007 x102008 x105000 x105001) else (none)) else (if x102003 = 4 then (if 0 ≤ x7 then (Qae.j1 k x1 x6 x7 ((((Qap x1 x7).f0.f0).toList) == x102005.toList && ((((Qap x1 x7).f0.f1).toList) == x102006.toList)) x102000 x102001 x102002 x102003 x102004 x102005 x102006 x102007 x102008 x105000 x105001) else (none)) else (Qae.j1 k x1 x6 x7 false x102000 x102001 x102002 x102003 x102004 x102005 x102006 x102007 x102008 x105000 x105001))) else (some x6)
def Qae.j1 : Nat → List (S56) → List (S56) → Int → Bool → Int → Int → ByteArray → Int → ByteArray → ByteArray → ByteArray → ByteArray → ByteArray → ByteArray → ByteArray → Option ((List (S56)))
 | 0, _, _, _, _, _, _, _, _, _, _, _, _, _, _, _ => none
 | k + 1, x1, x6, x7, x44, x102000, x102001, x102002, x102003, x102004, x102005, x102006, x102007, x102008, x105000, x105001 => if x44 = true then (if 0 ≤ x7 then (if x7 < (x1.length : Int) then ((QaP.f k x1 x102007 x102008 ((Qap x1 x7).f1)).bind fun t111 => (if x102003 = 2 then (if x6.length < 2932031007402 then (Qae.j2 k x1 (x6 ++ [(⟨(⟨x105000, x105001⟩ : S24), (Qap x1 x7).f1⟩ : S56)]) x7 x102000 x102001 x102002 x102003 x102004 x102005 x102006 x102007 x102008 x105000 x105001) else (none)) else (if t111 = true then (if x6.length < 2932031007402 then (Qae.j2 k x1 (x6 ++ [(⟨(⟨x105000, x105001⟩ : S24), (Qap x1 x7).f1⟩ : S56)]) x7 x102000 x102001 x102002 x102003 x102004 x102005 x102006 x102007 x102008 x105000 x105001) else (none)) else (Qae.j2 k x1 x6 x7 x102000 x102001 x102002 x102003 x102004 x102005 x102006 x102007 x102008 x105000 x105001)))) else (none)) else (none)) else (Qae.j2 k x1 x6 x7 x102000 x102001 x102002 x102003 x102004 x102005 x102006 x102007 x102008 x105000 x105001)
def Qae.j2 : Nat → List (S56) → List (S56) → Int → Int → Int → ByteArray → Int → ByteArray → ByteArray → ByteArray → ByteArray → ByteArray → ByteArray → ByteArray → Option ((List (S56)))
 | 0, _, _, _, _, _, _, _, _, _, _, _, _, _, _ => none
 | k + 1, x1, x6, x7, x102000, x102001, x102002, x102003, x102004, x102005, x102006, x102007, x102008, x105000, x105001 => if x102003 = 3 then (if 0 ≤ x7 then (if x7 < (x1.length : Int) then ((liveryref06_First.f k x102000 x102001 x102002 x102003 x102004 x102005 x102006 x102007 x102008).bind fun bt121 => (if ((((Qap x1 x7).f0.f0).toList) == bt121.1.toList && ((((Qap x1 x7).f0.f1).toList) == bt121.2.toList)) = true then ((Qat.f k ((Qap x1 x7).f1)).bind fun t124 => (Qae.j3 k x1 x6 x7 (decide (t124 > 0)) x102000 x102001 x102002 x102003 x102004 x102005 x102006 x102007 x102008 x105000 x105001)) else (Qae.j3 k x1 x6 x7 false x102000 x102001 x102002 x102003 x102004 x102005 x102006 x102007 x102008 x105000 x105001))) else (none)) else (none)) else (Qae.j3 k x1 x6 x7 false x102000 x102001 x102002 x102003 x102004 x102005 x102006 x102007 x102008 x105000 x105001)
def Qae.j3 : Nat → List (S56) → List (S56) → Int → Bool → Int → Int → ByteArray → Int → ByteArray → ByteArray → ByteArray → ByteArray → ByteArray → ByteArray → ByteArray → Option ((List (S56)))
 | 0, _, _, _, _, _, _, _, _, _, _, _, _, _, _, _ => none
 | k + 1, x1, x6, x7, x92, x102000, x102001, x102002, x102003, x102004, x102005, x102006, x102007, x102008, x105000, x105001 => if x92 = true then (if 0 ≤ x7 then (if x7 < (x1.length : Int) then (Qae.l1 k x1 x6 x7 0 x102000 x102001 x102002 x102003 x102004 x102005 x102006 x102007 x102008 x105000 x105001 ((Qap x1 x7).f1) x102008) else (none)) else (none)) else (Qae.l0 k x1 x6 (wrap64 (x7 + 1)) x102000 x102001 x102002 x102003 x102004 x102005 x102006 x102007 x102008 x105000 x105001)
def Qae.l1 : Nat → List (S56) → List (S56) → Int → Int → Int → Int → ByteArray → Int → ByteArray → ByteArray → ByteArray → ByteArray → ByteArray → ByteArray → ByteArray → ByteArray → ByteArray → Option ((List (S56)))
 | 0, _, _, _, _, _, _, _, _, _, _, _, _, _, _, _, _, _ => none
 | k + 1, x1, x6, x7, x10, x102000, x102001, x102002, x102003, x102004, x102005, x102006, x102007, x102008, x105000, x105001, x127000, x127001 => if x10 < (x1.length : Int) then (if 0 ≤ x10 then (if ((((Qap x1 x10).f0.f0).toList) == x127000.toList && ((((Qap x1 x10).f0.f1).toList) == x127001.toList)) = true then (if x6.length < 2932031007402 then (Qae.l1 k x1 (x6 ++ [(⟨(⟨x105000, x105001⟩ : S24), (Qap x1 x10).f1⟩ : S56)]) x7 (wrap64 (x10 + 1)) x102000 x102001 x102002 x102003 x102004 x102005 x102006 x102007 x102008 x105000 x105001 x127000 x127001) else (none)) else (Qae.l1 k x1 x6 x7 (wrap64 (x10 + 1)) x102000 x102001 x102002 x102003 x102004 x102005 x102006 x102007 x102008 x105000 x105001 x127000 x127001)) else (none)) else (Qae.l0 k x1 x6 (wrap64 (x7 + 1)) x102000 x102001 x102002 x102003 x102004 x102005 x102006 x102007 x102008 x105000 x105001)
end
def Qae.f (k : Nat) (a0_0 : Int) (a0_1 : Int) (a0_2 : ByteArray) (a0_3 : Int) (a0_4 : ByteArray) (a0_5 : ByteArray) (a0_6 : ByteArray) (a0_7 : ByteArray) (a0_8 : ByteArray) (l1 : List (S56)) : Option ((List (S56))) := (liveryref05_Role.f k a0_0 a0_1 a0_2 a0_3 a0_4 a0_5 a0_6 a0_7 a0_8).bind fun bt102 => (if a0_3 = 1 then (some (([(⟨(⟨bt102.1, bt102.2⟩ : S24), a0_4⟩ : S56)] : List (S56)))) else (Qae.l0 k l1 ([] : List (S56)) 0 a0_0 a0_1 a0_2 a0_3 a0_4 a0_5 a0_6 a0_7 a0_8 bt102.1 bt102.2))
def Qae.T8 : Bool × List (List Nat × List Nat) := (true, [([], []), ([0], [0]), ([1], [1]), ([2], [2]), ([3], [3]), ([4, 3], [3, 4]), ([5, 3], [3, 5]), ([3, 6], [3, 6]), ([7, 3], [7]), ([8], [8]), ([8], [8]), ([9, 10, 8], [8, 9, 10]), ([11, 8], [8, 11]), ([12, 8], [8, 12]), ([8], [8]), ([14, 8], [8, 14]), ([13, 15, 8], [8, 13, 15]), ([8, 16], [8, 16])])
def Qae.B8 : List Nat := [0, 1, 3, 7, 15, 31, 63, 127, 255, 511, 511, 2047, 4095, 8191, 511, 16895, 65535, 131071]
theorem Qae.tab8 : rtab .any (opsOf Tryz.f60 8) = Qae.T8 := by kernel_rfl
theorem Qae.bits8 : waitsOk Qae.T8.2 Qae.B8 = true := by kernel_rfl
def Qae.T9 : Bool × List (List Nat × List Nat) := (true, [([], []), ([], []), ([1], [1]), ([], []), ([], []), ([3, 4], [3, 4]), ([5], [5]), ([6], [6]), ([2, 7], [2, 7]), ([0, 8], [0, 8]), ([9, 9, 0, 1, 2, 3, 4, 5, 6, 7, 8, 9], [9])])
def Qae.B9 : List Nat := [0, 0, 2, 0, 0, 24, 56, 120, 254, 511, 1023]
theorem Qae.tab9 : rtab .any (opsOf Tryz.f60 9) = Qae.T9 := by kernel_rfl
theorem Qae.bits9 : waitsOk Qae.T9.2 Qae.B9 = true := by kernel_rfl
def Qae.T11 : Bool × List (List Nat × List Nat) := (true, [([], []), ([], []), ([], []), ([], []), ([2, 3], [2, 3]), ([4], [4]), ([5], [5]), ([1, 6], [1, 6]), ([7], [7]), ([0, 8], [0, 8]), ([9, 9, 0, 1, 2, 3, 4, 5, 6, 7, 8, 9], [0, 9])])
def Qae.B11 : List Nat := [0, 0, 0, 0, 12, 28, 60, 126, 254, 511, 1023]
theorem Qae.tab11 : rtab .any (opsOf Tryz.f60 11) = Qae.T11 := by kernel_rfl
theorem Qae.bits11 : waitsOk Qae.T11.2 Qae.B11 = true := by kernel_rfl
def Qae.T12 : Bool × List (List Nat × List Nat) := (true, [([], []), ([0], [0]), ([1], [1]), ([2], [2]), ([3], [3]), ([3], [3]), ([4, 5, 3], [3, 4, 5]), ([6, 3], [3, 6]), ([7, 3], [3, 7]), ([3], [3]), ([9, 3, 3], [3, 9]), ([8, 10, 3], [3, 8, 10]), ([3, 11], [3, 11]), ([12, 10], [12]), ([13], [13]), ([13], [13]), ([14, 15, 13], [13, 14, 15]), ([16, 13], [13, 16]), ([17, 13], [13, 17]), ([18, 13, 13], [13, 18]), ([19, 13], [13, 19]), ([13, 20], [13, 20])])
def Qae.B12 : List Nat := [0, 1, 3, 7, 15, 15, 63, 127, 255, 15, 527, 2047, 4095, 8191, 16383, 16383, 65535, 131071, 262143, 524287, 1048575, 2097151]
theorem Qae.tab12 : rtab .any (opsOf Tryz.f60 12) = Qae.T12 := by kernel_rfl
theorem Qae.bits12 : waitsOk Qae.T12.2 Qae.B12 = true := by kernel_rfl
def Qae.T13 : Bool × List (List Nat × List Nat) := (true, [([], []), ([], []), ([0, 1], [0, 1]), ([2], [2]), ([3], [3]), ([], []), ([5], [5]), ([6], [6]), ([4, 7], [4, 7]), ([], []), ([9, 8, 0, 1, 2, 3, 4, 5, 6, 7, 8, 9], [8, 9])])
def Qae.B13 : List Nat := [0, 0, 3, 7, 15, 0, 32, 96, 255, 0, 1023]
theorem Qae.tab13 : rtab .any (opsOf Tryz.f60 13) = Qae.T13 := by kernel_rfl
theorem Qae.bits13 : waitsOk Qae.T13.2 Qae.B13 = true := by kernel_rfl
def Qae.T18 : Bool × List (List Nat × List Nat) := (true, [([], []), ([], []), ([], []), ([], []), ([2, 3], [2, 3]), ([4], [4]), ([5], [5]), ([1, 6], [1, 6]), ([7], [7]), ([0, 8], [0, 8]), ([9, 9, 0, 1, 2, 3, 4, 5, 6, 7, 8, 9], [0, 9])])
def Qae.B18 : List Nat := [0, 0, 0, 0, 12, 28, 60, 126, 254, 511, 1023]
theorem Qae.tab18 : rtab .any (opsOf Tryz.f60 18) = Qae.T18 := by kernel_rfl
theorem Qae.bits18 : waitsOk Qae.T18.2 Qae.B18 = true := by kernel_rfl
set_option maxHeartbeats 8000000 in
set_option maxRecDepth 100000 in
theorem Qae.calls (k : Nat) (a0_0 : Int) (a0_1 : Int) (a0_2 : ByteArray) (a0_3 : Int) (a0_4 : ByteArray) (a0_5 : ByteArray) (a0_6 : ByteArray) (a0_7 : ByteArray) (a0_8 : ByteArray) (A1 : Option Addr) (c1 : Nat) (l1 : List (S56)) (r : List (S56)) (w : World) (hr1 : Kd.C k56 w A1 l1.length l1) (hc1 : l1.length ≤ c1) (h : Qae.f k a0_0 a0_1 a0_2 a0_3 a0_4 a0_5 a0_6 a0_7 a0_8 l1 = some r) :
  Calls Tryz.prog 60 #[.agg #[.int .i64 a0_0, .int .i64 a0_1, .string a0_2, .int .i64 a0_3, .string a0_4, .string a0_5, .string a0_6, .string a0_7, .string a0_8], .slice A1 l1.length c1] w fun e w' => ∃ v0_ : Value, e = .returned (v0_) ∧ Kd.R k56 56 w' w.heap.size (fun _ => True) v0_ r ∧ Below w.heap.size w w' := by
 have hu42 := Tryz.underlying42; have hu24 := Tryz.underlying24; have hu56 := Tryz.underlying56; have HR1 := Qad.mk hr1; have HC1 := Qad.mk hc1; clear hr1 hc1; have HB := Qad.mk (Below.refl w.heap.size w); have H : ((liveryref05_Role.f k a0_0 a0_1 a0_2 a0_3 a0_4 a0_5 a0_6 a0_7 a0_8).bind fun bt102 => (if a0_3 = 1 then (some (([(⟨(⟨bt102.1, bt102.2⟩ : S24), a0_4⟩ : S56)] : List (S56)))) else (Qae.l0 k l1 ([] : List (S56)) 0 a0_0 a0_1 a0_2 a0_3 a0_4 a0_5 a0_6 a0_7 a0_8 bt102.1 bt102.2))) = some r := h; clear h; replace H := Option.bind_eq_some_iff.mp H; obtain ⟨⟨t102, t103⟩, A30, H⟩ := H; replace H : (if a0_3 = 1 then (some (([(⟨(⟨t102, t103⟩ : S24), a0_4⟩ : S56)] : List (S56)))) else (Qae.l0 k l1 ([] : List (S56)) 0 a0_0 a0_1 a0_2 a0_3 a0_4 a0_5 a0_6 a0_7 a0_8 t102 t103)) = some r := H; have A3 := Qad.mk A30; clear A30
 by_cases c4 : a0_3 = 1
 ·rw [if_pos c4] at H; have c4b0 : (a0_3 == 1) = true := beq_iff_eq.mpr c4; have c4b1 : (a0_3 != 1) = false := bne_eq_false_iff_eq.mpr c4; clear c4
  obtain ⟨y105, hy105⟩ : ∃ y_ : List (S56), y_ = (([(⟨(⟨t102, t103⟩ : S24), a0_4⟩ : S56)] : List (S56))) := ⟨_, rfl⟩
  replace H : (some y105) = some r := by first | (rw [hy105]; with_reducible exact H) | (have H2_ := (Option.bind_some _ _).symm.trans H; rw [hy105]; with_reducible exact H2_) | (have H2_ := (Option.bind_some _ _).symm.trans H; with_reducible exact H2_) | with_reducible exact H | (rw [hy105]; exact H) | exact H
  have Ny105 := Qad.mk hy105; clear hy105; obtain rfl := Option.some.inj H; go_enter Tryz.func60, Tryz.ntmps60
  go_wp2_with (first | ((with_reducible refine QaN (N := 2) rfl ?_); refine QaK ?hg (N := 2) ?hd (cs := #[.int .i64 a0_0, .int .i64 a0_1, .string a0_2, .int .i64 a0_3, .string a0_4, .string a0_5, .string a0_6, .string a0_7, .string a0_8]) (t := 42) ?hr ?_; (case hd => rfl); (case hg => rfl); (case hr => first | (go_simp; done) | (go_simp; rfl)); intro gb101 hg w5 hbox hb; have n0_ := Qad.mk (Qak (by repeat (first | (with_reducible first | exact HB.out | apply Qab | apply Qaa | apply Qac) | exact HB.out)) hb); have n1_ := Qad.mk (hbox); have n2_ := Qad.mk ((by rw [hg]; exact (Qas (by repeat (first | (with_reducible first | exact HB.out | apply Qab | apply Qaa | apply Qac) | exact HB.out))) : w.heap.size ≤ gb101)); have n3_ := n2_; clear HB; have HB := n0_; have BK101 := n1_; have GW101 := n2_; have GE101 := n3_; clear n0_ n1_ n2_ n3_; clear hb hbox hg; obtain ⟨hcz6_0, hcz6_1, hcz6_2, hcz6_3, hcz6_4, hcz6_5, hcz6_6, hcz6_7, hcz6_8⟩ := cz_iisisssss BK101.out; obtain ⟨hfz6_0, hfz6_1, hfz6_2, hfz6_3, hfz6_4, hfz6_5, hfz6_6, hfz6_7, hfz6_8⟩ := fz_9 BK101.out) | ((with_reducible refine QaO (f := 80) rfl ?_); refine goesL_ (some 12) rfl rfl Tryz.func80 (by kernel_rfl) rfl #[.agg #[.int .i64 a0_0, .int .i64 a0_1, .string a0_2, .int .i64 a0_3, .string a0_4, .string a0_5, .string a0_6, .string a0_7, .string a0_8]] rfl (by (try simp only [List.map_toArray, List.map_cons, List.map_nil]); first | done | rfl | (simp only [List.length_drop, List.length_take]; rfl)) ?_; (with_reducible refine (liveryref05_Role.calls k a0_0 a0_1 a0_2 a0_3 a0_4 a0_5 a0_6 a0_7 a0_8 t102 t103 _ A3.out).mono ?_); rintro e w7 ⟨rfl, hb⟩; refine ⟨_, rfl, ?_⟩; have n0_ := Qad.mk (Qal (g := gb101) (o := Qau a0_0 a0_1 a0_2 a0_3 a0_4 a0_5 a0_6 a0_7 a0_8 42) (by (with_reducible repeat (first | refine Qag ?_ _ | refine Qah ?_ | refine Qaf ?_ _)); exact BK101.out) hb); have n1_ := Qad.mk (Qak (by repeat (first | (with_reducible first | exact HB.out | apply Qab | apply Qaa | apply Qac | refine Qai ?_ GE101.out) | exact HB.out)) hb); clear BK101; clear HB; have BK101 := n0_; have HB := n1_; clear n0_ n1_; (try clear hb); (try clear hb2); (try clear hk); (try clear hi)) | ((with_reducible refine QaN (N := 5) rfl ?_); refine QaK ?hg (N := 5) ?hd (cs := #[.string (⟨#[]⟩ : ByteArray), .string (⟨#[]⟩ : ByteArray)]) (t := 24) ?hr ?_; (case hd => rfl); (case hg => rfl); (case hr => first | (go_simp; done) | (go_simp; rfl)); intro gb104 hg w8 hbox hb; have n0_ := Qad.mk (Qal (g := gb101) (o := Qau a0_0 a0_1 a0_2 a0_3 a0_4 a0_5 a0_6 a0_7 a0_8 42) (by (with_reducible repeat (first | refine Qag ?_ _ | refine Qah ?_ | refine Qaf ?_ _)); exact BK101.out) hb); have n1_ := Qad.mk (Qak (by repeat (first | (with_reducible first | exact HB.out | apply Qab | apply Qaa | apply Qac | refine Qai ?_ GE101.out) | exact HB.out)) hb); have n2_ := Qad.mk (hbox); have n3_ := Qad.mk ((by rw [hg]; exact (Qas (by repeat (first | (with_reducible first | exact HB.out | apply Qab | apply Qaa | apply Qac | refine Qai ?_ GE101.out) | exact HB.out))) : w.heap.size ≤ gb104)); have n4_ := n3_; have n5_ := Qad.mk ((by rw [hg]; exact Nat.ne_of_lt (blk_lt (g := gb101) (o := Qau a0_0 a0_1 a0_2 a0_3 a0_4 a0_5 a0_6 a0_7 a0_8 42) (by (with_reducible repeat (first | refine Qag ?_ _ | refine Qah ?_ | refine Qaf ?_ _)); exact BK101.out)) : gb101 ≠ gb104)); have n6_ := Qad.mk ((by rw [hg]; exact Nat.ne_of_gt (blk_lt (g := gb101) (o := Qau a0_0 a0_1 a0_2 a0_3 a0_4 a0_5 a0_6 a0_7 a0_8 42) (by (with_reducible repeat (first | refine Qag ?_ _ | refine Qah ?_ | refine Qaf ?_ _)); exact BK101.out)) : gb104 ≠ gb101)); clear BK101; clear HB; have BK101 := n0_; have HB := n1_; have BK104 := n2_; have GW104 := n3_; have GE104 := n4_; have NB101_104 := n5_; have NB104_101 := n6_; clear n0_ n1_ n2_ n3_ n4_ n5_ n6_; clear hb hbox hg; have hnb9 := NB104_101.out; have hnc9 := NB101_104.out; obtain ⟨hcz10_0, hcz10_1⟩ := cz_ss BK104.out; obtain ⟨hfz10_0, hfz10_1⟩ := fz_2 BK104.out; obtain ⟨hcz11_0, hcz11_1, hcz11_2, hcz11_3, hcz11_4, hcz11_5, hcz11_6, hcz11_7, hcz11_8⟩ := cz_iisisssss BK101.out; obtain ⟨hfz11_0, hfz11_1, hfz11_2, hfz11_3, hfz11_4, hfz11_5, hfz11_6, hfz11_7, hfz11_8⟩ := fz_9 BK101.out) | ((with_reducible refine QaN (N := 20) rfl ?_); refine Kd.R_lit k56 _ 56 ?hg (N := 20) ?hd (xs := ([(⟨(⟨t102, t103⟩ : S24), a0_4⟩ : S56)] : List (S56))) (inner := [.string t102, .string t103, .string a0_4]) (ok := fun _ => True) (okp := fun _ => True) ?hr ?hp (fun _ hk => hk) trivial (Below.refl _ _) (Nat.le_refl _) (by simp) ?_; (case hd => rfl); (case hg => rfl); (case hr => first | (go_simp; done) | (go_simp; rfl)); (case hp => exact (Reps.c3 (show Kd.M k56 _ _ _ (⟨(⟨t102, t103⟩ : S24), a0_4⟩ : S56) [.string t102, .string t103, .string a0_4] from (k56_mkM _ _ _ (⟨(⟨t102, t103⟩ : S24), a0_4⟩ : S56) )) (Reps.none _ _))); intro v106 w12 ho13 hb hg_ hnew_; clear hg_ hnew_; (first | rw [← Ny105.out] at ho13 | (simp only [Int.reduceToNat] at ho13; rw [← Ny105.out] at ho13)); have n0_ := Qad.mk (Kd.R_lower ho13 (Qas (by repeat (first | (with_reducible first | exact HB.out | apply Qab | apply Qaa | apply Qac | refine Qai ?_ GE101.out | refine Qai ?_ GE104.out) | exact HB.out)))); have n1_ := Qad.mk (Qal (g := gb101) (o := Qau a0_0 a0_1 a0_2 a0_3 a0_4 a0_5 a0_6 a0_7 a0_8 42) (by (with_reducible repeat (first | refine Qag ?_ _ | refine Qah ?_ | refine Qaf ?_ _)); refine blk_far ?_ NB101_104.out _; (with_reducible repeat (first | refine Qag ?_ _ | refine Qah ?_ | refine Qaf ?_ _)); refine blk_far ?_ NB101_104.out _; (with_reducible repeat (first | refine Qag ?_ _ | refine Qah ?_ | refine Qaf ?_ _)); exact BK101.out) hb); have n2_ := Qad.mk (Qal (g := gb104) (o := ob_ss t102 t103 24) (by (with_reducible repeat (first | refine Qag ?_ _ | refine Qah ?_ | refine Qaf ?_ _)); refine blk_put (cs := #[.string t102, .string (⟨#[]⟩ : ByteArray)]) ?_ 1 _ rfl; (with_reducible repeat (first | refine Qag ?_ _ | refine Qah ?_ | refine Qaf ?_ _)); refine blk_put (cs := #[.string (⟨#[]⟩ : ByteArray), .string (⟨#[]⟩ : ByteArray)]) ?_ 0 _ rfl; (with_reducible repeat (first | refine Qag ?_ _ | refine Qah ?_ | refine Qaf ?_ _)); exact BK104.out) hb); have n3_ := Qad.mk (Qak (by repeat (first | (with_reducible first | exact HB.out | apply Qab | apply Qaa | apply Qac | refine Qai ?_ GE101.out | refine Qai ?_ GE104.out) | exact HB.out)) hb); clear BK101; clear BK104; clear HB; have HO107 := n0_; have BK101 := n1_; have BK104 := n2_; have HB := n3_; clear n0_ n1_ n2_ n3_; clear hb ho13))
  go_ret; exact ⟨_, by first | rfl | (simp [Qar, Qaq] <;> rfl) | (simp [*, Qar, Qaq] <;> rfl), by (with_reducible repeat (first | apply Kd.Qaw | apply Kd.Qay | apply Kd.QaE)); exact HO107.out, by repeat (first | (with_reducible first | exact HB.out | apply Qab | apply Qaa | apply Qac | refine Qai ?_ GE101.out | refine Qai ?_ GE104.out) | exact HB.out)⟩
 ·rw [if_neg c4] at H; have c4b0 : (a0_3 == 1) = false := beq_eq_false_iff_ne.mpr c4; have c4b1 : (a0_3 != 1) = true := bne_iff_ne.mpr c4; have H' := Qad.mk H; clear H; go_enter Tryz.func60, Tryz.ntmps60
  go_wp2_with (first | ((with_reducible refine QaN (N := 2) rfl ?_); refine QaK ?hg (N := 2) ?hd (cs := #[.int .i64 a0_0, .int .i64 a0_1, .string a0_2, .int .i64 a0_3, .string a0_4, .string a0_5, .string a0_6, .string a0_7, .string a0_8]) (t := 42) ?hr ?_; (case hd => rfl); (case hg => rfl); (case hr => first | (go_simp; done) | (go_simp; rfl)); intro gb101 hg w14 hbox hb; have n0_ := Qad.mk (Qak (by repeat (first | (with_reducible first | exact HB.out | apply Qab | apply Qaa | apply Qac) | exact HB.out)) hb); have n1_ := Qad.mk (hbox); have n2_ := Qad.mk ((by rw [hg]; exact (Qas (by repeat (first | (with_reducible first | exact HB.out | apply Qab | apply Qaa | apply Qac) | exact HB.out))) : w.heap.size ≤ gb101)); have n3_ := n2_; clear HB; have HB := n0_; have BK101 := n1_; have GW101 := n2_; have GE101 := n3_; clear n0_ n1_ n2_ n3_; clear hb hbox hg; obtain ⟨hcz15_0, hcz15_1, hcz15_2, hcz15_3, hcz15_4, hcz15_5, hcz15_6, hcz15_7, hcz15_8⟩ := cz_iisisssss BK101.out; obtain ⟨hfz15_0, hfz15_1, hfz15_2, hfz15_3, hfz15_4, hfz15_5, hfz15_6, hfz15_7, hfz15_8⟩ := fz_9 BK101.out) | ((with_reducible refine QaO (f := 80) rfl ?_); refine goesL_ (some 12) rfl rfl Tryz.func80 (by kernel_rfl) rfl #[.agg #[.int .i64 a0_0, .int .i64 a0_1, .string a0_2, .int .i64 a0_3, .string a0_4, .string a0_5, .string a0_6, .string a0_7, .string a0_8]] rfl (by (try simp only [List.map_toArray, List.map_cons, List.map_nil]); first | done | rfl | (simp only [List.length_drop, List.length_take]; rfl)) ?_; (with_reducible refine (liveryref05_Role.calls k a0_0 a0_1 a0_2 a0_3 a0_4 a0_5 a0_6 a0_7 a0_8 t102 t103 _ A3.out).mono ?_); rintro e w16 ⟨rfl, hb⟩; refine ⟨_, rfl, ?_⟩; have n0_ := Qad.mk (Qal (g := gb101) (o := Qau a0_0 a0_1 a0_2 a0_3 a0_4 a0_5 a0_6 a0_7 a0_8 42) (by (with_reducible repeat (first | refine Qag ?_ _ | refine Qah ?_ | refine Qaf ?_ _)); exact BK101.out) hb); have n1_ := Qad.mk (Qak (by repeat (first | (with_reducible first | exact HB.out | apply Qab | apply Qaa | apply Qac | refine Qai ?_ GE101.out) | exact HB.out)) hb); clear BK101; clear HB; have BK101 := n0_; have HB := n1_; clear n0_ n1_; (try clear hb); (try clear hb2); (try clear hk); (try clear hi)) | ((with_reducible refine QaN (N := 5) rfl ?_); refine QaK ?hg (N := 5) ?hd (cs := #[.string (⟨#[]⟩ : ByteArray), .string (⟨#[]⟩ : ByteArray)]) (t := 24) ?hr ?_; (case hd => rfl); (case hg => rfl); (case hr => first | (go_simp; done) | (go_simp; rfl)); intro gb104 hg w17 hbox hb; have n0_ := Qad.mk (Qal (g := gb101) (o := Qau a0_0 a0_1 a0_2 a0_3 a0_4 a0_5 a0_6 a0_7 a0_8 42) (by (with_reducible repeat (first | refine Qag ?_ _ | refine Qah ?_ | refine Qaf ?_ _)); exact BK101.out) hb); have n1_ := Qad.mk (Qak (by repeat (first | (with_reducible first | exact HB.out | apply Qab | apply Qaa | apply Qac | refine Qai ?_ GE101.out) | exact HB.out)) hb); have n2_ := Qad.mk (hbox); have n3_ := Qad.mk ((by rw [hg]; exact (Qas (by repeat (first | (with_reducible first | exact HB.out | apply Qab | apply Qaa | apply Qac | refine Qai ?_ GE101.out) | exact HB.out))) : w.heap.size ≤ gb104)); have n4_ := n3_; have n5_ := Qad.mk ((by rw [hg]; exact Nat.ne_of_lt (blk_lt (g := gb101) (o := Qau a0_0 a0_1 a0_2 a0_3 a0_4 a0_5 a0_6 a0_7 a0_8 42) (by (with_reducible repeat (first | refine Qag ?_ _ | refine Qah ?_ | refine Qaf ?_ _)); exact BK101.out)) : gb101 ≠ gb104)); have n6_ := Qad.mk ((by rw [hg]; exact Nat.ne_of_gt (blk_lt (g := gb101) (o := Qau a0_0 a0_1 a0_2 a0_3 a0_4 a0_5 a0_6 a0_7 a0_8 42) (by (with_reducible repeat (first | refine Qag ?_ _ | refine Qah ?_ | refine Qaf ?_ _)); exact BK101.out)) : gb104 ≠ gb101)); clear BK101; clear HB; have BK101 := n0_; have HB := n1_; have BK104 := n2_; have GW104 := n3_; have GE104 := n4_; have NB101_104 := n5_; have NB104_101 := n6_; clear n0_ n1_ n2_ n3_ n4_ n5_ n6_; clear hb hbox hg; have hnb18 := NB104_101.out; have hnc18 := NB101_104.out; obtain ⟨hcz19_0, hcz19_1⟩ := cz_ss BK104.out; obtain ⟨hfz19_0, hfz19_1⟩ := fz_2 BK104.out; obtain ⟨hcz20_0, hcz20_1, hcz20_2, hcz20_3, hcz20_4, hcz20_5, hcz20_6, hcz20_7, hcz20_8⟩ := cz_iisisssss BK101.out; obtain ⟨hfz20_0, hfz20_1, hfz20_2, hfz20_3, hfz20_4, hfz20_5, hfz20_6, hfz20_7, hfz20_8⟩ := fz_9 BK101.out))
  go_loopg [6, 7] k (fun kq v6 v7 w' => ∃ (x6_1 : List (S56)) (x7_1 : Int), v7 = .int .i64 x7_1 ∧ Qad (Qae.l0 kq l1 x6_1 x7_1 a0_0 a0_1 a0_2 a0_3 a0_4 a0_5 a0_6 a0_7 a0_8 t102 t103 = some r) ∧ Qad (kq ≤ k) ∧ Qad (Kd.R k56 56 w' w.heap.size (fun _ => True) v6 x6_1) ∧ Qad (w'.heap[gb101]? = some (.cells #[.int .i64 a0_0, .int .i64 a0_1, .string a0_2, .int .i64 a0_3, .string a0_4, .string a0_5, .string a0_6, .string a0_7, .string a0_8] 42 (0, 0))) ∧ Qad (w'.heap[gb104]? = some (.cells #[.string t102, .string t103] 24 (0, 0))) ∧ Qad (Below w.heap.size w w'))
  case atStart => exact ⟨(([] : List (S56))), (0), (by first | rfl | (simp; done) | (simp [*]; done)), H', ⟨Nat.le_refl _⟩, ⟨by first | exact Kd.R_nil _ _ _ _ _ | exact Kd.N_nil _ _ _ _ _ | exact Kd.V_nil _ _ _ _ _ | exact Kd.Q_nil _ _ _ _ _ | exact Kd.S_nil _ _ _ _ _⟩, ⟨by (with_reducible repeat (first | refine Qag ?_ _ | refine Qah ?_ | refine Qaf ?_ _)); refine blk_far ?_ NB101_104.out _; (with_reducible repeat (first | refine Qag ?_ _ | refine Qah ?_ | refine Qaf ?_ _)); refine blk_far ?_ NB101_104.out _; (with_reducible repeat (first | refine Qag ?_ _ | refine Qah ?_ | refine Qaf ?_ _)); exact BK101.out⟩, ⟨by (with_reducible repeat (first | refine Qag ?_ _ | refine Qah ?_ | refine Qaf ?_ _)); refine blk_put (cs := #[.string t102, .string (⟨#[]⟩ : ByteArray)]) ?_ 1 _ rfl; (with_reducible repeat (first | refine Qag ?_ _ | refine Qah ?_ | refine Qaf ?_ _)); refine blk_put (cs := #[.string (⟨#[]⟩ : ByteArray), .string (⟨#[]⟩ : ByteArray)]) ?_ 0 _ rfl; (with_reducible repeat (first | refine Qag ?_ _ | refine Qah ?_ | refine Qaf ?_ _)); exact BK104.out⟩, ⟨by repeat (first | (with_reducible first | exact HB.out | apply Qab | apply Qaa | apply Qac | refine Qai ?_ GE101.out | refine Qai ?_ GE104.out) | exact HB.out)⟩⟩
  case round =>
   clear H'; (try clear c1); (try clear p2); (try clear c3); (try clear c4); (try clear c4b0); (try clear c4b1); (try clear c6); (try clear c8); (try clear c9); (try clear c18); (try clear hcz10_0); (try clear hcz10_1); (try clear hcz11_0); (try clear hcz11_1); (try clear hcz11_2); (try clear hcz11_3); (try clear hcz11_4); (try clear hcz11_5); (try clear hcz11_6); (try clear hcz11_7); (try clear hcz11_8); (try clear hcz15_0); (try clear hcz15_1); (try clear hcz15_2); (try clear hcz15_3); (try clear hcz15_4); (try clear hcz15_5); (try clear hcz15_6); (try clear hcz15_7); (try clear hcz15_8); (try clear hcz19_0); (try clear hcz19_1); (try clear hcz20_0); (try clear hcz20_1); (try clear hcz20_2); (try clear hcz20_3); (try clear hcz20_4); (try clear hcz20_5); (try clear hcz20_6); (try clear hcz20_7); (try clear hcz20_8); (try clear hcz6_0); (try clear hcz6_1); (try clear hcz6_2); (try clear hcz6_3); (try clear hcz6_4); (try clear hcz6_5); (try clear hcz6_6); (try clear hcz6_7); (try clear hcz6_8); (try clear hfz10_0); (try clear hfz10_1); (try clear hfz11_0); (try clear hfz11_1); (try clear hfz11_2); (try clear hfz11_3); (try clear hfz11_4); (try clear hfz11_5); (try clear hfz11_6); (try clear hfz11_7); (try clear hfz11_8); (try clear hfz15_0); (try clear hfz15_1); (try clear hfz15_2); (try clear hfz15_3); (try clear hfz15_4); (try clear hfz15_5); (try clear hfz15_6); (try clear hfz15_7); (try clear hfz15_8); (try clear hfz19_0); (try clear hfz19_1); (try clear hfz20_0); (try clear hfz20_1)
   (try clear hfz20_2); (try clear hfz20_3); (try clear hfz20_4); (try clear hfz20_5); (try clear hfz20_6); (try clear hfz20_7); (try clear hfz20_8); (try clear hfz6_0); (try clear hfz6_1); (try clear hfz6_2); (try clear hfz6_3); (try clear hfz6_4); (try clear hfz6_5); (try clear hfz6_6); (try clear hfz6_7); (try clear hfz6_8); obtain ⟨x6_1, x7_1, rfl, HA, HK1, HO_6, BK101, BK104, HB⟩ := hrel
   cases gk with
   | zero => exact absurd HA.out (by simp [Qae.l0])
   | succ k1 =>
    have H := HA.out; clear HA; simp only [Qae.l0] at H
    by_cases c21 : x7_1 < (l1.length : Int)
    ·rw [if_pos c21] at H; have c21b0 : decide (x7_1 < (l1.length : Int)) = true := decide_eq_true c21; clear c21; have HC22 := Qad.mk H; clear H
     go_upto_region 8 with (fail)
     go_cut [44] (fun v44 wc => ∃ (kq : Nat) (x44_21 : Bool), v44 = .bool x44_21 ∧ Qad (Qae.j1 kq l1 x6_1 x7_1 x44_21 a0_0 a0_1 a0_2 a0_3 a0_4 a0_5 a0_6 a0_7 a0_8 t102 t103 = some r) ∧ Qad (kq ≤ k1) ∧ Qad (Kd.R k56 56 wc w.heap.size (fun _ => True) u6 x6_1) ∧ Qad (wc.heap[gb101]? = some (.cells #[.int .i64 a0_0, .int .i64 a0_1, .string a0_2, .int .i64 a0_3, .string a0_4, .string a0_5, .string a0_6, .string a0_7, .string a0_8] 42 (0, 0))) ∧ Qad (wc.heap[gb104]? = some (.cells #[.string t102, .string t103] 24 (0, 0))) ∧ Qad (Below w.heap.size w wc))
     case first =>
      have H := HC22.out; clear HC22
      by_cases c23 : a0_3 = 2
      ·rw [if_pos c23] at H; have c23b0 : (a0_3 == 2) = true := beq_iff_eq.mpr c23; have c23b1 : (a0_3 != 2) = false := bne_eq_false_iff_eq.mpr c23; clear c23
       (first | rw [c23b0] | (simp only [Qax, Qaz]; rw [c23b0]) | skip)
       by_cases c24 : 0 ≤ x7_1
       ·rw [if_pos c24] at H; have c24b0 : decide (0 ≤ x7_1) = true := decide_eq_true c24; clear c24; have H' := Qad.mk H; clear H
        try go_wp2
        have n0_ := Qad.mk (Kd.QaE HO_6.out); have n1_ := Qad.mk (Qah BK101.out); have n2_ := Qad.mk (Qah BK104.out); have n3_ := Qad.mk (Qac HB.out); clear HO_6; clear BK101; clear BK104; clear HB; have HO_6 := n0_; have BK101 := n1_; have BK104 := n2_; have HB := n3_; clear n0_ n1_ n2_ n3_; have p108 : 0 ≤ (x7_1 : Int) := of_decide_eq_true (by first | (with_reducible assumption) | assumption); have q108 : x7_1 < (l1.length : Int) := of_decide_eq_true (by first | (with_reducible assumption) | assumption); obtain ⟨ad108, e108, hx108_0, hx108_1, hx108_2⟩ := at_T56 HR1.out x7_1 p108 q108; have hw108_2 := hx108_2; have hw108_1 := hx108_1; have hw108_0 := hx108_0; cases e108; replace hx108_0 := (HB.out.cell (World.block_lt_of_cell? w _ hx108_0)).trans hx108_0; replace hx108_1 := (HB.out.cell (World.block_lt_of_cell? w _ hx108_1)).trans hx108_1; replace hx108_2 := (HB.out.cell (World.block_lt_of_cell? w _ hx108_2)).trans hx108_2; replace p108 := eq_true p108; replace q108 := eq_true q108; refine start_ (n := 18) (S := fun w' => w'.cell? ⟨gb101, 0, none⟩ = some (.int .i64 a0_0) ∧ w'.cell? ⟨gb101, 1, none⟩ = some (.int .i64 a0_1) ∧ w'.cell? ⟨gb101, 2, none⟩ = some (.string a0_2) ∧ w'.cell? ⟨gb101, 3, none⟩ = some (.int .i64 a0_3) ∧ w'.cell? ⟨gb101, 4, none⟩ = some (.string a0_4) ∧ w'.cell? ⟨gb101, 5, none⟩ = some (.string a0_5) ∧ w'.cell? ⟨gb101, 6, none⟩ = some (.string a0_6) ∧ w'.cell? ⟨gb101, 7, none⟩ = some (.string a0_7) ∧ w'.cell? ⟨gb101, 8, none⟩ = some (.string a0_8) ∧ w'.cell? (ad108.add ((x7_1).toNat * 3)) = some (.string ((Qap l1 x7_1).f0.f0)) ∧ w'.cell? ⟨(ad108.add ((x7_1).toNat * 3)).block, (ad108.add ((x7_1).toNat * 3)).off + 1, none⟩ = some (.string ((Qap l1 x7_1).f0.f1)) ∧ w'.cell? ⟨(ad108.add ((x7_1).toNat * 3)).block, (ad108.add ((x7_1).toNat * 3)).off + 2, none⟩ = some (.string ((Qap l1 x7_1).f1))) (ds := []) #[ff,ff,ff,ff,ff,ff,ff,ff,ff,ff,ff,ff,ff,ff,ff,ff,ff,ff] (by kernel_rfl) rfl rfl ⟨(Qaj BK101.out 0).trans rfl, (Qaj BK101.out 1).trans rfl, (Qaj BK101.out 2).trans rfl, (Qaj BK101.out 3).trans rfl, (Qaj BK101.out 4).trans rfl, (Qaj BK101.out 5).trans rfl, (Qaj BK101.out 6).trans rfl, (Qaj BK101.out 7).trans rfl, (Qaj BK101.out 8).trans rfl, ((HB.out.cell (World.block_lt_of_cell? w _ hw108_0)).trans hw108_0), ((HB.out.cell (World.block_lt_of_cell? w _ hw108_1)).trans hw108_1), ((HB.out.cell (World.block_lt_of_cell? w _ hw108_2)).trans hw108_2)⟩ (fun hHeld => ?_); refine with_tabW Qae.tab8 Qae.bits8 (fun HT_ HW_ => ?_)
        generalize wr.drew = w25 at HO_6 BK101 BK104 HB hx108_0 hx108_1 hx108_2 hHeld ⊢
        refine QaI (i := 0) (N := some 27) (v := ?_) (a' := ?_) #[tt,ff,ff,ff,ff,ff,ff,ff,ff,ff,ff,ff,ff,ff,ff,ff,ff,ff] rfl rfl (QaA HT_.out (by kernel_rfl)) (fun _ _ _ h => h) (Or.inl ⟨by rfl, ?_⟩) ?_ ?_; rotate_left
        ·intro w'; go_simp; (with_reducible rfl)
        rotate_left
        ·simp only [Act.put, put_, Qax, Qaz]; rfl
        refine take_ (i := 1) (N := some 28) (v := ?_) (a' := ?_) #[tt,tt,ff,ff,ff,ff,ff,ff,ff,ff,ff,ff,ff,ff,ff,ff,ff,ff] rfl rfl (take_ofW HT_.out HW_.out (by kernel_rfl)) (fun _ _ _ h => h) (Or.inl ⟨by rfl, ?_⟩) hHeld ?_ ?_; rotate_left
        ·rintro w' ⟨s0, s1, s2, s3, s4, s5, s6, s7, s8, s9, s10, s11⟩; go_simp; (with_reducible rfl)
        rotate_left
        ·simp only [Act.put, put_, Qax, Qaz]; rfl
        refine QaI (i := 2) (N := some 29) (v := ?_) (a' := ?_) #[tt,tt,tt,ff,ff,ff,ff,ff,ff,ff,ff,ff,ff,ff,ff,ff,ff,ff] rfl rfl (QaA HT_.out (by kernel_rfl)) (fun _ _ _ h => h) (Or.inl ⟨by rfl, ?_⟩) ?_ ?_; rotate_left
        ·intro w'; go_simp; (with_reducible rfl)
        rotate_left
        ·simp only [Act.put, put_, Qax, Qaz]; rfl
        refine QaI (i := 3) (N := some 30) (v := ?_) (a' := ?_) #[tt,tt,tt,tt,ff,ff,ff,ff,ff,ff,ff,ff,ff,ff,ff,ff,ff,ff] rfl rfl (QaA HT_.out (by kernel_rfl)) (fun _ _ _ h => h) (Or.inl ⟨by rfl, ?_⟩) ?_ ?_; rotate_left
        ·intro w'; go_simp; (with_reducible rfl)
        rotate_left
        ·simp only [Act.put, put_, Qax, Qaz]; rfl
        refine QaI (i := 4) (N := some 31) (v := undef) (a' := ?_) #[tt,tt,tt,tt,tt,ff,ff,ff,ff,ff,ff,ff,ff,ff,ff,ff,ff,ff] rfl rfl (QaA HT_.out (by kernel_rfl)) (fun _ _ _ h => h) (Or.inr ⟨by rfl, rfl⟩) ?_ ?_; rotate_left
        ·simp only [Act.put, put_, Qax, Qaz]; rfl
        refine QaI (i := 5) (N := some 32) (v := undef) (a' := ?_) #[tt,tt,tt,tt,tt,tt,ff,ff,ff,ff,ff,ff,ff,ff,ff,ff,ff,ff] rfl rfl (QaA HT_.out (by kernel_rfl)) (fun _ _ _ h => h) (Or.inr ⟨by rfl, rfl⟩) ?_ ?_; rotate_left
        ·simp only [Act.put, put_, Qax, Qaz]; rfl
        refine QaI (i := 6) (N := some 33) (v := undef) (a' := ?_) #[tt,tt,tt,tt,tt,tt,tt,ff,ff,ff,ff,ff,ff,ff,ff,ff,ff,ff] rfl rfl (QaA HT_.out (by kernel_rfl)) (fun _ _ _ h => h) (Or.inr ⟨by rfl, rfl⟩) ?_ ?_; rotate_left
        ·simp only [Act.put, put_, Qax, Qaz]; rfl
        refine QaI (i := 7) (N := some 34) (v := ?_) (a' := ?_) #[tt,tt,tt,tt,tt,tt,tt,tt,ff,ff,ff,ff,ff,ff,ff,ff,ff,ff] rfl rfl (QaA HT_.out (by kernel_rfl)) (fun _ _ _ h => h) (Or.inl ⟨by rfl, ?_⟩) ?_ ?_; rotate_left
        ·intro w'; go_simp; (with_reducible rfl)
        rotate_left
        ·simp only [Act.put, put_, Qax, Qaz]; rfl
        refine QaI (i := 8) (N := some 35) (v := ?_) (a' := ?_) #[tt,tt,tt,tt,tt,tt,tt,tt,tt,ff,ff,ff,ff,ff,ff,ff,ff,ff] rfl rfl (QaA HT_.out (by kernel_rfl)) (fun _ _ _ h => h) (Or.inl ⟨by rfl, ?_⟩) ?_ ?_; rotate_left
        ·intro w'; go_simp; (with_reducible rfl)
        rotate_left
        ·simp only [Act.put, put_, Qax, Qaz]; rfl
        refine QaI (i := 9) (N := some 36) (v := ?_) (a' := ?_) #[tt,tt,tt,tt,tt,tt,tt,tt,tt,tt,ff,ff,ff,ff,ff,ff,ff,ff] rfl rfl (QaA HT_.out (by kernel_rfl)) (fun _ _ _ h => h) (Or.inl ⟨by rfl, ?_⟩) ?_ ?_; rotate_left
        ·intro w'; go_simp; (with_reducible rfl)
        rotate_left
        ·simp only [Act.put, put_, Qax, Qaz]; rfl
        refine QaI (i := 10) (N := some 37) (v := ?_) (a' := ?_) #[tt,tt,tt,tt,tt,tt,tt,tt,tt,tt,tt,ff,ff,ff,ff,ff,ff,ff] rfl rfl (QaA HT_.out (by kernel_rfl)) (fun _ _ _ h => h) (Or.inl ⟨by rfl, ?_⟩) ?_ ?_; rotate_left
        ·intro w'; go_simp; (with_reducible rfl)
        rotate_left
        ·simp only [Act.put, put_, Qax, Qaz]; rfl
        refine QaI (i := 11) (N := some 38) (v := ?_) (a' := ?_) #[tt,tt,tt,tt,tt,tt,tt,tt,tt,tt,tt,tt,ff,ff,ff,ff,ff,ff] rfl rfl (QaA HT_.out (by kernel_rfl)) (fun _ _ _ h => h) (Or.inl ⟨by rfl, ?_⟩) ?_ ?_; rotate_left
        ·intro w'; go_simp; (with_reducible rfl)
        rotate_left
        ·simp only [Act.put, put_, Qax, Qaz]; rfl
        refine QaI (i := 12) (N := some 39) (v := ?_) (a' := ?_) #[tt,tt,tt,tt,tt,tt,tt,tt,tt,tt,tt,tt,tt,ff,ff,ff,ff,ff] rfl rfl (QaA HT_.out (by kernel_rfl)) (fun _ _ _ h => h) (Or.inl ⟨by rfl, ?_⟩) ?_ ?_; rotate_left
        ·intro w'; go_simp; (with_reducible rfl)
        rotate_left
        ·simp only [Act.put, put_, Qax, Qaz]; rfl
        refine QaI (i := 14) (N := some 41) (v := ?_) (a' := ?_) #[tt,tt,tt,tt,tt,tt,tt,tt,tt,tt,tt,tt,tt,ff,tt,ff,ff,ff] rfl rfl (QaA HT_.out (by kernel_rfl)) (fun _ _ _ h => h) (Or.inl ⟨by rfl, ?_⟩) ?_ ?_; rotate_left
        ·intro w'; go_simp; (with_reducible rfl)
        rotate_left
        ·simp only [Act.put, put_, Qax, Qaz]; rfl
        refine take_ (i := 13) (N := some 40) (v := ?_) (a' := ?_) #[tt,tt,tt,tt,tt,tt,tt,tt,tt,tt,tt,tt,tt,tt,tt,ff,ff,ff] rfl rfl (take_ofW HT_.out HW_.out (by kernel_rfl)) (fun _ _ _ h => h) (Or.inl ⟨by rfl, ?_⟩) hHeld ?_ ?_; rotate_left
        ·rintro w' ⟨s0, s1, s2, s3, s4, s5, s6, s7, s8, s9, s10, s11⟩; go_simp; (with_reducible rfl)
        rotate_left
        ·simp only [Act.put, put_, Qax, Qaz]; rfl
        refine take_ (i := 15) (N := some 42) (v := ?_) (a' := ?_) #[tt,tt,tt,tt,tt,tt,tt,tt,tt,tt,tt,tt,tt,tt,tt,tt,ff,ff] rfl rfl (take_ofW HT_.out HW_.out (by kernel_rfl)) (fun _ _ _ h => h) (Or.inl ⟨by rfl, ?_⟩) hHeld ?_ ?_; rotate_left
        ·rintro w' ⟨s0, s1, s2, s3, s4, s5, s6, s7, s8, s9, s10, s11⟩; go_simp; (with_reducible rfl)
        rotate_left
        ·simp only [Act.put, put_, Qax, Qaz]; rfl
        refine QaI (i := 16) (N := some 43) (v := ?_) (a' := ?_) #[tt,tt,tt,tt,tt,tt,tt,tt,tt,tt,tt,tt,tt,tt,tt,tt,tt,ff] rfl rfl (QaA HT_.out (by kernel_rfl)) (fun _ _ _ h => h) (Or.inl ⟨by rfl, ?_⟩) ?_ ?_; rotate_left
        ·intro w'; go_simp; (with_reducible rfl)
        rotate_left
        ·simp only [Act.put, put_, Qax, Qaz]; rfl
        refine QaI (i := 17) (N := some 44) (v := ?_) (a' := ?_) #[tt,tt,tt,tt,tt,tt,tt,tt,tt,tt,tt,tt,tt,tt,tt,tt,tt,tt] rfl rfl (QaA HT_.out (by kernel_rfl)) (fun _ _ _ h => h) (Or.inl ⟨by rfl, ?_⟩) ?_ ?_; rotate_left
        ·intro w'; go_simp; (with_reducible rfl)
        rotate_left
        ·simp only [Act.put, put_, Qax, Qaz]; rfl
        refine done_ (done_of HT_.out (by kernel_rfl)) ?_
        try go_wp2
        go_meet
        case rel => exact ⟨_, (((((Qap l1 x7_1).f0.f0).toList) == a0_5.toList && ((((Qap l1 x7_1).f0.f1).toList) == a0_6.toList))), (by first | rfl | (simp; done) | (simp [*]; done)), H', ⟨by have := HK1.out; first | omega | exact Nat.le_refl _⟩, ⟨by (with_reducible repeat (first | apply Kd.Qaw | apply Kd.Qay | apply Kd.QaE)); exact HO_6.out⟩, ⟨by (with_reducible repeat (first | refine Qag ?_ _ | refine Qah ?_ | refine Qaf ?_ _)); exact BK101.out⟩, ⟨by (with_reducible repeat (first | refine Qag ?_ _ | refine Qah ?_ | refine Qaf ?_ _)); exact BK104.out⟩, ⟨by repeat (first | (with_reducible first | exact HB.out | apply Qab | apply Qaa | apply Qac | refine Qai ?_ GE101.out | refine Qai ?_ GE104.out) | exact HB.out)⟩⟩
       ·rw [if_neg c24] at H; exact absurd H (by simp)
      ·rw [if_neg c23] at H; have c23b0 : (a0_3 == 2) = false := beq_eq_false_iff_ne.mpr c23; have c23b1 : (a0_3 != 2) = true := bne_iff_ne.mpr c23
       (first | rw [c23b0] | (simp only [Qax, Qaz]; rw [c23b0]) | skip)
       by_cases c26 : a0_3 = 4
       ·rw [if_pos c26] at H; have c26b0 : (a0_3 == 4) = true := beq_iff_eq.mpr c26; have c26b1 : (a0_3 != 4) = false := bne_eq_false_iff_eq.mpr c26; clear c26
        by_cases c27 : 0 ≤ x7_1
        ·rw [if_pos c27] at H; have c27b0 : decide (0 ≤ x7_1) = true := decide_eq_true c27; clear c27; have H' := Qad.mk H; clear H
         try go_wp2
         have n0_ := Qad.mk (Kd.QaE HO_6.out); have n1_ := Qad.mk (Qah BK101.out); have n2_ := Qad.mk (Qah BK104.out); have n3_ := Qad.mk (Qac HB.out); clear HO_6; clear BK101; clear BK104; clear HB; have HO_6 := n0_; have BK101 := n1_; have BK104 := n2_; have HB := n3_; clear n0_ n1_ n2_ n3_; have p109 : 0 ≤ (x7_1 : Int) := of_decide_eq_true (by first | (with_reducible assumption) | assumption); have q109 : x7_1 < (l1.length : Int) := of_decide_eq_true (by first | (with_reducible assumption) | assumption); obtain ⟨ad109, e109, hx109_0, hx109_1, hx109_2⟩ := at_T56 HR1.out x7_1 p109 q109; have hw109_2 := hx109_2; have hw109_1 := hx109_1; have hw109_0 := hx109_0; cases e109; replace hx109_0 := (HB.out.cell (World.block_lt_of_cell? w _ hx109_0)).trans hx109_0; replace hx109_1 := (HB.out.cell (World.block_lt_of_cell? w _ hx109_1)).trans hx109_1; replace hx109_2 := (HB.out.cell (World.block_lt_of_cell? w _ hx109_2)).trans hx109_2; replace p109 := eq_true p109; replace q109 := eq_true q109; refine start_ (n := 18) (S := fun w' => w'.cell? ⟨gb101, 0, none⟩ = some (.int .i64 a0_0) ∧ w'.cell? ⟨gb101, 1, none⟩ = some (.int .i64 a0_1) ∧ w'.cell? ⟨gb101, 2, none⟩ = some (.string a0_2) ∧ w'.cell? ⟨gb101, 3, none⟩ = some (.int .i64 a0_3) ∧ w'.cell? ⟨gb101, 4, none⟩ = some (.string a0_4) ∧ w'.cell? ⟨gb101, 5, none⟩ = some (.string a0_5) ∧ w'.cell? ⟨gb101, 6, none⟩ = some (.string a0_6) ∧ w'.cell? ⟨gb101, 7, none⟩ = some (.string a0_7) ∧ w'.cell? ⟨gb101, 8, none⟩ = some (.string a0_8) ∧ w'.cell? (ad109.add ((x7_1).toNat * 3)) = some (.string ((Qap l1 x7_1).f0.f0)) ∧ w'.cell? ⟨(ad109.add ((x7_1).toNat * 3)).block, (ad109.add ((x7_1).toNat * 3)).off + 1, none⟩ = some (.string ((Qap l1 x7_1).f0.f1)) ∧ w'.cell? ⟨(ad109.add ((x7_1).toNat * 3)).block, (ad109.add ((x7_1).toNat * 3)).off + 2, none⟩ = some (.string ((Qap l1 x7_1).f1))) (ds := []) #[ff,ff,ff,ff,ff,ff,ff,ff,ff,ff,ff,ff,ff,ff,ff,ff,ff,ff] (by kernel_rfl) rfl rfl ⟨(Qaj BK101.out 0).trans rfl, (Qaj BK101.out 1).trans rfl, (Qaj BK101.out 2).trans rfl, (Qaj BK101.out 3).trans rfl, (Qaj BK101.out 4).trans rfl, (Qaj BK101.out 5).trans rfl, (Qaj BK101.out 6).trans rfl, (Qaj BK101.out 7).trans rfl, (Qaj BK101.out 8).trans rfl, ((HB.out.cell (World.block_lt_of_cell? w _ hw109_0)).trans hw109_0), ((HB.out.cell (World.block_lt_of_cell? w _ hw109_1)).trans hw109_1), ((HB.out.cell (World.block_lt_of_cell? w _ hw109_2)).trans hw109_2)⟩ (fun hHeld => ?_); refine with_tabW Qae.tab8 Qae.bits8 (fun HT_ HW_ => ?_)
         generalize wr.drew = w28 at HO_6 BK101 BK104 HB hx109_0 hx109_1 hx109_2 hHeld ⊢
         refine QaI (i := 0) (N := some 27) (v := ?_) (a' := ?_) #[tt,ff,ff,ff,ff,ff,ff,ff,ff,ff,ff,ff,ff,ff,ff,ff,ff,ff] rfl rfl (QaA HT_.out (by kernel_rfl)) (fun _ _ _ h => h) (Or.inl ⟨by rfl, ?_⟩) ?_ ?_; rotate_left
         ·intro w'; go_simp; (with_reducible rfl)
         rotate_left
         ·simp only [Act.put, put_, Qax, Qaz]; rfl
         refine take_ (i := 1) (N := some 28) (v := ?_) (a' := ?_) #[tt,tt,ff,ff,ff,ff,ff,ff,ff,ff,ff,ff,ff,ff,ff,ff,ff,ff] rfl rfl (take_ofW HT_.out HW_.out (by kernel_rfl)) (fun _ _ _ h => h) (Or.inl ⟨by rfl, ?_⟩) hHeld ?_ ?_; rotate_left
         ·rintro w' ⟨s0, s1, s2, s3, s4, s5, s6, s7, s8, s9, s10, s11⟩; go_simp; (with_reducible rfl)
         rotate_left
         ·simp only [Act.put, put_, Qax, Qaz]; rfl
         refine QaI (i := 2) (N := some 29) (v := ?_) (a' := ?_) #[tt,tt,tt,ff,ff,ff,ff,ff,ff,ff,ff,ff,ff,ff,ff,ff,ff,ff] rfl rfl (QaA HT_.out (by kernel_rfl)) (fun _ _ _ h => h) (Or.inl ⟨by rfl, ?_⟩) ?_ ?_; rotate_left
         ·intro w'; go_simp; (with_reducible rfl)
         rotate_left
         ·simp only [Act.put, put_, Qax, Qaz]; rfl
         refine QaI (i := 3) (N := some 30) (v := ?_) (a' := ?_) #[tt,tt,tt,tt,ff,ff,ff,ff,ff,ff,ff,ff,ff,ff,ff,ff,ff,ff] rfl rfl (QaA HT_.out (by kernel_rfl)) (fun _ _ _ h => h) (Or.inl ⟨by rfl, ?_⟩) ?_ ?_; rotate_left
         ·intro w'; go_simp; (with_reducible rfl)
         rotate_left
         ·simp only [Act.put, put_, Qax, Qaz]; rfl
         refine QaI (i := 4) (N := some 31) (v := ?_) (a' := ?_) #[tt,tt,tt,tt,tt,ff,ff,ff,ff,ff,ff,ff,ff,ff,ff,ff,ff,ff] rfl rfl (QaA HT_.out (by kernel_rfl)) (fun _ _ _ h => h) (Or.inl ⟨by rfl, ?_⟩) ?_ ?_; rotate_left
         ·intro w'; go_simp; (with_reducible rfl)
         rotate_left
         ·simp only [Act.put, put_, Qax, Qaz]; rfl
         refine take_ (i := 5) (N := some 32) (v := ?_) (a' := ?_) #[tt,tt,tt,tt,tt,tt,ff,ff,ff,ff,ff,ff,ff,ff,ff,ff,ff,ff] rfl rfl (take_ofW HT_.out HW_.out (by kernel_rfl)) (fun _ _ _ h => h) (Or.inl ⟨by rfl, ?_⟩) hHeld ?_ ?_; rotate_left
         ·rintro w' ⟨s0, s1, s2, s3, s4, s5, s6, s7, s8, s9, s10, s11⟩; go_simp; (with_reducible rfl)
         rotate_left
         ·simp only [Act.put, put_, Qax, Qaz]; rfl
         refine QaI (i := 6) (N := some 33) (v := ?_) (a' := ?_) #[tt,tt,tt,tt,tt,tt,tt,ff,ff,ff,ff,ff,ff,ff,ff,ff,ff,ff] rfl rfl (QaA HT_.out (by kernel_rfl)) (fun _ _ _ h => h) (Or.inl ⟨by rfl, ?_⟩) ?_ ?_; rotate_left
         ·intro w'; go_simp; (with_reducible rfl)
         rotate_left
         ·simp only [Act.put, put_, Qax, Qaz]; rfl
         refine QaI (i := 7) (N := some 34) (v := ?_) (a' := ?_) #[tt,tt,tt,tt,tt,tt,tt,tt,ff,ff,ff,ff,ff,ff,ff,ff,ff,ff] rfl rfl (QaA HT_.out (by kernel_rfl)) (fun _ _ _ h => h) (Or.inl ⟨by rfl, ?_⟩) ?_ ?_; rotate_left
         ·intro w'; go_simp; (with_reducible rfl)
         rotate_left
         ·simp only [Act.put, put_, Qax, Qaz]; rfl
         refine QaI (i := 8) (N := some 35) (v := ?_) (a' := ?_) #[tt,tt,tt,tt,tt,tt,tt,tt,tt,ff,ff,ff,ff,ff,ff,ff,ff,ff] rfl rfl (QaA HT_.out (by kernel_rfl)) (fun _ _ _ h => h) (Or.inl ⟨by rfl, ?_⟩) ?_ ?_; rotate_left
         ·intro w'; go_simp; (with_reducible rfl)
         rotate_left
         ·simp only [Act.put, put_, Qax, Qaz]; rfl
         refine QaI (i := 9) (N := some 36) (v := ?_) (a' := ?_) #[tt,tt,tt,tt,tt,tt,tt,tt,tt,tt,ff,ff,ff,ff,ff,ff,ff,ff] rfl rfl (QaA HT_.out (by kernel_rfl)) (fun _ _ _ h => h) (Or.inl ⟨by rfl, ?_⟩) ?_ ?_; rotate_left
         ·intro w'; go_simp; (with_reducible rfl)
         rotate_left
         ·simp only [Act.put, put_, Qax, Qaz]; rfl
         refine QaI (i := 10) (N := some 37) (v := ?_) (a' := ?_) #[tt,tt,tt,tt,tt,tt,tt,tt,tt,tt,tt,ff,ff,ff,ff,ff,ff,ff] rfl rfl (QaA HT_.out (by kernel_rfl)) (fun _ _ _ h => h) (Or.inl ⟨by rfl, ?_⟩) ?_ ?_; rotate_left
         ·intro w'; go_simp; (with_reducible rfl)
         rotate_left
         ·simp only [Act.put, put_, Qax, Qaz]; rfl
         refine QaI (i := 11) (N := some 38) (v := ?_) (a' := ?_) #[tt,tt,tt,tt,tt,tt,tt,tt,tt,tt,tt,tt,ff,ff,ff,ff,ff,ff] rfl rfl (QaA HT_.out (by kernel_rfl)) (fun _ _ _ h => h) (Or.inl ⟨by rfl, ?_⟩) ?_ ?_; rotate_left
         ·intro w'; go_simp; (with_reducible rfl)
         rotate_left
         ·simp only [Act.put, put_, Qax, Qaz]; rfl
         refine QaI (i := 12) (N := some 39) (v := ?_) (a' := ?_) #[tt,tt,tt,tt,tt,tt,tt,tt,tt,tt,tt,tt,tt,ff,ff,ff,ff,ff] rfl rfl (QaA HT_.out (by kernel_rfl)) (fun _ _ _ h => h) (Or.inl ⟨by rfl, ?_⟩) ?_ ?_; rotate_left
         ·intro w'; go_simp; (with_reducible rfl)
         rotate_left
         ·simp only [Act.put, put_, Qax, Qaz]; rfl
         refine QaI (i := 14) (N := some 41) (v := ?_) (a' := ?_) #[tt,tt,tt,tt,tt,tt,tt,tt,tt,tt,tt,tt,tt,ff,tt,ff,ff,ff] rfl rfl (QaA HT_.out (by kernel_rfl)) (fun _ _ _ h => h) (Or.inl ⟨by rfl, ?_⟩) ?_ ?_; rotate_left
         ·intro w'; go_simp; (with_reducible rfl)
         rotate_left
         ·simp only [Act.put, put_, Qax, Qaz]; rfl
         refine take_ (i := 13) (N := some 40) (v := ?_) (a' := ?_) #[tt,tt,tt,tt,tt,tt,tt,tt,tt,tt,tt,tt,tt,tt,tt,ff,ff,ff] rfl rfl (take_ofW HT_.out HW_.out (by kernel_rfl)) (fun _ _ _ h => h) (Or.inl ⟨by rfl, ?_⟩) hHeld ?_ ?_; rotate_left
         ·rintro w' ⟨s0, s1, s2, s3, s4, s5, s6, s7, s8, s9, s10, s11⟩; go_simp; (with_reducible rfl)
         rotate_left
         ·simp only [Act.put, put_, Qax, Qaz]; rfl
         refine take_ (i := 15) (N := some 42) (v := ?_) (a' := ?_) #[tt,tt,tt,tt,tt,tt,tt,tt,tt,tt,tt,tt,tt,tt,tt,tt,ff,ff] rfl rfl (take_ofW HT_.out HW_.out (by kernel_rfl)) (fun _ _ _ h => h) (Or.inl ⟨by rfl, ?_⟩) hHeld ?_ ?_; rotate_left
         ·rintro w' ⟨s0, s1, s2, s3, s4, s5, s6, s7, s8, s9, s10, s11⟩; go_simp; (with_reducible rfl)
         rotate_left
         ·simp only [Act.put, put_, Qax, Qaz]; rfl
         refine QaI (i := 16) (N := some 43) (v := ?_) (a' := ?_) #[tt,tt,tt,tt,tt,tt,tt,tt,tt,tt,tt,tt,tt,tt,tt,tt,tt,ff] rfl rfl (QaA HT_.out (by kernel_rfl)) (fun _ _ _ h => h) (Or.inl ⟨by rfl, ?_⟩) ?_ ?_; rotate_left
         ·intro w'; go_simp; (with_reducible rfl)
         rotate_left
         ·simp only [Act.put, put_, Qax, Qaz]; rfl
         refine QaI (i := 17) (N := some 44) (v := ?_) (a' := ?_) #[tt,tt,tt,tt,tt,tt,tt,tt,tt,tt,tt,tt,tt,tt,tt,tt,tt,tt] rfl rfl (QaA HT_.out (by kernel_rfl)) (fun _ _ _ h => h) (Or.inl ⟨by rfl, ?_⟩) ?_ ?_; rotate_left
         ·intro w'; go_simp; (with_reducible rfl)
         rotate_left
         ·simp only [Act.put, put_, Qax, Qaz]; rfl
         refine done_ (done_of HT_.out (by kernel_rfl)) ?_
         try go_wp2
         go_meet
         case rel => exact ⟨_, (((((Qap l1 x7_1).f0.f0).toList) == a0_5.toList && ((((Qap l1 x7_1).f0.f1).toList) == a0_6.toList))), (by first | rfl | (simp; done) | (simp [*]; done)), H', ⟨by have := HK1.out; first | omega | exact Nat.le_refl _⟩, ⟨by (with_reducible repeat (first | apply Kd.Qaw | apply Kd.Qay | apply Kd.QaE)); exact HO_6.out⟩, ⟨by (with_reducible repeat (first | refine Qag ?_ _ | refine Qah ?_ | refine Qaf ?_ _)); exact BK101.out⟩, ⟨by (with_reducible repeat (first | refine Qag ?_ _ | refine Qah ?_ | refine Qaf ?_ _)); exact BK104.out⟩, ⟨by repeat (first | (with_reducible first | exact HB.out | apply Qab | apply Qaa | apply Qac | refine Qai ?_ GE101.out | refine Qai ?_ GE104.out) | exact HB.out)⟩⟩
        ·rw [if_neg c27] at H; exact absurd H (by simp)
       ·rw [if_neg c26] at H; have c26b0 : (a0_3 == 4) = false := beq_eq_false_iff_ne.mpr c26; have c26b1 : (a0_3 != 4) = true := bne_iff_ne.mpr c26; have H' := Qad.mk H; clear H
        try go_wp2
        have n0_ := Qad.mk (Kd.QaE HO_6.out); have n1_ := Qad.mk (Qah BK101.out); have n2_ := Qad.mk (Qah BK104.out); have n3_ := Qad.mk (Qac HB.out); clear HO_6; clear BK101; clear BK104; clear HB; have HO_6 := n0_; have BK101 := n1_; have BK104 := n2_; have HB := n3_; clear n0_ n1_ n2_ n3_; refine start_ (n := 18) (S := fun w' => w'.cell? ⟨gb101, 0, none⟩ = some (.int .i64 a0_0) ∧ w'.cell? ⟨gb101, 1, none⟩ = some (.int .i64 a0_1) ∧ w'.cell? ⟨gb101, 2, none⟩ = some (.string a0_2) ∧ w'.cell? ⟨gb101, 3, none⟩ = some (.int .i64 a0_3) ∧ w'.cell? ⟨gb101, 4, none⟩ = some (.string a0_4) ∧ w'.cell? ⟨gb101, 5, none⟩ = some (.string a0_5) ∧ w'.cell? ⟨gb101, 6, none⟩ = some (.string a0_6) ∧ w'.cell? ⟨gb101, 7, none⟩ = some (.string a0_7) ∧ w'.cell? ⟨gb101, 8, none⟩ = some (.string a0_8)) (ds := []) #[ff,ff,ff,ff,ff,ff,ff,ff,ff,ff,ff,ff,ff,ff,ff,ff,ff,ff] (by kernel_rfl) rfl rfl ⟨(Qaj BK101.out 0).trans rfl, (Qaj BK101.out 1).trans rfl, (Qaj BK101.out 2).trans rfl, (Qaj BK101.out 3).trans rfl, (Qaj BK101.out 4).trans rfl, (Qaj BK101.out 5).trans rfl, (Qaj BK101.out 6).trans rfl, (Qaj BK101.out 7).trans rfl, (Qaj BK101.out 8).trans rfl⟩ (fun hHeld => ?_); refine with_tabW Qae.tab8 Qae.bits8 (fun HT_ HW_ => ?_)
        generalize wr.drew = w29 at HO_6 BK101 BK104 HB hHeld ⊢
        refine QaI (i := 0) (N := some 27) (v := ?_) (a' := ?_) #[tt,ff,ff,ff,ff,ff,ff,ff,ff,ff,ff,ff,ff,ff,ff,ff,ff,ff] rfl rfl (QaA HT_.out (by kernel_rfl)) (fun _ _ _ h => h) (Or.inl ⟨by rfl, ?_⟩) ?_ ?_; rotate_left
        ·intro w'; go_simp; (with_reducible rfl)
        rotate_left
        ·simp only [Act.put, put_, Qax, Qaz]; rfl
        refine take_ (i := 1) (N := some 28) (v := ?_) (a' := ?_) #[tt,tt,ff,ff,ff,ff,ff,ff,ff,ff,ff,ff,ff,ff,ff,ff,ff,ff] rfl rfl (take_ofW HT_.out HW_.out (by kernel_rfl)) (fun _ _ _ h => h) (Or.inl ⟨by rfl, ?_⟩) hHeld ?_ ?_; rotate_left
        ·rintro w' ⟨s0, s1, s2, s3, s4, s5, s6, s7, s8⟩; go_simp; (with_reducible rfl)
        rotate_left
        ·simp only [Act.put, put_, Qax, Qaz]; rfl
        refine QaI (i := 2) (N := some 29) (v := ?_) (a' := ?_) #[tt,tt,tt,ff,ff,ff,ff,ff,ff,ff,ff,ff,ff,ff,ff,ff,ff,ff] rfl rfl (QaA HT_.out (by kernel_rfl)) (fun _ _ _ h => h) (Or.inl ⟨by rfl, ?_⟩) ?_ ?_; rotate_left
        ·intro w'; go_simp; (with_reducible rfl)
        rotate_left
        ·simp only [Act.put, put_, Qax, Qaz]; rfl
        refine QaI (i := 3) (N := some 30) (v := ?_) (a' := ?_) #[tt,tt,tt,tt,ff,ff,ff,ff,ff,ff,ff,ff,ff,ff,ff,ff,ff,ff] rfl rfl (QaA HT_.out (by kernel_rfl)) (fun _ _ _ h => h) (Or.inl ⟨by rfl, ?_⟩) ?_ ?_; rotate_left
        ·intro w'; go_simp; (with_reducible rfl)
        rotate_left
        ·simp only [Act.put, put_, Qax, Qaz]; rfl
        refine QaI (i := 4) (N := some 31) (v := ?_) (a' := ?_) #[tt,tt,tt,tt,tt,ff,ff,ff,ff,ff,ff,ff,ff,ff,ff,ff,ff,ff] rfl rfl (QaA HT_.out (by kernel_rfl)) (fun _ _ _ h => h) (Or.inl ⟨by rfl, ?_⟩) ?_ ?_; rotate_left
        ·intro w'; go_simp; (with_reducible rfl)
        rotate_left
        ·simp only [Act.put, put_, Qax, Qaz]; rfl
        refine take_ (i := 5) (N := some 32) (v := ?_) (a' := ?_) #[tt,tt,tt,tt,tt,tt,ff,ff,ff,ff,ff,ff,ff,ff,ff,ff,ff,ff] rfl rfl (take_ofW HT_.out HW_.out (by kernel_rfl)) (fun _ _ _ h => h) (Or.inl ⟨by rfl, ?_⟩) hHeld ?_ ?_; rotate_left
        ·rintro w' ⟨s0, s1, s2, s3, s4, s5, s6, s7, s8⟩; go_simp; (with_reducible rfl)
        rotate_left
        ·simp only [Act.put, put_, Qax, Qaz]; rfl
        refine QaI (i := 6) (N := some 33) (v := ?_) (a' := ?_) #[tt,tt,tt,tt,tt,tt,tt,ff,ff,ff,ff,ff,ff,ff,ff,ff,ff,ff] rfl rfl (QaA HT_.out (by kernel_rfl)) (fun _ _ _ h => h) (Or.inl ⟨by rfl, ?_⟩) ?_ ?_; rotate_left
        ·intro w'; go_simp; (with_reducible rfl)
        rotate_left
        ·simp only [Act.put, put_, Qax, Qaz]; rfl
        refine QaI (i := 7) (N := some 34) (v := ?_) (a' := ?_) #[tt,tt,tt,tt,tt,tt,tt,tt,ff,ff,ff,ff,ff,ff,ff,ff,ff,ff] rfl rfl (QaA HT_.out (by kernel_rfl)) (fun _ _ _ h => h) (Or.inl ⟨by rfl, ?_⟩) ?_ ?_; rotate_left
        ·intro w'; go_simp; (with_reducible rfl)
        rotate_left
        ·simp only [Act.put, put_, Qax, Qaz]; rfl
        refine QaI (i := 8) (N := some 35) (v := ?_) (a' := ?_) #[tt,tt,tt,tt,tt,tt,tt,tt,tt,ff,ff,ff,ff,ff,ff,ff,ff,ff] rfl rfl (QaA HT_.out (by kernel_rfl)) (fun _ _ _ h => h) (Or.inl ⟨by rfl, ?_⟩) ?_ ?_; rotate_left
        ·intro w'; go_simp; (with_reducible rfl)
        rotate_left
        ·simp only [Act.put, put_, Qax, Qaz]; rfl
        refine QaI (i := 9) (N := some 36) (v := undef) (a' := ?_) #[tt,tt,tt,tt,tt,tt,tt,tt,tt,tt,ff,ff,ff,ff,ff,ff,ff,ff] rfl rfl (QaA HT_.out (by kernel_rfl)) (fun _ _ _ h => h) (Or.inr ⟨by rfl, rfl⟩) ?_ ?_; rotate_left
        ·simp only [Act.put, put_, Qax, Qaz]; rfl
        refine QaI (i := 10) (N := some 37) (v := undef) (a' := ?_) #[tt,tt,tt,tt,tt,tt,tt,tt,tt,tt,tt,ff,ff,ff,ff,ff,ff,ff] rfl rfl (QaA HT_.out (by kernel_rfl)) (fun _ _ _ h => h) (Or.inr ⟨by rfl, rfl⟩) ?_ ?_; rotate_left
        ·simp only [Act.put, put_, Qax, Qaz]; rfl
        refine QaI (i := 11) (N := some 38) (v := undef) (a' := ?_) #[tt,tt,tt,tt,tt,tt,tt,tt,tt,tt,tt,tt,ff,ff,ff,ff,ff,ff] rfl rfl (QaA HT_.out (by kernel_rfl)) (fun _ _ _ h => h) (Or.inr ⟨by rfl, rfl⟩) ?_ ?_; rotate_left
        ·simp only [Act.put, put_, Qax, Qaz]; rfl
        refine QaI (i := 12) (N := some 39) (v := undef) (a' := ?_) #[tt,tt,tt,tt,tt,tt,tt,tt,tt,tt,tt,tt,tt,ff,ff,ff,ff,ff] rfl rfl (QaA HT_.out (by kernel_rfl)) (fun _ _ _ h => h) (Or.inr ⟨by rfl, rfl⟩) ?_ ?_; rotate_left
        ·simp only [Act.put, put_, Qax, Qaz]; rfl
        refine QaI (i := 13) (N := some 40) (v := undef) (a' := ?_) #[tt,tt,tt,tt,tt,tt,tt,tt,tt,tt,tt,tt,tt,tt,ff,ff,ff,ff] rfl rfl (QaA HT_.out (by kernel_rfl)) (fun _ _ _ h => h) (Or.inr ⟨by rfl, rfl⟩) ?_ ?_; rotate_left
        ·simp only [Act.put, put_, Qax, Qaz]; rfl
        refine QaI (i := 14) (N := some 41) (v := undef) (a' := ?_) #[tt,tt,tt,tt,tt,tt,tt,tt,tt,tt,tt,tt,tt,tt,tt,ff,ff,ff] rfl rfl (QaA HT_.out (by kernel_rfl)) (fun _ _ _ h => h) (Or.inr ⟨by rfl, rfl⟩) ?_ ?_; rotate_left
        ·simp only [Act.put, put_, Qax, Qaz]; rfl
        refine QaI (i := 15) (N := some 42) (v := undef) (a' := ?_) #[tt,tt,tt,tt,tt,tt,tt,tt,tt,tt,tt,tt,tt,tt,tt,tt,ff,ff] rfl rfl (QaA HT_.out (by kernel_rfl)) (fun _ _ _ h => h) (Or.inr ⟨by rfl, rfl⟩) ?_ ?_; rotate_left
        ·simp only [Act.put, put_, Qax, Qaz]; rfl
        refine QaI (i := 16) (N := some 43) (v := undef) (a' := ?_) #[tt,tt,tt,tt,tt,tt,tt,tt,tt,tt,tt,tt,tt,tt,tt,tt,tt,ff] rfl rfl (QaA HT_.out (by kernel_rfl)) (fun _ _ _ h => h) (Or.inr ⟨by rfl, rfl⟩) ?_ ?_; rotate_left
        ·simp only [Act.put, put_, Qax, Qaz]; rfl
        refine QaI (i := 17) (N := some 44) (v := ?_) (a' := ?_) #[tt,tt,tt,tt,tt,tt,tt,tt,tt,tt,tt,tt,tt,tt,tt,tt,tt,tt] rfl rfl (QaA HT_.out (by kernel_rfl)) (fun _ _ _ h => h) (Or.inl ⟨by rfl, ?_⟩) ?_ ?_; rotate_left
        ·intro w'; go_simp; (with_reducible rfl)
        rotate_left
        ·simp only [Act.put, put_, Qax, Qaz]; rfl
        refine done_ (done_of HT_.out (by kernel_rfl)) ?_
        try go_wp2
        go_meet
        case rel => exact ⟨_, (false), (by first | rfl | (simp; done) | (simp [*]; done)), H', ⟨by have := HK1.out; first | omega | exact Nat.le_refl _⟩, ⟨by (with_reducible repeat (first | apply Kd.Qaw | apply Kd.Qay | apply Kd.QaE)); exact HO_6.out⟩, ⟨by (with_reducible repeat (first | refine Qag ?_ _ | refine Qah ?_ | refine Qaf ?_ _)); exact BK101.out⟩, ⟨by (with_reducible repeat (first | refine Qag ?_ _ | refine Qah ?_ | refine Qaf ?_ _)); exact BK104.out⟩, ⟨by repeat (first | (with_reducible first | exact HB.out | apply Qab | apply Qaa | apply Qac | refine Qai ?_ GE101.out | refine Qai ?_ GE104.out) | exact HB.out)⟩⟩
     case rest =>
      clear HC22; (try clear p1); (try clear q1); (try clear hx1); (try clear c2); (try clear p2); (try clear p10); (try clear q10); (try clear hx10); (try clear c21); (try clear c21b0); (try clear c23); (try clear c23b0); (try clear c23b1); (try clear c24); (try clear c24b0); (try clear c26); (try clear c26b0); (try clear c26b1); (try clear c27); (try clear c27b0); (try clear hcz11_6); (try clear hcz11_7); (try clear hcz11_8); (try clear hcz15_0); (try clear hcz15_1); (try clear hcz15_2); (try clear hcz15_3); (try clear hcz15_4); (try clear hcz15_5); (try clear hcz15_6); (try clear hcz15_7); (try clear hcz15_8); (try clear hcz19_0); (try clear hcz19_1); (try clear hcz20_0); (try clear hcz20_1); (try clear hcz20_2); (try clear hcz20_3); (try clear hcz20_4); (try clear hcz20_5); (try clear hcz20_6); (try clear hcz20_7); (try clear hcz20_8); (try clear hcz6_0); (try clear hcz6_1); (try clear hcz6_2); (try clear hcz6_3); (try clear hcz6_4); (try clear hcz6_5); (try clear hcz6_6); (try clear hcz6_7); (try clear hcz6_8); (try clear hfz10_0); (try clear hfz10_1); (try clear hfz11_0); (try clear hfz11_1); (try clear hfz11_2); (try clear hfz11_3); (try clear hfz11_4); (try clear hfz11_5); (try clear hfz11_6); (try clear hfz11_7); (try clear hfz11_8); (try clear hfz15_0); (try clear hfz15_1); (try clear hfz15_2); (try clear hfz15_3); (try clear hfz15_4); (try clear hfz15_5); (try clear hfz15_6); (try clear hfz15_7); (try clear hfz15_8); (try clear hfz19_0); (try clear hfz19_1); (try clear hfz20_0)
      (try clear hfz20_1); (try clear hfz20_2); (try clear hfz20_3); (try clear hfz20_4); (try clear hfz20_5); (try clear hfz20_6); (try clear hfz20_7); (try clear hfz20_8); (try clear hfz6_0); (try clear hfz6_1); (try clear hfz6_2); (try clear hfz6_3); (try clear hfz6_4); (try clear hfz6_5); (try clear hfz6_6); (try clear hfz6_7); (try clear hfz6_8); (try clear hx108_0); (try clear hx108_1); (try clear hx108_2); (try clear hx109_0); (try clear hx109_1); (try clear hx109_2); (try clear p108); (try clear p109); (try clear q108); (try clear q109); obtain ⟨kq, x44_21, rfl, HA, HJ21, HO_6, BK101, BK104, HB⟩ := hcut
      cases kq with
      | zero => exact absurd HA.out (by simp [Qae.j1])
      | succ kj21 =>
       have H := HA.out; clear HA; simp only [Qae.j1] at H; have HC30 := Qad.mk H; clear H
       go_upto_if 44 with (fail)
       go_cut [6] (fun v6 wc => ∃ (kq : Nat) (x6_29 : List (S56)), Qad (Qae.j2 kq l1 x6_29 x7_1 a0_0 a0_1 a0_2 a0_3 a0_4 a0_5 a0_6 a0_7 a0_8 t102 t103 = some r) ∧ Qad (kq ≤ kj21) ∧ Qad (Kd.R k56 56 wc w.heap.size (fun _ => True) v6 x6_29) ∧ Qad (wc.heap[gb101]? = some (.cells #[.int .i64 a0_0, .int .i64 a0_1, .string a0_2, .int .i64 a0_3, .string a0_4, .string a0_5, .string a0_6, .string a0_7, .string a0_8] 42 (0, 0))) ∧ Qad (wc.heap[gb104]? = some (.cells #[.string t102, .string t103] 24 (0, 0))) ∧ Qad (Below w.heap.size w wc))
       case first =>
        have H := HC30.out; clear HC30
        by_cases c31 : x44_21 = true
        ·subst c31
         have H1 : (if 0 ≤ x7_1 then (if x7_1 < (l1.length : Int) then ((QaP.f kj21 l1 a0_7 a0_8 ((Qap l1 x7_1).f1)).bind fun t111 => (if a0_3 = 2 then (if x6_1.length < 2932031007402 then (Qae.j2 kj21 l1 (x6_1 ++ [(⟨(⟨t102, t103⟩ : S24), (Qap l1 x7_1).f1⟩ : S56)]) x7_1 a0_0 a0_1 a0_2 a0_3 a0_4 a0_5 a0_6 a0_7 a0_8 t102 t103) else (none)) else (if t111 = true then (if x6_1.length < 2932031007402 then (Qae.j2 kj21 l1 (x6_1 ++ [(⟨(⟨t102, t103⟩ : S24), (Qap l1 x7_1).f1⟩ : S56)]) x7_1 a0_0 a0_1 a0_2 a0_3 a0_4 a0_5 a0_6 a0_7 a0_8 t102 t103) else (none)) else (Qae.j2 kj21 l1 x6_1 x7_1 a0_0 a0_1 a0_2 a0_3 a0_4 a0_5 a0_6 a0_7 a0_8 t102 t103)))) else (none)) else (none)) = some r := by rw [if_pos rfl] at H; exact H
         clear H; have H := H1; clear H1
         by_cases c32 : 0 ≤ x7_1
         ·rw [if_pos c32] at H; have c32b0 : decide (0 ≤ x7_1) = true := decide_eq_true c32; clear c32
          (first | rw [c32b0] | (simp only [Qax, Qaz]; rw [c32b0]) | skip)
          by_cases c33 : x7_1 < (l1.length : Int)
          ·rw [if_pos c33] at H; have c33b0 : decide (x7_1 < (l1.length : Int)) = true := decide_eq_true c33; clear c33; replace H := Option.bind_eq_some_iff.mp H; obtain ⟨t111, A340, H⟩ := H; replace H : (if a0_3 = 2 then (if x6_1.length < 2932031007402 then (Qae.j2 kj21 l1 (x6_1 ++ [(⟨(⟨t102, t103⟩ : S24), (Qap l1 x7_1).f1⟩ : S56)]) x7_1 a0_0 a0_1 a0_2 a0_3 a0_4 a0_5 a0_6 a0_7 a0_8 t102 t103) else (none)) else (if t111 = true then (if x6_1.length < 2932031007402 then (Qae.j2 kj21 l1 (x6_1 ++ [(⟨(⟨t102, t103⟩ : S24), (Qap l1 x7_1).f1⟩ : S56)]) x7_1 a0_0 a0_1 a0_2 a0_3 a0_4 a0_5 a0_6 a0_7 a0_8 t102 t103) else (none)) else (Qae.j2 kj21 l1 x6_1 x7_1 a0_0 a0_1 a0_2 a0_3 a0_4 a0_5 a0_6 a0_7 a0_8 t102 t103))) = some r := H; have A34 := Qad.mk A340; clear A340
           by_cases c35 : a0_3 = 2
           ·rw [if_pos c35] at H; have c35b0 : (a0_3 == 2) = true := beq_iff_eq.mpr c35; have c35b1 : (a0_3 != 2) = false := bne_eq_false_iff_eq.mpr c35; clear c35
            by_cases c36 : x6_1.length < 2932031007402
            ·rw [if_pos c36] at H; have LMc36 := Qad.mk c36; clear c36
             obtain ⟨y113, hy113⟩ : ∃ y_ : List (S56), y_ = (x6_1 ++ [(⟨(⟨t102, t103⟩ : S24), (Qap l1 x7_1).f1⟩ : S56)]) := ⟨_, rfl⟩
             replace H : (Qae.j2 kj21 l1 y113 x7_1 a0_0 a0_1 a0_2 a0_3 a0_4 a0_5 a0_6 a0_7 a0_8 t102 t103) = some r := by first | (rw [hy113]; with_reducible exact H) | (have H2_ := (Option.bind_some _ _).symm.trans H; rw [hy113]; with_reducible exact H2_) | (have H2_ := (Option.bind_some _ _).symm.trans H; with_reducible exact H2_) | with_reducible exact H | (rw [hy113]; exact H) | exact H
             have Ny113 := Qad.mk hy113; clear hy113; have H' := Qad.mk H; clear H
             try go_wp2
             have n0_ := Qad.mk (Kd.QaE HO_6.out); have n1_ := Qad.mk (Qah BK101.out); have n2_ := Qad.mk (Qah BK104.out); have n3_ := Qad.mk (Qac HB.out); clear HO_6; clear BK101; clear BK104; clear HB; have HO_6 := n0_; have BK101 := n1_; have BK104 := n2_; have HB := n3_; clear n0_ n1_ n2_ n3_; have p110 : 0 ≤ (x7_1 : Int) := of_decide_eq_true (by first | (with_reducible assumption) | assumption); have q110 : x7_1 < (l1.length : Int) := of_decide_eq_true (by first | (with_reducible assumption) | assumption); obtain ⟨ad110, e110, hx110_0, hx110_1, hx110_2⟩ := at_T56 HR1.out x7_1 p110 q110; have hw110_2 := hx110_2; have hw110_1 := hx110_1; have hw110_0 := hx110_0; cases e110; replace hx110_0 := (HB.out.cell (World.block_lt_of_cell? w _ hx110_0)).trans hx110_0; replace hx110_1 := (HB.out.cell (World.block_lt_of_cell? w _ hx110_1)).trans hx110_1; replace hx110_2 := (HB.out.cell (World.block_lt_of_cell? w _ hx110_2)).trans hx110_2; replace p110 := eq_true p110; replace q110 := eq_true q110; refine start_ (n := 11) (S := fun w' => w'.cell? ⟨gb101, 0, none⟩ = some (.int .i64 a0_0) ∧ w'.cell? ⟨gb101, 1, none⟩ = some (.int .i64 a0_1) ∧ w'.cell? ⟨gb101, 2, none⟩ = some (.string a0_2) ∧ w'.cell? ⟨gb101, 3, none⟩ = some (.int .i64 a0_3) ∧ w'.cell? ⟨gb101, 4, none⟩ = some (.string a0_4) ∧ w'.cell? ⟨gb101, 5, none⟩ = some (.string a0_5) ∧ w'.cell? ⟨gb101, 6, none⟩ = some (.string a0_6) ∧ w'.cell? ⟨gb101, 7, none⟩ = some (.string a0_7) ∧ w'.cell? ⟨gb101, 8, none⟩ = some (.string a0_8) ∧ w'.cell? (ad110.add ((x7_1).toNat * 3)) = some (.string ((Qap l1 x7_1).f0.f0)) ∧ w'.cell? ⟨(ad110.add ((x7_1).toNat * 3)).block, (ad110.add ((x7_1).toNat * 3)).off + 1, none⟩ = some (.string ((Qap l1 x7_1).f0.f1)) ∧ w'.cell? ⟨(ad110.add ((x7_1).toNat * 3)).block, (ad110.add ((x7_1).toNat * 3)).off + 2, none⟩ = some (.string ((Qap l1 x7_1).f1))) (ds := []) #[ff,ff,ff,ff,ff,ff,ff,ff,ff,ff,ff] (by kernel_rfl) rfl rfl ⟨(Qaj BK101.out 0).trans rfl, (Qaj BK101.out 1).trans rfl, (Qaj BK101.out 2).trans rfl, (Qaj BK101.out 3).trans rfl, (Qaj BK101.out 4).trans rfl, (Qaj BK101.out 5).trans rfl, (Qaj BK101.out 6).trans rfl, (Qaj BK101.out 7).trans rfl, (Qaj BK101.out 8).trans rfl, ((HB.out.cell (World.block_lt_of_cell? w _ hw110_0)).trans hw110_0), ((HB.out.cell (World.block_lt_of_cell? w _ hw110_1)).trans hw110_1), ((HB.out.cell (World.block_lt_of_cell? w _ hw110_2)).trans hw110_2)⟩ (fun hHeld => ?_); refine with_tabW Qae.tab9 Qae.bits9 (fun HT_ HW_ => ?_)
             generalize wc.drew = w37 at HO_6 BK101 BK104 HB hx110_0 hx110_1 hx110_2 hHeld ⊢
             refine QaI (i := 0) (N := some 45) (v := ?_) (a' := ?_) #[tt,ff,ff,ff,ff,ff,ff,ff,ff,ff,ff] rfl rfl (QaA HT_.out (by kernel_rfl)) (fun _ _ _ h => h) (Or.inl ⟨by rfl, ?_⟩) ?_ ?_; rotate_left
             ·intro w'; go_simp; (with_reducible rfl)
             rotate_left
             ·simp only [Act.put, put_, Qax, Qaz]; rfl
             refine QaI (i := 1) (N := some 46) (v := ?_) (a' := ?_) #[tt,tt,ff,ff,ff,ff,ff,ff,ff,ff,ff] rfl rfl (QaA HT_.out (by kernel_rfl)) (fun _ _ _ h => h) (Or.inl ⟨by rfl, ?_⟩) ?_ ?_; rotate_left
             ·intro w'; go_simp; (with_reducible rfl)
             rotate_left
             ·simp only [Act.put, put_, Qax, Qaz]; rfl
             refine QaI (i := 3) (N := some 48) (v := ?_) (a' := ?_) #[tt,tt,ff,tt,ff,ff,ff,ff,ff,ff,ff] rfl rfl (QaA HT_.out (by kernel_rfl)) (fun _ _ _ h => h) (Or.inl ⟨by rfl, ?_⟩) ?_ ?_; rotate_left
             ·intro w'; go_simp; (with_reducible rfl)
             rotate_left
             ·simp only [Act.put, put_, Qax, Qaz]; rfl
             refine QaI (i := 4) (N := some 49) (v := ?_) (a' := ?_) #[tt,tt,ff,tt,tt,ff,ff,ff,ff,ff,ff] rfl rfl (QaA HT_.out (by kernel_rfl)) (fun _ _ _ h => h) (Or.inl ⟨by rfl, ?_⟩) ?_ ?_; rotate_left
             ·intro w'; go_simp; (with_reducible rfl)
             rotate_left
             ·simp only [Act.put, put_, Qax, Qaz]; rfl
             refine QaI (i := 5) (N := some 50) (v := ?_) (a' := ?_) #[tt,tt,ff,tt,tt,tt,ff,ff,ff,ff,ff] rfl rfl (QaA HT_.out (by kernel_rfl)) (fun _ _ _ h => h) (Or.inl ⟨by rfl, ?_⟩) ?_ ?_; rotate_left
             ·intro w'; go_simp; (with_reducible rfl)
             rotate_left
             ·simp only [Act.put, put_, Qax, Qaz]; rfl
             refine QaI (i := 6) (N := some 51) (v := ?_) (a' := ?_) #[tt,tt,ff,tt,tt,tt,tt,ff,ff,ff,ff] rfl rfl (QaA HT_.out (by kernel_rfl)) (fun _ _ _ h => h) (Or.inl ⟨by rfl, ?_⟩) ?_ ?_; rotate_left
             ·intro w'; go_simp; (with_reducible rfl)
             rotate_left
             ·simp only [Act.put, put_, Qax, Qaz]; rfl
             refine take_ (i := 2) (N := some 47) (v := ?_) (a' := ?_) #[tt,tt,tt,tt,tt,tt,tt,ff,ff,ff,ff] rfl rfl (take_ofW HT_.out HW_.out (by kernel_rfl)) (fun _ _ _ h => h) (Or.inl ⟨by rfl, ?_⟩) hHeld ?_ ?_; rotate_left
             ·rintro w' ⟨s0, s1, s2, s3, s4, s5, s6, s7, s8, s9, s10, s11⟩; go_simp; (with_reducible rfl)
             rotate_left
             ·simp only [Act.put, put_, Qax, Qaz]; rfl
             refine take_ (i := 7) (N := some 52) (v := ?_) (a' := ?_) #[tt,tt,tt,tt,tt,tt,tt,tt,ff,ff,ff] rfl rfl (take_ofW HT_.out HW_.out (by kernel_rfl)) (fun _ _ _ h => h) (Or.inl ⟨by rfl, ?_⟩) hHeld ?_ ?_; rotate_left
             ·rintro w' ⟨s0, s1, s2, s3, s4, s5, s6, s7, s8, s9, s10, s11⟩; go_simp; (with_reducible rfl)
             rotate_left
             ·simp only [Act.put, put_, Qax, Qaz]; rfl
             refine QaI (i := 8) (N := some 53) (v := ?_) (a' := ?_) #[tt,tt,tt,tt,tt,tt,tt,tt,tt,ff,ff] rfl rfl (QaA HT_.out (by kernel_rfl)) (fun _ _ _ h => h) (Or.inl ⟨by rfl, ?_⟩) ?_ ?_; rotate_left
             ·intro w'; go_simp; (with_reducible rfl)
             rotate_left
             ·simp only [Act.put, put_, Qax, Qaz]; rfl
             refine one_ (i := 9) (N := some 54) #[tt,tt,tt,tt,tt,tt,tt,tt,tt,tt,ff] rfl rfl (one_of HT_.out (by kernel_rfl)) (by decide) (fun K hK => ?_); refine goes_ Tryz.func19 (by kernel_rfl) rfl #[.slice (some ad110) l1.length c1, .agg #[.string a0_7, .string a0_8, .string ((Qap l1 x7_1).f1)]] (by rfl) rfl rfl (by (try simp only [List.map_toArray, List.map_cons, List.map_nil]); first | done | rfl | (simp only [List.length_drop, List.length_take]; rfl)) ?_
             with_reducible refine (QaP.calls kj21 _ _ l1 a0_7 a0_8 ((Qap l1 x7_1).f1) t111 _ ?side1 ?side2 A34.out).mono ?_
             (case side1 => repeat (first | exact (Kd.C_below HR1.out HB.out) | (with_reducible refine Kd.C_alloc ?_ _) | (with_reducible refine Kd.C_drewN ?_ _) | (with_reducible refine Kd.C_drew ?_)))
             (case side2 => exact HC1.out)
             rintro e w38 ⟨rfl, hb⟩; refine ⟨_, rfl, ?_⟩; have n0_ := Qad.mk (Kd.R_below (by (with_reducible repeat (first | apply Kd.Qaw | apply Kd.Qay | apply Kd.QaE)); exact HO_6.out) hb); have n1_ := Qad.mk (Qal (g := gb101) (o := Qau a0_0 a0_1 a0_2 a0_3 a0_4 a0_5 a0_6 a0_7 a0_8 42) (by (with_reducible repeat (first | refine Qag ?_ _ | refine Qah ?_ | refine Qaf ?_ _)); exact BK101.out) hb); have n2_ := Qad.mk (Qal (g := gb104) (o := ob_ss t102 t103 24) (by (with_reducible repeat (first | refine Qag ?_ _ | refine Qah ?_ | refine Qaf ?_ _)); exact BK104.out) hb); have n3_ := Qad.mk (Qak (by repeat (first | (with_reducible first | exact HB.out | apply Qab | apply Qaa | apply Qac | refine Qai ?_ GE101.out | refine Qai ?_ GE104.out) | exact HB.out)) hb); clear HO_6; clear BK101; clear BK104; clear HB; have HO_6 := n0_; have BK101 := n1_; have BK104 := n2_; have HB := n3_; clear n0_ n1_ n2_ n3_
             (try clear hb)
             (try clear hb2)
             (try clear hk)
             (try clear hi)
             refine hK.out _ _ ⟨(Qaj BK101.out 0).trans rfl, (Qaj BK101.out 1).trans rfl, (Qaj BK101.out 2).trans rfl, (Qaj BK101.out 3).trans rfl, (Qaj BK101.out 4).trans rfl, (Qaj BK101.out 5).trans rfl, (Qaj BK101.out 6).trans rfl, (Qaj BK101.out 7).trans rfl, (Qaj BK101.out 8).trans rfl, ((HB.out.cell (World.block_lt_of_cell? w _ hw110_0)).trans hw110_0), ((HB.out.cell (World.block_lt_of_cell? w _ hw110_1)).trans hw110_1), ((HB.out.cell (World.block_lt_of_cell? w _ hw110_2)).trans hw110_2)⟩ (fun hHeld => ?_); clear hK K; refine norm_ (a' := ?_) ?_ ?_; rotate_left
             ·show Act.put _ (some 54) _ = _
              simp only [Act.put, put_, Qax, Qaz]; rfl
             refine QaI (i := 10) (N := some 8) (v := ?_) (a' := ?_) #[tt,tt,tt,tt,tt,tt,tt,tt,tt,tt,tt] rfl rfl (QaA HT_.out (by kernel_rfl)) (fun _ _ _ h => h) (Or.inl ⟨by rfl, ?_⟩) ?_ ?_; rotate_left
             ·intro w'; go_simp; (with_reducible rfl)
             rotate_left
             ·simp only [Act.put, put_, Qax, Qaz]; rfl
             refine done_ (done_of HT_.out (by kernel_rfl)) ?_; have hnb39 := NB101_104.out; have hnc39 := NB104_101.out; obtain ⟨hcz40_0, hcz40_1, hcz40_2, hcz40_3, hcz40_4, hcz40_5, hcz40_6, hcz40_7, hcz40_8⟩ := cz_iisisssss BK101.out; obtain ⟨hfz40_0, hfz40_1, hfz40_2, hfz40_3, hfz40_4, hfz40_5, hfz40_6, hfz40_7, hfz40_8⟩ := fz_9 BK101.out
             try go_wp2
             have n0_ := Qad.mk (Kd.QaE HO_6.out); have n1_ := Qad.mk (Qah BK101.out); have n2_ := Qad.mk (Qah BK104.out); have n3_ := Qad.mk (Qac HB.out); clear HO_6; clear BK101; clear BK104; clear HB; have HO_6 := n0_; have BK101 := n1_; have BK104 := n2_; have HB := n3_; clear n0_ n1_ n2_ n3_; have p112 : 0 ≤ (x7_1 : Int) := of_decide_eq_true (by first | (with_reducible assumption) | assumption); have q112 : x7_1 < (l1.length : Int) := of_decide_eq_true (by first | (with_reducible assumption) | assumption); obtain ⟨ad112, e112, hx112_0, hx112_1, hx112_2⟩ := at_T56 HR1.out x7_1 p112 q112; have hw112_2 := hx112_2; have hw112_1 := hx112_1; have hw112_0 := hx112_0
             obtain rfl : ad110 = ad112 := (by injection e112)
             replace hx112_0 := (HB.out.cell (World.block_lt_of_cell? w _ hx112_0)).trans hx112_0; replace hx112_1 := (HB.out.cell (World.block_lt_of_cell? w _ hx112_1)).trans hx112_1; replace hx112_2 := (HB.out.cell (World.block_lt_of_cell? w _ hx112_2)).trans hx112_2; replace p112 := eq_true p112; replace q112 := eq_true q112; refine start_ (n := 11) (S := fun w' => w'.cell? ⟨gb104, 0, none⟩ = some (.string t102) ∧ w'.cell? ⟨gb104, 1, none⟩ = some (.string t103) ∧ w'.cell? (ad110.add ((x7_1).toNat * 3)) = some (.string ((Qap l1 x7_1).f0.f0)) ∧ w'.cell? ⟨(ad110.add ((x7_1).toNat * 3)).block, (ad110.add ((x7_1).toNat * 3)).off + 1, none⟩ = some (.string ((Qap l1 x7_1).f0.f1)) ∧ w'.cell? ⟨(ad110.add ((x7_1).toNat * 3)).block, (ad110.add ((x7_1).toNat * 3)).off + 2, none⟩ = some (.string ((Qap l1 x7_1).f1))) (ds := []) #[ff,ff,ff,ff,ff,ff,ff,ff,ff,ff,ff] (by kernel_rfl) rfl rfl ⟨(Qaj BK104.out 0).trans rfl, (Qaj BK104.out 1).trans rfl, ((HB.out.cell (World.block_lt_of_cell? w _ hw112_0)).trans hw112_0), ((HB.out.cell (World.block_lt_of_cell? w _ hw112_1)).trans hw112_1), ((HB.out.cell (World.block_lt_of_cell? w _ hw112_2)).trans hw112_2)⟩ (fun hHeld => ?_); refine with_tabW Qae.tab11 Qae.bits11 (fun HT_ HW_ => ?_)
             generalize w38.drew = w41 at HO_6 BK101 BK104 HB hx112_0 hx112_1 hx112_2 hHeld ⊢
             refine QaI (i := 0) (N := some 61) (v := ?_) (a' := ?_) #[tt,ff,ff,ff,ff,ff,ff,ff,ff,ff,ff] rfl rfl (QaA HT_.out (by kernel_rfl)) (fun _ _ _ h => h) (Or.inl ⟨by rfl, ?_⟩) ?_ ?_; rotate_left
             ·intro w'; go_simp; (with_reducible rfl)
             rotate_left
             ·simp only [Act.put, put_, Qax, Qaz]; rfl
             refine QaI (i := 2) (N := some 63) (v := ?_) (a' := ?_) #[tt,ff,tt,ff,ff,ff,ff,ff,ff,ff,ff] rfl rfl (QaA HT_.out (by kernel_rfl)) (fun _ _ _ h => h) (Or.inl ⟨by rfl, ?_⟩) ?_ ?_; rotate_left
             ·intro w'; go_simp; (with_reducible rfl)
             rotate_left
             ·simp only [Act.put, put_, Qax, Qaz]; rfl
             refine QaI (i := 3) (N := some 64) (v := ?_) (a' := ?_) #[tt,ff,tt,tt,ff,ff,ff,ff,ff,ff,ff] rfl rfl (QaA HT_.out (by kernel_rfl)) (fun _ _ _ h => h) (Or.inl ⟨by rfl, ?_⟩) ?_ ?_; rotate_left
             ·intro w'; go_simp; (with_reducible rfl)
             rotate_left
             ·simp only [Act.put, put_, Qax, Qaz]; rfl
             refine QaI (i := 4) (N := some 65) (v := ?_) (a' := ?_) #[tt,ff,tt,tt,tt,ff,ff,ff,ff,ff,ff] rfl rfl (QaA HT_.out (by kernel_rfl)) (fun _ _ _ h => h) (Or.inl ⟨by rfl, ?_⟩) ?_ ?_; rotate_left
             ·intro w'; go_simp; (with_reducible rfl)
             rotate_left
             ·simp only [Act.put, put_, Qax, Qaz]; rfl
             refine QaI (i := 5) (N := some 66) (v := ?_) (a' := ?_) #[tt,ff,tt,tt,tt,tt,ff,ff,ff,ff,ff] rfl rfl (QaA HT_.out (by kernel_rfl)) (fun _ _ _ h => h) (Or.inl ⟨by rfl, ?_⟩) ?_ ?_; rotate_left
             ·intro w'; go_simp; (with_reducible rfl)
             rotate_left
             ·simp only [Act.put, put_, Qax, Qaz]; rfl
             refine take_ (i := 1) (N := some 62) (v := ?_) (a' := ?_) #[tt,tt,tt,tt,tt,tt,ff,ff,ff,ff,ff] rfl rfl (take_ofW HT_.out HW_.out (by kernel_rfl)) (fun _ _ _ h => h) (Or.inl ⟨by rfl, ?_⟩) hHeld ?_ ?_; rotate_left
             ·rintro w' ⟨s0, s1, s2, s3, s4⟩; go_simp; (with_reducible rfl)
             rotate_left
             ·simp only [Act.put, put_, Qax, Qaz]; rfl
             refine take_ (i := 6) (N := some 67) (v := ?_) (a' := ?_) #[tt,tt,tt,tt,tt,tt,tt,ff,ff,ff,ff] rfl rfl (take_ofW HT_.out HW_.out (by kernel_rfl)) (fun _ _ _ h => h) (Or.inl ⟨by rfl, ?_⟩) hHeld ?_ ?_; rotate_left
             ·rintro w' ⟨s0, s1, s2, s3, s4⟩; go_simp; (with_reducible rfl)
             rotate_left
             ·simp only [Act.put, put_, Qax, Qaz]; rfl
             refine QaI (i := 7) (N := some 68) (v := ?_) (a' := ?_) #[tt,tt,tt,tt,tt,tt,tt,tt,ff,ff,ff] rfl rfl (QaA HT_.out (by kernel_rfl)) (fun _ _ _ h => h) (Or.inl ⟨by rfl, ?_⟩) ?_ ?_; rotate_left
             ·intro w'; go_simp; (with_reducible rfl)
             rotate_left
             ·simp only [Act.put, put_, Qax, Qaz]; rfl
             refine one_ (i := 8) (N := some 69) #[tt,tt,tt,tt,tt,tt,tt,tt,tt,ff,ff] rfl rfl (one_of HT_.out (by kernel_rfl)) (by decide) (fun K hK => ?_); refine value_ (w1 := ?_) (v := ?_) (by rfl) rfl ?_ ?_; rotate_left 2
             ·go_simp; constructor
              ·rfl
              ·rfl
             refine hK.out _ _ ⟨(Qaj (Qaf BK104.out _) 0).trans rfl, (Qaj (Qaf BK104.out _) 1).trans rfl, (World.cell?_alloc_lt _ _ _ (World.block_lt_of_cell? _ _ (((HB.out.cell (World.block_lt_of_cell? w _ hw112_0)).trans hw112_0)))).trans (((HB.out.cell (World.block_lt_of_cell? w _ hw112_0)).trans hw112_0)), (World.cell?_alloc_lt _ _ _ (World.block_lt_of_cell? _ _ (((HB.out.cell (World.block_lt_of_cell? w _ hw112_1)).trans hw112_1)))).trans (((HB.out.cell (World.block_lt_of_cell? w _ hw112_1)).trans hw112_1)), (World.cell?_alloc_lt _ _ _ (World.block_lt_of_cell? _ _ (((HB.out.cell (World.block_lt_of_cell? w _ hw112_2)).trans hw112_2)))).trans (((HB.out.cell (World.block_lt_of_cell? w _ hw112_2)).trans hw112_2))⟩ (fun hHeld => ?_); clear hK K; refine norm_ (a' := ?_) ?_ ?_; rotate_left
             ·show Act.put _ (some 69) _ = _
              simp only [Act.put, put_, Qax, Qaz]; rfl
             refine one_ (i := 9) (N := some 70) #[tt,tt,tt,tt,tt,tt,tt,tt,tt,tt,ff] rfl rfl (one_of HT_.out (by kernel_rfl)) (by decide) (fun K hK => ?_); refine Kd.R_append_step k56 (w0 := w) w.heap.size (by rfl) (.tmp 61) (.tmp 69) 54 56 (.agg #[(.string ⟨#[]⟩), (.string ⟨#[]⟩), (.string ⟨#[]⟩)]) 48 rfl Tryz.underlying54 info56 rfl (by decide) (by omega) u6 x6_1 (⟨(⟨t102, t103⟩ : S24), (Qap l1 x7_1).f1⟩ : S56) [.string t102, .string t103, .string ((Qap l1 x7_1).f1)] (fun _ => True) (fun _ => False) rfl rfl ?aP (fun _ hk => hk.elim) ?aF ?aO ?aB ?aS ?aL ?_
             (case aP => exact k56_mkM _ _ _ (⟨(⟨t102, t103⟩ : S24), (Qap l1 x7_1).f1⟩ : S56))
             (case aB => exact (by repeat (first | (with_reducible first | exact HB.out | apply Qab | apply Qaa | apply Qac | refine Qai ?_ GE101.out | refine Qai ?_ GE104.out) | exact HB.out)))
             (case aF => exact (fun _ _ => trivial))
             (case aO => exact (by (with_reducible repeat (first | apply Kd.Qaw | apply Kd.Qay | apply Kd.QaE)); exact HO_6.out))
             (case aS => exact (Qas (by repeat (first | (with_reducible first | exact HB.out | apply Qab | apply Qaa | apply Qac | refine Qai ?_ GE101.out | refine Qai ?_ GE104.out) | exact HB.out))))
             (case aL => have := LMc36.out; omega)
             intro v114 w42 ho hb hg hat
             rw [← Ny113.out] at ho; have n0_ := Qad.mk (blk_grown (g := gb101) (o := Qau a0_0 a0_1 a0_2 a0_3 a0_4 a0_5 a0_6 a0_7 a0_8 42) (by (with_reducible repeat (first | refine Qag ?_ _ | refine Qah ?_ | refine Qaf ?_ _)); exact BK101.out) hg (Kd.R_ne HO_6.out BK101.out (by decide))); have n1_ := Qad.mk (blk_grown (g := gb104) (o := ob_ss t102 t103 24) (by (with_reducible repeat (first | refine Qag ?_ _ | refine Qah ?_ | refine Qaf ?_ _)); exact BK104.out) hg (Kd.R_ne HO_6.out BK104.out (by decide))); have n2_ := Qad.mk (hb); have n3_ := Qad.mk (ho); clear BK101; clear BK104; clear HB; clear HO_6; have BK101 := n0_; have BK104 := n1_; have HB := n2_; have HO115 := n3_; clear n0_ n1_ n2_ n3_
             clear ho hb hg hat
             refine hK.out _ _ ⟨(Qaj BK104.out 0).trans rfl, (Qaj BK104.out 1).trans rfl, ((HB.out.cell (World.block_lt_of_cell? w _ hw112_0)).trans hw112_0), ((HB.out.cell (World.block_lt_of_cell? w _ hw112_1)).trans hw112_1), ((HB.out.cell (World.block_lt_of_cell? w _ hw112_2)).trans hw112_2)⟩ (fun hHeld => ?_); clear hK K; refine norm_ (a' := ?_) ?_ ?_; rotate_left
             ·show Act.put _ (some 70) _ = _
              simp only [Act.put, put_, Qax, Qaz]; rfl
             refine QaI (i := 10) (N := some 6) (v := ?_) (a' := ?_) #[tt,tt,tt,tt,tt,tt,tt,tt,tt,tt,tt] rfl rfl (QaA HT_.out (by kernel_rfl)) (fun _ _ _ h => h) (Or.inl ⟨by rfl, ?_⟩) ?_ ?_; rotate_left
             ·intro w'; go_simp; (with_reducible rfl)
             rotate_left
             ·simp only [Act.put, put_, Qax, Qaz]; rfl
             refine done_ (done_of HT_.out (by kernel_rfl)) ?_
             try go_wp2
             go_meet
             case rel => exact ⟨_, (y113), H', ⟨by have := HK1.out; have := HJ21.out; first | omega | exact Nat.le_refl _⟩, ⟨by (with_reducible repeat (first | apply Kd.Qaw | apply Kd.Qay | apply Kd.QaE)); exact HO115.out⟩, ⟨by (with_reducible repeat (first | refine Qag ?_ _ | refine Qah ?_ | refine Qaf ?_ _)); exact BK101.out⟩, ⟨by (with_reducible repeat (first | refine Qag ?_ _ | refine Qah ?_ | refine Qaf ?_ _)); exact BK104.out⟩, ⟨by repeat (first | (with_reducible first | exact HB.out | apply Qab | apply Qaa | apply Qac | refine Qai ?_ GE101.out | refine Qai ?_ GE104.out) | exact HB.out)⟩⟩
            ·rw [if_neg c36] at H; exact absurd H (by simp)
           ·rw [if_neg c35] at H; have c35b0 : (a0_3 == 2) = false := beq_eq_false_iff_ne.mpr c35; have c35b1 : (a0_3 != 2) = true := bne_iff_ne.mpr c35
            by_cases c43 : t111 = true
            ·subst c43
             have H1 : (if x6_1.length < 2932031007402 then (Qae.j2 kj21 l1 (x6_1 ++ [(⟨(⟨t102, t103⟩ : S24), (Qap l1 x7_1).f1⟩ : S56)]) x7_1 a0_0 a0_1 a0_2 a0_3 a0_4 a0_5 a0_6 a0_7 a0_8 t102 t103) else (none)) = some r := by rw [if_pos rfl] at H; exact H
             clear H; have H := H1; clear H1
             by_cases c44 : x6_1.length < 2932031007402
             ·rw [if_pos c44] at H; have LMc44 := Qad.mk c44; clear c44
              obtain ⟨y117, hy117⟩ : ∃ y_ : List (S56), y_ = (x6_1 ++ [(⟨(⟨t102, t103⟩ : S24), (Qap l1 x7_1).f1⟩ : S56)]) := ⟨_, rfl⟩
              replace H : (Qae.j2 kj21 l1 y117 x7_1 a0_0 a0_1 a0_2 a0_3 a0_4 a0_5 a0_6 a0_7 a0_8 t102 t103) = some r := by first | (rw [hy117]; with_reducible exact H) | (have H2_ := (Option.bind_some _ _).symm.trans H; rw [hy117]; with_reducible exact H2_) | (have H2_ := (Option.bind_some _ _).symm.trans H; with_reducible exact H2_) | with_reducible exact H | (rw [hy117]; exact H) | exact H
              have Ny117 := Qad.mk hy117; clear hy117; have H' := Qad.mk H; clear H
              try go_wp2
              have n0_ := Qad.mk (Kd.QaE HO_6.out); have n1_ := Qad.mk (Qah BK101.out); have n2_ := Qad.mk (Qah BK104.out); have n3_ := Qad.mk (Qac HB.out); clear HO_6; clear BK101; clear BK104; clear HB; have HO_6 := n0_; have BK101 := n1_; have BK104 := n2_; have HB := n3_; clear n0_ n1_ n2_ n3_; have p110 : 0 ≤ (x7_1 : Int) := of_decide_eq_true (by first | (with_reducible assumption) | assumption); have q110 : x7_1 < (l1.length : Int) := of_decide_eq_true (by first | (with_reducible assumption) | assumption); obtain ⟨ad110, e110, hx110_0, hx110_1, hx110_2⟩ := at_T56 HR1.out x7_1 p110 q110; have hw110_2 := hx110_2; have hw110_1 := hx110_1; have hw110_0 := hx110_0; cases e110; replace hx110_0 := (HB.out.cell (World.block_lt_of_cell? w _ hx110_0)).trans hx110_0; replace hx110_1 := (HB.out.cell (World.block_lt_of_cell? w _ hx110_1)).trans hx110_1; replace hx110_2 := (HB.out.cell (World.block_lt_of_cell? w _ hx110_2)).trans hx110_2; replace p110 := eq_true p110; replace q110 := eq_true q110; refine start_ (n := 11) (S := fun w' => w'.cell? ⟨gb101, 0, none⟩ = some (.int .i64 a0_0) ∧ w'.cell? ⟨gb101, 1, none⟩ = some (.int .i64 a0_1) ∧ w'.cell? ⟨gb101, 2, none⟩ = some (.string a0_2) ∧ w'.cell? ⟨gb101, 3, none⟩ = some (.int .i64 a0_3) ∧ w'.cell? ⟨gb101, 4, none⟩ = some (.string a0_4) ∧ w'.cell? ⟨gb101, 5, none⟩ = some (.string a0_5) ∧ w'.cell? ⟨gb101, 6, none⟩ = some (.string a0_6) ∧ w'.cell? ⟨gb101, 7, none⟩ = some (.string a0_7) ∧ w'.cell? ⟨gb101, 8, none⟩ = some (.string a0_8) ∧ w'.cell? (ad110.add ((x7_1).toNat * 3)) = some (.string ((Qap l1 x7_1).f0.f0)) ∧ w'.cell? ⟨(ad110.add ((x7_1).toNat * 3)).block, (ad110.add ((x7_1).toNat * 3)).off + 1, none⟩ = some (.string ((Qap l1 x7_1).f0.f1)) ∧ w'.cell? ⟨(ad110.add ((x7_1).toNat * 3)).block, (ad110.add ((x7_1).toNat * 3)).off + 2, none⟩ = some (.string ((Qap l1 x7_1).f1))) (ds := []) #[ff,ff,ff,ff,ff,ff,ff,ff,ff,ff,ff] (by kernel_rfl) rfl rfl ⟨(Qaj BK101.out 0).trans rfl, (Qaj BK101.out 1).trans rfl, (Qaj BK101.out 2).trans rfl, (Qaj BK101.out 3).trans rfl, (Qaj BK101.out 4).trans rfl, (Qaj BK101.out 5).trans rfl, (Qaj BK101.out 6).trans rfl, (Qaj BK101.out 7).trans rfl, (Qaj BK101.out 8).trans rfl, ((HB.out.cell (World.block_lt_of_cell? w _ hw110_0)).trans hw110_0), ((HB.out.cell (World.block_lt_of_cell? w _ hw110_1)).trans hw110_1), ((HB.out.cell (World.block_lt_of_cell? w _ hw110_2)).trans hw110_2)⟩ (fun hHeld => ?_); refine with_tabW Qae.tab9 Qae.bits9 (fun HT_ HW_ => ?_)
              generalize wc.drew = w45 at HO_6 BK101 BK104 HB hx110_0 hx110_1 hx110_2 hHeld ⊢
              refine QaI (i := 0) (N := some 45) (v := ?_) (a' := ?_) #[tt,ff,ff,ff,ff,ff,ff,ff,ff,ff,ff] rfl rfl (QaA HT_.out (by kernel_rfl)) (fun _ _ _ h => h) (Or.inl ⟨by rfl, ?_⟩) ?_ ?_; rotate_left
              ·intro w'; go_simp; (with_reducible rfl)
              rotate_left
              ·simp only [Act.put, put_, Qax, Qaz]; rfl
              refine QaI (i := 1) (N := some 46) (v := ?_) (a' := ?_) #[tt,tt,ff,ff,ff,ff,ff,ff,ff,ff,ff] rfl rfl (QaA HT_.out (by kernel_rfl)) (fun _ _ _ h => h) (Or.inl ⟨by rfl, ?_⟩) ?_ ?_; rotate_left
              ·intro w'; go_simp; (with_reducible rfl)
              rotate_left
              ·simp only [Act.put, put_, Qax, Qaz]; rfl
              refine QaI (i := 3) (N := some 48) (v := ?_) (a' := ?_) #[tt,tt,ff,tt,ff,ff,ff,ff,ff,ff,ff] rfl rfl (QaA HT_.out (by kernel_rfl)) (fun _ _ _ h => h) (Or.inl ⟨by rfl, ?_⟩) ?_ ?_; rotate_left
              ·intro w'; go_simp; (with_reducible rfl)
              rotate_left
              ·simp only [Act.put, put_, Qax, Qaz]; rfl
              refine QaI (i := 4) (N := some 49) (v := ?_) (a' := ?_) #[tt,tt,ff,tt,tt,ff,ff,ff,ff,ff,ff] rfl rfl (QaA HT_.out (by kernel_rfl)) (fun _ _ _ h => h) (Or.inl ⟨by rfl, ?_⟩) ?_ ?_; rotate_left
              ·intro w'; go_simp; (with_reducible rfl)
              rotate_left
              ·simp only [Act.put, put_, Qax, Qaz]; rfl
              refine QaI (i := 5) (N := some 50) (v := ?_) (a' := ?_) #[tt,tt,ff,tt,tt,tt,ff,ff,ff,ff,ff] rfl rfl (QaA HT_.out (by kernel_rfl)) (fun _ _ _ h => h) (Or.inl ⟨by rfl, ?_⟩) ?_ ?_; rotate_left
              ·intro w'; go_simp; (with_reducible rfl)
              rotate_left
              ·simp only [Act.put, put_, Qax, Qaz]; rfl
              refine QaI (i := 6) (N := some 51) (v := ?_) (a' := ?_) #[tt,tt,ff,tt,tt,tt,tt,ff,ff,ff,ff] rfl rfl (QaA HT_.out (by kernel_rfl)) (fun _ _ _ h => h) (Or.inl ⟨by rfl, ?_⟩) ?_ ?_; rotate_left
              ·intro w'; go_simp; (with_reducible rfl)
              rotate_left
              ·simp only [Act.put, put_, Qax, Qaz]; rfl
              refine take_ (i := 2) (N := some 47) (v := ?_) (a' := ?_) #[tt,tt,tt,tt,tt,tt,tt,ff,ff,ff,ff] rfl rfl (take_ofW HT_.out HW_.out (by kernel_rfl)) (fun _ _ _ h => h) (Or.inl ⟨by rfl, ?_⟩) hHeld ?_ ?_; rotate_left
              ·rintro w' ⟨s0, s1, s2, s3, s4, s5, s6, s7, s8, s9, s10, s11⟩; go_simp; (with_reducible rfl)
              rotate_left
              ·simp only [Act.put, put_, Qax, Qaz]; rfl
              refine take_ (i := 7) (N := some 52) (v := ?_) (a' := ?_) #[tt,tt,tt,tt,tt,tt,tt,tt,ff,ff,ff] rfl rfl (take_ofW HT_.out HW_.out (by kernel_rfl)) (fun _ _ _ h => h) (Or.inl ⟨by rfl, ?_⟩) hHeld ?_ ?_; rotate_left
              ·rintro w' ⟨s0, s1, s2, s3, s4, s5, s6, s7, s8, s9, s10, s11⟩; go_simp; (with_reducible rfl)
              rotate_left
              ·simp only [Act.put, put_, Qax, Qaz]; rfl
              refine QaI (i := 8) (N := some 53) (v := ?_) (a' := ?_) #[tt,tt,tt,tt,tt,tt,tt,tt,tt,ff,ff] rfl rfl (QaA HT_.out (by kernel_rfl)) (fun _ _ _ h => h) (Or.inl ⟨by rfl, ?_⟩) ?_ ?_; rotate_left
              ·intro w'; go_simp; (with_reducible rfl)
              rotate_left
              ·simp only [Act.put, put_, Qax, Qaz]; rfl
              refine one_ (i := 9) (N := some 54) #[tt,tt,tt,tt,tt,tt,tt,tt,tt,tt,ff] rfl rfl (one_of HT_.out (by kernel_rfl)) (by decide) (fun K hK => ?_); refine goes_ Tryz.func19 (by kernel_rfl) rfl #[.slice (some ad110) l1.length c1, .agg #[.string a0_7, .string a0_8, .string ((Qap l1 x7_1).f1)]] (by rfl) rfl rfl (by (try simp only [List.map_toArray, List.map_cons, List.map_nil]); first | done | rfl | (simp only [List.length_drop, List.length_take]; rfl)) ?_
              with_reducible refine (QaP.calls kj21 _ _ l1 a0_7 a0_8 ((Qap l1 x7_1).f1) true _ ?side1 ?side2 A34.out).mono ?_
              (case side1 => repeat (first | exact (Kd.C_below HR1.out HB.out) | (with_reducible refine Kd.C_alloc ?_ _) | (with_reducible refine Kd.C_drewN ?_ _) | (with_reducible refine Kd.C_drew ?_)))
              (case side2 => exact HC1.out)
              rintro e w46 ⟨rfl, hb⟩; refine ⟨_, rfl, ?_⟩; have n0_ := Qad.mk (Kd.R_below (by (with_reducible repeat (first | apply Kd.Qaw | apply Kd.Qay | apply Kd.QaE)); exact HO_6.out) hb); have n1_ := Qad.mk (Qal (g := gb101) (o := Qau a0_0 a0_1 a0_2 a0_3 a0_4 a0_5 a0_6 a0_7 a0_8 42) (by (with_reducible repeat (first | refine Qag ?_ _ | refine Qah ?_ | refine Qaf ?_ _)); exact BK101.out) hb); have n2_ := Qad.mk (Qal (g := gb104) (o := ob_ss t102 t103 24) (by (with_reducible repeat (first | refine Qag ?_ _ | refine Qah ?_ | refine Qaf ?_ _)); exact BK104.out) hb); have n3_ := Qad.mk (Qak (by repeat (first | (with_reducible first | exact HB.out | apply Qab | apply Qaa | apply Qac | refine Qai ?_ GE101.out | refine Qai ?_ GE104.out) | exact HB.out)) hb); clear HO_6; clear BK101; clear BK104; clear HB; have HO_6 := n0_; have BK101 := n1_; have BK104 := n2_; have HB := n3_; clear n0_ n1_ n2_ n3_
              (try clear hb)
              (try clear hb2)
              (try clear hk)
              (try clear hi)
              refine hK.out _ _ ⟨(Qaj BK101.out 0).trans rfl, (Qaj BK101.out 1).trans rfl, (Qaj BK101.out 2).trans rfl, (Qaj BK101.out 3).trans rfl, (Qaj BK101.out 4).trans rfl, (Qaj BK101.out 5).trans rfl, (Qaj BK101.out 6).trans rfl, (Qaj BK101.out 7).trans rfl, (Qaj BK101.out 8).trans rfl, ((HB.out.cell (World.block_lt_of_cell? w _ hw110_0)).trans hw110_0), ((HB.out.cell (World.block_lt_of_cell? w _ hw110_1)).trans hw110_1), ((HB.out.cell (World.block_lt_of_cell? w _ hw110_2)).trans hw110_2)⟩ (fun hHeld => ?_); clear hK K; refine norm_ (a' := ?_) ?_ ?_; rotate_left
              ·show Act.put _ (some 54) _ = _
               simp only [Act.put, put_, Qax, Qaz]; rfl
              refine QaI (i := 10) (N := some 8) (v := ?_) (a' := ?_) #[tt,tt,tt,tt,tt,tt,tt,tt,tt,tt,tt] rfl rfl (QaA HT_.out (by kernel_rfl)) (fun _ _ _ h => h) (Or.inl ⟨by rfl, ?_⟩) ?_ ?_; rotate_left
              ·intro w'; go_simp; (with_reducible rfl)
              rotate_left
              ·simp only [Act.put, put_, Qax, Qaz]; rfl
              refine done_ (done_of HT_.out (by kernel_rfl)) ?_; have hnb47 := NB101_104.out; have hnc47 := NB104_101.out; obtain ⟨hcz48_0, hcz48_1, hcz48_2, hcz48_3, hcz48_4, hcz48_5, hcz48_6, hcz48_7, hcz48_8⟩ := cz_iisisssss BK101.out; obtain ⟨hfz48_0, hfz48_1, hfz48_2, hfz48_3, hfz48_4, hfz48_5, hfz48_6, hfz48_7, hfz48_8⟩ := fz_9 BK101.out
              try go_wp2
              have n0_ := Qad.mk (Kd.QaE HO_6.out); have n1_ := Qad.mk (Qah BK101.out); have n2_ := Qad.mk (Qah BK104.out); have n3_ := Qad.mk (Qac HB.out); clear HO_6; clear BK101; clear BK104; clear HB; have HO_6 := n0_; have BK101 := n1_; have BK104 := n2_; have HB := n3_; clear n0_ n1_ n2_ n3_; have p116 : 0 ≤ (x7_1 : Int) := of_decide_eq_true (by first | (with_reducible assumption) | assumption); have q116 : x7_1 < (l1.length : Int) := of_decide_eq_true (by first | (with_reducible assumption) | assumption); obtain ⟨ad116, e116, hx116_0, hx116_1, hx116_2⟩ := at_T56 HR1.out x7_1 p116 q116; have hw116_2 := hx116_2; have hw116_1 := hx116_1; have hw116_0 := hx116_0
              obtain rfl : ad110 = ad116 := (by injection e116)
              replace hx116_0 := (HB.out.cell (World.block_lt_of_cell? w _ hx116_0)).trans hx116_0; replace hx116_1 := (HB.out.cell (World.block_lt_of_cell? w _ hx116_1)).trans hx116_1; replace hx116_2 := (HB.out.cell (World.block_lt_of_cell? w _ hx116_2)).trans hx116_2; replace p116 := eq_true p116; replace q116 := eq_true q116; refine start_ (n := 11) (S := fun w' => w'.cell? ⟨gb104, 0, none⟩ = some (.string t102) ∧ w'.cell? ⟨gb104, 1, none⟩ = some (.string t103) ∧ w'.cell? (ad110.add ((x7_1).toNat * 3)) = some (.string ((Qap l1 x7_1).f0.f0)) ∧ w'.cell? ⟨(ad110.add ((x7_1).toNat * 3)).block, (ad110.add ((x7_1).toNat * 3)).off + 1, none⟩ = some (.string ((Qap l1 x7_1).f0.f1)) ∧ w'.cell? ⟨(ad110.add ((x7_1).toNat * 3)).block, (ad110.add ((x7_1).toNat * 3)).off + 2, none⟩ = some (.string ((Qap l1 x7_1).f1))) (ds := []) #[ff,ff,ff,ff,ff,ff,ff,ff,ff,ff,ff] (by kernel_rfl) rfl rfl ⟨(Qaj BK104.out 0).trans rfl, (Qaj BK104.out 1).trans rfl, ((HB.out.cell (World.block_lt_of_cell? w _ hw116_0)).trans hw116_0), ((HB.out.cell (World.block_lt_of_cell? w _ hw116_1)).trans hw116_1), ((HB.out.cell (World.block_lt_of_cell? w _ hw116_2)).trans hw116_2)⟩ (fun hHeld => ?_); refine with_tabW Qae.tab11 Qae.bits11 (fun HT_ HW_ => ?_)
              generalize w46.drew = w49 at HO_6 BK101 BK104 HB hx116_0 hx116_1 hx116_2 hHeld ⊢
              refine QaI (i := 0) (N := some 61) (v := ?_) (a' := ?_) #[tt,ff,ff,ff,ff,ff,ff,ff,ff,ff,ff] rfl rfl (QaA HT_.out (by kernel_rfl)) (fun _ _ _ h => h) (Or.inl ⟨by rfl, ?_⟩) ?_ ?_; rotate_left
              ·intro w'; go_simp; (with_reducible rfl)
              rotate_left
              ·simp only [Act.put, put_, Qax, Qaz]; rfl
              refine QaI (i := 2) (N := some 63) (v := ?_) (a' := ?_) #[tt,ff,tt,ff,ff,ff,ff,ff,ff,ff,ff] rfl rfl (QaA HT_.out (by kernel_rfl)) (fun _ _ _ h => h) (Or.inl ⟨by rfl, ?_⟩) ?_ ?_; rotate_left
              ·intro w'; go_simp; (with_reducible rfl)
              rotate_left
              ·simp only [Act.put, put_, Qax, Qaz]; rfl
              refine QaI (i := 3) (N := some 64) (v := ?_) (a' := ?_) #[tt,ff,tt,tt,ff,ff,ff,ff,ff,ff,ff] rfl rfl (QaA HT_.out (by kernel_rfl)) (fun _ _ _ h => h) (Or.inl ⟨by rfl, ?_⟩) ?_ ?_; rotate_left
              ·intro w'; go_simp; (with_reducible rfl)
              rotate_left
              ·simp only [Act.put, put_, Qax, Qaz]; rfl
              refine QaI (i := 4) (N := some 65) (v := ?_) (a' := ?_) #[tt,ff,tt,tt,tt,ff,ff,ff,ff,ff,ff] rfl rfl (QaA HT_.out (by kernel_rfl)) (fun _ _ _ h => h) (Or.inl ⟨by rfl, ?_⟩) ?_ ?_; rotate_left
              ·intro w'; go_simp; (with_reducible rfl)
              rotate_left
              ·simp only [Act.put, put_, Qax, Qaz]; rfl
              refine QaI (i := 5) (N := some 66) (v := ?_) (a' := ?_) #[tt,ff,tt,tt,tt,tt,ff,ff,ff,ff,ff] rfl rfl (QaA HT_.out (by kernel_rfl)) (fun _ _ _ h => h) (Or.inl ⟨by rfl, ?_⟩) ?_ ?_; rotate_left
              ·intro w'; go_simp; (with_reducible rfl)
              rotate_left
              ·simp only [Act.put, put_, Qax, Qaz]; rfl
              refine take_ (i := 1) (N := some 62) (v := ?_) (a' := ?_) #[tt,tt,tt,tt,tt,tt,ff,ff,ff,ff,ff] rfl rfl (take_ofW HT_.out HW_.out (by kernel_rfl)) (fun _ _ _ h => h) (Or.inl ⟨by rfl, ?_⟩) hHeld ?_ ?_; rotate_left
              ·rintro w' ⟨s0, s1, s2, s3, s4⟩; go_simp; (with_reducible rfl)
              rotate_left
              ·simp only [Act.put, put_, Qax, Qaz]; rfl
              refine take_ (i := 6) (N := some 67) (v := ?_) (a' := ?_) #[tt,tt,tt,tt,tt,tt,tt,ff,ff,ff,ff] rfl rfl (take_ofW HT_.out HW_.out (by kernel_rfl)) (fun _ _ _ h => h) (Or.inl ⟨by rfl, ?_⟩) hHeld ?_ ?_; rotate_left
              ·rintro w' ⟨s0, s1, s2, s3, s4⟩; go_simp; (with_reducible rfl)
              rotate_left
              ·simp only [Act.put, put_, Qax, Qaz]; rfl
              refine QaI (i := 7) (N := some 68) (v := ?_) (a' := ?_) #[tt,tt,tt,tt,tt,tt,tt,tt,ff,ff,ff] rfl rfl (QaA HT_.out (by kernel_rfl)) (fun _ _ _ h => h) (Or.inl ⟨by rfl, ?_⟩) ?_ ?_; rotate_left
              ·intro w'; go_simp; (with_reducible rfl)
              rotate_left
              ·simp only [Act.put, put_, Qax, Qaz]; rfl
              refine one_ (i := 8) (N := some 69) #[tt,tt,tt,tt,tt,tt,tt,tt,tt,ff,ff] rfl rfl (one_of HT_.out (by kernel_rfl)) (by decide) (fun K hK => ?_); refine value_ (w1 := ?_) (v := ?_) (by rfl) rfl ?_ ?_; rotate_left 2
              ·go_simp; constructor
               ·rfl
               ·rfl
              refine hK.out _ _ ⟨(Qaj (Qaf BK104.out _) 0).trans rfl, (Qaj (Qaf BK104.out _) 1).trans rfl, (World.cell?_alloc_lt _ _ _ (World.block_lt_of_cell? _ _ (((HB.out.cell (World.block_lt_of_cell? w _ hw116_0)).trans hw116_0)))).trans (((HB.out.cell (World.block_lt_of_cell? w _ hw116_0)).trans hw116_0)), (World.cell?_alloc_lt _ _ _ (World.block_lt_of_cell? _ _ (((HB.out.cell (World.block_lt_of_cell? w _ hw116_1)).trans hw116_1)))).trans (((HB.out.cell (World.block_lt_of_cell? w _ hw116_1)).trans hw116_1)), (World.cell?_alloc_lt _ _ _ (World.block_lt_of_cell? _ _ (((HB.out.cell (World.block_lt_of_cell? w _ hw116_2)).trans hw116_2)))).trans (((HB.out.cell (World.block_lt_of_cell? w _ hw116_2)).trans hw116_2))⟩ (fun hHeld => ?_); clear hK K; refine norm_ (a' := ?_) ?_ ?_; rotate_left
              ·show Act.put _ (some 69) _ = _
               simp only [Act.put, put_, Qax, Qaz]; rfl
              refine one_ (i := 9) (N := some 70) #[tt,tt,tt,tt,tt,tt,tt,tt,tt,tt,ff] rfl rfl (one_of HT_.out (by kernel_rfl)) (by decide) (fun K hK => ?_); refine Kd.R_append_step k56 (w0 := w) w.heap.size (by rfl) (.tmp 61) (.tmp 69) 54 56 (.agg #[(.string ⟨#[]⟩), (.string ⟨#[]⟩), (.string ⟨#[]⟩)]) 48 rfl Tryz.underlying54 info56 rfl (by decide) (by omega) u6 x6_1 (⟨(⟨t102, t103⟩ : S24), (Qap l1 x7_1).f1⟩ : S56) [.string t102, .string t103, .string ((Qap l1 x7_1).f1)] (fun _ => True) (fun _ => False) rfl rfl ?aP (fun _ hk => hk.elim) ?aF ?aO ?aB ?aS ?aL ?_
              (case aP => exact k56_mkM _ _ _ (⟨(⟨t102, t103⟩ : S24), (Qap l1 x7_1).f1⟩ : S56))
              (case aB => exact (by repeat (first | (with_reducible first | exact HB.out | apply Qab | apply Qaa | apply Qac | refine Qai ?_ GE101.out | refine Qai ?_ GE104.out) | exact HB.out)))
              (case aF => exact (fun _ _ => trivial))
              (case aO => exact (by (with_reducible repeat (first | apply Kd.Qaw | apply Kd.Qay | apply Kd.QaE)); exact HO_6.out))
              (case aS => exact (Qas (by repeat (first | (with_reducible first | exact HB.out | apply Qab | apply Qaa | apply Qac | refine Qai ?_ GE101.out | refine Qai ?_ GE104.out) | exact HB.out))))
              (case aL => have := LMc44.out; omega)
              intro v118 w50 ho hb hg hat
              rw [← Ny117.out] at ho; have n0_ := Qad.mk (blk_grown (g := gb101) (o := Qau a0_0 a0_1 a0_2 a0_3 a0_4 a0_5 a0_6 a0_7 a0_8 42) (by (with_reducible repeat (first | refine Qag ?_ _ | refine Qah ?_ | refine Qaf ?_ _)); exact BK101.out) hg (Kd.R_ne HO_6.out BK101.out (by decide))); have n1_ := Qad.mk (blk_grown (g := gb104) (o := ob_ss t102 t103 24) (by (with_reducible repeat (first | refine Qag ?_ _ | refine Qah ?_ | refine Qaf ?_ _)); exact BK104.out) hg (Kd.R_ne HO_6.out BK104.out (by decide))); have n2_ := Qad.mk (hb); have n3_ := Qad.mk (ho); clear BK101; clear BK104; clear HB; clear HO_6; have BK101 := n0_; have BK104 := n1_; have HB := n2_; have HO119 := n3_; clear n0_ n1_ n2_ n3_
              clear ho hb hg hat
              refine hK.out _ _ ⟨(Qaj BK104.out 0).trans rfl, (Qaj BK104.out 1).trans rfl, ((HB.out.cell (World.block_lt_of_cell? w _ hw116_0)).trans hw116_0), ((HB.out.cell (World.block_lt_of_cell? w _ hw116_1)).trans hw116_1), ((HB.out.cell (World.block_lt_of_cell? w _ hw116_2)).trans hw116_2)⟩ (fun hHeld => ?_); clear hK K; refine norm_ (a' := ?_) ?_ ?_; rotate_left
              ·show Act.put _ (some 70) _ = _
               simp only [Act.put, put_, Qax, Qaz]; rfl
              refine QaI (i := 10) (N := some 6) (v := ?_) (a' := ?_) #[tt,tt,tt,tt,tt,tt,tt,tt,tt,tt,tt] rfl rfl (QaA HT_.out (by kernel_rfl)) (fun _ _ _ h => h) (Or.inl ⟨by rfl, ?_⟩) ?_ ?_; rotate_left
              ·intro w'; go_simp; (with_reducible rfl)
              rotate_left
              ·simp only [Act.put, put_, Qax, Qaz]; rfl
              refine done_ (done_of HT_.out (by kernel_rfl)) ?_
              try go_wp2
              go_meet
              case rel => exact ⟨_, (y117), H', ⟨by have := HK1.out; have := HJ21.out; first | omega | exact Nat.le_refl _⟩, ⟨by (with_reducible repeat (first | apply Kd.Qaw | apply Kd.Qay | apply Kd.QaE)); exact HO119.out⟩, ⟨by (with_reducible repeat (first | refine Qag ?_ _ | refine Qah ?_ | refine Qaf ?_ _)); exact BK101.out⟩, ⟨by (with_reducible repeat (first | refine Qag ?_ _ | refine Qah ?_ | refine Qaf ?_ _)); exact BK104.out⟩, ⟨by repeat (first | (with_reducible first | exact HB.out | apply Qab | apply Qaa | apply Qac | refine Qai ?_ GE101.out | refine Qai ?_ GE104.out) | exact HB.out)⟩⟩
             ·rw [if_neg c44] at H; exact absurd H (by simp)
            ·replace c43 := Bool.eq_false_iff.mpr c43; subst c43
             have H1 : (Qae.j2 kj21 l1 x6_1 x7_1 a0_0 a0_1 a0_2 a0_3 a0_4 a0_5 a0_6 a0_7 a0_8 t102 t103) = some r := by rw [if_neg (show ¬ (false = true) by decide)] at H; exact H
             clear H; have H := H1; clear H1; have H' := Qad.mk H; clear H
             try go_wp2
             have n0_ := Qad.mk (Kd.QaE HO_6.out); have n1_ := Qad.mk (Qah BK101.out); have n2_ := Qad.mk (Qah BK104.out); have n3_ := Qad.mk (Qac HB.out); clear HO_6; clear BK101; clear BK104; clear HB; have HO_6 := n0_; have BK101 := n1_; have BK104 := n2_; have HB := n3_; clear n0_ n1_ n2_ n3_; have p110 : 0 ≤ (x7_1 : Int) := of_decide_eq_true (by first | (with_reducible assumption) | assumption); have q110 : x7_1 < (l1.length : Int) := of_decide_eq_true (by first | (with_reducible assumption) | assumption); obtain ⟨ad110, e110, hx110_0, hx110_1, hx110_2⟩ := at_T56 HR1.out x7_1 p110 q110; have hw110_2 := hx110_2; have hw110_1 := hx110_1; have hw110_0 := hx110_0; cases e110; replace hx110_0 := (HB.out.cell (World.block_lt_of_cell? w _ hx110_0)).trans hx110_0; replace hx110_1 := (HB.out.cell (World.block_lt_of_cell? w _ hx110_1)).trans hx110_1; replace hx110_2 := (HB.out.cell (World.block_lt_of_cell? w _ hx110_2)).trans hx110_2; replace p110 := eq_true p110; replace q110 := eq_true q110; refine start_ (n := 11) (S := fun w' => w'.cell? ⟨gb101, 0, none⟩ = some (.int .i64 a0_0) ∧ w'.cell? ⟨gb101, 1, none⟩ = some (.int .i64 a0_1) ∧ w'.cell? ⟨gb101, 2, none⟩ = some (.string a0_2) ∧ w'.cell? ⟨gb101, 3, none⟩ = some (.int .i64 a0_3) ∧ w'.cell? ⟨gb101, 4, none⟩ = some (.string a0_4) ∧ w'.cell? ⟨gb101, 5, none⟩ = some (.string a0_5) ∧ w'.cell? ⟨gb101, 6, none⟩ = some (.string a0_6) ∧ w'.cell? ⟨gb101, 7, none⟩ = some (.string a0_7) ∧ w'.cell? ⟨gb101, 8, none⟩ = some (.string a0_8) ∧ w'.cell? (ad110.add ((x7_1).toNat * 3)) = some (.string ((Qap l1 x7_1).f0.f0)) ∧ w'.cell? ⟨(ad110.add ((x7_1).toNat * 3)).block, (ad110.add ((x7_1).toNat * 3)).off + 1, none⟩ = some (.string ((Qap l1 x7_1).f0.f1)) ∧ w'.cell? ⟨(ad110.add ((x7_1).toNat * 3)).block, (ad110.add ((x7_1).toNat * 3)).off + 2, none⟩ = some (.string ((Qap l1 x7_1).f1))) (ds := []) #[ff,ff,ff,ff,ff,ff,ff,ff,ff,ff,ff] (by kernel_rfl) rfl rfl ⟨(Qaj BK101.out 0).trans rfl, (Qaj BK101.out 1).trans rfl, (Qaj BK101.out 2).trans rfl, (Qaj BK101.out 3).trans rfl, (Qaj BK101.out 4).trans rfl, (Qaj BK101.out 5).trans rfl, (Qaj BK101.out 6).trans rfl, (Qaj BK101.out 7).trans rfl, (Qaj BK101.out 8).trans rfl, ((HB.out.cell (World.block_lt_of_cell? w _ hw110_0)).trans hw110_0), ((HB.out.cell (World.block_lt_of_cell? w _ hw110_1)).trans hw110_1), ((HB.out.cell (World.block_lt_of_cell? w _ hw110_2)).trans hw110_2)⟩ (fun hHeld => ?_); refine with_tabW Qae.tab9 Qae.bits9 (fun HT_ HW_ => ?_)
             generalize wc.drew = w51 at HO_6 BK101 BK104 HB hx110_0 hx110_1 hx110_2 hHeld ⊢
             refine QaI (i := 0) (N := some 45) (v := ?_) (a' := ?_) #[tt,ff,ff,ff,ff,ff,ff,ff,ff,ff,ff] rfl rfl (QaA HT_.out (by kernel_rfl)) (fun _ _ _ h => h) (Or.inl ⟨by rfl, ?_⟩) ?_ ?_; rotate_left
             ·intro w'; go_simp; (with_reducible rfl)
             rotate_left
             ·simp only [Act.put, put_, Qax, Qaz]; rfl
             refine QaI (i := 1) (N := some 46) (v := ?_) (a' := ?_) #[tt,tt,ff,ff,ff,ff,ff,ff,ff,ff,ff] rfl rfl (QaA HT_.out (by kernel_rfl)) (fun _ _ _ h => h) (Or.inl ⟨by rfl, ?_⟩) ?_ ?_; rotate_left
             ·intro w'; go_simp; (with_reducible rfl)
             rotate_left
             ·simp only [Act.put, put_, Qax, Qaz]; rfl
             refine QaI (i := 3) (N := some 48) (v := ?_) (a' := ?_) #[tt,tt,ff,tt,ff,ff,ff,ff,ff,ff,ff] rfl rfl (QaA HT_.out (by kernel_rfl)) (fun _ _ _ h => h) (Or.inl ⟨by rfl, ?_⟩) ?_ ?_; rotate_left
             ·intro w'; go_simp; (with_reducible rfl)
             rotate_left
             ·simp only [Act.put, put_, Qax, Qaz]; rfl
             refine QaI (i := 4) (N := some 49) (v := ?_) (a' := ?_) #[tt,tt,ff,tt,tt,ff,ff,ff,ff,ff,ff] rfl rfl (QaA HT_.out (by kernel_rfl)) (fun _ _ _ h => h) (Or.inl ⟨by rfl, ?_⟩) ?_ ?_; rotate_left
             ·intro w'; go_simp; (with_reducible rfl)
             rotate_left
             ·simp only [Act.put, put_, Qax, Qaz]; rfl
             refine QaI (i := 5) (N := some 50) (v := ?_) (a' := ?_) #[tt,tt,ff,tt,tt,tt,ff,ff,ff,ff,ff] rfl rfl (QaA HT_.out (by kernel_rfl)) (fun _ _ _ h => h) (Or.inl ⟨by rfl, ?_⟩) ?_ ?_; rotate_left
             ·intro w'; go_simp; (with_reducible rfl)
             rotate_left
             ·simp only [Act.put, put_, Qax, Qaz]; rfl
             refine QaI (i := 6) (N := some 51) (v := ?_) (a' := ?_) #[tt,tt,ff,tt,tt,tt,tt,ff,ff,ff,ff] rfl rfl (QaA HT_.out (by kernel_rfl)) (fun _ _ _ h => h) (Or.inl ⟨by rfl, ?_⟩) ?_ ?_; rotate_left
             ·intro w'; go_simp; (with_reducible rfl)
             rotate_left
             ·simp only [Act.put, put_, Qax, Qaz]; rfl
             refine take_ (i := 2) (N := some 47) (v := ?_) (a' := ?_) #[tt,tt,tt,tt,tt,tt,tt,ff,ff,ff,ff] rfl rfl (take_ofW HT_.out HW_.out (by kernel_rfl)) (fun _ _ _ h => h) (Or.inl ⟨by rfl, ?_⟩) hHeld ?_ ?_; rotate_left
             ·rintro w' ⟨s0, s1, s2, s3, s4, s5, s6, s7, s8, s9, s10, s11⟩; go_simp; (with_reducible rfl)
             rotate_left
             ·simp only [Act.put, put_, Qax, Qaz]; rfl
             refine take_ (i := 7) (N := some 52) (v := ?_) (a' := ?_) #[tt,tt,tt,tt,tt,tt,tt,tt,ff,ff,ff] rfl rfl (take_ofW HT_.out HW_.out (by kernel_rfl)) (fun _ _ _ h => h) (Or.inl ⟨by rfl, ?_⟩) hHeld ?_ ?_; rotate_left
             ·rintro w' ⟨s0, s1, s2, s3, s4, s5, s6, s7, s8, s9, s10, s11⟩; go_simp; (with_reducible rfl)
             rotate_left
             ·simp only [Act.put, put_, Qax, Qaz]; rfl
             refine QaI (i := 8) (N := some 53) (v := ?_) (a' := ?_) #[tt,tt,tt,tt,tt,tt,tt,tt,tt,ff,ff] rfl rfl (QaA HT_.out (by kernel_rfl)) (fun _ _ _ h => h) (Or.inl ⟨by rfl, ?_⟩) ?_ ?_; rotate_left
             ·intro w'; go_simp; (with_reducible rfl)
             rotate_left
             ·simp only [Act.put, put_, Qax, Qaz]; rfl
             refine one_ (i := 9) (N := some 54) #[tt,tt,tt,tt,tt,tt,tt,tt,tt,tt,ff] rfl rfl (one_of HT_.out (by kernel_rfl)) (by decide) (fun K hK => ?_); refine goes_ Tryz.func19 (by kernel_rfl) rfl #[.slice (some ad110) l1.length c1, .agg #[.string a0_7, .string a0_8, .string ((Qap l1 x7_1).f1)]] (by rfl) rfl rfl (by (try simp only [List.map_toArray, List.map_cons, List.map_nil]); first | done | rfl | (simp only [List.length_drop, List.length_take]; rfl)) ?_
             with_reducible refine (QaP.calls kj21 _ _ l1 a0_7 a0_8 ((Qap l1 x7_1).f1) false _ ?side1 ?side2 A34.out).mono ?_
             (case side1 => repeat (first | exact (Kd.C_below HR1.out HB.out) | (with_reducible refine Kd.C_alloc ?_ _) | (with_reducible refine Kd.C_drewN ?_ _) | (with_reducible refine Kd.C_drew ?_)))
             (case side2 => exact HC1.out)
             rintro e w52 ⟨rfl, hb⟩; refine ⟨_, rfl, ?_⟩; have n0_ := Qad.mk (Kd.R_below (by (with_reducible repeat (first | apply Kd.Qaw | apply Kd.Qay | apply Kd.QaE)); exact HO_6.out) hb); have n1_ := Qad.mk (Qal (g := gb101) (o := Qau a0_0 a0_1 a0_2 a0_3 a0_4 a0_5 a0_6 a0_7 a0_8 42) (by (with_reducible repeat (first | refine Qag ?_ _ | refine Qah ?_ | refine Qaf ?_ _)); exact BK101.out) hb); have n2_ := Qad.mk (Qal (g := gb104) (o := ob_ss t102 t103 24) (by (with_reducible repeat (first | refine Qag ?_ _ | refine Qah ?_ | refine Qaf ?_ _)); exact BK104.out) hb); have n3_ := Qad.mk (Qak (by repeat (first | (with_reducible first | exact HB.out | apply Qab | apply Qaa | apply Qac | refine Qai ?_ GE101.out | refine Qai ?_ GE104.out) | exact HB.out)) hb); clear HO_6; clear BK101; clear BK104; clear HB; have HO_6 := n0_; have BK101 := n1_; have BK104 := n2_; have HB := n3_; clear n0_ n1_ n2_ n3_
             (try clear hb)
             (try clear hb2)
             (try clear hk)
             (try clear hi)
             refine hK.out _ _ ⟨(Qaj BK101.out 0).trans rfl, (Qaj BK101.out 1).trans rfl, (Qaj BK101.out 2).trans rfl, (Qaj BK101.out 3).trans rfl, (Qaj BK101.out 4).trans rfl, (Qaj BK101.out 5).trans rfl, (Qaj BK101.out 6).trans rfl, (Qaj BK101.out 7).trans rfl, (Qaj BK101.out 8).trans rfl, ((HB.out.cell (World.block_lt_of_cell? w _ hw110_0)).trans hw110_0), ((HB.out.cell (World.block_lt_of_cell? w _ hw110_1)).trans hw110_1), ((HB.out.cell (World.block_lt_of_cell? w _ hw110_2)).trans hw110_2)⟩ (fun hHeld => ?_); clear hK K; refine norm_ (a' := ?_) ?_ ?_; rotate_left
             ·show Act.put _ (some 54) _ = _
              simp only [Act.put, put_, Qax, Qaz]; rfl
             refine QaI (i := 10) (N := some 8) (v := ?_) (a' := ?_) #[tt,tt,tt,tt,tt,tt,tt,tt,tt,tt,tt] rfl rfl (QaA HT_.out (by kernel_rfl)) (fun _ _ _ h => h) (Or.inl ⟨by rfl, ?_⟩) ?_ ?_; rotate_left
             ·intro w'; go_simp; (with_reducible rfl)
             rotate_left
             ·simp only [Act.put, put_, Qax, Qaz]; rfl
             refine done_ (done_of HT_.out (by kernel_rfl)) ?_; have hnb53 := NB101_104.out; have hnc53 := NB104_101.out; obtain ⟨hcz54_0, hcz54_1, hcz54_2, hcz54_3, hcz54_4, hcz54_5, hcz54_6, hcz54_7, hcz54_8⟩ := cz_iisisssss BK101.out; obtain ⟨hfz54_0, hfz54_1, hfz54_2, hfz54_3, hfz54_4, hfz54_5, hfz54_6, hfz54_7, hfz54_8⟩ := fz_9 BK101.out
             try go_wp2
             go_meet
             case rel => exact ⟨_, (x6_1), H', ⟨by have := HK1.out; have := HJ21.out; first | omega | exact Nat.le_refl _⟩, ⟨by (with_reducible repeat (first | apply Kd.Qaw | apply Kd.Qay | apply Kd.QaE)); exact HO_6.out⟩, ⟨by (with_reducible repeat (first | refine Qag ?_ _ | refine Qah ?_ | refine Qaf ?_ _)); exact BK101.out⟩, ⟨by (with_reducible repeat (first | refine Qag ?_ _ | refine Qah ?_ | refine Qaf ?_ _)); exact BK104.out⟩, ⟨by repeat (first | (with_reducible first | exact HB.out | apply Qab | apply Qaa | apply Qac | refine Qai ?_ GE101.out | refine Qai ?_ GE104.out) | exact HB.out)⟩⟩
          ·rw [if_neg c33] at H; exact absurd H (by simp)
         ·rw [if_neg c32] at H; exact absurd H (by simp)
        ·replace c31 := Bool.eq_false_iff.mpr c31; subst c31
         have H1 : (Qae.j2 kj21 l1 x6_1 x7_1 a0_0 a0_1 a0_2 a0_3 a0_4 a0_5 a0_6 a0_7 a0_8 t102 t103) = some r := by rw [if_neg (show ¬ (false = true) by decide)] at H; exact H
         clear H; have H := H1; clear H1; have H' := Qad.mk H; clear H; go_wp2
         go_meet
         case rel => exact ⟨_, (x6_1), H', ⟨by have := HK1.out; have := HJ21.out; first | omega | exact Nat.le_refl _⟩, ⟨by (with_reducible repeat (first | apply Kd.Qaw | apply Kd.Qay | apply Kd.QaE)); exact HO_6.out⟩, ⟨by (with_reducible repeat (first | refine Qag ?_ _ | refine Qah ?_ | refine Qaf ?_ _)); exact BK101.out⟩, ⟨by (with_reducible repeat (first | refine Qag ?_ _ | refine Qah ?_ | refine Qaf ?_ _)); exact BK104.out⟩, ⟨by repeat (first | (with_reducible first | exact HB.out | apply Qab | apply Qaa | apply Qac | refine Qai ?_ GE101.out | refine Qai ?_ GE104.out) | exact HB.out)⟩⟩
       case rest =>
        clear HC30; (try clear c1); (try clear p1); (try clear q1); (try clear hx1); (try clear p2); (try clear c3); (try clear c4); (try clear c5); (try clear p11); (try clear q11); (try clear hx11); (try clear c19); (try clear c31); (try clear c32); (try clear c33); (try clear c35); (try clear c35b0); (try clear c35b1); (try clear c36); (try clear c43); (try clear c44); (try clear c47); (try clear c53); (try clear hcz48_0); (try clear hcz48_1); (try clear hcz48_2); (try clear hcz48_3); (try clear hcz48_4); (try clear hcz48_5); (try clear hcz48_6); (try clear hcz48_7); (try clear hcz48_8); (try clear hcz54_0); (try clear hcz54_1); (try clear hcz54_2); (try clear hcz54_3); (try clear hcz54_4); (try clear hcz54_5); (try clear hcz54_6); (try clear hcz54_7); (try clear hcz54_8); (try clear hfz48_0); (try clear hfz48_1); (try clear hfz48_2); (try clear hfz48_3); (try clear hfz48_4); (try clear hfz48_5); (try clear hfz48_6); (try clear hfz48_7); (try clear hfz48_8); (try clear hfz54_0); (try clear hfz54_1); (try clear hfz54_2); (try clear hfz54_3); (try clear hfz54_4); (try clear hfz54_5); (try clear hfz54_6); (try clear hfz54_7); (try clear hfz54_8); (try clear hx110_0); (try clear hx110_1); (try clear hx110_2); (try clear hx116_0); (try clear hx116_1); (try clear hx116_2); (try clear p110); (try clear p116); (try clear q110); (try clear q116); obtain ⟨kq, x6_29, HA, HJ29, HO_6, BK101, BK104, HB⟩ := hcut
        cases kq with
        | zero => exact absurd HA.out (by simp [Qae.j2])
        | succ kj29 =>
         have H := HA.out; clear HA; simp only [Qae.j2] at H; have HC55 := Qad.mk H; clear H
         go_upto_region 12 with (fail)
         go_cut [92] (fun v92 wc => ∃ (kq : Nat) (x92_54 : Bool), v92 = .bool x92_54 ∧ Qad (Qae.j3 kq l1 x6_29 x7_1 x92_54 a0_0 a0_1 a0_2 a0_3 a0_4 a0_5 a0_6 a0_7 a0_8 t102 t103 = some r) ∧ Qad (kq ≤ kj29) ∧ Qad (Kd.R k56 56 wc w.heap.size (fun _ => True) u6 x6_29) ∧ Qad (wc.heap[gb101]? = some (.cells #[.int .i64 a0_0, .int .i64 a0_1, .string a0_2, .int .i64 a0_3, .string a0_4, .string a0_5, .string a0_6, .string a0_7, .string a0_8] 42 (0, 0))) ∧ Qad (wc.heap[gb104]? = some (.cells #[.string t102, .string t103] 24 (0, 0))) ∧ Qad (Below w.heap.size w wc))
         case first =>
          have H := HC55.out; clear HC55
          by_cases c56 : a0_3 = 3
          ·rw [if_pos c56] at H; have c56b0 : (a0_3 == 3) = true := beq_iff_eq.mpr c56; have c56b1 : (a0_3 != 3) = false := bne_eq_false_iff_eq.mpr c56; clear c56
           (first | rw [c56b0] | (simp only [Qax, Qaz]; rw [c56b0]) | skip)
           by_cases c57 : 0 ≤ x7_1
           ·rw [if_pos c57] at H; have c57b0 : decide (0 ≤ x7_1) = true := decide_eq_true c57; clear c57
            by_cases c58 : x7_1 < (l1.length : Int)
            ·rw [if_pos c58] at H; have c58b0 : decide (x7_1 < (l1.length : Int)) = true := decide_eq_true c58; clear c58; replace H := Option.bind_eq_some_iff.mp H; obtain ⟨⟨t121, t122⟩, A590, H⟩ := H; replace H : (if ((((Qap l1 x7_1).f0.f0).toList) == t121.toList && ((((Qap l1 x7_1).f0.f1).toList) == t122.toList)) = true then ((Qat.f kj29 ((Qap l1 x7_1).f1)).bind fun t124 => (Qae.j3 kj29 l1 x6_29 x7_1 (decide (t124 > 0)) a0_0 a0_1 a0_2 a0_3 a0_4 a0_5 a0_6 a0_7 a0_8 t102 t103)) else (Qae.j3 kj29 l1 x6_29 x7_1 false a0_0 a0_1 a0_2 a0_3 a0_4 a0_5 a0_6 a0_7 a0_8 t102 t103)) = some r := H; have A59 := Qad.mk A590; clear A590
             by_cases c60 : ((((Qap l1 x7_1).f0.f0).toList) == t121.toList && ((((Qap l1 x7_1).f0.f1).toList) == t122.toList)) = true
             ·rw [if_pos c60] at H; have c60b0 : ((((Qap l1 x7_1).f0.f0).toList) == t121.toList && ((((Qap l1 x7_1).f0.f1).toList) == t122.toList)) = true := c60
              (try (have c60b1 : decide ((((Qap l1 x7_1).f0.f0).toList) = t121.toList && ((((Qap l1 x7_1).f0.f1).toList) == t122.toList)) = true := by simpa using c60))
              (try (have c60b2 : ((((Qap l1 x7_1).f0.f0).toList) == t121.toList && ((((Qap l1 x7_1).f0.f1).toList) == t122.toList)) = true := by simpa using c60))
              clear c60; replace H := Option.bind_eq_some_iff.mp H; obtain ⟨t124, A610, H⟩ := H; replace H : (Qae.j3 kj29 l1 x6_29 x7_1 (decide (t124 > 0)) a0_0 a0_1 a0_2 a0_3 a0_4 a0_5 a0_6 a0_7 a0_8 t102 t103) = some r := H; have A61 := Qad.mk A610; clear A610; have H' := Qad.mk H; clear H
              try go_wp2
              have n0_ := Qad.mk (Kd.QaE HO_6.out); have n1_ := Qad.mk (Qah BK101.out); have n2_ := Qad.mk (Qah BK104.out); have n3_ := Qad.mk (Qac HB.out); clear HO_6; clear BK101; clear BK104; clear HB; have HO_6 := n0_; have BK101 := n1_; have BK104 := n2_; have HB := n3_; clear n0_ n1_ n2_ n3_; have p120 : 0 ≤ (x7_1 : Int) := of_decide_eq_true (by first | (with_reducible assumption) | assumption); have q120 : x7_1 < (l1.length : Int) := of_decide_eq_true (by first | (with_reducible assumption) | assumption); obtain ⟨ad120, e120, hx120_0, hx120_1, hx120_2⟩ := at_T56 HR1.out x7_1 p120 q120; have hw120_2 := hx120_2; have hw120_1 := hx120_1; have hw120_0 := hx120_0; cases e120; replace hx120_0 := (HB.out.cell (World.block_lt_of_cell? w _ hx120_0)).trans hx120_0; replace hx120_1 := (HB.out.cell (World.block_lt_of_cell? w _ hx120_1)).trans hx120_1; replace hx120_2 := (HB.out.cell (World.block_lt_of_cell? w _ hx120_2)).trans hx120_2; replace p120 := eq_true p120; replace q120 := eq_true q120; have p123 : 0 ≤ (x7_1 : Int) := of_decide_eq_true (by first | (with_reducible assumption) | assumption); have q123 : x7_1 < (l1.length : Int) := of_decide_eq_true (by first | (with_reducible assumption) | assumption); obtain ⟨ad123, e123, hx123_0, hx123_1, hx123_2⟩ := at_T56 HR1.out x7_1 p123 q123; have hw123_2 := hx123_2; have hw123_1 := hx123_1; have hw123_0 := hx123_0
              obtain rfl : ad120 = ad123 := (by injection e123)
              replace hx123_0 := (HB.out.cell (World.block_lt_of_cell? w _ hx123_0)).trans hx123_0; replace hx123_1 := (HB.out.cell (World.block_lt_of_cell? w _ hx123_1)).trans hx123_1; replace hx123_2 := (HB.out.cell (World.block_lt_of_cell? w _ hx123_2)).trans hx123_2; replace p123 := eq_true p123; replace q123 := eq_true q123; refine start_ (n := 22) (S := fun w' => w'.cell? ⟨gb101, 0, none⟩ = some (.int .i64 a0_0) ∧ w'.cell? ⟨gb101, 1, none⟩ = some (.int .i64 a0_1) ∧ w'.cell? ⟨gb101, 2, none⟩ = some (.string a0_2) ∧ w'.cell? ⟨gb101, 3, none⟩ = some (.int .i64 a0_3) ∧ w'.cell? ⟨gb101, 4, none⟩ = some (.string a0_4) ∧ w'.cell? ⟨gb101, 5, none⟩ = some (.string a0_5) ∧ w'.cell? ⟨gb101, 6, none⟩ = some (.string a0_6) ∧ w'.cell? ⟨gb101, 7, none⟩ = some (.string a0_7) ∧ w'.cell? ⟨gb101, 8, none⟩ = some (.string a0_8) ∧ w'.cell? (ad120.add ((x7_1).toNat * 3)) = some (.string ((Qap l1 x7_1).f0.f0)) ∧ w'.cell? ⟨(ad120.add ((x7_1).toNat * 3)).block, (ad120.add ((x7_1).toNat * 3)).off + 1, none⟩ = some (.string ((Qap l1 x7_1).f0.f1)) ∧ w'.cell? ⟨(ad120.add ((x7_1).toNat * 3)).block, (ad120.add ((x7_1).toNat * 3)).off + 2, none⟩ = some (.string ((Qap l1 x7_1).f1)) ∧ w'.cell? (ad120.add ((x7_1).toNat * 3)) = some (.string ((Qap l1 x7_1).f0.f0)) ∧ w'.cell? ⟨(ad120.add ((x7_1).toNat * 3)).block, (ad120.add ((x7_1).toNat * 3)).off + 1, none⟩ = some (.string ((Qap l1 x7_1).f0.f1)) ∧ w'.cell? ⟨(ad120.add ((x7_1).toNat * 3)).block, (ad120.add ((x7_1).toNat * 3)).off + 2, none⟩ = some (.string ((Qap l1 x7_1).f1))) (ds := []) #[ff,ff,ff,ff,ff,ff,ff,ff,ff,ff,ff,ff,ff,ff,ff,ff,ff,ff,ff,ff,ff,ff] (by kernel_rfl) rfl rfl ⟨(Qaj BK101.out 0).trans rfl, (Qaj BK101.out 1).trans rfl, (Qaj BK101.out 2).trans rfl, (Qaj BK101.out 3).trans rfl, (Qaj BK101.out 4).trans rfl, (Qaj BK101.out 5).trans rfl, (Qaj BK101.out 6).trans rfl, (Qaj BK101.out 7).trans rfl, (Qaj BK101.out 8).trans rfl, ((HB.out.cell (World.block_lt_of_cell? w _ hw120_0)).trans hw120_0), ((HB.out.cell (World.block_lt_of_cell? w _ hw120_1)).trans hw120_1), ((HB.out.cell (World.block_lt_of_cell? w _ hw120_2)).trans hw120_2), ((HB.out.cell (World.block_lt_of_cell? w _ hw123_0)).trans hw123_0), ((HB.out.cell (World.block_lt_of_cell? w _ hw123_1)).trans hw123_1), ((HB.out.cell (World.block_lt_of_cell? w _ hw123_2)).trans hw123_2)⟩ (fun hHeld => ?_); refine with_tabW Qae.tab12 Qae.bits12 (fun HT_ HW_ => ?_)
              generalize wc.drew = w62 at HO_6 BK101 BK104 HB hx120_0 hx120_1 hx120_2 hx123_0 hx123_1 hx123_2 hHeld ⊢
              refine QaI (i := 0) (N := some 71) (v := ?_) (a' := ?_) #[tt,ff,ff,ff,ff,ff,ff,ff,ff,ff,ff,ff,ff,ff,ff,ff,ff,ff,ff,ff,ff,ff] rfl rfl (QaA HT_.out (by kernel_rfl)) (fun _ _ _ h => h) (Or.inl ⟨by rfl, ?_⟩) ?_ ?_; rotate_left
              ·intro w'; go_simp; (with_reducible rfl)
              rotate_left
              ·simp only [Act.put, put_, Qax, Qaz]; rfl
              refine take_ (i := 1) (N := some 72) (v := ?_) (a' := ?_) #[tt,tt,ff,ff,ff,ff,ff,ff,ff,ff,ff,ff,ff,ff,ff,ff,ff,ff,ff,ff,ff,ff] rfl rfl (take_ofW HT_.out HW_.out (by kernel_rfl)) (fun _ _ _ h => h) (Or.inl ⟨by rfl, ?_⟩) hHeld ?_ ?_; rotate_left
              ·rintro w' ⟨s0, s1, s2, s3, s4, s5, s6, s7, s8, s9, s10, s11, s12, s13, s14⟩; go_simp; (with_reducible rfl)
              rotate_left
              ·simp only [Act.put, put_, Qax, Qaz]; rfl
              refine QaI (i := 2) (N := some 73) (v := ?_) (a' := ?_) #[tt,tt,tt,ff,ff,ff,ff,ff,ff,ff,ff,ff,ff,ff,ff,ff,ff,ff,ff,ff,ff,ff] rfl rfl (QaA HT_.out (by kernel_rfl)) (fun _ _ _ h => h) (Or.inl ⟨by rfl, ?_⟩) ?_ ?_; rotate_left
              ·intro w'; go_simp; (with_reducible rfl)
              rotate_left
              ·simp only [Act.put, put_, Qax, Qaz]; rfl
              refine QaI (i := 3) (N := some 74) (v := ?_) (a' := ?_) #[tt,tt,tt,tt,ff,ff,ff,ff,ff,ff,ff,ff,ff,ff,ff,ff,ff,ff,ff,ff,ff,ff] rfl rfl (QaA HT_.out (by kernel_rfl)) (fun _ _ _ h => h) (Or.inl ⟨by rfl, ?_⟩) ?_ ?_; rotate_left
              ·intro w'; go_simp; (with_reducible rfl)
              rotate_left
              ·simp only [Act.put, put_, Qax, Qaz]; rfl
              refine QaI (i := 4) (N := some 75) (v := ?_) (a' := ?_) #[tt,tt,tt,tt,tt,ff,ff,ff,ff,ff,ff,ff,ff,ff,ff,ff,ff,ff,ff,ff,ff,ff] rfl rfl (QaA HT_.out (by kernel_rfl)) (fun _ _ _ h => h) (Or.inl ⟨by rfl, ?_⟩) ?_ ?_; rotate_left
              ·intro w'; go_simp; (with_reducible rfl)
              rotate_left
              ·simp only [Act.put, put_, Qax, Qaz]; rfl
              refine QaI (i := 5) (N := some 76) (v := ?_) (a' := ?_) #[tt,tt,tt,tt,tt,tt,ff,ff,ff,ff,ff,ff,ff,ff,ff,ff,ff,ff,ff,ff,ff,ff] rfl rfl (QaA HT_.out (by kernel_rfl)) (fun _ _ _ h => h) (Or.inl ⟨by rfl, ?_⟩) ?_ ?_; rotate_left
              ·intro w'; go_simp; (with_reducible rfl)
              rotate_left
              ·simp only [Act.put, put_, Qax, Qaz]; rfl
              refine QaI (i := 6) (N := some 77) (v := ?_) (a' := ?_) #[tt,tt,tt,tt,tt,tt,tt,ff,ff,ff,ff,ff,ff,ff,ff,ff,ff,ff,ff,ff,ff,ff] rfl rfl (QaA HT_.out (by kernel_rfl)) (fun _ _ _ h => h) (Or.inl ⟨by rfl, ?_⟩) ?_ ?_; rotate_left
              ·intro w'; go_simp; (with_reducible rfl)
              rotate_left
              ·simp only [Act.put, put_, Qax, Qaz]; rfl
              refine QaI (i := 7) (N := some 78) (v := ?_) (a' := ?_) #[tt,tt,tt,tt,tt,tt,tt,tt,ff,ff,ff,ff,ff,ff,ff,ff,ff,ff,ff,ff,ff,ff] rfl rfl (QaA HT_.out (by kernel_rfl)) (fun _ _ _ h => h) (Or.inl ⟨by rfl, ?_⟩) ?_ ?_; rotate_left
              ·intro w'; go_simp; (with_reducible rfl)
              rotate_left
              ·simp only [Act.put, put_, Qax, Qaz]; rfl
              refine take_ (i := 8) (N := some 79) (v := ?_) (a' := ?_) #[tt,tt,tt,tt,tt,tt,tt,tt,tt,ff,ff,ff,ff,ff,ff,ff,ff,ff,ff,ff,ff,ff] rfl rfl (take_ofW HT_.out HW_.out (by kernel_rfl)) (fun _ _ _ h => h) (Or.inl ⟨by rfl, ?_⟩) hHeld ?_ ?_; rotate_left
              ·rintro w' ⟨s0, s1, s2, s3, s4, s5, s6, s7, s8, s9, s10, s11, s12, s13, s14⟩; go_simp; (with_reducible rfl)
              rotate_left
              ·simp only [Act.put, put_, Qax, Qaz]; rfl
              refine take_ (i := 9) (N := some 80) (v := ?_) (a' := ?_) #[tt,tt,tt,tt,tt,tt,tt,tt,tt,tt,ff,ff,ff,ff,ff,ff,ff,ff,ff,ff,ff,ff] rfl rfl (take_ofW HT_.out HW_.out (by kernel_rfl)) (fun _ _ _ h => h) (Or.inl ⟨by rfl, ?_⟩) hHeld ?_ ?_; rotate_left
              ·rintro w' ⟨s0, s1, s2, s3, s4, s5, s6, s7, s8, s9, s10, s11, s12, s13, s14⟩; go_simp; (with_reducible rfl)
              rotate_left
              ·simp only [Act.put, put_, Qax, Qaz]; rfl
              refine one_ (i := 10) (N := some 81) #[tt,tt,tt,tt,tt,tt,tt,tt,tt,tt,tt,ff,ff,ff,ff,ff,ff,ff,ff,ff,ff,ff] rfl rfl (one_of HT_.out (by kernel_rfl)) (by decide) (fun K hK => ?_); refine goes_ Tryz.func81 (by kernel_rfl) rfl #[.agg #[.int .i64 a0_0, .int .i64 a0_1, .string a0_2, .int .i64 a0_3, .string a0_4, .string a0_5, .string a0_6, .string a0_7, .string a0_8]] (by rfl) rfl rfl (by (try simp only [List.map_toArray, List.map_cons, List.map_nil]); first | done | rfl | (simp only [List.length_drop, List.length_take]; rfl)) ?_
              with_reducible refine (liveryref06_First.calls kj29 a0_0 a0_1 a0_2 a0_3 a0_4 a0_5 a0_6 a0_7 a0_8 t121 t122 _ A59.out).mono ?_
              rintro e w63 ⟨rfl, hb⟩; refine ⟨_, rfl, ?_⟩; have n0_ := Qad.mk (Kd.R_below (by (with_reducible repeat (first | apply Kd.Qaw | apply Kd.Qay | apply Kd.QaE)); exact HO_6.out) hb); have n1_ := Qad.mk (Qal (g := gb101) (o := Qau a0_0 a0_1 a0_2 a0_3 a0_4 a0_5 a0_6 a0_7 a0_8 42) (by (with_reducible repeat (first | refine Qag ?_ _ | refine Qah ?_ | refine Qaf ?_ _)); exact BK101.out) hb); have n2_ := Qad.mk (Qal (g := gb104) (o := ob_ss t102 t103 24) (by (with_reducible repeat (first | refine Qag ?_ _ | refine Qah ?_ | refine Qaf ?_ _)); exact BK104.out) hb); have n3_ := Qad.mk (Qak (by repeat (first | (with_reducible first | exact HB.out | apply Qab | apply Qaa | apply Qac | refine Qai ?_ GE101.out | refine Qai ?_ GE104.out) | exact HB.out)) hb); clear HO_6; clear BK101; clear BK104; clear HB; have HO_6 := n0_; have BK101 := n1_; have BK104 := n2_; have HB := n3_; clear n0_ n1_ n2_ n3_
              (try clear hb)
              (try clear hb2)
              (try clear hk)
              (try clear hi)
              refine hK.out _ _ ⟨(Qaj BK101.out 0).trans rfl, (Qaj BK101.out 1).trans rfl, (Qaj BK101.out 2).trans rfl, (Qaj BK101.out 3).trans rfl, (Qaj BK101.out 4).trans rfl, (Qaj BK101.out 5).trans rfl, (Qaj BK101.out 6).trans rfl, (Qaj BK101.out 7).trans rfl, (Qaj BK101.out 8).trans rfl, ((HB.out.cell (World.block_lt_of_cell? w _ hw120_0)).trans hw120_0), ((HB.out.cell (World.block_lt_of_cell? w _ hw120_1)).trans hw120_1), ((HB.out.cell (World.block_lt_of_cell? w _ hw120_2)).trans hw120_2), ((HB.out.cell (World.block_lt_of_cell? w _ hw123_0)).trans hw123_0), ((HB.out.cell (World.block_lt_of_cell? w _ hw123_1)).trans hw123_1), ((HB.out.cell (World.block_lt_of_cell? w _ hw123_2)).trans hw123_2)⟩ (fun hHeld => ?_); clear hK K; refine norm_ (a' := ?_) ?_ ?_; rotate_left
              ·show Act.put _ (some 81) _ = _
               simp only [Act.put, put_, Qax, Qaz]; rfl
              refine QaI (i := 11) (N := some 82) (v := ?_) (a' := ?_) #[tt,tt,tt,tt,tt,tt,tt,tt,tt,tt,tt,tt,ff,ff,ff,ff,ff,ff,ff,ff,ff,ff] rfl rfl (QaA HT_.out (by kernel_rfl)) (fun _ _ _ h => h) (Or.inl ⟨by rfl, ?_⟩) ?_ ?_; rotate_left
              ·intro w'; go_simp; (with_reducible rfl)
              rotate_left
              ·simp only [Act.put, put_, Qax, Qaz]; rfl
              refine QaI (i := 12) (N := some 83) (v := ?_) (a' := ?_) #[tt,tt,tt,tt,tt,tt,tt,tt,tt,tt,tt,tt,tt,ff,ff,ff,ff,ff,ff,ff,ff,ff] rfl rfl (QaA HT_.out (by kernel_rfl)) (fun _ _ _ h => h) (Or.inl ⟨by rfl, ?_⟩) ?_ ?_; rotate_left
              ·intro w'; go_simp; (with_reducible rfl)
              rotate_left
              ·simp only [Act.put, put_, Qax, Qaz]; rfl
              refine QaI (i := 13) (N := some 84) (v := ?_) (a' := ?_) #[tt,tt,tt,tt,tt,tt,tt,tt,tt,tt,tt,tt,tt,tt,ff,ff,ff,ff,ff,ff,ff,ff] rfl rfl (QaA HT_.out (by kernel_rfl)) (fun _ _ _ h => h) (Or.inl ⟨by rfl, ?_⟩) ?_ ?_; rotate_left
              ·intro w'; go_simp; (with_reducible rfl)
              rotate_left
              ·simp only [Act.put, put_, Qax, Qaz]; rfl
              refine QaI (i := 14) (N := some 85) (v := ?_) (a' := ?_) #[tt,tt,tt,tt,tt,tt,tt,tt,tt,tt,tt,tt,tt,tt,tt,ff,ff,ff,ff,ff,ff,ff] rfl rfl (QaA HT_.out (by kernel_rfl)) (fun _ _ _ h => h) (Or.inl ⟨by rfl, ?_⟩) ?_ ?_; rotate_left
              ·intro w'; go_simp; (with_reducible rfl)
              rotate_left
              ·simp only [Act.put, put_, Qax, Qaz]; rfl
              refine QaI (i := 15) (N := some 86) (v := ?_) (a' := ?_) #[tt,tt,tt,tt,tt,tt,tt,tt,tt,tt,tt,tt,tt,tt,tt,tt,ff,ff,ff,ff,ff,ff] rfl rfl (QaA HT_.out (by kernel_rfl)) (fun _ _ _ h => h) (Or.inl ⟨by rfl, ?_⟩) ?_ ?_; rotate_left
              ·intro w'; go_simp; (with_reducible rfl)
              rotate_left
              ·simp only [Act.put, put_, Qax, Qaz]; rfl
              refine QaI (i := 16) (N := some 87) (v := ?_) (a' := ?_) #[tt,tt,tt,tt,tt,tt,tt,tt,tt,tt,tt,tt,tt,tt,tt,tt,tt,ff,ff,ff,ff,ff] rfl rfl (QaA HT_.out (by kernel_rfl)) (fun _ _ _ h => h) (Or.inl ⟨by rfl, ?_⟩) ?_ ?_; rotate_left
              ·intro w'; go_simp; (with_reducible rfl)
              rotate_left
              ·simp only [Act.put, put_, Qax, Qaz]; rfl
              refine QaI (i := 17) (N := some 88) (v := ?_) (a' := ?_) #[tt,tt,tt,tt,tt,tt,tt,tt,tt,tt,tt,tt,tt,tt,tt,tt,tt,tt,ff,ff,ff,ff] rfl rfl (QaA HT_.out (by kernel_rfl)) (fun _ _ _ h => h) (Or.inl ⟨by rfl, ?_⟩) ?_ ?_; rotate_left
              ·intro w'; go_simp; (with_reducible rfl)
              rotate_left
              ·simp only [Act.put, put_, Qax, Qaz]; rfl
              refine take_ (i := 18) (N := some 89) (v := ?_) (a' := ?_) #[tt,tt,tt,tt,tt,tt,tt,tt,tt,tt,tt,tt,tt,tt,tt,tt,tt,tt,tt,ff,ff,ff] rfl rfl (take_ofW HT_.out HW_.out (by kernel_rfl)) (fun _ _ _ h => h) (Or.inl ⟨by rfl, ?_⟩) hHeld ?_ ?_; rotate_left
              ·rintro w' ⟨s0, s1, s2, s3, s4, s5, s6, s7, s8, s9, s10, s11, s12, s13, s14⟩; go_simp; (with_reducible rfl)
              rotate_left
              ·simp only [Act.put, put_, Qax, Qaz]; rfl
              refine one_ (i := 19) (N := some 90) #[tt,tt,tt,tt,tt,tt,tt,tt,tt,tt,tt,tt,tt,tt,tt,tt,tt,tt,tt,tt,ff,ff] rfl rfl (one_of HT_.out (by kernel_rfl)) (by decide) (fun K hK => ?_); refine goes_ Tryz.func82 (by kernel_rfl) rfl #[.string ((Qap l1 x7_1).f1)] (by rfl) rfl rfl (by (try simp only [List.map_toArray, List.map_cons, List.map_nil]); first | done | rfl | (simp only [List.length_drop, List.length_take]; rfl)) ?_
              with_reducible refine (Qat.calls kj29 ((Qap l1 x7_1).f1) t124 _ A61.out).mono ?_
              rintro e w' ⟨rfl, ⟨nd, rfl⟩⟩; refine ⟨_, rfl, ?_⟩; refine hK.out _ _ ⟨(Qaj BK101.out 0).trans rfl, (Qaj BK101.out 1).trans rfl, (Qaj BK101.out 2).trans rfl, (Qaj BK101.out 3).trans rfl, (Qaj BK101.out 4).trans rfl, (Qaj BK101.out 5).trans rfl, (Qaj BK101.out 6).trans rfl, (Qaj BK101.out 7).trans rfl, (Qaj BK101.out 8).trans rfl, ((HB.out.cell (World.block_lt_of_cell? w _ hw120_0)).trans hw120_0), ((HB.out.cell (World.block_lt_of_cell? w _ hw120_1)).trans hw120_1), ((HB.out.cell (World.block_lt_of_cell? w _ hw120_2)).trans hw120_2), ((HB.out.cell (World.block_lt_of_cell? w _ hw123_0)).trans hw123_0), ((HB.out.cell (World.block_lt_of_cell? w _ hw123_1)).trans hw123_1), ((HB.out.cell (World.block_lt_of_cell? w _ hw123_2)).trans hw123_2)⟩ (fun hHeld => ?_); clear hK K; refine norm_ (a' := ?_) ?_ ?_; rotate_left
              ·show Act.put _ (some 90) _ = _
               simp only [Act.put, put_, Qax, Qaz]; rfl
              refine QaI (i := 20) (N := some 91) (v := ?_) (a' := ?_) #[tt,tt,tt,tt,tt,tt,tt,tt,tt,tt,tt,tt,tt,tt,tt,tt,tt,tt,tt,tt,tt,ff] rfl rfl (QaA HT_.out (by kernel_rfl)) (fun _ _ _ h => h) (Or.inl ⟨by rfl, ?_⟩) ?_ ?_; rotate_left
              ·intro w'; go_simp; (with_reducible rfl)
              rotate_left
              ·simp only [Act.put, put_, Qax, Qaz]; rfl
              refine QaI (i := 21) (N := some 92) (v := ?_) (a' := ?_) #[tt,tt,tt,tt,tt,tt,tt,tt,tt,tt,tt,tt,tt,tt,tt,tt,tt,tt,tt,tt,tt,tt] rfl rfl (QaA HT_.out (by kernel_rfl)) (fun _ _ _ h => h) (Or.inl ⟨by rfl, ?_⟩) ?_ ?_; rotate_left
              ·intro w'; go_simp; (with_reducible rfl)
              rotate_left
              ·simp only [Act.put, put_, Qax, Qaz]; rfl
              refine done_ (done_of HT_.out (by kernel_rfl)) ?_
              try go_wp2
              go_meet
              case rel => exact ⟨_, (decide (t124 > 0)), (by first | rfl | (simp; done) | (simp [*]; done)), H', ⟨by have := HK1.out; have := HJ21.out; have := HJ29.out; first | omega | exact Nat.le_refl _⟩, ⟨by (with_reducible repeat (first | apply Kd.Qaw | apply Kd.Qay | apply Kd.QaE)); exact HO_6.out⟩, ⟨by (with_reducible repeat (first | refine Qag ?_ _ | refine Qah ?_ | refine Qaf ?_ _)); exact BK101.out⟩, ⟨by (with_reducible repeat (first | refine Qag ?_ _ | refine Qah ?_ | refine Qaf ?_ _)); exact BK104.out⟩, ⟨by repeat (first | (with_reducible first | exact HB.out | apply Qab | apply Qaa | apply Qac | refine Qai ?_ GE101.out | refine Qai ?_ GE104.out) | exact HB.out)⟩⟩
             ·rw [if_neg c60] at H
              have c60b0 : ((((Qap l1 x7_1).f0.f0).toList) == t121.toList && ((((Qap l1 x7_1).f0.f1).toList) == t122.toList)) = false := by simpa using c60
              (try (have c60b1 : decide ((((Qap l1 x7_1).f0.f0).toList) = t121.toList && ((((Qap l1 x7_1).f0.f1).toList) == t122.toList)) = false := by simpa using c60))
              (try (have c60b2 : ((((Qap l1 x7_1).f0.f0).toList) == t121.toList && ((((Qap l1 x7_1).f0.f1).toList) == t122.toList)) = false := by simpa using c60))
              (try (have c60b3 : ¬ ((((Qap l1 x7_1).f0.f0).toList) = t121.toList && ((((Qap l1 x7_1).f0.f1).toList) == t122.toList)) := by simpa using c60))
              clear c60; have H' := Qad.mk H; clear H
              try go_wp2
              have n0_ := Qad.mk (Kd.QaE HO_6.out); have n1_ := Qad.mk (Qah BK101.out); have n2_ := Qad.mk (Qah BK104.out); have n3_ := Qad.mk (Qac HB.out); clear HO_6; clear BK101; clear BK104; clear HB; have HO_6 := n0_; have BK101 := n1_; have BK104 := n2_; have HB := n3_; clear n0_ n1_ n2_ n3_; have p120 : 0 ≤ (x7_1 : Int) := of_decide_eq_true (by first | (with_reducible assumption) | assumption); have q120 : x7_1 < (l1.length : Int) := of_decide_eq_true (by first | (with_reducible assumption) | assumption); obtain ⟨ad120, e120, hx120_0, hx120_1, hx120_2⟩ := at_T56 HR1.out x7_1 p120 q120; have hw120_2 := hx120_2; have hw120_1 := hx120_1; have hw120_0 := hx120_0; cases e120; replace hx120_0 := (HB.out.cell (World.block_lt_of_cell? w _ hx120_0)).trans hx120_0; replace hx120_1 := (HB.out.cell (World.block_lt_of_cell? w _ hx120_1)).trans hx120_1; replace hx120_2 := (HB.out.cell (World.block_lt_of_cell? w _ hx120_2)).trans hx120_2; replace p120 := eq_true p120; replace q120 := eq_true q120; refine start_ (n := 22) (S := fun w' => w'.cell? ⟨gb101, 0, none⟩ = some (.int .i64 a0_0) ∧ w'.cell? ⟨gb101, 1, none⟩ = some (.int .i64 a0_1) ∧ w'.cell? ⟨gb101, 2, none⟩ = some (.string a0_2) ∧ w'.cell? ⟨gb101, 3, none⟩ = some (.int .i64 a0_3) ∧ w'.cell? ⟨gb101, 4, none⟩ = some (.string a0_4) ∧ w'.cell? ⟨gb101, 5, none⟩ = some (.string a0_5) ∧ w'.cell? ⟨gb101, 6, none⟩ = some (.string a0_6) ∧ w'.cell? ⟨gb101, 7, none⟩ = some (.string a0_7) ∧ w'.cell? ⟨gb101, 8, none⟩ = some (.string a0_8) ∧ w'.cell? (ad120.add ((x7_1).toNat * 3)) = some (.string ((Qap l1 x7_1).f0.f0)) ∧ w'.cell? ⟨(ad120.add ((x7_1).toNat * 3)).block, (ad120.add ((x7_1).toNat * 3)).off + 1, none⟩ = some (.string ((Qap l1 x7_1).f0.f1)) ∧ w'.cell? ⟨(ad120.add ((x7_1).toNat * 3)).block, (ad120.add ((x7_1).toNat * 3)).off + 2, none⟩ = some (.string ((Qap l1 x7_1).f1))) (ds := []) #[ff,ff,ff,ff,ff,ff,ff,ff,ff,ff,ff,ff,ff,ff,ff,ff,ff,ff,ff,ff,ff,ff] (by kernel_rfl) rfl rfl ⟨(Qaj BK101.out 0).trans rfl, (Qaj BK101.out 1).trans rfl, (Qaj BK101.out 2).trans rfl, (Qaj BK101.out 3).trans rfl, (Qaj BK101.out 4).trans rfl, (Qaj BK101.out 5).trans rfl, (Qaj BK101.out 6).trans rfl, (Qaj BK101.out 7).trans rfl, (Qaj BK101.out 8).trans rfl, ((HB.out.cell (World.block_lt_of_cell? w _ hw120_0)).trans hw120_0), ((HB.out.cell (World.block_lt_of_cell? w _ hw120_1)).trans hw120_1), ((HB.out.cell (World.block_lt_of_cell? w _ hw120_2)).trans hw120_2)⟩ (fun hHeld => ?_); refine with_tabW Qae.tab12 Qae.bits12 (fun HT_ HW_ => ?_)
              generalize wc.drew = w64 at HO_6 BK101 BK104 HB hx120_0 hx120_1 hx120_2 hHeld ⊢
              refine QaI (i := 0) (N := some 71) (v := ?_) (a' := ?_) #[tt,ff,ff,ff,ff,ff,ff,ff,ff,ff,ff,ff,ff,ff,ff,ff,ff,ff,ff,ff,ff,ff] rfl rfl (QaA HT_.out (by kernel_rfl)) (fun _ _ _ h => h) (Or.inl ⟨by rfl, ?_⟩) ?_ ?_; rotate_left
              ·intro w'; go_simp; (with_reducible rfl)
              rotate_left
              ·simp only [Act.put, put_, Qax, Qaz]; rfl
              refine take_ (i := 1) (N := some 72) (v := ?_) (a' := ?_) #[tt,tt,ff,ff,ff,ff,ff,ff,ff,ff,ff,ff,ff,ff,ff,ff,ff,ff,ff,ff,ff,ff] rfl rfl (take_ofW HT_.out HW_.out (by kernel_rfl)) (fun _ _ _ h => h) (Or.inl ⟨by rfl, ?_⟩) hHeld ?_ ?_; rotate_left
              ·rintro w' ⟨s0, s1, s2, s3, s4, s5, s6, s7, s8, s9, s10, s11⟩; go_simp; (with_reducible rfl)
              rotate_left
              ·simp only [Act.put, put_, Qax, Qaz]; rfl
              refine QaI (i := 2) (N := some 73) (v := ?_) (a' := ?_) #[tt,tt,tt,ff,ff,ff,ff,ff,ff,ff,ff,ff,ff,ff,ff,ff,ff,ff,ff,ff,ff,ff] rfl rfl (QaA HT_.out (by kernel_rfl)) (fun _ _ _ h => h) (Or.inl ⟨by rfl, ?_⟩) ?_ ?_; rotate_left
              ·intro w'; go_simp; (with_reducible rfl)
              rotate_left
              ·simp only [Act.put, put_, Qax, Qaz]; rfl
              refine QaI (i := 3) (N := some 74) (v := ?_) (a' := ?_) #[tt,tt,tt,tt,ff,ff,ff,ff,ff,ff,ff,ff,ff,ff,ff,ff,ff,ff,ff,ff,ff,ff] rfl rfl (QaA HT_.out (by kernel_rfl)) (fun _ _ _ h => h) (Or.inl ⟨by rfl, ?_⟩) ?_ ?_; rotate_left
              ·intro w'; go_simp; (with_reducible rfl)
              rotate_left
              ·simp only [Act.put, put_, Qax, Qaz]; rfl
              refine QaI (i := 4) (N := some 75) (v := ?_) (a' := ?_) #[tt,tt,tt,tt,tt,ff,ff,ff,ff,ff,ff,ff,ff,ff,ff,ff,ff,ff,ff,ff,ff,ff] rfl rfl (QaA HT_.out (by kernel_rfl)) (fun _ _ _ h => h) (Or.inl ⟨by rfl, ?_⟩) ?_ ?_; rotate_left
              ·intro w'; go_simp; (with_reducible rfl)
              rotate_left
              ·simp only [Act.put, put_, Qax, Qaz]; rfl
              refine QaI (i := 5) (N := some 76) (v := ?_) (a' := ?_) #[tt,tt,tt,tt,tt,tt,ff,ff,ff,ff,ff,ff,ff,ff,ff,ff,ff,ff,ff,ff,ff,ff] rfl rfl (QaA HT_.out (by kernel_rfl)) (fun _ _ _ h => h) (Or.inl ⟨by rfl, ?_⟩) ?_ ?_; rotate_left
              ·intro w'; go_simp; (with_reducible rfl)
              rotate_left
              ·simp only [Act.put, put_, Qax, Qaz]; rfl
              refine QaI (i := 6) (N := some 77) (v := ?_) (a' := ?_) #[tt,tt,tt,tt,tt,tt,tt,ff,ff,ff,ff,ff,ff,ff,ff,ff,ff,ff,ff,ff,ff,ff] rfl rfl (QaA HT_.out (by kernel_rfl)) (fun _ _ _ h => h) (Or.inl ⟨by rfl, ?_⟩) ?_ ?_; rotate_left
              ·intro w'; go_simp; (with_reducible rfl)
              rotate_left
              ·simp only [Act.put, put_, Qax, Qaz]; rfl
              refine QaI (i := 7) (N := some 78) (v := ?_) (a' := ?_) #[tt,tt,tt,tt,tt,tt,tt,tt,ff,ff,ff,ff,ff,ff,ff,ff,ff,ff,ff,ff,ff,ff] rfl rfl (QaA HT_.out (by kernel_rfl)) (fun _ _ _ h => h) (Or.inl ⟨by rfl, ?_⟩) ?_ ?_; rotate_left
              ·intro w'; go_simp; (with_reducible rfl)
              rotate_left
              ·simp only [Act.put, put_, Qax, Qaz]; rfl
              refine take_ (i := 8) (N := some 79) (v := ?_) (a' := ?_) #[tt,tt,tt,tt,tt,tt,tt,tt,tt,ff,ff,ff,ff,ff,ff,ff,ff,ff,ff,ff,ff,ff] rfl rfl (take_ofW HT_.out HW_.out (by kernel_rfl)) (fun _ _ _ h => h) (Or.inl ⟨by rfl, ?_⟩) hHeld ?_ ?_; rotate_left
              ·rintro w' ⟨s0, s1, s2, s3, s4, s5, s6, s7, s8, s9, s10, s11⟩; go_simp; (with_reducible rfl)
              rotate_left
              ·simp only [Act.put, put_, Qax, Qaz]; rfl
              refine take_ (i := 9) (N := some 80) (v := ?_) (a' := ?_) #[tt,tt,tt,tt,tt,tt,tt,tt,tt,tt,ff,ff,ff,ff,ff,ff,ff,ff,ff,ff,ff,ff] rfl rfl (take_ofW HT_.out HW_.out (by kernel_rfl)) (fun _ _ _ h => h) (Or.inl ⟨by rfl, ?_⟩) hHeld ?_ ?_; rotate_left
              ·rintro w' ⟨s0, s1, s2, s3, s4, s5, s6, s7, s8, s9, s10, s11⟩; go_simp; (with_reducible rfl)
              rotate_left
              ·simp only [Act.put, put_, Qax, Qaz]; rfl
              refine one_ (i := 10) (N := some 81) #[tt,tt,tt,tt,tt,tt,tt,tt,tt,tt,tt,ff,ff,ff,ff,ff,ff,ff,ff,ff,ff,ff] rfl rfl (one_of HT_.out (by kernel_rfl)) (by decide) (fun K hK => ?_); refine goes_ Tryz.func81 (by kernel_rfl) rfl #[.agg #[.int .i64 a0_0, .int .i64 a0_1, .string a0_2, .int .i64 a0_3, .string a0_4, .string a0_5, .string a0_6, .string a0_7, .string a0_8]] (by rfl) rfl rfl (by (try simp only [List.map_toArray, List.map_cons, List.map_nil]); first | done | rfl | (simp only [List.length_drop, List.length_take]; rfl)) ?_
              with_reducible refine (liveryref06_First.calls kj29 a0_0 a0_1 a0_2 a0_3 a0_4 a0_5 a0_6 a0_7 a0_8 t121 t122 _ A59.out).mono ?_
              rintro e w65 ⟨rfl, hb⟩; refine ⟨_, rfl, ?_⟩; have n0_ := Qad.mk (Kd.R_below (by (with_reducible repeat (first | apply Kd.Qaw | apply Kd.Qay | apply Kd.QaE)); exact HO_6.out) hb); have n1_ := Qad.mk (Qal (g := gb101) (o := Qau a0_0 a0_1 a0_2 a0_3 a0_4 a0_5 a0_6 a0_7 a0_8 42) (by (with_reducible repeat (first | refine Qag ?_ _ | refine Qah ?_ | refine Qaf ?_ _)); exact BK101.out) hb); have n2_ := Qad.mk (Qal (g := gb104) (o := ob_ss t102 t103 24) (by (with_reducible repeat (first | refine Qag ?_ _ | refine Qah ?_ | refine Qaf ?_ _)); exact BK104.out) hb); have n3_ := Qad.mk (Qak (by repeat (first | (with_reducible first | exact HB.out | apply Qab | apply Qaa | apply Qac | refine Qai ?_ GE101.out | refine Qai ?_ GE104.out) | exact HB.out)) hb); clear HO_6; clear BK101; clear BK104; clear HB; have HO_6 := n0_; have BK101 := n1_; have BK104 := n2_; have HB := n3_; clear n0_ n1_ n2_ n3_
              (try clear hb)
              (try clear hb2)
              (try clear hk)
              (try clear hi)
              refine hK.out _ _ ⟨(Qaj BK101.out 0).trans rfl, (Qaj BK101.out 1).trans rfl, (Qaj BK101.out 2).trans rfl, (Qaj BK101.out 3).trans rfl, (Qaj BK101.out 4).trans rfl, (Qaj BK101.out 5).trans rfl, (Qaj BK101.out 6).trans rfl, (Qaj BK101.out 7).trans rfl, (Qaj BK101.out 8).trans rfl, ((HB.out.cell (World.block_lt_of_cell? w _ hw120_0)).trans hw120_0), ((HB.out.cell (World.block_lt_of_cell? w _ hw120_1)).trans hw120_1), ((HB.out.cell (World.block_lt_of_cell? w _ hw120_2)).trans hw120_2)⟩ (fun hHeld => ?_); clear hK K; refine norm_ (a' := ?_) ?_ ?_; rotate_left
              ·show Act.put _ (some 81) _ = _
               simp only [Act.put, put_, Qax, Qaz]; rfl
              refine QaI (i := 11) (N := some 82) (v := ?_) (a' := ?_) #[tt,tt,tt,tt,tt,tt,tt,tt,tt,tt,tt,tt,ff,ff,ff,ff,ff,ff,ff,ff,ff,ff] rfl rfl (QaA HT_.out (by kernel_rfl)) (fun _ _ _ h => h) (Or.inl ⟨by rfl, ?_⟩) ?_ ?_; rotate_left
              ·intro w'; go_simp; (with_reducible rfl)
              rotate_left
              ·simp only [Act.put, put_, Qax, Qaz]; rfl
              refine QaI (i := 12) (N := some 83) (v := ?_) (a' := ?_) #[tt,tt,tt,tt,tt,tt,tt,tt,tt,tt,tt,tt,tt,ff,ff,ff,ff,ff,ff,ff,ff,ff] rfl rfl (QaA HT_.out (by kernel_rfl)) (fun _ _ _ h => h) (Or.inl ⟨by rfl, ?_⟩) ?_ ?_; rotate_left
              ·intro w'; go_simp; (with_reducible rfl)
              rotate_left
              ·simp only [Act.put, put_, Qax, Qaz]; rfl
              refine QaI (i := 13) (N := some 84) (v := ?_) (a' := ?_) #[tt,tt,tt,tt,tt,tt,tt,tt,tt,tt,tt,tt,tt,tt,ff,ff,ff,ff,ff,ff,ff,ff] rfl rfl (QaA HT_.out (by kernel_rfl)) (fun _ _ _ h => h) (Or.inl ⟨by rfl, ?_⟩) ?_ ?_; rotate_left
              ·intro w'; go_simp; (with_reducible rfl)
              rotate_left
              ·simp only [Act.put, put_, Qax, Qaz]; rfl
              refine QaI (i := 14) (N := some 85) (v := undef) (a' := ?_) #[tt,tt,tt,tt,tt,tt,tt,tt,tt,tt,tt,tt,tt,tt,tt,ff,ff,ff,ff,ff,ff,ff] rfl rfl (QaA HT_.out (by kernel_rfl)) (fun _ _ _ h => h) (Or.inr ⟨by rfl, rfl⟩) ?_ ?_; rotate_left
              ·simp only [Act.put, put_, Qax, Qaz]; rfl
              refine QaI (i := 15) (N := some 86) (v := undef) (a' := ?_) #[tt,tt,tt,tt,tt,tt,tt,tt,tt,tt,tt,tt,tt,tt,tt,tt,ff,ff,ff,ff,ff,ff] rfl rfl (QaA HT_.out (by kernel_rfl)) (fun _ _ _ h => h) (Or.inr ⟨by rfl, rfl⟩) ?_ ?_; rotate_left
              ·simp only [Act.put, put_, Qax, Qaz]; rfl
              refine QaI (i := 16) (N := some 87) (v := undef) (a' := ?_) #[tt,tt,tt,tt,tt,tt,tt,tt,tt,tt,tt,tt,tt,tt,tt,tt,tt,ff,ff,ff,ff,ff] rfl rfl (QaA HT_.out (by kernel_rfl)) (fun _ _ _ h => h) (Or.inr ⟨by rfl, rfl⟩) ?_ ?_; rotate_left
              ·simp only [Act.put, put_, Qax, Qaz]; rfl
              refine QaI (i := 17) (N := some 88) (v := undef) (a' := ?_) #[tt,tt,tt,tt,tt,tt,tt,tt,tt,tt,tt,tt,tt,tt,tt,tt,tt,tt,ff,ff,ff,ff] rfl rfl (QaA HT_.out (by kernel_rfl)) (fun _ _ _ h => h) (Or.inr ⟨by rfl, rfl⟩) ?_ ?_; rotate_left
              ·simp only [Act.put, put_, Qax, Qaz]; rfl
              refine QaI (i := 18) (N := some 89) (v := undef) (a' := ?_) #[tt,tt,tt,tt,tt,tt,tt,tt,tt,tt,tt,tt,tt,tt,tt,tt,tt,tt,tt,ff,ff,ff] rfl rfl (QaA HT_.out (by kernel_rfl)) (fun _ _ _ h => h) (Or.inr ⟨by rfl, rfl⟩) ?_ ?_; rotate_left
              ·simp only [Act.put, put_, Qax, Qaz]; rfl
              refine QaI (i := 19) (N := some 90) (v := undef) (a' := ?_) #[tt,tt,tt,tt,tt,tt,tt,tt,tt,tt,tt,tt,tt,tt,tt,tt,tt,tt,tt,tt,ff,ff] rfl rfl (QaA HT_.out (by kernel_rfl)) (fun _ _ _ h => h) (Or.inr ⟨by rfl, rfl⟩) ?_ ?_; rotate_left
              ·simp only [Act.put, put_, Qax, Qaz]; rfl
              refine QaI (i := 20) (N := some 91) (v := undef) (a' := ?_) #[tt,tt,tt,tt,tt,tt,tt,tt,tt,tt,tt,tt,tt,tt,tt,tt,tt,tt,tt,tt,tt,ff] rfl rfl (QaA HT_.out (by kernel_rfl)) (fun _ _ _ h => h) (Or.inr ⟨by rfl, rfl⟩) ?_ ?_; rotate_left
              ·simp only [Act.put, put_, Qax, Qaz]; rfl
              refine QaI (i := 21) (N := some 92) (v := ?_) (a' := ?_) #[tt,tt,tt,tt,tt,tt,tt,tt,tt,tt,tt,tt,tt,tt,tt,tt,tt,tt,tt,tt,tt,tt] rfl rfl (QaA HT_.out (by kernel_rfl)) (fun _ _ _ h => h) (Or.inl ⟨by rfl, ?_⟩) ?_ ?_; rotate_left
              ·intro w'; go_simp; (with_reducible rfl)
              rotate_left
              ·simp only [Act.put, put_, Qax, Qaz]; rfl
              refine done_ (done_of HT_.out (by kernel_rfl)) ?_
              try go_wp2
              go_meet
              case rel => exact ⟨_, (false), (by first | rfl | (simp; done) | (simp [*]; done)), H', ⟨by have := HK1.out; have := HJ21.out; have := HJ29.out; first | omega | exact Nat.le_refl _⟩, ⟨by (with_reducible repeat (first | apply Kd.Qaw | apply Kd.Qay | apply Kd.QaE)); exact HO_6.out⟩, ⟨by (with_reducible repeat (first | refine Qag ?_ _ | refine Qah ?_ | refine Qaf ?_ _)); exact BK101.out⟩, ⟨by (with_reducible repeat (first | refine Qag ?_ _ | refine Qah ?_ | refine Qaf ?_ _)); exact BK104.out⟩, ⟨by repeat (first | (with_reducible first | exact HB.out | apply Qab | apply Qaa | apply Qac | refine Qai ?_ GE101.out | refine Qai ?_ GE104.out) | exact HB.out)⟩⟩
            ·rw [if_neg c58] at H; exact absurd H (by simp)
           ·rw [if_neg c57] at H; exact absurd H (by simp)
          ·rw [if_neg c56] at H; have c56b0 : (a0_3 == 3) = false := beq_eq_false_iff_ne.mpr c56; have c56b1 : (a0_3 != 3) = true := bne_iff_ne.mpr c56
           (first | rw [c56b0] | (simp only [Qax, Qaz]; rw [c56b0]) | skip)
           have H' := Qad.mk H; clear H
           try go_wp2
           have n0_ := Qad.mk (Kd.QaE HO_6.out); have n1_ := Qad.mk (Qah BK101.out); have n2_ := Qad.mk (Qah BK104.out); have n3_ := Qad.mk (Qac HB.out); clear HO_6; clear BK101; clear BK104; clear HB; have HO_6 := n0_; have BK101 := n1_; have BK104 := n2_; have HB := n3_; clear n0_ n1_ n2_ n3_; refine start_ (n := 22) (S := fun w' => w'.cell? ⟨gb101, 0, none⟩ = some (.int .i64 a0_0) ∧ w'.cell? ⟨gb101, 1, none⟩ = some (.int .i64 a0_1) ∧ w'.cell? ⟨gb101, 2, none⟩ = some (.string a0_2) ∧ w'.cell? ⟨gb101, 3, none⟩ = some (.int .i64 a0_3) ∧ w'.cell? ⟨gb101, 4, none⟩ = some (.string a0_4) ∧ w'.cell? ⟨gb101, 5, none⟩ = some (.string a0_5) ∧ w'.cell? ⟨gb101, 6, none⟩ = some (.string a0_6) ∧ w'.cell? ⟨gb101, 7, none⟩ = some (.string a0_7) ∧ w'.cell? ⟨gb101, 8, none⟩ = some (.string a0_8)) (ds := []) #[ff,ff,ff,ff,ff,ff,ff,ff,ff,ff,ff,ff,ff,ff,ff,ff,ff,ff,ff,ff,ff,ff] (by kernel_rfl) rfl rfl ⟨(Qaj BK101.out 0).trans rfl, (Qaj BK101.out 1).trans rfl, (Qaj BK101.out 2).trans rfl, (Qaj BK101.out 3).trans rfl, (Qaj BK101.out 4).trans rfl, (Qaj BK101.out 5).trans rfl, (Qaj BK101.out 6).trans rfl, (Qaj BK101.out 7).trans rfl, (Qaj BK101.out 8).trans rfl⟩ (fun hHeld => ?_); refine with_tabW Qae.tab12 Qae.bits12 (fun HT_ HW_ => ?_)
           generalize wc.drew = w66 at HO_6 BK101 BK104 HB hHeld ⊢
           refine QaI (i := 0) (N := some 71) (v := ?_) (a' := ?_) #[tt,ff,ff,ff,ff,ff,ff,ff,ff,ff,ff,ff,ff,ff,ff,ff,ff,ff,ff,ff,ff,ff] rfl rfl (QaA HT_.out (by kernel_rfl)) (fun _ _ _ h => h) (Or.inl ⟨by rfl, ?_⟩) ?_ ?_; rotate_left
           ·intro w'; go_simp; (with_reducible rfl)
           rotate_left
           ·simp only [Act.put, put_, Qax, Qaz]; rfl
           refine take_ (i := 1) (N := some 72) (v := ?_) (a' := ?_) #[tt,tt,ff,ff,ff,ff,ff,ff,ff,ff,ff,ff,ff,ff,ff,ff,ff,ff,ff,ff,ff,ff] rfl rfl (take_ofW HT_.out HW_.out (by kernel_rfl)) (fun _ _ _ h => h) (Or.inl ⟨by rfl, ?_⟩) hHeld ?_ ?_; rotate_left
           ·rintro w' ⟨s0, s1, s2, s3, s4, s5, s6, s7, s8⟩; go_simp; (with_reducible rfl)
           rotate_left
           ·simp only [Act.put, put_, Qax, Qaz]; rfl
           refine QaI (i := 2) (N := some 73) (v := ?_) (a' := ?_) #[tt,tt,tt,ff,ff,ff,ff,ff,ff,ff,ff,ff,ff,ff,ff,ff,ff,ff,ff,ff,ff,ff] rfl rfl (QaA HT_.out (by kernel_rfl)) (fun _ _ _ h => h) (Or.inl ⟨by rfl, ?_⟩) ?_ ?_; rotate_left
           ·intro w'; go_simp; (with_reducible rfl)
           rotate_left
           ·simp only [Act.put, put_, Qax, Qaz]; rfl
           refine QaI (i := 3) (N := some 74) (v := ?_) (a' := ?_) #[tt,tt,tt,tt,ff,ff,ff,ff,ff,ff,ff,ff,ff,ff,ff,ff,ff,ff,ff,ff,ff,ff] rfl rfl (QaA HT_.out (by kernel_rfl)) (fun _ _ _ h => h) (Or.inl ⟨by rfl, ?_⟩) ?_ ?_; rotate_left
           ·intro w'; go_simp; (with_reducible rfl)
           rotate_left
           ·simp only [Act.put, put_, Qax, Qaz]; rfl
           refine QaI (i := 4) (N := some 75) (v := undef) (a' := ?_) #[tt,tt,tt,tt,tt,ff,ff,ff,ff,ff,ff,ff,ff,ff,ff,ff,ff,ff,ff,ff,ff,ff] rfl rfl (QaA HT_.out (by kernel_rfl)) (fun _ _ _ h => h) (Or.inr ⟨by rfl, rfl⟩) ?_ ?_; rotate_left
           ·simp only [Act.put, put_, Qax, Qaz]; rfl
           refine QaI (i := 5) (N := some 76) (v := undef) (a' := ?_) #[tt,tt,tt,tt,tt,tt,ff,ff,ff,ff,ff,ff,ff,ff,ff,ff,ff,ff,ff,ff,ff,ff] rfl rfl (QaA HT_.out (by kernel_rfl)) (fun _ _ _ h => h) (Or.inr ⟨by rfl, rfl⟩) ?_ ?_; rotate_left
           ·simp only [Act.put, put_, Qax, Qaz]; rfl
           refine QaI (i := 6) (N := some 77) (v := undef) (a' := ?_) #[tt,tt,tt,tt,tt,tt,tt,ff,ff,ff,ff,ff,ff,ff,ff,ff,ff,ff,ff,ff,ff,ff] rfl rfl (QaA HT_.out (by kernel_rfl)) (fun _ _ _ h => h) (Or.inr ⟨by rfl, rfl⟩) ?_ ?_; rotate_left
           ·simp only [Act.put, put_, Qax, Qaz]; rfl
           refine QaI (i := 7) (N := some 78) (v := undef) (a' := ?_) #[tt,tt,tt,tt,tt,tt,tt,tt,ff,ff,ff,ff,ff,ff,ff,ff,ff,ff,ff,ff,ff,ff] rfl rfl (QaA HT_.out (by kernel_rfl)) (fun _ _ _ h => h) (Or.inr ⟨by rfl, rfl⟩) ?_ ?_; rotate_left
           ·simp only [Act.put, put_, Qax, Qaz]; rfl
           refine QaI (i := 8) (N := some 79) (v := undef) (a' := ?_) #[tt,tt,tt,tt,tt,tt,tt,tt,tt,ff,ff,ff,ff,ff,ff,ff,ff,ff,ff,ff,ff,ff] rfl rfl (QaA HT_.out (by kernel_rfl)) (fun _ _ _ h => h) (Or.inr ⟨by rfl, rfl⟩) ?_ ?_; rotate_left
           ·simp only [Act.put, put_, Qax, Qaz]; rfl
           refine QaI (i := 9) (N := some 80) (v := undef) (a' := ?_) #[tt,tt,tt,tt,tt,tt,tt,tt,tt,tt,ff,ff,ff,ff,ff,ff,ff,ff,ff,ff,ff,ff] rfl rfl (QaA HT_.out (by kernel_rfl)) (fun _ _ _ h => h) (Or.inr ⟨by rfl, rfl⟩) ?_ ?_; rotate_left
           ·simp only [Act.put, put_, Qax, Qaz]; rfl
           refine QaI (i := 10) (N := some 81) (v := undef) (a' := ?_) #[tt,tt,tt,tt,tt,tt,tt,tt,tt,tt,tt,ff,ff,ff,ff,ff,ff,ff,ff,ff,ff,ff] rfl rfl (QaA HT_.out (by kernel_rfl)) (fun _ _ _ h => h) (Or.inr ⟨by rfl, rfl⟩) ?_ ?_; rotate_left
           ·simp only [Act.put, put_, Qax, Qaz]; rfl
           refine QaI (i := 11) (N := some 82) (v := undef) (a' := ?_) #[tt,tt,tt,tt,tt,tt,tt,tt,tt,tt,tt,tt,ff,ff,ff,ff,ff,ff,ff,ff,ff,ff] rfl rfl (QaA HT_.out (by kernel_rfl)) (fun _ _ _ h => h) (Or.inr ⟨by rfl, rfl⟩) ?_ ?_; rotate_left
           ·simp only [Act.put, put_, Qax, Qaz]; rfl
           refine QaI (i := 12) (N := some 83) (v := ?_) (a' := ?_) #[tt,tt,tt,tt,tt,tt,tt,tt,tt,tt,tt,tt,tt,ff,ff,ff,ff,ff,ff,ff,ff,ff] rfl rfl (QaA HT_.out (by kernel_rfl)) (fun _ _ _ h => h) (Or.inl ⟨by rfl, ?_⟩) ?_ ?_; rotate_left
           ·intro w'; go_simp; (with_reducible rfl)
           rotate_left
           ·simp only [Act.put, put_, Qax, Qaz]; rfl
           refine QaI (i := 13) (N := some 84) (v := ?_) (a' := ?_) #[tt,tt,tt,tt,tt,tt,tt,tt,tt,tt,tt,tt,tt,tt,ff,ff,ff,ff,ff,ff,ff,ff] rfl rfl (QaA HT_.out (by kernel_rfl)) (fun _ _ _ h => h) (Or.inl ⟨by rfl, ?_⟩) ?_ ?_; rotate_left
           ·intro w'; go_simp; (with_reducible rfl)
           rotate_left
           ·simp only [Act.put, put_, Qax, Qaz]; rfl
           refine QaI (i := 14) (N := some 85) (v := undef) (a' := ?_) #[tt,tt,tt,tt,tt,tt,tt,tt,tt,tt,tt,tt,tt,tt,tt,ff,ff,ff,ff,ff,ff,ff] rfl rfl (QaA HT_.out (by kernel_rfl)) (fun _ _ _ h => h) (Or.inr ⟨by rfl, rfl⟩) ?_ ?_; rotate_left
           ·simp only [Act.put, put_, Qax, Qaz]; rfl
           refine QaI (i := 15) (N := some 86) (v := undef) (a' := ?_) #[tt,tt,tt,tt,tt,tt,tt,tt,tt,tt,tt,tt,tt,tt,tt,tt,ff,ff,ff,ff,ff,ff] rfl rfl (QaA HT_.out (by kernel_rfl)) (fun _ _ _ h => h) (Or.inr ⟨by rfl, rfl⟩) ?_ ?_; rotate_left
           ·simp only [Act.put, put_, Qax, Qaz]; rfl
           refine QaI (i := 16) (N := some 87) (v := undef) (a' := ?_) #[tt,tt,tt,tt,tt,tt,tt,tt,tt,tt,tt,tt,tt,tt,tt,tt,tt,ff,ff,ff,ff,ff] rfl rfl (QaA HT_.out (by kernel_rfl)) (fun _ _ _ h => h) (Or.inr ⟨by rfl, rfl⟩) ?_ ?_; rotate_left
           ·simp only [Act.put, put_, Qax, Qaz]; rfl
           refine QaI (i := 17) (N := some 88) (v := undef) (a' := ?_) #[tt,tt,tt,tt,tt,tt,tt,tt,tt,tt,tt,tt,tt,tt,tt,tt,tt,tt,ff,ff,ff,ff] rfl rfl (QaA HT_.out (by kernel_rfl)) (fun _ _ _ h => h) (Or.inr ⟨by rfl, rfl⟩) ?_ ?_; rotate_left
           ·simp only [Act.put, put_, Qax, Qaz]; rfl
           refine QaI (i := 18) (N := some 89) (v := undef) (a' := ?_) #[tt,tt,tt,tt,tt,tt,tt,tt,tt,tt,tt,tt,tt,tt,tt,tt,tt,tt,tt,ff,ff,ff] rfl rfl (QaA HT_.out (by kernel_rfl)) (fun _ _ _ h => h) (Or.inr ⟨by rfl, rfl⟩) ?_ ?_; rotate_left
           ·simp only [Act.put, put_, Qax, Qaz]; rfl
           refine QaI (i := 19) (N := some 90) (v := undef) (a' := ?_) #[tt,tt,tt,tt,tt,tt,tt,tt,tt,tt,tt,tt,tt,tt,tt,tt,tt,tt,tt,tt,ff,ff] rfl rfl (QaA HT_.out (by kernel_rfl)) (fun _ _ _ h => h) (Or.inr ⟨by rfl, rfl⟩) ?_ ?_; rotate_left
           ·simp only [Act.put, put_, Qax, Qaz]; rfl
           refine QaI (i := 20) (N := some 91) (v := undef) (a' := ?_) #[tt,tt,tt,tt,tt,tt,tt,tt,tt,tt,tt,tt,tt,tt,tt,tt,tt,tt,tt,tt,tt,ff] rfl rfl (QaA HT_.out (by kernel_rfl)) (fun _ _ _ h => h) (Or.inr ⟨by rfl, rfl⟩) ?_ ?_; rotate_left
           ·simp only [Act.put, put_, Qax, Qaz]; rfl
           refine QaI (i := 21) (N := some 92) (v := ?_) (a' := ?_) #[tt,tt,tt,tt,tt,tt,tt,tt,tt,tt,tt,tt,tt,tt,tt,tt,tt,tt,tt,tt,tt,tt] rfl rfl (QaA HT_.out (by kernel_rfl)) (fun _ _ _ h => h) (Or.inl ⟨by rfl, ?_⟩) ?_ ?_; rotate_left
           ·intro w'; go_simp; (with_reducible rfl)
           rotate_left
           ·simp only [Act.put, put_, Qax, Qaz]; rfl
           refine done_ (done_of HT_.out (by kernel_rfl)) ?_
           try go_wp2
           go_meet
           case rel => exact ⟨_, (false), (by first | rfl | (simp; done) | (simp [*]; done)), H', ⟨by have := HK1.out; have := HJ21.out; have := HJ29.out; first | omega | exact Nat.le_refl _⟩, ⟨by (with_reducible repeat (first | apply Kd.Qaw | apply Kd.Qay | apply Kd.QaE)); exact HO_6.out⟩, ⟨by (with_reducible repeat (first | refine Qag ?_ _ | refine Qah ?_ | refine Qaf ?_ _)); exact BK101.out⟩, ⟨by (with_reducible repeat (first | refine Qag ?_ _ | refine Qah ?_ | refine Qaf ?_ _)); exact BK104.out⟩, ⟨by repeat (first | (with_reducible first | exact HB.out | apply Qab | apply Qaa | apply Qac | refine Qai ?_ GE101.out | refine Qai ?_ GE104.out) | exact HB.out)⟩⟩
         case rest =>
          clear HC55; (try clear p1); (try clear q1); (try clear hx1); (try clear p2); (try clear c5); (try clear c6); (try clear c8); (try clear p12); (try clear q12); (try clear hx12); (try clear c56); (try clear c56b0); (try clear c56b1); (try clear c57); (try clear c58); (try clear c60); (try clear c60b0); (try clear c60b1); (try clear c60b2); (try clear hx120_0); (try clear hx120_1); (try clear hx120_2); (try clear hx123_0); (try clear hx123_1); (try clear hx123_2); (try clear p120); (try clear p123); (try clear q120); (try clear q123); obtain ⟨kq, x92_54, rfl, HA, HJ54, HO_6, BK101, BK104, HB⟩ := hcut
          cases kq with
          | zero => exact absurd HA.out (by simp [Qae.j3])
          | succ kj54 =>
           have H := HA.out; clear HA; simp only [Qae.j3] at H
           by_cases c67 : x92_54 = true
           ·subst c67
            have H1 : (if 0 ≤ x7_1 then (if x7_1 < (l1.length : Int) then (Qae.l1 kj54 l1 x6_29 x7_1 0 a0_0 a0_1 a0_2 a0_3 a0_4 a0_5 a0_6 a0_7 a0_8 t102 t103 ((Qap l1 x7_1).f1) a0_8) else (none)) else (none)) = some r := by rw [if_pos rfl] at H; exact H
            clear H; have H := H1; clear H1
            by_cases c68 : 0 ≤ x7_1
            ·rw [if_pos c68] at H; have c68b0 : decide (0 ≤ x7_1) = true := decide_eq_true c68; clear c68
             by_cases c69 : x7_1 < (l1.length : Int)
             ·rw [if_pos c69] at H; have c69b0 : decide (x7_1 < (l1.length : Int)) = true := decide_eq_true c69; clear c69; have H' := Qad.mk H; clear H
              try go_wp2
              have n0_ := Qad.mk (Kd.QaE HO_6.out); have n1_ := Qad.mk (Qah BK101.out); have n2_ := Qad.mk (Qah BK104.out); have n3_ := Qad.mk (Qac HB.out); clear HO_6; clear BK101; clear BK104; clear HB; have HO_6 := n0_; have BK101 := n1_; have BK104 := n2_; have HB := n3_; clear n0_ n1_ n2_ n3_; have p125 : 0 ≤ (x7_1 : Int) := of_decide_eq_true (by first | (with_reducible assumption) | assumption); have q125 : x7_1 < (l1.length : Int) := of_decide_eq_true (by first | (with_reducible assumption) | assumption); obtain ⟨ad125, e125, hx125_0, hx125_1, hx125_2⟩ := at_T56 HR1.out x7_1 p125 q125; have hw125_2 := hx125_2; have hw125_1 := hx125_1; have hw125_0 := hx125_0; cases e125; replace hx125_0 := (HB.out.cell (World.block_lt_of_cell? w _ hx125_0)).trans hx125_0; replace hx125_1 := (HB.out.cell (World.block_lt_of_cell? w _ hx125_1)).trans hx125_1; replace hx125_2 := (HB.out.cell (World.block_lt_of_cell? w _ hx125_2)).trans hx125_2; replace p125 := eq_true p125; replace q125 := eq_true q125; refine start_ (n := 11) (S := fun w' => w'.cell? ⟨gb101, 0, none⟩ = some (.int .i64 a0_0) ∧ w'.cell? ⟨gb101, 1, none⟩ = some (.int .i64 a0_1) ∧ w'.cell? ⟨gb101, 2, none⟩ = some (.string a0_2) ∧ w'.cell? ⟨gb101, 3, none⟩ = some (.int .i64 a0_3) ∧ w'.cell? ⟨gb101, 4, none⟩ = some (.string a0_4) ∧ w'.cell? ⟨gb101, 5, none⟩ = some (.string a0_5) ∧ w'.cell? ⟨gb101, 6, none⟩ = some (.string a0_6) ∧ w'.cell? ⟨gb101, 7, none⟩ = some (.string a0_7) ∧ w'.cell? ⟨gb101, 8, none⟩ = some (.string a0_8) ∧ w'.cell? (ad125.add ((x7_1).toNat * 3)) = some (.string ((Qap l1 x7_1).f0.f0)) ∧ w'.cell? ⟨(ad125.add ((x7_1).toNat * 3)).block, (ad125.add ((x7_1).toNat * 3)).off + 1, none⟩ = some (.string ((Qap l1 x7_1).f0.f1)) ∧ w'.cell? ⟨(ad125.add ((x7_1).toNat * 3)).block, (ad125.add ((x7_1).toNat * 3)).off + 2, none⟩ = some (.string ((Qap l1 x7_1).f1))) (ds := []) #[ff,ff,ff,ff,ff,ff,ff,ff,ff,ff,ff] (by kernel_rfl) rfl rfl ⟨(Qaj BK101.out 0).trans rfl, (Qaj BK101.out 1).trans rfl, (Qaj BK101.out 2).trans rfl, (Qaj BK101.out 3).trans rfl, (Qaj BK101.out 4).trans rfl, (Qaj BK101.out 5).trans rfl, (Qaj BK101.out 6).trans rfl, (Qaj BK101.out 7).trans rfl, (Qaj BK101.out 8).trans rfl, ((HB.out.cell (World.block_lt_of_cell? w _ hw125_0)).trans hw125_0), ((HB.out.cell (World.block_lt_of_cell? w _ hw125_1)).trans hw125_1), ((HB.out.cell (World.block_lt_of_cell? w _ hw125_2)).trans hw125_2)⟩ (fun hHeld => ?_); refine with_tabW Qae.tab13 Qae.bits13 (fun HT_ HW_ => ?_)
              generalize wc.drew = w70 at HO_6 BK101 BK104 HB hx125_0 hx125_1 hx125_2 hHeld ⊢
              refine QaI (i := 0) (N := some 93) (v := ?_) (a' := ?_) #[tt,ff,ff,ff,ff,ff,ff,ff,ff,ff,ff] rfl rfl (QaA HT_.out (by kernel_rfl)) (fun _ _ _ h => h) (Or.inl ⟨by rfl, ?_⟩) ?_ ?_; rotate_left
              ·intro w'; go_simp; (with_reducible rfl)
              rotate_left
              ·simp only [Act.put, put_, Qax, Qaz]; rfl
              refine QaI (i := 1) (N := some 94) (v := ?_) (a' := ?_) #[tt,tt,ff,ff,ff,ff,ff,ff,ff,ff,ff] rfl rfl (QaA HT_.out (by kernel_rfl)) (fun _ _ _ h => h) (Or.inl ⟨by rfl, ?_⟩) ?_ ?_; rotate_left
              ·intro w'; go_simp; (with_reducible rfl)
              rotate_left
              ·simp only [Act.put, put_, Qax, Qaz]; rfl
              refine QaI (i := 2) (N := some 95) (v := ?_) (a' := ?_) #[tt,tt,tt,ff,ff,ff,ff,ff,ff,ff,ff] rfl rfl (QaA HT_.out (by kernel_rfl)) (fun _ _ _ h => h) (Or.inl ⟨by rfl, ?_⟩) ?_ ?_; rotate_left
              ·intro w'; go_simp; (with_reducible rfl)
              rotate_left
              ·simp only [Act.put, put_, Qax, Qaz]; rfl
              refine QaI (i := 3) (N := some 96) (v := ?_) (a' := ?_) #[tt,tt,tt,tt,ff,ff,ff,ff,ff,ff,ff] rfl rfl (QaA HT_.out (by kernel_rfl)) (fun _ _ _ h => h) (Or.inl ⟨by rfl, ?_⟩) ?_ ?_; rotate_left
              ·intro w'; go_simp; (with_reducible rfl)
              rotate_left
              ·simp only [Act.put, put_, Qax, Qaz]; rfl
              refine QaI (i := 5) (N := some 98) (v := ?_) (a' := ?_) #[tt,tt,tt,tt,ff,tt,ff,ff,ff,ff,ff] rfl rfl (QaA HT_.out (by kernel_rfl)) (fun _ _ _ h => h) (Or.inl ⟨by rfl, ?_⟩) ?_ ?_; rotate_left
              ·intro w'; go_simp; (with_reducible rfl)
              rotate_left
              ·simp only [Act.put, put_, Qax, Qaz]; rfl
              refine QaI (i := 6) (N := some 99) (v := ?_) (a' := ?_) #[tt,tt,tt,tt,ff,tt,tt,ff,ff,ff,ff] rfl rfl (QaA HT_.out (by kernel_rfl)) (fun _ _ _ h => h) (Or.inl ⟨by rfl, ?_⟩) ?_ ?_; rotate_left
              ·intro w'; go_simp; (with_reducible rfl)
              rotate_left
              ·simp only [Act.put, put_, Qax, Qaz]; rfl
              refine take_ (i := 4) (N := some 97) (v := ?_) (a' := ?_) #[tt,tt,tt,tt,tt,tt,tt,ff,ff,ff,ff] rfl rfl (take_ofW HT_.out HW_.out (by kernel_rfl)) (fun _ _ _ h => h) (Or.inl ⟨by rfl, ?_⟩) hHeld ?_ ?_; rotate_left
              ·rintro w' ⟨s0, s1, s2, s3, s4, s5, s6, s7, s8, s9, s10, s11⟩; go_simp; (with_reducible rfl)
              rotate_left
              ·simp only [Act.put, put_, Qax, Qaz]; rfl
              refine take_ (i := 7) (N := some 100) (v := ?_) (a' := ?_) #[tt,tt,tt,tt,tt,tt,tt,tt,ff,ff,ff] rfl rfl (take_ofW HT_.out HW_.out (by kernel_rfl)) (fun _ _ _ h => h) (Or.inl ⟨by rfl, ?_⟩) hHeld ?_ ?_; rotate_left
              ·rintro w' ⟨s0, s1, s2, s3, s4, s5, s6, s7, s8, s9, s10, s11⟩; go_simp; (with_reducible rfl)
              rotate_left
              ·simp only [Act.put, put_, Qax, Qaz]; rfl
              refine QaI (i := 8) (N := some 101) (v := ?_) (a' := ?_) #[tt,tt,tt,tt,tt,tt,tt,tt,tt,ff,ff] rfl rfl (QaA HT_.out (by kernel_rfl)) (fun _ _ _ h => h) (Or.inl ⟨by rfl, ?_⟩) ?_ ?_; rotate_left
              ·intro w'; go_simp; (with_reducible rfl)
              rotate_left
              ·simp only [Act.put, put_, Qax, Qaz]; rfl
              refine one_ (i := 9) (N := some 9) #[tt,tt,tt,tt,tt,tt,tt,tt,tt,tt,ff] rfl rfl (one_of HT_.out (by kernel_rfl)) (by decide) (fun K hK => ?_); refine box_step ?hg (N := 9) ?hd (cs := #[.string (⟨#[]⟩ : ByteArray), .string (⟨#[]⟩ : ByteArray)]) (t := 24) ?hr ?_; (case hd => rfl); (case hg => rfl); (case hr => first | (go_simp; done) | (go_simp; rfl)); intro gb126 hg w71 hbox hb; have n0_ := Qad.mk (Kd.R_below (by (with_reducible repeat (first | apply Kd.Qaw | apply Kd.Qay | apply Kd.QaE)); exact HO_6.out) hb); have n1_ := Qad.mk (Qal (g := gb101) (o := Qau a0_0 a0_1 a0_2 a0_3 a0_4 a0_5 a0_6 a0_7 a0_8 42) (by (with_reducible repeat (first | refine Qag ?_ _ | refine Qah ?_ | refine Qaf ?_ _)); exact BK101.out) hb); have n2_ := Qad.mk (Qal (g := gb104) (o := ob_ss t102 t103 24) (by (with_reducible repeat (first | refine Qag ?_ _ | refine Qah ?_ | refine Qaf ?_ _)); exact BK104.out) hb); have n3_ := Qad.mk (Qak (by repeat (first | (with_reducible first | exact HB.out | apply Qab | apply Qaa | apply Qac | refine Qai ?_ GE101.out | refine Qai ?_ GE104.out) | exact HB.out)) hb); have n4_ := Qad.mk (hbox); have n5_ := Qad.mk ((by rw [hg]; exact (Qas (by repeat (first | (with_reducible first | exact HB.out | apply Qab | apply Qaa | apply Qac | refine Qai ?_ GE101.out | refine Qai ?_ GE104.out) | exact HB.out))) : w.heap.size ≤ gb126))
              have n6_ := Qad.mk ((by rw [hg]; exact (Qas (by repeat (first | (with_reducible first | exact HB.out | apply Qab | apply Qaa | apply Qac | refine Qai ?_ GE101.out | refine Qai ?_ GE104.out) | exact HB.out))) : w.heap.size ≤ gb126)); have n7_ := Qad.mk ((by rw [hg]; exact Nat.ne_of_lt (blk_lt (g := gb101) (o := Qau a0_0 a0_1 a0_2 a0_3 a0_4 a0_5 a0_6 a0_7 a0_8 42) (by (with_reducible repeat (first | refine Qag ?_ _ | refine Qah ?_ | refine Qaf ?_ _)); exact BK101.out)) : gb101 ≠ gb126)); have n8_ := Qad.mk ((by rw [hg]; exact Nat.ne_of_gt (blk_lt (g := gb101) (o := Qau a0_0 a0_1 a0_2 a0_3 a0_4 a0_5 a0_6 a0_7 a0_8 42) (by (with_reducible repeat (first | refine Qag ?_ _ | refine Qah ?_ | refine Qaf ?_ _)); exact BK101.out)) : gb126 ≠ gb101)); have n9_ := Qad.mk ((by rw [hg]; exact Nat.ne_of_lt (blk_lt (g := gb104) (o := ob_ss t102 t103 24) (by (with_reducible repeat (first | refine Qag ?_ _ | refine Qah ?_ | refine Qaf ?_ _)); exact BK104.out)) : gb104 ≠ gb126)); have n10_ := Qad.mk ((by rw [hg]; exact Nat.ne_of_gt (blk_lt (g := gb104) (o := ob_ss t102 t103 24) (by (with_reducible repeat (first | refine Qag ?_ _ | refine Qah ?_ | refine Qaf ?_ _)); exact BK104.out)) : gb126 ≠ gb104))
              clear HO_6; clear BK101; clear BK104; clear HB; have HO_6 := n0_; have BK101 := n1_; have BK104 := n2_; have HB := n3_; have BK126 := n4_; have GW126 := n5_; have GE126 := n6_; have NB101_126 := n7_; have NB126_101 := n8_; have NB104_126 := n9_; have NB126_104 := n10_; clear n0_ n1_ n2_ n3_ n4_ n5_ n6_ n7_ n8_ n9_ n10_; clear hb hbox hg; refine hK.out _ _ ⟨(Qaj BK101.out 0).trans rfl, (Qaj BK101.out 1).trans rfl, (Qaj BK101.out 2).trans rfl, (Qaj BK101.out 3).trans rfl, (Qaj BK101.out 4).trans rfl, (Qaj BK101.out 5).trans rfl, (Qaj BK101.out 6).trans rfl, (Qaj BK101.out 7).trans rfl, (Qaj BK101.out 8).trans rfl, ((HB.out.cell (World.block_lt_of_cell? w _ hw125_0)).trans hw125_0), ((HB.out.cell (World.block_lt_of_cell? w _ hw125_1)).trans hw125_1), ((HB.out.cell (World.block_lt_of_cell? w _ hw125_2)).trans hw125_2)⟩ (fun hHeld => ?_); clear hK K; refine norm_ (a' := ?_) ?_ ?_; rotate_left
              ·show Act.put _ (some 9) _ = _
               simp only [Act.put, put_, Qax, Qaz]; rfl
              refine one_ (i := 10) (N := none) #[tt,tt,tt,tt,tt,tt,tt,tt,tt,tt,tt] rfl rfl (one_of HT_.out (by kernel_rfl)) (by decide) (fun K hK => ?_); have hs72 : w71.cell? ⟨gb126, 0, none⟩ = some (.string (⟨#[]⟩ : ByteArray)) := (Qaj BK126.out 0).trans rfl; have hfs72 := blk_frozen BK126.out 0; have hns72_0 := NB101_126.out; have hns72_1 := NB104_126.out; have hms72_0 := NB126_101.out; have hms72_1 := NB126_104.out; have hs73 : w71.cell? ⟨gb126, 1, none⟩ = some (.string (⟨#[]⟩ : ByteArray)) := (Qaj BK126.out 1).trans rfl; have hfs73 := blk_frozen BK126.out 1; have hns73_0 := NB101_126.out; have hns73_1 := NB104_126.out; have hms73_0 := NB126_101.out; have hms73_1 := NB126_104.out; refine skip_ (w1 := ?_) (by rfl) rfl ?_ ?_; rotate_left
              ·go_simp; rfl
              refine hK.out _ _ ⟨((cell_far (p := ⟨gb126, _, none⟩) NB101_126.out _).trans (((cell_far (p := ⟨gb126, _, none⟩) NB101_126.out _).trans (hHeld.1)))), ((cell_far (p := ⟨gb126, _, none⟩) NB101_126.out _).trans (((cell_far (p := ⟨gb126, _, none⟩) NB101_126.out _).trans (hHeld.2.1)))), ((cell_far (p := ⟨gb126, _, none⟩) NB101_126.out _).trans (((cell_far (p := ⟨gb126, _, none⟩) NB101_126.out _).trans (hHeld.2.2.1)))), ((cell_far (p := ⟨gb126, _, none⟩) NB101_126.out _).trans (((cell_far (p := ⟨gb126, _, none⟩) NB101_126.out _).trans (hHeld.2.2.2.1)))), ((cell_far (p := ⟨gb126, _, none⟩) NB101_126.out _).trans (((cell_far (p := ⟨gb126, _, none⟩) NB101_126.out _).trans (hHeld.2.2.2.2.1)))), ((cell_far (p := ⟨gb126, _, none⟩) NB101_126.out _).trans (((cell_far (p := ⟨gb126, _, none⟩) NB101_126.out _).trans (hHeld.2.2.2.2.2.1)))), ((cell_far (p := ⟨gb126, _, none⟩) NB101_126.out _).trans (((cell_far (p := ⟨gb126, _, none⟩) NB101_126.out _).trans (hHeld.2.2.2.2.2.2.1)))), ((cell_far (p := ⟨gb126, _, none⟩) NB101_126.out _).trans (((cell_far (p := ⟨gb126, _, none⟩) NB101_126.out _).trans (hHeld.2.2.2.2.2.2.2.1)))), ((cell_far (p := ⟨gb126, _, none⟩) NB101_126.out _).trans (((cell_far (p := ⟨gb126, _, none⟩) NB101_126.out _).trans (hHeld.2.2.2.2.2.2.2.2.1)))), ((cell_far (p := ⟨gb126, _, none⟩) (by first | exact Nat.ne_of_lt (Nat.lt_of_lt_of_le (by have := World.block_lt_of_cell? _ _ hw125_0; first | rwa [add_block] at this | exact this) GW126.out) | (rw [add_block]; exact Nat.ne_of_lt (Nat.lt_of_lt_of_le (by have := World.block_lt_of_cell? _ _ hw125_0; first | rwa [add_block] at this | exact this) GW126.out)) | (show (Addr.add _ _).block ≠ _; rw [add_block]; exact Nat.ne_of_lt (Nat.lt_of_lt_of_le (by have := World.block_lt_of_cell? _ _ hw125_0; first | rwa [add_block] at this | exact this) GW126.out)) | (dsimp only; exact Nat.ne_of_lt (Nat.lt_of_lt_of_le (by have := World.block_lt_of_cell? _ _ hw125_0; first | rwa [add_block] at this | exact this) GW126.out))) _).trans (((cell_far (p := ⟨gb126, _, none⟩) (by first | exact Nat.ne_of_lt (Nat.lt_of_lt_of_le (by have := World.block_lt_of_cell? _ _ hw125_0; first | rwa [add_block] at this | exact this) GW126.out) | (rw [add_block]; exact Nat.ne_of_lt (Nat.lt_of_lt_of_le (by have := World.block_lt_of_cell? _ _ hw125_0; first | rwa [add_block] at this | exact this) GW126.out)) | (show (Addr.add _ _).block ≠ _; rw [add_block]; exact Nat.ne_of_lt (Nat.lt_of_lt_of_le (by have := World.block_lt_of_cell? _ _ hw125_0; first | rwa [add_block] at this | exact this) GW126.out)) | (dsimp only; exact Nat.ne_of_lt (Nat.lt_of_lt_of_le (by have := World.block_lt_of_cell? _ _ hw125_0; first | rwa [add_block] at this | exact this) GW126.out))) _).trans (hHeld.2.2.2.2.2.2.2.2.2.1)))), ((cell_far (p := ⟨gb126, _, none⟩) (by first | exact Nat.ne_of_lt (Nat.lt_of_lt_of_le (by have := World.block_lt_of_cell? _ _ hw125_1; first | rwa [add_block] at this | exact this) GW126.out) | (rw [add_block]; exact Nat.ne_of_lt (Nat.lt_of_lt_of_le (by have := World.block_lt_of_cell? _ _ hw125_1; first | rwa [add_block] at this | exact this) GW126.out)) | (show (Addr.add _ _).block ≠ _; rw [add_block]; exact Nat.ne_of_lt (Nat.lt_of_lt_of_le (by have := World.block_lt_of_cell? _ _ hw125_1; first | rwa [add_block] at this | exact this) GW126.out)) | (dsimp only; exact Nat.ne_of_lt (Nat.lt_of_lt_of_le (by have := World.block_lt_of_cell? _ _ hw125_1; first | rwa [add_block] at this | exact this) GW126.out))) _).trans (((cell_far (p := ⟨gb126, _, none⟩) (by first | exact Nat.ne_of_lt (Nat.lt_of_lt_of_le (by have := World.block_lt_of_cell? _ _ hw125_1; first | rwa [add_block] at this | exact this) GW126.out) | (rw [add_block]; exact Nat.ne_of_lt (Nat.lt_of_lt_of_le (by have := World.block_lt_of_cell? _ _ hw125_1; first | rwa [add_block] at this | exact this) GW126.out)) | (show (Addr.add _ _).block ≠ _; rw [add_block]; exact Nat.ne_of_lt (Nat.lt_of_lt_of_le (by have := World.block_lt_of_cell? _ _ hw125_1; first | rwa [add_block] at this | exact this) GW126.out)) | (dsimp only; exact Nat.ne_of_lt (Nat.lt_of_lt_of_le (by have := World.block_lt_of_cell? _ _ hw125_1; first | rwa [add_block] at this | exact this) GW126.out))) _).trans (hHeld.2.2.2.2.2.2.2.2.2.2.1)))), ((cell_far (p := ⟨gb126, _, none⟩) (by first | exact Nat.ne_of_lt (Nat.lt_of_lt_of_le (by have := World.block_lt_of_cell? _ _ hw125_2; first | rwa [add_block] at this | exact this) GW126.out) | (rw [add_block]; exact Nat.ne_of_lt (Nat.lt_of_lt_of_le (by have := World.block_lt_of_cell? _ _ hw125_2; first | rwa [add_block] at this | exact this) GW126.out)) | (show (Addr.add _ _).block ≠ _; rw [add_block]; exact Nat.ne_of_lt (Nat.lt_of_lt_of_le (by have := World.block_lt_of_cell? _ _ hw125_2; first | rwa [add_block] at this | exact this) GW126.out)) | (dsimp only; exact Nat.ne_of_lt (Nat.lt_of_lt_of_le (by have := World.block_lt_of_cell? _ _ hw125_2; first | rwa [add_block] at this | exact this) GW126.out))) _).trans (((cell_far (p := ⟨gb126, _, none⟩) (by first | exact Nat.ne_of_lt (Nat.lt_of_lt_of_le (by have := World.block_lt_of_cell? _ _ hw125_2; first | rwa [add_block] at this | exact this) GW126.out) | (rw [add_block]; exact Nat.ne_of_lt (Nat.lt_of_lt_of_le (by have := World.block_lt_of_cell? _ _ hw125_2; first | rwa [add_block] at this | exact this) GW126.out)) | (show (Addr.add _ _).block ≠ _; rw [add_block]; exact Nat.ne_of_lt (Nat.lt_of_lt_of_le (by have := World.block_lt_of_cell? _ _ hw125_2; first | rwa [add_block] at this | exact this) GW126.out)) | (dsimp only; exact Nat.ne_of_lt (Nat.lt_of_lt_of_le (by have := World.block_lt_of_cell? _ _ hw125_2; first | rwa [add_block] at this | exact this) GW126.out))) _).trans (hHeld.2.2.2.2.2.2.2.2.2.2.2))))⟩ (fun hHeld => ?_)
              clear hK K; refine done_ (done_of HT_.out (by kernel_rfl)) ?_
              try go_wp2
              go_loopg [6, 10] kj54 (fun kq v6 v10 w' => ∃ (x6_5 : List (S56)) (x10_5 : Int), v10 = .int .i64 x10_5 ∧ Qad (Qae.l1 kq l1 x6_5 x7_1 x10_5 a0_0 a0_1 a0_2 a0_3 a0_4 a0_5 a0_6 a0_7 a0_8 t102 t103 ((Qap l1 x7_1).f1) a0_8 = some r) ∧ Qad (kq ≤ kj54) ∧ Qad (Kd.R k56 56 w' w.heap.size (fun _ => True) v6 x6_5) ∧ Qad (w'.heap[gb101]? = some (.cells #[.int .i64 a0_0, .int .i64 a0_1, .string a0_2, .int .i64 a0_3, .string a0_4, .string a0_5, .string a0_6, .string a0_7, .string a0_8] 42 (0, 0))) ∧ Qad (w'.heap[gb104]? = some (.cells #[.string t102, .string t103] 24 (0, 0))) ∧ Qad (w'.heap[gb126]? = some (.cells #[.string ((Qap l1 x7_1).f1), .string a0_8] 24 (0, 0))) ∧ Qad (Below w.heap.size w w'))
              case atStart => exact ⟨(x6_29), (0), (by first | rfl | (simp; done) | (simp [*]; done)), H', ⟨Nat.le_refl _⟩, ⟨by (with_reducible repeat (first | apply Kd.Qaw | apply Kd.Qay | apply Kd.QaE)); exact Kd.R_mono (Kd.R_far (p := ⟨gb126, 1, none⟩) (Kd.R_far (p := ⟨gb126, 0, none⟩) (Kd.R_types HO_6.out BK126.out (by decide)) (fun _ hk => hk.2) (.string ((Qap l1 x7_1).f1))) (fun _ hk => hk.2) (.string a0_8)) (fun _ hk => trivial)⟩, ⟨by (with_reducible repeat (first | refine Qag ?_ _ | refine Qah ?_ | refine Qaf ?_ _)); refine blk_far ?_ NB101_126.out _; (with_reducible repeat (first | refine Qag ?_ _ | refine Qah ?_ | refine Qaf ?_ _)); refine blk_far ?_ NB101_126.out _; (with_reducible repeat (first | refine Qag ?_ _ | refine Qah ?_ | refine Qaf ?_ _)); exact BK101.out⟩, ⟨by (with_reducible repeat (first | refine Qag ?_ _ | refine Qah ?_ | refine Qaf ?_ _)); refine blk_far ?_ NB104_126.out _; (with_reducible repeat (first | refine Qag ?_ _ | refine Qah ?_ | refine Qaf ?_ _)); refine blk_far ?_ NB104_126.out _; (with_reducible repeat (first | refine Qag ?_ _ | refine Qah ?_ | refine Qaf ?_ _)); exact BK104.out⟩, ⟨by (with_reducible repeat (first | refine Qag ?_ _ | refine Qah ?_ | refine Qaf ?_ _)); refine blk_put (cs := #[.string ((Qap l1 x7_1).f1), .string (⟨#[]⟩ : ByteArray)]) ?_ 1 _ rfl; (with_reducible repeat (first | refine Qag ?_ _ | refine Qah ?_ | refine Qaf ?_ _)); refine blk_put (cs := #[.string (⟨#[]⟩ : ByteArray), .string (⟨#[]⟩ : ByteArray)]) ?_ 0 _ rfl; (with_reducible repeat (first | refine Qag ?_ _ | refine Qah ?_ | refine Qaf ?_ _)); exact BK126.out⟩, ⟨by repeat (first | (with_reducible first | exact HB.out | apply Qab | apply Qaa | apply Qac | refine Qai ?_ GE101.out | refine Qai ?_ GE104.out | refine Qai ?_ GE126.out) | exact HB.out)⟩⟩
              case round =>
               clear H'; (try clear p1); (try clear q1); (try clear hx1); (try clear p2); (try clear c5); (try clear c6); (try clear c8); (try clear p12); (try clear q12); (try clear hx12); (try clear c56); (try clear c56b0); (try clear c56b1); (try clear c57); (try clear c58); (try clear c60); (try clear c60b0); (try clear c60b1); (try clear c60b2); (try clear c67); (try clear c68); (try clear c68b0); (try clear c69); (try clear c69b0); (try clear hx120_0); (try clear hx120_1); (try clear hx120_2); (try clear hx123_0); (try clear hx123_1); (try clear hx123_2); (try clear hx125_0); (try clear hx125_1); (try clear hx125_2); (try clear p1); (try clear p12); (try clear p120); (try clear p123); (try clear p125); (try clear p2); (try clear q1); (try clear q12); (try clear q120); (try clear q123); (try clear q125); obtain ⟨x6_5, x10_5, rfl, HA, HK5, HO_6, BK101, BK104, BK126, HB⟩ := hrel
               cases gk with
               | zero => exact absurd HA.out (by simp [Qae.l1])
               | succ k5 =>
                have H := HA.out; clear HA; simp only [Qae.l1] at H
                by_cases c74 : x10_5 < (l1.length : Int)
                ·rw [if_pos c74] at H; have c74b0 : decide (x10_5 < (l1.length : Int)) = true := decide_eq_true c74; clear c74
                 by_cases c75 : 0 ≤ x10_5
                 ·rw [if_pos c75] at H; have c75b0 : decide (0 ≤ x10_5) = true := decide_eq_true c75; clear c75
                  by_cases c76 : ((((Qap l1 x10_5).f0.f0).toList) == ((Qap l1 x7_1).f1).toList && ((((Qap l1 x10_5).f0.f1).toList) == a0_8.toList)) = true
                  ·rw [if_pos c76] at H; have c76b0 : ((((Qap l1 x10_5).f0.f0).toList) == ((Qap l1 x7_1).f1).toList && ((((Qap l1 x10_5).f0.f1).toList) == a0_8.toList)) = true := c76
                   (try (have c76b1 : decide ((((Qap l1 x10_5).f0.f0).toList) = ((Qap l1 x7_1).f1).toList && ((((Qap l1 x10_5).f0.f1).toList) == a0_8.toList)) = true := by simpa using c76))
                   (try (have c76b2 : ((((Qap l1 x10_5).f0.f0).toList) == ((Qap l1 x7_1).f1).toList && ((((Qap l1 x10_5).f0.f1).toList) == a0_8.toList)) = true := by simpa using c76))
                   clear c76
                   by_cases c77 : x6_5.length < 2932031007402
                   ·rw [if_pos c77] at H; have LMc77 := Qad.mk c77; clear c77
                    obtain ⟨y129, hy129⟩ : ∃ y_ : List (S56), y_ = (x6_5 ++ [(⟨(⟨t102, t103⟩ : S24), (Qap l1 x10_5).f1⟩ : S56)]) := ⟨_, rfl⟩
                    replace H : (Qae.l1 k5 l1 y129 x7_1 (wrap64 (x10_5 + 1)) a0_0 a0_1 a0_2 a0_3 a0_4 a0_5 a0_6 a0_7 a0_8 t102 t103 ((Qap l1 x7_1).f1) a0_8) = some r := by first | (rw [hy129]; with_reducible exact H) | (have H2_ := (Option.bind_some _ _).symm.trans H; rw [hy129]; with_reducible exact H2_) | (have H2_ := (Option.bind_some _ _).symm.trans H; with_reducible exact H2_) | with_reducible exact H | (rw [hy129]; exact H) | exact H
                    have Ny129 := Qad.mk hy129; clear hy129; have H' := Qad.mk H; clear H
                    try go_wp2
                    have n0_ := Qad.mk (Kd.QaE HO_6.out); have n1_ := Qad.mk (Qah BK101.out); have n2_ := Qad.mk (Qah BK104.out); have n3_ := Qad.mk (Qah BK126.out); have n4_ := Qad.mk (Qac HB.out); clear HO_6; clear BK101; clear BK104; clear BK126; clear HB; have HO_6 := n0_; have BK101 := n1_; have BK104 := n2_; have BK126 := n3_; have HB := n4_; clear n0_ n1_ n2_ n3_ n4_; have p127 : 0 ≤ (x10_5 : Int) := of_decide_eq_true (by first | (with_reducible assumption) | assumption); have q127 : x10_5 < (l1.length : Int) := of_decide_eq_true (by first | (with_reducible assumption) | assumption); obtain ⟨ad127, e127, hx127_0, hx127_1, hx127_2⟩ := at_T56 HR1.out x10_5 p127 q127; have hw127_2 := hx127_2; have hw127_1 := hx127_1; have hw127_0 := hx127_0
                    obtain rfl : ad125 = ad127 := (by injection e127)
                    replace hx127_0 := (HB.out.cell (World.block_lt_of_cell? w _ hx127_0)).trans hx127_0; replace hx127_1 := (HB.out.cell (World.block_lt_of_cell? w _ hx127_1)).trans hx127_1; replace hx127_2 := (HB.out.cell (World.block_lt_of_cell? w _ hx127_2)).trans hx127_2; replace p127 := eq_true p127; replace q127 := eq_true q127; refine start_ (n := 7) (S := fun w' => w'.cell? ⟨gb126, 0, none⟩ = some (.string ((Qap l1 x7_1).f1)) ∧ w'.cell? ⟨gb126, 1, none⟩ = some (.string a0_8) ∧ w'.cell? (ad125.add ((x10_5).toNat * 3)) = some (.string ((Qap l1 x10_5).f0.f0)) ∧ w'.cell? ⟨(ad125.add ((x10_5).toNat * 3)).block, (ad125.add ((x10_5).toNat * 3)).off + 1, none⟩ = some (.string ((Qap l1 x10_5).f0.f1)) ∧ w'.cell? ⟨(ad125.add ((x10_5).toNat * 3)).block, (ad125.add ((x10_5).toNat * 3)).off + 2, none⟩ = some (.string ((Qap l1 x10_5).f1))) (ds := []) #[ff,ff,ff,ff,ff,ff,ff] (by kernel_rfl) rfl rfl ⟨(Qaj BK126.out 0).trans rfl, (Qaj BK126.out 1).trans rfl, ((HB.out.cell (World.block_lt_of_cell? w _ hw127_0)).trans hw127_0), ((HB.out.cell (World.block_lt_of_cell? w _ hw127_1)).trans hw127_1), ((HB.out.cell (World.block_lt_of_cell? w _ hw127_2)).trans hw127_2)⟩ (fun hHeld => ?_)
                    generalize wr.drew = w78 at HO_6 BK101 BK104 BK126 HB hx127_0 hx127_1 hx127_2 hHeld ⊢
                    refine QaI (i := 0) (N := some 108) (v := ?_) (a' := ?_) #[tt,ff,ff,ff,ff,ff,ff] rfl rfl (by kernel_rfl) (fun _ _ _ h => h) (Or.inl ⟨by rfl, ?_⟩) ?_ ?_; rotate_left
                    ·intro w'; go_simp; (with_reducible rfl)
                    rotate_left
                    ·simp only [Act.put, put_, Qax, Qaz]; rfl
                    refine QaI (i := 1) (N := some 109) (v := ?_) (a' := ?_) #[tt,tt,ff,ff,ff,ff,ff] rfl rfl (by kernel_rfl) (fun _ _ _ h => h) (Or.inl ⟨by rfl, ?_⟩) ?_ ?_; rotate_left
                    ·intro w'; go_simp; (with_reducible rfl)
                    rotate_left
                    ·simp only [Act.put, put_, Qax, Qaz]; rfl
                    refine QaI (i := 2) (N := some 110) (v := ?_) (a' := ?_) #[tt,tt,tt,ff,ff,ff,ff] rfl rfl (by kernel_rfl) (fun _ _ _ h => h) (Or.inl ⟨by rfl, ?_⟩) ?_ ?_; rotate_left
                    ·intro w'; go_simp; (with_reducible rfl)
                    rotate_left
                    ·simp only [Act.put, put_, Qax, Qaz]; rfl
                    refine QaI (i := 3) (N := some 111) (v := ?_) (a' := ?_) #[tt,tt,tt,tt,ff,ff,ff] rfl rfl (by kernel_rfl) (fun _ _ _ h => h) (Or.inl ⟨by rfl, ?_⟩) ?_ ?_; rotate_left
                    ·intro w'; go_simp; (with_reducible rfl)
                    rotate_left
                    ·simp only [Act.put, put_, Qax, Qaz]; rfl
                    refine take_ (i := 4) (N := some 112) (v := ?_) (a' := ?_) #[tt,tt,tt,tt,tt,ff,ff] rfl rfl (by kernel_rfl) (fun _ _ _ h => h) (Or.inl ⟨by rfl, ?_⟩) hHeld ?_ ?_; rotate_left
                    ·rintro w' ⟨s0, s1, s2, s3, s4⟩; go_simp; (with_reducible rfl)
                    rotate_left
                    ·simp only [Act.put, put_, Qax, Qaz]; rfl
                    refine take_ (i := 5) (N := some 113) (v := ?_) (a' := ?_) #[tt,tt,tt,tt,tt,tt,ff] rfl rfl (by kernel_rfl) (fun _ _ _ h => h) (Or.inl ⟨by rfl, ?_⟩) hHeld ?_ ?_; rotate_left
                    ·rintro w' ⟨s0, s1, s2, s3, s4⟩; go_simp; (with_reducible rfl)
                    rotate_left
                    ·simp only [Act.put, put_, Qax, Qaz]; rfl
                    refine QaI (i := 6) (N := some 114) (v := ?_) (a' := ?_) #[tt,tt,tt,tt,tt,tt,tt] rfl rfl (by kernel_rfl) (fun _ _ _ h => h) (Or.inl ⟨by rfl, ?_⟩) ?_ ?_; rotate_left
                    ·intro w'; go_simp; (with_reducible rfl)
                    rotate_left
                    ·simp only [Act.put, put_, Qax, Qaz]; rfl
                    refine done_ (by kernel_rfl) ?_
                    try go_wp2
                    have n0_ := Qad.mk (Kd.QaE HO_6.out); have n1_ := Qad.mk (Qah BK101.out); have n2_ := Qad.mk (Qah BK104.out); have n3_ := Qad.mk (Qah BK126.out); have n4_ := Qad.mk (Qac HB.out); clear HO_6; clear BK101; clear BK104; clear BK126; clear HB; have HO_6 := n0_; have BK101 := n1_; have BK104 := n2_; have BK126 := n3_; have HB := n4_; clear n0_ n1_ n2_ n3_ n4_; have p128 : 0 ≤ (x10_5 : Int) := of_decide_eq_true (by first | (with_reducible assumption) | assumption); have q128 : x10_5 < (l1.length : Int) := of_decide_eq_true (by first | (with_reducible assumption) | assumption); obtain ⟨ad128, e128, hx128_0, hx128_1, hx128_2⟩ := at_T56 HR1.out x10_5 p128 q128; have hw128_2 := hx128_2; have hw128_1 := hx128_1; have hw128_0 := hx128_0
                    obtain rfl : ad125 = ad128 := (by injection e128)
                    replace hx128_0 := (HB.out.cell (World.block_lt_of_cell? w _ hx128_0)).trans hx128_0; replace hx128_1 := (HB.out.cell (World.block_lt_of_cell? w _ hx128_1)).trans hx128_1; replace hx128_2 := (HB.out.cell (World.block_lt_of_cell? w _ hx128_2)).trans hx128_2; replace p128 := eq_true p128; replace q128 := eq_true q128; refine start_ (n := 11) (S := fun w' => w'.cell? ⟨gb104, 0, none⟩ = some (.string t102) ∧ w'.cell? ⟨gb104, 1, none⟩ = some (.string t103) ∧ w'.cell? (ad125.add ((x10_5).toNat * 3)) = some (.string ((Qap l1 x10_5).f0.f0)) ∧ w'.cell? ⟨(ad125.add ((x10_5).toNat * 3)).block, (ad125.add ((x10_5).toNat * 3)).off + 1, none⟩ = some (.string ((Qap l1 x10_5).f0.f1)) ∧ w'.cell? ⟨(ad125.add ((x10_5).toNat * 3)).block, (ad125.add ((x10_5).toNat * 3)).off + 2, none⟩ = some (.string ((Qap l1 x10_5).f1))) (ds := []) #[ff,ff,ff,ff,ff,ff,ff,ff,ff,ff,ff] (by kernel_rfl) rfl rfl ⟨(Qaj BK104.out 0).trans rfl, (Qaj BK104.out 1).trans rfl, ((HB.out.cell (World.block_lt_of_cell? w _ hw128_0)).trans hw128_0), ((HB.out.cell (World.block_lt_of_cell? w _ hw128_1)).trans hw128_1), ((HB.out.cell (World.block_lt_of_cell? w _ hw128_2)).trans hw128_2)⟩ (fun hHeld => ?_); refine with_tabW Qae.tab18 Qae.bits18 (fun HT_ HW_ => ?_)
                    generalize w78.drew = w79 at HO_6 BK101 BK104 BK126 HB hx128_0 hx128_1 hx128_2 hHeld ⊢
                    refine QaI (i := 0) (N := some 115) (v := ?_) (a' := ?_) #[tt,ff,ff,ff,ff,ff,ff,ff,ff,ff,ff] rfl rfl (QaA HT_.out (by kernel_rfl)) (fun _ _ _ h => h) (Or.inl ⟨by rfl, ?_⟩) ?_ ?_; rotate_left
                    ·intro w'; go_simp; (with_reducible rfl)
                    rotate_left
                    ·simp only [Act.put, put_, Qax, Qaz]; rfl
                    refine QaI (i := 2) (N := some 117) (v := ?_) (a' := ?_) #[tt,ff,tt,ff,ff,ff,ff,ff,ff,ff,ff] rfl rfl (QaA HT_.out (by kernel_rfl)) (fun _ _ _ h => h) (Or.inl ⟨by rfl, ?_⟩) ?_ ?_; rotate_left
                    ·intro w'; go_simp; (with_reducible rfl)
                    rotate_left
                    ·simp only [Act.put, put_, Qax, Qaz]; rfl
                    refine QaI (i := 3) (N := some 118) (v := ?_) (a' := ?_) #[tt,ff,tt,tt,ff,ff,ff,ff,ff,ff,ff] rfl rfl (QaA HT_.out (by kernel_rfl)) (fun _ _ _ h => h) (Or.inl ⟨by rfl, ?_⟩) ?_ ?_; rotate_left
                    ·intro w'; go_simp; (with_reducible rfl)
                    rotate_left
                    ·simp only [Act.put, put_, Qax, Qaz]; rfl
                    refine QaI (i := 4) (N := some 119) (v := ?_) (a' := ?_) #[tt,ff,tt,tt,tt,ff,ff,ff,ff,ff,ff] rfl rfl (QaA HT_.out (by kernel_rfl)) (fun _ _ _ h => h) (Or.inl ⟨by rfl, ?_⟩) ?_ ?_; rotate_left
                    ·intro w'; go_simp; (with_reducible rfl)
                    rotate_left
                    ·simp only [Act.put, put_, Qax, Qaz]; rfl
                    refine QaI (i := 5) (N := some 120) (v := ?_) (a' := ?_) #[tt,ff,tt,tt,tt,tt,ff,ff,ff,ff,ff] rfl rfl (QaA HT_.out (by kernel_rfl)) (fun _ _ _ h => h) (Or.inl ⟨by rfl, ?_⟩) ?_ ?_; rotate_left
                    ·intro w'; go_simp; (with_reducible rfl)
                    rotate_left
                    ·simp only [Act.put, put_, Qax, Qaz]; rfl
                    refine take_ (i := 1) (N := some 116) (v := ?_) (a' := ?_) #[tt,tt,tt,tt,tt,tt,ff,ff,ff,ff,ff] rfl rfl (take_ofW HT_.out HW_.out (by kernel_rfl)) (fun _ _ _ h => h) (Or.inl ⟨by rfl, ?_⟩) hHeld ?_ ?_; rotate_left
                    ·rintro w' ⟨s0, s1, s2, s3, s4⟩; go_simp; (with_reducible rfl)
                    rotate_left
                    ·simp only [Act.put, put_, Qax, Qaz]; rfl
                    refine take_ (i := 6) (N := some 121) (v := ?_) (a' := ?_) #[tt,tt,tt,tt,tt,tt,tt,ff,ff,ff,ff] rfl rfl (take_ofW HT_.out HW_.out (by kernel_rfl)) (fun _ _ _ h => h) (Or.inl ⟨by rfl, ?_⟩) hHeld ?_ ?_; rotate_left
                    ·rintro w' ⟨s0, s1, s2, s3, s4⟩; go_simp; (with_reducible rfl)
                    rotate_left
                    ·simp only [Act.put, put_, Qax, Qaz]; rfl
                    refine QaI (i := 7) (N := some 122) (v := ?_) (a' := ?_) #[tt,tt,tt,tt,tt,tt,tt,tt,ff,ff,ff] rfl rfl (QaA HT_.out (by kernel_rfl)) (fun _ _ _ h => h) (Or.inl ⟨by rfl, ?_⟩) ?_ ?_; rotate_left
                    ·intro w'; go_simp; (with_reducible rfl)
                    rotate_left
                    ·simp only [Act.put, put_, Qax, Qaz]; rfl
                    refine one_ (i := 8) (N := some 123) #[tt,tt,tt,tt,tt,tt,tt,tt,tt,ff,ff] rfl rfl (one_of HT_.out (by kernel_rfl)) (by decide) (fun K hK => ?_); refine value_ (w1 := ?_) (v := ?_) (by rfl) rfl ?_ ?_; rotate_left 2
                    ·go_simp; constructor
                     ·rfl
                     ·rfl
                    refine hK.out _ _ ⟨(Qaj (Qaf BK104.out _) 0).trans rfl, (Qaj (Qaf BK104.out _) 1).trans rfl, (World.cell?_alloc_lt _ _ _ (World.block_lt_of_cell? _ _ (((HB.out.cell (World.block_lt_of_cell? w _ hw128_0)).trans hw128_0)))).trans (((HB.out.cell (World.block_lt_of_cell? w _ hw128_0)).trans hw128_0)), (World.cell?_alloc_lt _ _ _ (World.block_lt_of_cell? _ _ (((HB.out.cell (World.block_lt_of_cell? w _ hw128_1)).trans hw128_1)))).trans (((HB.out.cell (World.block_lt_of_cell? w _ hw128_1)).trans hw128_1)), (World.cell?_alloc_lt _ _ _ (World.block_lt_of_cell? _ _ (((HB.out.cell (World.block_lt_of_cell? w _ hw128_2)).trans hw128_2)))).trans (((HB.out.cell (World.block_lt_of_cell? w _ hw128_2)).trans hw128_2))⟩ (fun hHeld => ?_); clear hK K; refine norm_ (a' := ?_) ?_ ?_; rotate_left
                    ·show Act.put _ (some 123) _ = _
                     simp only [Act.put, put_, Qax, Qaz]; rfl
                    refine one_ (i := 9) (N := some 124) #[tt,tt,tt,tt,tt,tt,tt,tt,tt,tt,ff] rfl rfl (one_of HT_.out (by kernel_rfl)) (by decide) (fun K hK => ?_); refine Kd.R_append_step k56 (w0 := w) w.heap.size (by rfl) (.tmp 115) (.tmp 123) 54 56 (.agg #[(.string ⟨#[]⟩), (.string ⟨#[]⟩), (.string ⟨#[]⟩)]) 48 rfl Tryz.underlying54 info56 rfl (by decide) (by omega) u6 x6_5 (⟨(⟨t102, t103⟩ : S24), (Qap l1 x10_5).f1⟩ : S56) [.string t102, .string t103, .string ((Qap l1 x10_5).f1)] (fun _ => True) (fun _ => False) rfl rfl ?aP (fun _ hk => hk.elim) ?aF ?aO ?aB ?aS ?aL ?_
                    (case aP => exact k56_mkM _ _ _ (⟨(⟨t102, t103⟩ : S24), (Qap l1 x10_5).f1⟩ : S56))
                    (case aB => exact (by repeat (first | (with_reducible first | exact HB.out | apply Qab | apply Qaa | apply Qac | refine Qai ?_ GE101.out | refine Qai ?_ GE104.out | refine Qai ?_ GE126.out) | exact HB.out)))
                    (case aF => exact (fun _ _ => trivial))
                    (case aO => exact (by (with_reducible repeat (first | apply Kd.Qaw | apply Kd.Qay | apply Kd.QaE)); exact HO_6.out))
                    (case aS => exact (Qas (by repeat (first | (with_reducible first | exact HB.out | apply Qab | apply Qaa | apply Qac | refine Qai ?_ GE101.out | refine Qai ?_ GE104.out | refine Qai ?_ GE126.out) | exact HB.out))))
                    (case aL => have := LMc77.out; omega)
                    intro v130 w80 ho hb hg hat
                    rw [← Ny129.out] at ho; have n0_ := Qad.mk (blk_grown (g := gb101) (o := Qau a0_0 a0_1 a0_2 a0_3 a0_4 a0_5 a0_6 a0_7 a0_8 42) (by (with_reducible repeat (first | refine Qag ?_ _ | refine Qah ?_ | refine Qaf ?_ _)); exact BK101.out) hg (Kd.R_ne HO_6.out BK101.out (by decide))); have n1_ := Qad.mk (blk_grown (g := gb104) (o := ob_ss t102 t103 24) (by (with_reducible repeat (first | refine Qag ?_ _ | refine Qah ?_ | refine Qaf ?_ _)); exact BK104.out) hg (Kd.R_ne HO_6.out BK104.out (by decide))); have n2_ := Qad.mk (blk_grown (g := gb126) (o := ob_ss ((Qap l1 x7_1).f1) a0_8 24) (by (with_reducible repeat (first | refine Qag ?_ _ | refine Qah ?_ | refine Qaf ?_ _)); exact BK126.out) hg (Kd.R_ne HO_6.out BK126.out (by decide))); have n3_ := Qad.mk (hb); have n4_ := Qad.mk (ho); clear BK101; clear BK104; clear BK126; clear HB; clear HO_6; have BK101 := n0_; have BK104 := n1_; have BK126 := n2_; have HB := n3_; have HO131 := n4_; clear n0_ n1_ n2_ n3_ n4_
                    clear ho hb hg hat
                    refine hK.out _ _ ⟨(Qaj BK104.out 0).trans rfl, (Qaj BK104.out 1).trans rfl, ((HB.out.cell (World.block_lt_of_cell? w _ hw128_0)).trans hw128_0), ((HB.out.cell (World.block_lt_of_cell? w _ hw128_1)).trans hw128_1), ((HB.out.cell (World.block_lt_of_cell? w _ hw128_2)).trans hw128_2)⟩ (fun hHeld => ?_); clear hK K; refine norm_ (a' := ?_) ?_ ?_; rotate_left
                    ·show Act.put _ (some 124) _ = _
                     simp only [Act.put, put_, Qax, Qaz]; rfl
                    refine QaI (i := 10) (N := some 6) (v := ?_) (a' := ?_) #[tt,tt,tt,tt,tt,tt,tt,tt,tt,tt,tt] rfl rfl (QaA HT_.out (by kernel_rfl)) (fun _ _ _ h => h) (Or.inl ⟨by rfl, ?_⟩) ?_ ?_; rotate_left
                    ·intro w'; go_simp; (with_reducible rfl)
                    rotate_left
                    ·simp only [Act.put, put_, Qax, Qaz]; rfl
                    refine done_ (done_of HT_.out (by kernel_rfl)) ?_
                    try go_wp2
                    go_roundg k5
                    case measure => have := HK1.out; have := HJ21.out; have := HJ29.out; have := HJ54.out; have := HK5.out; omega
                    case rel => exact ⟨(y129), (wrap64 (x10_5 + 1)), (by first | rfl | (simp; done) | (simp [*]; done)), H', ⟨by have := HK1.out; have := HJ21.out; have := HJ29.out; have := HJ54.out; have := HK5.out; omega⟩, ⟨by (with_reducible repeat (first | apply Kd.Qaw | apply Kd.Qay | apply Kd.QaE)); exact HO131.out⟩, ⟨by (with_reducible repeat (first | refine Qag ?_ _ | refine Qah ?_ | refine Qaf ?_ _)); exact BK101.out⟩, ⟨by (with_reducible repeat (first | refine Qag ?_ _ | refine Qah ?_ | refine Qaf ?_ _)); exact BK104.out⟩, ⟨by (with_reducible repeat (first | refine Qag ?_ _ | refine Qah ?_ | refine Qaf ?_ _)); exact BK126.out⟩, ⟨by repeat (first | (with_reducible first | exact HB.out | apply Qab | apply Qaa | apply Qac | refine Qai ?_ GE101.out | refine Qai ?_ GE104.out | refine Qai ?_ GE126.out) | exact HB.out)⟩⟩
                   ·rw [if_neg c77] at H; exact absurd H (by simp)
                  ·rw [if_neg c76] at H
                   have c76b0 : ((((Qap l1 x10_5).f0.f0).toList) == ((Qap l1 x7_1).f1).toList && ((((Qap l1 x10_5).f0.f1).toList) == a0_8.toList)) = false := by simpa using c76
                   (try (have c76b1 : decide ((((Qap l1 x10_5).f0.f0).toList) = ((Qap l1 x7_1).f1).toList && ((((Qap l1 x10_5).f0.f1).toList) == a0_8.toList)) = false := by simpa using c76))
                   (try (have c76b2 : ((((Qap l1 x10_5).f0.f0).toList) == ((Qap l1 x7_1).f1).toList && ((((Qap l1 x10_5).f0.f1).toList) == a0_8.toList)) = false := by simpa using c76))
                   (try (have c76b3 : ¬ ((((Qap l1 x10_5).f0.f0).toList) = ((Qap l1 x7_1).f1).toList && ((((Qap l1 x10_5).f0.f1).toList) == a0_8.toList)) := by simpa using c76))
                   clear c76; have H' := Qad.mk H; clear H
                   try go_wp2
                   have n0_ := Qad.mk (Kd.QaE HO_6.out); have n1_ := Qad.mk (Qah BK101.out); have n2_ := Qad.mk (Qah BK104.out); have n3_ := Qad.mk (Qah BK126.out); have n4_ := Qad.mk (Qac HB.out); clear HO_6; clear BK101; clear BK104; clear BK126; clear HB; have HO_6 := n0_; have BK101 := n1_; have BK104 := n2_; have BK126 := n3_; have HB := n4_; clear n0_ n1_ n2_ n3_ n4_; have p127 : 0 ≤ (x10_5 : Int) := of_decide_eq_true (by first | (with_reducible assumption) | assumption); have q127 : x10_5 < (l1.length : Int) := of_decide_eq_true (by first | (with_reducible assumption) | assumption); obtain ⟨ad127, e127, hx127_0, hx127_1, hx127_2⟩ := at_T56 HR1.out x10_5 p127 q127; have hw127_2 := hx127_2; have hw127_1 := hx127_1; have hw127_0 := hx127_0
                   obtain rfl : ad125 = ad127 := (by injection e127)
                   replace hx127_0 := (HB.out.cell (World.block_lt_of_cell? w _ hx127_0)).trans hx127_0; replace hx127_1 := (HB.out.cell (World.block_lt_of_cell? w _ hx127_1)).trans hx127_1; replace hx127_2 := (HB.out.cell (World.block_lt_of_cell? w _ hx127_2)).trans hx127_2; replace p127 := eq_true p127; replace q127 := eq_true q127; refine start_ (n := 7) (S := fun w' => w'.cell? ⟨gb126, 0, none⟩ = some (.string ((Qap l1 x7_1).f1)) ∧ w'.cell? ⟨gb126, 1, none⟩ = some (.string a0_8) ∧ w'.cell? (ad125.add ((x10_5).toNat * 3)) = some (.string ((Qap l1 x10_5).f0.f0)) ∧ w'.cell? ⟨(ad125.add ((x10_5).toNat * 3)).block, (ad125.add ((x10_5).toNat * 3)).off + 1, none⟩ = some (.string ((Qap l1 x10_5).f0.f1)) ∧ w'.cell? ⟨(ad125.add ((x10_5).toNat * 3)).block, (ad125.add ((x10_5).toNat * 3)).off + 2, none⟩ = some (.string ((Qap l1 x10_5).f1))) (ds := []) #[ff,ff,ff,ff,ff,ff,ff] (by kernel_rfl) rfl rfl ⟨(Qaj BK126.out 0).trans rfl, (Qaj BK126.out 1).trans rfl, ((HB.out.cell (World.block_lt_of_cell? w _ hw127_0)).trans hw127_0), ((HB.out.cell (World.block_lt_of_cell? w _ hw127_1)).trans hw127_1), ((HB.out.cell (World.block_lt_of_cell? w _ hw127_2)).trans hw127_2)⟩ (fun hHeld => ?_)
                   generalize wr.drew = w81 at HO_6 BK101 BK104 BK126 HB hx127_0 hx127_1 hx127_2 hHeld ⊢
                   refine QaI (i := 0) (N := some 108) (v := ?_) (a' := ?_) #[tt,ff,ff,ff,ff,ff,ff] rfl rfl (by kernel_rfl) (fun _ _ _ h => h) (Or.inl ⟨by rfl, ?_⟩) ?_ ?_; rotate_left
                   ·intro w'; go_simp; (with_reducible rfl)
                   rotate_left
                   ·simp only [Act.put, put_, Qax, Qaz]; rfl
                   refine QaI (i := 1) (N := some 109) (v := ?_) (a' := ?_) #[tt,tt,ff,ff,ff,ff,ff] rfl rfl (by kernel_rfl) (fun _ _ _ h => h) (Or.inl ⟨by rfl, ?_⟩) ?_ ?_; rotate_left
                   ·intro w'; go_simp; (with_reducible rfl)
                   rotate_left
                   ·simp only [Act.put, put_, Qax, Qaz]; rfl
                   refine QaI (i := 2) (N := some 110) (v := ?_) (a' := ?_) #[tt,tt,tt,ff,ff,ff,ff] rfl rfl (by kernel_rfl) (fun _ _ _ h => h) (Or.inl ⟨by rfl, ?_⟩) ?_ ?_; rotate_left
                   ·intro w'; go_simp; (with_reducible rfl)
                   rotate_left
                   ·simp only [Act.put, put_, Qax, Qaz]; rfl
                   refine QaI (i := 3) (N := some 111) (v := ?_) (a' := ?_) #[tt,tt,tt,tt,ff,ff,ff] rfl rfl (by kernel_rfl) (fun _ _ _ h => h) (Or.inl ⟨by rfl, ?_⟩) ?_ ?_; rotate_left
                   ·intro w'; go_simp; (with_reducible rfl)
                   rotate_left
                   ·simp only [Act.put, put_, Qax, Qaz]; rfl
                   refine take_ (i := 4) (N := some 112) (v := ?_) (a' := ?_) #[tt,tt,tt,tt,tt,ff,ff] rfl rfl (by kernel_rfl) (fun _ _ _ h => h) (Or.inl ⟨by rfl, ?_⟩) hHeld ?_ ?_; rotate_left
                   ·rintro w' ⟨s0, s1, s2, s3, s4⟩; go_simp; (with_reducible rfl)
                   rotate_left
                   ·simp only [Act.put, put_, Qax, Qaz]; rfl
                   refine take_ (i := 5) (N := some 113) (v := ?_) (a' := ?_) #[tt,tt,tt,tt,tt,tt,ff] rfl rfl (by kernel_rfl) (fun _ _ _ h => h) (Or.inl ⟨by rfl, ?_⟩) hHeld ?_ ?_; rotate_left
                   ·rintro w' ⟨s0, s1, s2, s3, s4⟩; go_simp; (with_reducible rfl)
                   rotate_left
                   ·simp only [Act.put, put_, Qax, Qaz]; rfl
                   refine QaI (i := 6) (N := some 114) (v := ?_) (a' := ?_) #[tt,tt,tt,tt,tt,tt,tt] rfl rfl (by kernel_rfl) (fun _ _ _ h => h) (Or.inl ⟨by rfl, ?_⟩) ?_ ?_; rotate_left
                   ·intro w'; go_simp; (with_reducible rfl)
                   rotate_left
                   ·simp only [Act.put, put_, Qax, Qaz]; rfl
                   refine done_ (by kernel_rfl) ?_
                   try go_wp2
                   go_roundg k5
                   case measure => have := HK1.out; have := HJ21.out; have := HJ29.out; have := HJ54.out; have := HK5.out; omega
                   case rel => exact ⟨(x6_5), (wrap64 (x10_5 + 1)), (by first | rfl | (simp; done) | (simp [*]; done)), H', ⟨by have := HK1.out; have := HJ21.out; have := HJ29.out; have := HJ54.out; have := HK5.out; omega⟩, ⟨by (with_reducible repeat (first | apply Kd.Qaw | apply Kd.Qay | apply Kd.QaE)); exact HO_6.out⟩, ⟨by (with_reducible repeat (first | refine Qag ?_ _ | refine Qah ?_ | refine Qaf ?_ _)); exact BK101.out⟩, ⟨by (with_reducible repeat (first | refine Qag ?_ _ | refine Qah ?_ | refine Qaf ?_ _)); exact BK104.out⟩, ⟨by (with_reducible repeat (first | refine Qag ?_ _ | refine Qah ?_ | refine Qaf ?_ _)); exact BK126.out⟩, ⟨by repeat (first | (with_reducible first | exact HB.out | apply Qab | apply Qaa | apply Qac | refine Qai ?_ GE101.out | refine Qai ?_ GE104.out | refine Qai ?_ GE126.out) | exact HB.out)⟩⟩
                 ·rw [if_neg c75] at H; exact absurd H (by simp)
                ·rw [if_neg c74] at H; have c74b0 : decide (x10_5 < (l1.length : Int)) = false := decide_eq_false c74; clear c74; have H' := Qad.mk H; clear H; go_wp2
                 go_roundg k5
                 case measure => have := HK1.out; have := HJ21.out; have := HJ29.out; have := HJ54.out; have := HK5.out; omega
                 case rel => exact ⟨(x6_5), (wrap64 (x7_1 + 1)), (by first | rfl | (simp; done) | (simp [*]; done)), H', ⟨by have := HK1.out; have := HJ21.out; have := HJ29.out; have := HJ54.out; have := HK5.out; omega⟩, ⟨by (with_reducible repeat (first | apply Kd.Qaw | apply Kd.Qay | apply Kd.QaE)); exact HO_6.out⟩, ⟨by (with_reducible repeat (first | refine Qag ?_ _ | refine Qah ?_ | refine Qaf ?_ _)); exact BK101.out⟩, ⟨by (with_reducible repeat (first | refine Qag ?_ _ | refine Qah ?_ | refine Qaf ?_ _)); exact BK104.out⟩, ⟨by repeat (first | (with_reducible first | exact HB.out | apply Qab | apply Qaa | apply Qac | refine Qai ?_ GE101.out | refine Qai ?_ GE104.out | refine Qai ?_ GE126.out) | exact HB.out)⟩⟩
             ·rw [if_neg c69] at H; exact absurd H (by simp)
            ·rw [if_neg c68] at H; exact absurd H (by simp)
           ·replace c67 := Bool.eq_false_iff.mpr c67; subst c67
            have H1 : (Qae.l0 kj54 l1 x6_29 (wrap64 (x7_1 + 1)) a0_0 a0_1 a0_2 a0_3 a0_4 a0_5 a0_6 a0_7 a0_8 t102 t103) = some r := by rw [if_neg (show ¬ (false = true) by decide)] at H; exact H
            clear H; have H := H1; clear H1; have H' := Qad.mk H; clear H; go_wp2
            go_roundg kj54
            case measure => have := HK1.out; have := HJ21.out; have := HJ29.out; have := HJ54.out; omega
            case rel => exact ⟨(x6_29), (wrap64 (x7_1 + 1)), (by first | rfl | (simp; done) | (simp [*]; done)), H', ⟨by have := HK1.out; have := HJ21.out; have := HJ29.out; have := HJ54.out; omega⟩, ⟨by (with_reducible repeat (first | apply Kd.Qaw | apply Kd.Qay | apply Kd.QaE)); exact HO_6.out⟩, ⟨by (with_reducible repeat (first | refine Qag ?_ _ | refine Qah ?_ | refine Qaf ?_ _)); exact BK101.out⟩, ⟨by (with_reducible repeat (first | refine Qag ?_ _ | refine Qah ?_ | refine Qaf ?_ _)); exact BK104.out⟩, ⟨by repeat (first | (with_reducible first | exact HB.out | apply Qab | apply Qaa | apply Qac | refine Qai ?_ GE101.out | refine Qai ?_ GE104.out) | exact HB.out)⟩⟩
    ·rw [if_neg c21] at H; have c21b0 : decide (x7_1 < (l1.length : Int)) = false := decide_eq_false c21; clear c21; obtain rfl := Option.some.inj H; go_wp2; go_ret; exact ⟨_, by first | rfl | (simp [Qar, Qaq] <;> rfl) | (simp [*, Qar, Qaq] <;> rfl), by (with_reducible repeat (first | apply Kd.Qaw | apply Kd.Qay | apply Kd.QaE)); exact HO_6.out, by repeat (first | (with_reducible first | exact HB.out | apply Qab | apply Qaa | apply Qac | refine Qai ?_ GE101.out | refine Qai ?_ GE104.out) | exact HB.out)⟩
end Go.Proofs.YtmaipohgahdclaaGreatDoor.Pr
end
