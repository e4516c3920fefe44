/- The proof's own texts, joined: part 3. No conditions. -/
import Derived.Test.YtbjjgaahdnfflaaGreatDoorProg
import Derived.Below
import Derived.Deep.Draws
import Derived.Deep.AppendLies
import Derived.Maps.AppendAt
import Derived.OwnWalk
import Derived.Laws.BytesArg
import Derived.Laws.MakeOwn
import Derived.Laws.OwnMore
import Derived.Deep.OwnRows
import Derived.Tactics
import Derived.Lib.ConvBytes
import Derived.Laws.Slices
import Derived.WalkKit
import Derived.KernelRfl
import Derived.RowKit3
import Derived.Deep.LoopGhost
import Derived.Deep.QuietTactic
import Derived.BigQuiet
import Derived.WideLaws
import Derived.Deep.DeepCutAuto
import Derived.Deep.CutBlock
import Derived.Deep.RegionHeld3
import Derived.Laws.Rows
import Derived.Lib.AppendStr
import Derived.ArgAppend
import Derived.Laws.IdiomCopy
import Derived.OrdersHeld
import Derived.Laws.BitsLemmas
import Derived.RowKit
import Derived.Laws.StructEq
import Derived.WalkSpells
import Derived.WalkLawsBesides
import Derived.Lib.Hide
import Derived.Outline
import Derived.Shelf.SlicesG.Cmp
import Derived.StillTailTactics
import Derived.Sort.Grow
import Derived.Lib.SlicesS
import Derived.Shelf.GgSortFunc.InsertionK
import Derived.Ground.SlgcProg
import Derived.Maps.OwnSet
import Derived.Maps.RangeRun
import Derived.Maps.Range
import Derived.Carry
import Derived.Shelf.SlSortCmp.NoneTotal
import Derived.Shelf.SlSortCmp.WholeK
import Derived.Shelf.SlicesE.Clone
import Derived.Ground.SlsfProg
import Derived.Ground.SlgnProg
import Derived.Laws.RangeAny
import Derived.Laws.Closers25
import Derived.Deep.RegionWith
import Derived.RegionTactic
import Derived.ChangeAlike
import Derived.Deep.RegionLaw
import Derived.Lib.SmallJoins
import Derived.DeepKeys4
import Derived.Sort.Walk0
import Derived.Laws.Strings
import Derived.Deep.DrawnRows
import Derived.Test.YtbjjgaahdnfflaaGreatDoorPAlone0
import Derived.Test.YtbjjgaahdnfflaaGreatDoorPAlone1
import Derived.Test.YtbjjgaahdnfflaaGreatDoorPAlone2
section
namespace Go.Proofs.YtbjjgaahdnfflaaGreatDoor.Pr
open Go.RowKit Go.Proofs.YtbjjgaahdnfflaaGreatDoorW.PrintWords Go.Proofs.YtbjjgaahdnfflaaGreatDoorW.PrintLast Go.Proofs.YtbjjgaahdnfflaaGreatDoorW.PrintMore
set_option linter.unusedVariables false
set_option linter.unusedSimpArgs false
section
attribute [local go_sem] QaQ QaO QaZ QaY QaJ QaI QaP QaN
theorem eqA24 (d : Nat) (w : World) (x0 y0 : ByteArray) (x1 y1 : ByteArray) :
    (Op.equalIn (d + 2) 24 (.agg #[.string x0, .string x1]) (.agg #[.string y0, .string y1])).run Tryz.prog w = .ok (x0.toList == y0.toList && (x1.toList == y1.toList)) w := by
  refine eqA_of Tryz.underlying24 (by kernel_rfl) ?_; refine eqf_cons (by rfl) (by go_simp; rfl) (by go_simp; rfl) (by go_simp) ?_; exact eqf_last (by rfl) (by go_simp; rfl) (by go_simp; rfl) (by go_simp)

theorem eqA27 (d : Nat) (w : World) (x0 y0 : Int) (x1 y1 : Int) :
    (Op.equalIn (d + 2) 27 (.agg #[.int .i64 x0, .int .i64 x1]) (.agg #[.int .i64 y0, .int .i64 y1])).run Tryz.prog w = .ok (x0 == y0 && (x1 == y1)) w := by
  refine eqA_of Tryz.underlying27 (by kernel_rfl) ?_; refine eqf_cons (by rfl) (by go_simp; rfl) (by go_simp; rfl) (by go_simp) ?_; exact eqf_last (by rfl) (by go_simp; rfl) (by go_simp; rfl) (by go_simp)

theorem eqA51 (d : Nat) (w : World) (x0 y0 : ByteArray) (x1 y1 : ByteArray) (x2 y2 : ByteArray) :
    (Op.equalIn (d + 3) 51 (.agg #[.string x0, .string x1, .string x2]) (.agg #[.string y0, .string y1, .string y2])).run Tryz.prog w = .ok ((x0.toList == y0.toList && (x1.toList == y1.toList)) && (x2.toList == y2.toList)) w := by
  refine eqA_of Tryz.underlying51 (by kernel_rfl) ?_; refine eqf_cons (by rfl) (by go_simp) (by go_simp) (eqA24 (d + 0) w _ _ _ _) ?_; exact eqf_last (by rfl) (by go_simp; rfl) (by go_simp; rfl) (by go_simp)

def Qbj.f (l0 : List (S46)) : Option ((List (S46))) := if (l0.length : Int) > 9 then (if 9 ≤ (l0.length : Int) then (some (l0.take 9)) else (none)) else (some l0)
set_option maxHeartbeats 8000000 in
set_option maxRecDepth 100000 in
theorem Qbj.calls (P0_ : Nat → Prop) (A0 : Option Addr) (c0 : Nat) (l0 : List (S46)) (r : List (S46)) (w : World) (hs0 : Kd.V k46 46 w w.heap.size (fun k_ => P0_ k_) (.slice A0 l0.length c0) l0) (h : Qbj.f l0 = some r) :
  Calls Tryz.prog 7 #[.slice A0 l0.length c0] w fun e w' => ∃ v0_ : Value, e = .returned (v0_) ∧ Kd.V k46 46 w' w.heap.size (fun k_ => (P0_ k_ ∨ w.heap.size ≤ k_)) v0_ r ∧ Below w.heap.size w w' := by
 have HO0 := Qaa.mk (show Kd.V k46 46 w w.heap.size (fun k_ => (P0_ k_ ∨ w.heap.size ≤ k_)) (.slice A0 l0.length c0) l0 from Kd.Qci hs0 (fun k_ hk => .inl hk)); have HB := Qaa.mk (Below.refl w.heap.size w); have H : (if (l0.length : Int) > 9 then (if 9 ≤ (l0.length : Int) then (some (l0.take 9)) else (none)) else (some l0)) = some r := h; clear h
 by_cases c2 : (l0.length : Int) > 9
 ·rw [if_pos c2] at H; have c2b0 : decide (9 < (l0.length : Int)) = true := decide_eq_true c2; have c2b1 : decide (9 < l0.length) = true := decide_eq_true (by omega); clear c2
  by_cases c3 : 9 ≤ (l0.length : Int)
  ·rw [if_pos c3] at H; have c3b0 := eq_true c3; have c3b1 : decide (9 ≤ (l0.length : Int)) = true := decide_eq_true c3; clear c3
   obtain ⟨y101, hy101⟩ : ∃ y_ : List (S46), y_ = (l0.take 9) := ⟨_, rfl⟩
   replace H : (some y101) = some r := by first | (rw [hy101]; with_reducible exact H) | (have H2_ := (Option.bind_some _ _).symm.trans H; rw [hy101]; with_reducible exact H2_) | (have H2_ := (Option.bind_some _ _).symm.trans H; with_reducible exact H2_) | with_reducible exact H | (rw [hy101]; exact H) | exact H
   have Ny101 := Qaa.mk hy101; clear hy101; obtain rfl := Option.some.inj H; have q4 : (9 : Int) ≤ ((l0.length : Int) : Int) := dd_; obtain ⟨i04, hi04, _, hsz4, _⟩ := info_parts info46; have hroom4 : l0.length ≤ c0 := (Kd.Qbk HO0.out).2.1; have hC4 : Kd.F k46 _ _ A0 l0.length l0 := (Kd.V_at (base := w.heap.size) HO0.out).2.2; have hcut4 := cut_to (P := Tryz.prog) 22 46 .i64 Tryz.underlying22 hi04 A0 l0.length c0 9 (by omega) q4 hroom4; have hr4 := Kd.F_take (m := 9) hC4 (by omega)
   have hy4 : y101.length = (9 : Int).toNat := (by rw [Ny101.out, List.length_take]; omega)
   rw [← Ny101.out] at hr4; rw [← hy4] at hcut4; have HO105 := Qaa.mk (show Kd.V k46 46 _ w.heap.size _ (.slice A0 y101.length c0) y101 from Kd.V_mk (by omega) hr4); have HC105 := Qaa.mk (show y101.length ≤ c0 from by omega); clear hr4 hC4 hroom4 hi04 hsz4; have KY4 := Qaa.mk hy4; clear hy4; replace q4 := eq_true q4; go_enter Tryz.func7, Tryz.ntmps7; go_wp2; go_ret; exact ⟨_, by first | rfl | (simp [Qaw, Qav] <;> rfl) | (simp [*, Qaw, Qav] <;> rfl), by (with_reducible repeat (first | apply Kd.Qbm | apply Kd.Qbl | apply Kd.Qbz)); exact HO105.out, bw_⟩
  ·rw [if_neg c3] at H; exact absurd H (by simp)
 ·rw [if_neg c2] at H; have c2b0 : decide (9 < (l0.length : Int)) = false := decide_eq_false c2; have c2b1 : decide (9 < l0.length) = false := decide_eq_false (by omega); clear c2; obtain rfl := Option.some.inj H; go_enter Tryz.func7, Tryz.ntmps7; go_wp2; go_ret; exact ⟨_, by first | rfl | (simp [Qaw, Qav] <;> rfl) | (simp [*, Qaw, Qav] <;> rfl), by (with_reducible repeat (first | apply Kd.Qbm | apply Kd.Qbl | apply Kd.Qbz)); exact HO0.out, bw_⟩

def QbZ.f (a0 : Int) : Option ByteArray := some (domName a0)
theorem QbZ.calls (a0 : Int) (r : ByteArray) (w : World) (h : QbZ.f a0 = some r) :
    Calls Tryz.prog 69 #[.int .i64 a0] w fun e w' => e = .returned (.string r) ∧ Drawn0 w w' := by
  obtain rfl := Option.some.inj h
  exact (Qb1 a0 w).mono fun e w' ⟨he, hw⟩ => ⟨he, by rw [hw]; exact Drawn0.refl _⟩

def Qb8.f (a0_0 : Int) (a0_1 : Int) (a0_2 : ByteArray) (a0_3 : Int) (a0_4 : ByteArray) (a0_5 : ByteArray) (a0_6 : ByteArray) (a0_7 : ByteArray) (a0_8 : ByteArray) : Option (ByteArray × ByteArray) := (QbZ.f a0_0).bind fun t103 => (some (t103, a0_2))
def Qb8.T1 : Bool × List (List Nat × List Nat) := (true, [([], []), ([0], [0]), ([1], [1]), ([2], [2]), ([], []), ([4], [4]), ([3, 5], [3, 5]), ([6, 3, 0, 1, 2, 3, 4, 5, 6], [6])])
def Qb8.B1 : List Nat := [0, 1, 3, 7, 0, 16, 63, 127]
theorem Qb8.tab1 : rtab .any (opsOf Tryz.f53 1) = Qb8.T1 := by kernel_rfl
theorem Qb8.bits1 : waitsOk Qb8.T1.2 Qb8.B1 = true := by kernel_rfl
set_option maxHeartbeats 8000000 in
set_option maxRecDepth 100000 in
theorem Qb8.calls (a0_0 : Int) (a0_1 : Int) (a0_2 : ByteArray) (a0_3 : Int) (a0_4 : ByteArray) (a0_5 : ByteArray) (a0_6 : ByteArray) (a0_7 : ByteArray) (a0_8 : ByteArray) (r1 : ByteArray) (r2 : ByteArray) (w : World) (h : Qb8.f a0_0 a0_1 a0_2 a0_3 a0_4 a0_5 a0_6 a0_7 a0_8 = some (r1, r2)) :
  Calls Tryz.prog 53 #[.agg #[.int .i64 a0_0, .int .i64 a0_1, .string a0_2, .int .i64 a0_3, .string a0_4, .string a0_5, .string a0_6, .string a0_7, .string a0_8]] w fun e w' => e = .returned (.agg #[.string r1, .string r2]) ∧ Below w.heap.size w w' := by
 have hu46 := Tryz.underlying46; have hu24 := Tryz.underlying24; have HB := Qaa.mk (Below.refl w.heap.size w); have H : ((QbZ.f a0_0).bind fun t103 => (some (t103, a0_2))) = some (r1, r2) := h; clear h; replace H := Option.bind_eq_some_iff.mp H; obtain ⟨t103, A20, H⟩ := H; replace H : (some (t103, a0_2)) = some (r1, r2) := H; have A2 := Qaa.mk A20; clear A20; simp only [Option.some.injEq, Prod.mk.injEq] at H; obtain ⟨rfl, rfl⟩ := H; go_enter Tryz.func53, Tryz.ntmps53
 try go_wp2_with (first | ((with_reducible refine QaM (N := 1) rfl ?_); refine QaK ?hg (N := 1) ?hd (cs := #[.int .i64 a0_0, .int .i64 a0_1, .string a0_2, .int .i64 a0_3, .string a0_4, .string a0_5, .string a0_6, .string a0_7, .string a0_8]) (t := 46) ?hr ?_; (case hd => rfl); (case hg => rfl); (case hr => first | (go_simp; done) | (go_simp; rfl)); intro gb101 hg w3 hbox hb; have BK101 := Qaa.mk (hbox); have GW101 := (gz_ hg : Qaa (w.heap.size ≤ gb101)); have GE101 := (gz_ hg : Qaa (w.heap.size ≤ gb101)); replace HB := Qaa.mk (Qad bw_ hb); clear hb hbox hg) | ((with_reducible refine QaM (N := 2) rfl ?_); refine QaK ?hg (N := 2) ?hd (cs := #[.string (⟨#[]⟩ : ByteArray), .string (⟨#[]⟩ : ByteArray)]) (t := 24) ?hr ?_; (case hd => rfl); (case hg => rfl); (case hr => first | (go_simp; done) | (go_simp; rfl)); intro gb102 hg w4 hbox hb; have BK102 := Qaa.mk (hbox); have GW102 := (gz_ hg : Qaa (w.heap.size ≤ gb102)); have GE102 := (gz_ hg : Qaa (w.heap.size ≤ gb102)); have NB101_102 := (nl_ hg : Qaa (gb101 ≠ gb102)); have NB102_101 := (ng_ hg : Qaa (gb102 ≠ gb101)); replace BK101 := Qaa.mk (Qac (g := gb101) bk_ hb); replace HB := Qaa.mk (Qad bw_ hb); clear hb hbox hg))
 replace BK101 := Qaa.mk (Qah BK101.out); replace BK102 := Qaa.mk (Qah BK102.out); replace HB := Qaa.mk (Qan HB.out); refine Qby (n := 8) (S := fun w' => cgl_iisisssss w' gb101 a0_0 a0_1 a0_2 a0_3 a0_4 a0_5 a0_6 a0_7 a0_8) (ds := []) #[ff,ff,ff,ff,ff,ff,ff,ff] (by kernel_rfl) rfl rfl (cl_9 BK101.out) (fun hHeld => ?_); refine Qbe Qb8.tab1 Qb8.bits1 (fun HT_ HW_ => ?_)
 generalize w4.drew = w5 at BK101 BK102 HB hHeld ⊢
 refine pz 0 3 ?_; refine pz 1 4 ?_; refine pz 4 7 ?_; refine tk9 2 5 ?_; refine tk9 5 8 ?_; refine one_ (i := 3) (N := some 6) #[tt,tt,tt,tt,tt,tt,ff,ff] rfl rfl (QbO HT_.out (by kernel_rfl)) (by decide) (fun K hK => ?_); refine Qcs Tryz.func69 (by kernel_rfl) rfl #[.int .i64 a0_0] (by rfl) rfl rfl (by (try simp only [List.map_toArray, List.map_cons, List.map_nil]); first | done | rfl | (simp only [List.length_drop, List.length_take]; rfl)) ?_
 with_reducible refine (QbZ.calls a0_0 t103 _ A2.out).mono ?_
 rintro e w' ⟨rfl, ⟨nd, rfl⟩⟩; refine ⟨_, rfl, ?_⟩; refine hK.out _ _ (cl_9 BK101.out) (fun hHeld => ?_); clear hK K; refine QbF (a' := ?_) ?_ ?_; rotate_left
 ·show Act.put _ (some 6) _ = _
  simp only [Act.put, put_, Qbt, Qbw]; rfl
 refine pz 6 9 ?_; refine one_ (i := 7) (N := none) #[tt,tt,tt,tt,tt,tt,tt,tt] rfl rfl (QbO HT_.out (by kernel_rfl)) (by decide) (fun K hK => ?_); have hs6 : w5.cell? ⟨gb102, 0, none⟩ = some (.string (⟨#[]⟩ : ByteArray)) := (Qam BK102.out 0).trans rfl; have hfs6 := Qaj BK102.out 0; have hns6_0 := NB101_102.out; have hms6_0 := NB102_101.out; have hs7 : w5.cell? ⟨gb102, 1, none⟩ = some (.string (⟨#[]⟩ : ByteArray)) := (Qam BK102.out 1).trans rfl; have hfs7 := Qaj BK102.out 1; have hns7_0 := NB101_102.out; have hms7_0 := NB102_101.out; refine skip_ (w1 := ?_) (by rfl) rfl ?_ ?_; rotate_left
 ·go_simp; rfl
 refine hK.out _ _ ⟨((cell_far (p := ⟨gb102, _, none⟩) NB101_102.out _).trans (((cell_far (p := ⟨gb102, _, none⟩) NB101_102.out _).trans (hHeld.1)))), ((cell_far (p := ⟨gb102, _, none⟩) NB101_102.out _).trans (((cell_far (p := ⟨gb102, _, none⟩) NB101_102.out _).trans (hHeld.2.1)))), ((cell_far (p := ⟨gb102, _, none⟩) NB101_102.out _).trans (((cell_far (p := ⟨gb102, _, none⟩) NB101_102.out _).trans (hHeld.2.2.1)))), ((cell_far (p := ⟨gb102, _, none⟩) NB101_102.out _).trans (((cell_far (p := ⟨gb102, _, none⟩) NB101_102.out _).trans (hHeld.2.2.2.1)))), ((cell_far (p := ⟨gb102, _, none⟩) NB101_102.out _).trans (((cell_far (p := ⟨gb102, _, none⟩) NB101_102.out _).trans (hHeld.2.2.2.2.1)))), ((cell_far (p := ⟨gb102, _, none⟩) NB101_102.out _).trans (((cell_far (p := ⟨gb102, _, none⟩) NB101_102.out _).trans (hHeld.2.2.2.2.2.1)))), ((cell_far (p := ⟨gb102, _, none⟩) NB101_102.out _).trans (((cell_far (p := ⟨gb102, _, none⟩) NB101_102.out _).trans (hHeld.2.2.2.2.2.2.1)))), ((cell_far (p := ⟨gb102, _, none⟩) NB101_102.out _).trans (((cell_far (p := ⟨gb102, _, none⟩) NB101_102.out _).trans (hHeld.2.2.2.2.2.2.2.1)))), ((cell_far (p := ⟨gb102, _, none⟩) NB101_102.out _).trans (((cell_far (p := ⟨gb102, _, none⟩) NB101_102.out _).trans (hHeld.2.2.2.2.2.2.2.2))))⟩ (fun hHeld => ?_); clear hK K; refine QbW (Qbx HT_.out (by kernel_rfl)) ?_
 try go_wp2
 refine bodyPost_ret (results_cell_row rfl _ _ gb102 24 #[.string t103, .string a0_2] (0, 0) _ rfl (by (with_reducible repeat (first | refine Qai ?_ _ | refine Qah ?_ | refine Qag ?_ _)); refine QaG (cs := #[.string t103, .string (⟨#[]⟩ : ByteArray)]) ?_ 1 _ rfl; (with_reducible repeat (first | refine Qai ?_ _ | refine Qah ?_ | refine Qag ?_ _)); refine QaG (cs := #[.string (⟨#[]⟩ : ByteArray), .string (⟨#[]⟩ : ByteArray)]) ?_ 0 _ rfl; (with_reducible repeat (first | refine Qai ?_ _ | refine Qah ?_ | refine Qag ?_ _)); exact BK102.out) Tryz.underlying24 rfl (by kernel_rfl)) rfl ?_; exact ⟨by first | rfl | (simp [Qaw, Qav] <;> rfl) | (simp [*, Qaw, Qav] <;> rfl), bw_⟩

set_option maxRecDepth 100000 in
set_option maxHeartbeats 1000000 in
theorem or_calls (w : World) (g : Nat) (a b : Int) (h0 : w.cell? ⟨g, 0, none⟩ = some (.int .i64 a)) (h1 : w.cell? ⟨g, 1, none⟩ = some (.int .i64 b)) :
    Calls Tryz.prog 67 #[.slice (some ⟨g, 0, none⟩) 2 2] w fun e w' => e = .returned (.int .i64 (if a = 0 then b else a)) ∧ w' = w := by
  obtain ⟨r, hr⟩ : ∃ r, r = (if a = 0 then b else a) := ⟨_, rfl⟩
  rw [← hr]; have HR := Lib.hid hr; clear hr; go_enter Tryz.func67, Tryz.ntmps67; go_wp2
  go_loopg [5, 8] 3 (fun kq _ v8 w' => ∃ i : Nat, v8 = .int .i64 i ∧ Hid (kq = 3 - i) ∧ Hid (i ≤ 2) ∧ w' = w ∧ Hid (1 ≤ i → a = 0) ∧ Hid (2 ≤ i → b = 0))
  case atStart => exact ⟨0, rfl, Lib.hid rfl, Lib.hid (by omega), rfl, Lib.hid (by omega), Lib.hid (by omega)⟩
  case round =>
    obtain ⟨i, rfl, HK, HI, rfl, HA, HB⟩ := hrel; have hi := HI.out
    by_cases i0 : i = 0
    · subst i0
      clear hi
      by_cases a0 : a = 0
      · have b0 : (a != 0) = false := by rw [a0]; rfl
        have A0 := Lib.hid a0; clear a0; go_wp2
        go_roundg 2
        case measure => have := HK.out; omega
        case rel => exact ⟨1, rfl, Lib.hid rfl, Lib.hid (by omega), rfl, Lib.hid (fun _ => A0.out), Lib.hid (by omega)⟩
      · have b0 : (a != 0) = true := bne_iff_ne.mpr a0
        have A0 := Lib.hid a0; clear a0; go_wp2; go_ret; exact ⟨by rw [HR.out, if_neg A0.out]; rfl, rfl⟩
    · by_cases i1 : i = 1
      · subst i1
        clear hi i0
        by_cases a0 : b = 0
        · have b0 : (b != 0) = false := by rw [a0]; rfl
          have A0 := Lib.hid a0; clear a0; go_wp2
          go_roundg 1
          case measure => have := HK.out; omega
          case rel => exact ⟨2, rfl, Lib.hid rfl, Lib.hid (by omega), rfl, Lib.hid (fun _ => HA.out (by omega)), Lib.hid (fun _ => A0.out)⟩
        · have b0 : (b != 0) = true := bne_iff_ne.mpr a0
          have A0 := Lib.hid a0; clear a0; go_wp2; go_ret; exact ⟨by rw [HR.out, if_pos (HA.out (by omega))]; rfl, rfl⟩
      · have i2 : i = 2 := by omega
        subst i2; clear hi i0 i1; go_wp2; go_ret; exact ⟨by rw [HR.out, if_pos (HA.out (by omega)), HB.out (by omega)]; rfl, rfl⟩

abbrev Role := S24
theorem role_ext {a b : Role} (h0 : a.f0 = b.f0) (h1 : a.f1 = b.f1) : a = b := by cases a; cases b; simp_all
instance roleDec : DecidableEq Role := fun a b => decidable_of_iff (a.f0 = b.f0 ∧ a.f1 = b.f1) ⟨fun h => role_ext h.1 h.2, fun h => by rw [h]; exact ⟨rfl, rfl⟩⟩
abbrev Cred := S46
abbrev kCred := k46
theorem Tryz.cellsRole : Tryz.prog.cellsOf 24 = 2 := by kernel_rfl
theorem Tryz.cellsStr : Tryz.prog.cellsOf 9 = 1 := by kernel_rfl
def encCred (c : Cred) : Value := .agg #[.int .i64 c.f0.f0, .int .i64 c.f0.f1, .string c.f1, .int .i64 c.f2, .string c.f3, .string c.f4.f0, .string c.f4.f1, .string c.f5.f0, .string c.f5.f1]
def credRole (c : Cred) : Role := ⟨domName c.f0.f0, c.f1⟩
theorem Qcb (c : Cred) (w : World) : Calls Tryz.prog 53 #[encCred c] w fun e w' => e = .returned (.agg #[.string (credRole c).f0, .string (credRole c).f1]) ∧ Below w.heap.size w w' := Qb8.calls _ _ _ _ _ _ _ _ _ _ _ _ (by rfl)
theorem eqRole_t {a b : Role} (h : a = b) : (a.f0.toList == b.f0.toList && (a.f1.toList == b.f1.toList)) = true := by subst h; simp
theorem eqRole_f {a b : Role} (h : ¬ a = b) : (a.f0.toList == b.f0.toList && (a.f1.toList == b.f1.toList)) = false := by
  rw [Bool.eq_false_iff]; intro e; simp only [Bool.and_eq_true, beq_iff_eq] at e; exact h (role_ext ((Lib.bytes_beq_iff _ _).mp (by rw [beq_iff_eq]; exact e.1)) ((Lib.bytes_beq_iff _ _).mp (by rw [beq_iff_eq]; exact e.2)))
abbrev credObj (c : Cred) : Obj := .cells #[.int .i64 c.f0.f0, .int .i64 c.f0.f1, .string c.f1, .int .i64 c.f2, .string c.f3, .string c.f4.f0, .string c.f4.f1, .string c.f5.f0, .string c.f5.f1] 46
theorem credCells {W : World} {k : Nat} {c : Cred} (h : W.heap[k]? = some (credObj c)) : W.cell? ⟨k, 0, none⟩ = some (.int .i64 c.f0.f0) ∧ W.cell? ⟨k, 1, none⟩ = some (.int .i64 c.f0.f1) ∧ W.cell? ⟨k, 2, none⟩ = some (.string c.f1) ∧ W.cell? ⟨k, 3, none⟩ = some (.int .i64 c.f2) ∧ W.cell? ⟨k, 4, none⟩ = some (.string c.f3) ∧ W.cell? ⟨k, 5, none⟩ = some (.string c.f4.f0) ∧ W.cell? ⟨k, 6, none⟩ = some (.string c.f4.f1) ∧ W.cell? ⟨k, 7, none⟩ = some (.string c.f5.f0) ∧ W.cell? ⟨k, 8, none⟩ = some (.string c.f5.f1) :=
  ⟨(Qam h 0).trans rfl, (Qam h 1).trans rfl, (Qam h 2).trans rfl, (Qam h 3).trans rfl, (Qam h 4).trans rfl, (Qam h 5).trans rfl, (Qam h 6).trans rfl, (Qam h 7).trans rfl, (Qam h 8).trans rfl⟩
def credCmp (x y : Cred) : Int := if Lib.compareInt x.f0.f0 y.f0.f0 = 0 then Lib.compareInt x.f0.f1 y.f0.f1 else Lib.compareInt x.f0.f0 y.f0.f0
theorem cmp_calls (x y : Int) (w : World) : Calls Tryz.prog 68 #[.int .i64 x, .int .i64 y] w fun e w' => e = .returned (.int .i64 (Lib.compareInt x y)) ∧ w' = w := AnyG.cmp_Compare_int Tryz.cmpInt x y w
theorem boxes_grow (w : World) (a b c : Obj) (n : Nat) : ∃ q os, ((((w.alloc a).alloc b).drewN n).alloc c) = Sort.grow (w.drewN q) os := by
  refine ⟨n, #[a] ++ #[b] ++ #[c], ?_⟩; rw [Sort.alloc_eq_grow, Sort.alloc_eq_grow, Sort.alloc_eq_grow, Sort.grow_grow]; exact Sort.grow_grow (w.drewN n) _ _
set_option maxRecDepth 100000 in
set_option maxHeartbeats 4000000 in
theorem sorted1_calls (x y : Cred) (W : World) : Calls Tryz.prog 66 #[encCred x, encCred y] W fun e w' => e = .returned (.int .i64 (credCmp x y)) ∧ ∃ q os', w' = Sort.grow (W.drewN q) os' := by
  unfold credCmp encCred
  have hc1 := fun W' => cmp_calls x.f0.f0 y.f0.f0 W'
  have hc2 := fun W' => cmp_calls x.f0.f1 y.f0.f1 W'
  generalize Lib.compareInt x.f0.f0 y.f0.f0 = r1 at hc1 ⊢
  generalize Lib.compareInt x.f0.f1 y.f0.f1 = r2 at hc2 ⊢
  obtain ⟨r, hr⟩ : ∃ r, r = (if r1 = 0 then r2 else r1) := ⟨_, rfl⟩
  have hor := fun W g h0 h1 => or_calls W g r1 r2 h0 h1
  simp only [← hr] at hor ⊢; clear hr; go_enter Tryz.func66, Tryz.ntmps66
  go_upto_region 1 with fail
  change Code.wp _ _ _ _ ((W.alloc (credObj x)).alloc (credObj y))
  have HG : ∀ n : Nat, ∃ q os, ((((W.alloc (credObj x)).alloc (credObj y)).drewN n).alloc (.cells #[.int .i64 r1, .int .i64 r2] 3)) = Sort.grow (W.drewN q) os := fun n => boxes_grow W _ _ _ n
  have BX : ((W.alloc (credObj x)).alloc (credObj y)).heap[W.heap.size]? = some (credObj x) := Qag (Qbf W _) _
  have BY : ((W.alloc (credObj x)).alloc (credObj y)).heap[W.heap.size + 1]? = some (credObj y) := by
    have := Qbf (W.alloc (credObj x)) (credObj y)
    simpa using this
  generalize (W.alloc (credObj x)).alloc (credObj y) = V at HG BX BY ⊢
  have x0 := (credCells BX).1; have x1 := (credCells BX).2.1; have y0 := (credCells BY).1; have y1 := (credCells BY).2.1; refine wp_region_still_tail 14 (by kernel_rfl) (by kernel_rfl) ?_; simp only [List.take_succ_cons, List.take_zero, List.drop_succ_cons, List.drop_zero]
  still_step
  still_step
  still_step
  still_step
  still_step
  still_step
  still_call (hc1 _)
  still_step
  still_step
  still_step
  still_step
  still_step
  still_step
  still_call (hc2 _)
  refine wpStill_nil ?_; change wpList _ _ _ _ _ V.drew
  go_wp2_with (go_at_call 67; refine (hor _ V.heap.size ?_ ?_).mono ?_; simp; simp; rintro e w3 ⟨rfl, rfl⟩)
  go_ret; exact ⟨rfl, HG 1⟩

def encCredL (c : Cred) : List Value := [.int .i64 c.f0.f0, .int .i64 c.f0.f1, .string c.f1, .int .i64 c.f2, .string c.f3, .string c.f4.f0, .string c.f4.f1, .string c.f5.f0, .string c.f5.f1]
instance : Inhabited Cred := ⟨z46⟩
theorem flatCred : Flat kCred encCredL where
  opens h := k46_openM h
  shuts w base ok x := Qcu w base ok x
  len _ := rfl
theorem isAggCred (w : World) : (isAgg 46).run Tryz.prog w = .ok true w := by kernel_rfl
theorem sizeOfCred (w : World) : (Go.sizeOf 46).run Tryz.prog w = .ok 9 w := by kernel_rfl
def sortCreds (l : List Cred) : List Cred := (Go.Sort.insertionSort (ltOf credCmp) l.toArray 0 l.length).toList
theorem credCmp_lt (x y : Cred) : ltOf credCmp x y = true ↔ x.f0.f0 < y.f0.f0 ∨ (x.f0.f0 = y.f0.f0 ∧ x.f0.f1 < y.f0.f1) := by
  unfold ltOf credCmp Lib.compareInt; rw [decide_eq_true_eq]
  by_cases h1 : x.f0.f0 < y.f0.f0
  · simp [h1]
  · by_cases h2 : y.f0.f0 < x.f0.f0
    · simp [h1, h2]
      omega
    · have e : x.f0.f0 = y.f0.f0 := by omega
      by_cases h3 : x.f0.f1 < y.f0.f1
      · simp [e, h3]
      · by_cases h4 : y.f0.f1 < x.f0.f1 <;> simp [e, h3, h4]
theorem credSWO : Go.Sort.SWO (ltOf credCmp) where
  irrefl x := by rw [Bool.eq_false_iff, Ne, credCmp_lt]; omega
  trans x y z h1 h2 := by rw [credCmp_lt] at *; omega
  ntrans x y z h1 h2 := by rw [Bool.eq_false_iff, Ne, credCmp_lt] at *; omega
theorem QbL (l : List Cred) : (sortCreds l).length = l.length := by
  have := (Go.Sort.insertionSort_holds credSWO l.toArray 0 l.length (Nat.zero_le _) (by simp)).1.1
  simpa [sortCreds] using this
theorem insert_calls (w : World) (B : Nat) (g cap n : Nat) (l : List Cred) (hn : n = l.length) (hR : Kd.R kCred 46 w B (fun _ => True) (.slice (some ⟨g, 0, none⟩) n cap) l) (hB : B ≤ w.heap.size) (hl : l.length ≤ 20) : Calls Tryz.prog 88 #[.slice (some ⟨g, 0, none⟩) n cap, .int .i64 0, .int .i64 n, .func (.func 66) #[] #[]] w fun e w' =>
    e = .returned (.tuple #[]) ∧ Kd.R kCred 46 w' B (fun _ => True) (.slice (some ⟨g, 0, none⟩) n cap) (sortCreds l) ∧ Below B w w' := by
  subst hn; obtain ⟨_, _, hg, hH, hlt, hmax⟩ := holds_of_R flatCred hR; have eg : ∀ args w, (callFunc 66 args).run Tryz.prog w = .ok (.enter 66 args) w := enters_of Tryz.func66 (by kernel_rfl) rfl
  have hc : CmpLays Tryz.prog 66 #[] encCredL 9 credCmp g 0 l.toArray.size w := fun _ _ _ _ x y => sorted1_calls x y _
  refine (AnyQ.insertionSortCmpFunc Tryz.insCred 9 isAggCred sizeOfCred encCredL (fun _ => rfl) (fun x v hv => by simp [encCredL] at hv; rcases hv with rfl | rfl | rfl | rfl | rfl | rfl | rfl | rfl | rfl <;> rfl) credCmp 66 #[] g 0 cap 0 l.length l.toArray w eg hc hH hlt (Nat.zero_le _) (by simp) (by simp; omega)).mono ?_; rintro e w' ⟨rfl, n, os, rfl⟩; refine ⟨rfl, R_of_sorted flatCred hR n (sortCreds l) os (QbL l), sorted_below encCredL w g 9 n (sortCreds l) os hB hg⟩
theorem insertion_20 (d : Array Cred) : Go.Sort.insertionSort (ltOf credCmp) d 20 20 = d := by
  unfold Go.Sort.insertionSort; rw [Go.Sort.insOuter]; simp
theorem insert_20 (w : World) (B : Nat) (g cap : Nat) (l : List Cred) (hn : l.length = 20) (hR : Kd.R kCred 46 w B (fun _ => True) (.slice (some ⟨g, 0, none⟩) 20 cap) l) (hB : B ≤ w.heap.size) : Calls Tryz.prog 88 #[.slice (some ⟨g, 0, none⟩) 20 cap, .int .i64 20, .int .i64 20, .func (.func 66) #[] #[]] w fun e w' =>
    e = .returned (.tuple #[]) ∧ Kd.R kCred 46 w' B (fun _ => True) (.slice (some ⟨g, 0, none⟩) 20 cap) l ∧ Below B w w' := by
  have hR0 : Kd.R kCred 46 w B (fun _ => True) (.slice (some ⟨g, 0, none⟩) l.length cap) l := by rw [hn]; exact hR
  obtain ⟨_, _, hg, hH, hlt, hmax⟩ := holds_of_R flatCred hR0; have eg : ∀ args w, (callFunc 66 args).run Tryz.prog w = .ok (.enter 66 args) w := enters_of Tryz.func66 (by kernel_rfl) rfl
  have hc : CmpLays Tryz.prog 66 #[] encCredL 9 credCmp g 0 l.toArray.size w := fun _ _ _ _ x y => sorted1_calls x y _
  have hlen : (Go.Sort.insertionSort (ltOf credCmp) l.toArray 20 20).toList.length = l.length := by rw [insertion_20]
  have key : Calls Tryz.prog 88 #[.slice (some ⟨g, 0, none⟩) l.length cap, .int .i64 (20 : Nat), .int .i64 (20 : Nat), .func (.func 66) #[] #[]] w fun e w' =>
      e = .returned (.tuple #[]) ∧ Kd.R kCred 46 w' B (fun _ => True) (.slice (some ⟨g, 0, none⟩) l.length cap) (Go.Sort.insertionSort (ltOf credCmp) l.toArray 20 20).toList ∧ Below B w w' := by
    refine (AnyQ.insertionSortCmpFunc Tryz.insCred 9 isAggCred sizeOfCred encCredL (fun _ => rfl) (fun x v hv => by simp [encCredL] at hv; rcases hv with rfl | rfl | rfl | rfl | rfl | rfl | rfl | rfl | rfl <;> rfl) credCmp 66 #[] g 0 cap 20 20 l.toArray w eg hc hH hlt (Nat.le_refl _) (by simp [hn]) (by simp; omega)).mono ?_; rintro e w' ⟨rfl, n, os, rfl⟩; exact ⟨rfl, R_of_sorted flatCred hR0 n _ os hlen, sorted_below encCredL w g 9 n _ os hB hg⟩
  rw [insertion_20, hn] at key; exact key
set_option maxRecDepth 100000 in
set_option maxHeartbeats 4000000 in
theorem stable_lt (w : World) (B : Nat) (g cap n : Nat) (l : List Cred) (hn : n = l.length) (hR : Kd.R kCred 46 w B (fun _ => True) (.slice (some ⟨g, 0, none⟩) n cap) l) (hB : B ≤ w.heap.size) (hl : l.length < 20) : Calls Tryz.prog 83 #[.slice (some ⟨g, 0, none⟩) n cap, .int .i64 n, .func (.func 66) #[] #[]] w fun e w' =>
    e = .returned (.tuple #[]) ∧ Kd.R kCred 46 w' B (fun _ => True) (.slice (some ⟨g, 0, none⟩) n cap) (sortCreds l) ∧ Below B w w' := by
  have hi := insert_calls w B g cap n l hn hR hB (by omega); have d1 : decide ((20 : Int) ≤ (n : Int)) = false := decide_eq_false (by omega); have d2 : decide (20 ≤ n) = false := decide_eq_false (by omega); have d3 : decide ((20 : Int) < (n : Int)) = false := decide_eq_false (by omega); have d4 : decide (20 < n) = false := decide_eq_false (by omega); clear hR hl hn; go_enter Tryz.func83, Tryz.ntmps83; go_wp2
  go_loopg [7, 8] 1 (fun kq v7 v8 w' => v7 = .int .i64 0 ∧ v8 = .int .i64 20 ∧ w' = w)
  case atStart => exact ⟨rfl, rfl, rfl⟩
  case round =>
    obtain ⟨rfl, rfl, rfl⟩ := hrel
    go_wp2_with (go_at_call 88; refine hi.mono ?_; rintro e w3 ⟨rfl, hR3, hB3⟩)
    have HR := Lib.hid hR3; have HBw := Lib.hid hB3; clear hR3 hB3 hi
    go_loopg [6, 7, 8, 9] 1 (fun kq v6 _ _ _ w' => v6 = .int .i64 20 ∧ w' = w3)
    case atStart => exact ⟨rfl, rfl⟩
    case round =>
      obtain ⟨rfl, rfl⟩ := hrel; go_wp2; go_end0; exact ⟨rfl, HR.out, HBw.out⟩
set_option maxRecDepth 100000 in
set_option maxHeartbeats 4000000 in
theorem stable_20 (w : World) (B : Nat) (g cap : Nat) (l : List Cred) (hn : l.length = 20) (hR : Kd.R kCred 46 w B (fun _ => True) (.slice (some ⟨g, 0, none⟩) 20 cap) l) (hB : B ≤ w.heap.size) : Calls Tryz.prog 83 #[.slice (some ⟨g, 0, none⟩) 20 cap, .int .i64 20, .func (.func 66) #[] #[]] w fun e w' =>
    e = .returned (.tuple #[]) ∧ Kd.R kCred 46 w' B (fun _ => True) (.slice (some ⟨g, 0, none⟩) 20 cap) (sortCreds l) ∧ Below B w w' := by
  have hi : Calls Tryz.prog 88 #[.slice (some ⟨g, 0, none⟩) 20 cap, .int .i64 0, .int .i64 20, .func (.func 66) #[] #[]] w fun e w' =>
      e = .returned (.tuple #[]) ∧ Kd.R kCred 46 w' B (fun _ => True) (.slice (some ⟨g, 0, none⟩) 20 cap) (sortCreds l) ∧ Below B w w' := insert_calls w B g cap 20 l hn.symm hR hB (by omega)
  have hL := Lib.hid ((QbL l).trans hn); have hS := Lib.hid hB; clear hR hn hB; go_enter Tryz.func83, Tryz.ntmps83; go_wp2
  go_loopw [7, 8] (fun v7 v8 w' => (v7 = .int .i64 0 ∧ v8 = .int .i64 20 ∧ w' = w) ∨ (v7 = .int .i64 20 ∧ v8 = .int .i64 40 ∧ Kd.R kCred 46 w' B (fun _ => True) (.slice (some ⟨g, 0, none⟩) 20 cap) (sortCreds l) ∧ Below B w w')) (fun _ v8 _ => (60 - intOf v8).toNat)
  case atStart => exact .inl ⟨rfl, rfl, rfl⟩
  case round =>
    rcases hrel with ⟨rfl, rfl, rfl⟩ | ⟨rfl, rfl, hR3, hB3⟩
    · go_wp2_with (go_at_call 88; refine hi.mono ?_; rintro e w3 ⟨rfl, hR3, hB3⟩)
      go_roundw
      case rel => exact .inr ⟨rfl, rfl, hR3, hB3⟩
      case measure => simp [intOf]
    · have h2 := insert_20 _ B g cap (sortCreds l) hL.out hR3 (Nat.le_trans hS.out hB3.size)
      have HB := Lib.hid hB3; clear hi hR3 hB3
      go_wp2_with (go_at_call 88; refine h2.mono ?_; rintro e w4 ⟨rfl, hR4, hB4⟩)
      have HR := Lib.hid hR4; have HBw := Lib.hid hB4; clear hR4 hB4 h2
      go_loopg [6, 7, 8, 9] 1 (fun kq v6 _ _ _ w' => v6 = .int .i64 20 ∧ w' = w4)
      case atStart => exact ⟨rfl, rfl⟩
      case round =>
        obtain ⟨rfl, rfl⟩ := hrel; go_wp2; go_end0; exact ⟨rfl, HR.out, HB.out.trans HBw.out⟩
theorem stable_calls (w : World) (B : Nat) (g cap n : Nat) (l : List Cred) (hn : n = l.length) (hR : Kd.R kCred 46 w B (fun _ => True) (.slice (some ⟨g, 0, none⟩) n cap) l) (hB : B ≤ w.heap.size) (hl : l.length < 21) : Calls Tryz.prog 83 #[.slice (some ⟨g, 0, none⟩) n cap, .int .i64 n, .func (.func 66) #[] #[]] w fun e w' =>
    e = .returned (.tuple #[]) ∧ Kd.R kCred 46 w' B (fun _ => True) (.slice (some ⟨g, 0, none⟩) n cap) (sortCreds l) ∧ Below B w w' := by
  by_cases h : l.length < 20
  · exact stable_lt w B g cap n l hn hR hB h
  · obtain rfl : n = 20 := by omega
    exact stable_20 w B g cap l hn.symm hR hB

theorem cloned_nil {w : World} {e : Nat} : Kd.R kCred e (w.alloc (.cells #[] e)) w.heap.size (fun _ => True) (.slice (some ⟨w.heap.size, 0, none⟩) 0 0) [] :=
  ⟨fun _ _ => trivial, [], ⟨by simp, .inr ⟨w.heap.size, 0, #[], rfl, Nat.le_refl _, Qbf w _, Nat.le_refl _, Nat.zero_le _, by simp, by simp⟩⟩, Reps.none _ _⟩
theorem infoCred : (Tryz.prog.info? 46).map (fun i => (i.zero, i.size, i.bytes)) = some (some (.agg #[(.int .i64 0), (.int .i64 0), (.string ⟨#[]⟩), (.int .i64 0), (.string ⟨#[]⟩), (.string ⟨#[]⟩), (.string ⟨#[]⟩), (.string ⟨#[]⟩), (.string ⟨#[]⟩)]), 9, 120) := by kernel_rfl
set_option maxRecDepth 100000 in
set_option maxHeartbeats 4000000 in
theorem clone_calls (w : World) (A0 : Option Addr) (c0 n : Nat) (l : List Cred) (hn : n = l.length) (hC : Kd.C kCred w A0 n l) (hl : l.length ≤ 1000000) : Calls Tryz.prog 64 #[.slice A0 n c0] w fun e w' =>
    ∃ v, e = .returned v ∧ Kd.R kCred 46 w' w.heap.size (fun _ => True) v l ∧ Below w.heap.size w w' := by
  have _ := @QbL
  cases A0 with
  | none =>
    have hl0 : l = [] := by
      rcases Nat.eq_zero_or_pos n with h0 | h0
      · exact List.eq_nil_of_length_eq_zero (by omega)
      · obtain ⟨ad, h, _⟩ := hC.2.2 h0
        cases h
    subst hl0; refine (AnyE.slices_Clone_nil Tryz.cloneCred n c0 w).mono ?_; rintro e w' ⟨rfl, rfl⟩; exact ⟨_, rfl, Kd.R_nil _ _ _ _ _, Below.refl _ _⟩
  | some ad =>
    have q22 : ∀ (W : World) (n c n' c' : Nat), (binOp .eql 22 (.slice (some ad) n c) (.slice none n' c')).run Tryz.prog W = .ok (.bool false) W := fun W n c n' c' => Lib.run_eql_slice_nil W _ _ (some ad) n c n' c' Tryz.underlying22
    have HC := Lib.hid hC; have HL := Lib.hid hl; have HN := Lib.hid hn; clear hC hl hn; go_enter Tryz.func64, Tryz.ntmps64
    go_wp2_with ((with_reducible refine Qa3 (b := .append) (xs := #[.tmp 5, .tmp 6]) rfl ?_); at_builtin; refine Kd.Qb6 kCred (Rr := kCred.K w) (w0 := w) w.heap.size rfl (.tmp 5) (.tmp 6) 22 46 (.agg #[(.int .i64 0), (.int .i64 0), (.string ⟨#[]⟩), (.int .i64 0), (.string ⟨#[]⟩), (.string ⟨#[]⟩), (.string ⟨#[]⟩), (.string ⟨#[]⟩), (.string ⟨#[]⟩)]) 120 rfl Tryz.underlying22 infoCred rfl (by decide) (by omega) (.slice (some ⟨w.heap.size, 0, none⟩) 0 0) ([] : List Cred) l (some ad) n c0 (fun _ => True) (fun _ => False) rfl rfl ?aO ?aR (fun x cs h => by rw [k46_open h]; exact Qcu _ _ _ x) (fun _ h => h.elim) (fun _ _ => trivial) ?aB ?aS ?aL ?_; (case aO => exact cloned_nil); (case aR => exact Kd.C_alloc HC.out _); (case aB => exact (Qak (Below.refl _ _) _)); (case aS => exact (QaD (Qak (Below.refl _ _) _))); (case aL => (have := HL.out; have := HN.out; simp; omega)); intro v2 w2 ho hb hg hat)
    go_ret; exact ⟨v2, rfl, by simpa using ho, hb⟩

set_option maxRecDepth 100000 in
set_option maxHeartbeats 4000000 in
theorem sortStable_calls (w : World) (B : Nat) (g cap n : Nat) (l : List Cred) (hn : n = l.length) (hR : Kd.R kCred 46 w B (fun _ => True) (.slice (some ⟨g, 0, none⟩) n cap) l) (hB : B ≤ w.heap.size) (hl : l.length < 21) : Calls Tryz.prog 65 #[.slice (some ⟨g, 0, none⟩) n cap, .func (.func 66) #[] #[]] w fun e w' =>
    e = .returned (.tuple #[]) ∧ Kd.R kCred 46 w' B (fun _ => True) (.slice (some ⟨g, 0, none⟩) n cap) (sortCreds l) ∧ Below B w w' := by
  have hi := stable_calls w B g cap n l hn hR hB hl; clear hR hl hn; go_enter Tryz.func65, Tryz.ntmps65
  go_wp2_with (go_at_call 83; refine hi.mono ?_; rintro e w3 ⟨rfl, hR3, hB3⟩)
  go_end0; exact ⟨rfl, hR3, hB3⟩
set_option maxRecDepth 100000 in
set_option maxHeartbeats 4000000 in
theorem stable_none (w : World) (c : Nat) : Calls Tryz.prog 83 #[.slice none 0 c, .int .i64 0, .func (.func 66) #[] #[]] w fun e w' => e = .returned (.tuple #[]) ∧ w' = w := by
  have hi := AnyF.insertionSortCmpFunc_none Tryz.insCred none c (.func (.func 66) #[] #[]) w; change Calls Tryz.prog 88 _ _ _ at hi; go_enter Tryz.func83, Tryz.ntmps83; go_wp2
  go_loopg [7, 8] 1 (fun kq v7 v8 w' => v7 = .int .i64 0 ∧ v8 = .int .i64 20 ∧ w' = w)
  case atStart => exact ⟨rfl, rfl, rfl⟩
  case round =>
    obtain ⟨rfl, rfl, rfl⟩ := hrel
    go_wp2_with (go_at_call 88; refine hi.mono ?_; rintro e w3 ⟨rfl, rfl⟩)
    clear hi
    go_loopg [6, 7, 8, 9] 1 (fun kq v6 _ _ _ w' => v6 = .int .i64 20 ∧ w' = w3)
    case atStart => exact ⟨rfl, rfl⟩
    case round =>
      obtain ⟨rfl, rfl⟩ := hrel; go_wp2; go_end0; exact ⟨rfl, rfl⟩
set_option maxRecDepth 100000 in
set_option maxHeartbeats 4000000 in
theorem sortStable_none (w : World) (c : Nat) : Calls Tryz.prog 65 #[.slice none 0 c, .func (.func 66) #[] #[]] w fun e w' => e = .returned (.tuple #[]) ∧ w' = w := by
  have hi := stable_none w c; go_enter Tryz.func65, Tryz.ntmps65
  go_wp2_with (go_at_call 83; refine hi.mono ?_; rintro e w3 ⟨rfl, rfl⟩)
  go_end0; exact ⟨rfl, rfl⟩
theorem sortStable_any (w : World) (B : Nat) (v : Value) (l : List Cred) (hR : Kd.R kCred 46 w B (fun _ => True) v l) (hB : B ≤ w.heap.size) (hl : l.length < 21) : Calls Tryz.prog 65 #[v, .func (.func 66) #[] #[]] w fun e w' =>
    e = .returned (.tuple #[]) ∧ Kd.R kCred 46 w' B (fun _ => True) v (sortCreds l) ∧ Below B w w' := by
  obtain ⟨A, c, rfl⟩ := Kd.Qa2 hR
  cases A with
  | none =>
    have hl0 : l = [] := by
      obtain ⟨_, inner, ⟨_, ho⟩, hr⟩ := hR
      rcases ho with ⟨_, h0⟩ | ⟨g', cap', cur, hv, _⟩
      · exact List.eq_nil_of_length_eq_zero h0
      · cases hv
    subst hl0; refine (sortStable_none w c).mono ?_; rintro e w' ⟨rfl, rfl⟩; have hs : sortCreds [] = [] := List.eq_nil_of_length_eq_zero (by rw [QbL]; rfl); exact ⟨rfl, by rw [hs]; exact hR, Below.refl _ _⟩
  | some a =>
    obtain ⟨g, off, fr⟩ := a
    have hfr : fr = none ∧ off = 0 := by
      obtain ⟨_, inner, ⟨_, ho⟩, hr⟩ := hR
      rcases ho with ⟨h0, _⟩ | ⟨g', cap', cur, hv, _⟩
      · cases h0
      · simp only [Value.slice.injEq, Option.some.injEq, Addr.mk.injEq] at hv
        exact ⟨hv.1.2.2, hv.1.2.1⟩
    obtain ⟨rfl, rfl⟩ := hfr; exact sortStable_calls w B g c l.length l rfl hR hB hl

def Qcm.f (l0 : List (S46)) : Option (List (S46)) := if l0.length < 21 then some (sortCreds l0) else none
set_option maxRecDepth 100000 in
set_option maxHeartbeats 4000000 in
theorem Qcm.calls (A0 : Option Addr) (c0 : Nat) (l0 : List (S46)) (r : List (S46)) (w : World) (hr0 : Kd.C k46 w A0 l0.length l0) (hc0 : l0.length ≤ c0) (h : Qcm.f l0 = some r) :
    Calls Tryz.prog 51 #[.slice A0 l0.length c0] w fun e w' => ∃ v0_ : Value, e = .returned (v0_) ∧ Kd.R k46 46 w' w.heap.size (fun _ => True) v0_ r ∧ Below w.heap.size w w' := by
  unfold Qcm.f at h
  by_cases hl : l0.length < 21
  · rw [if_pos hl] at h
    obtain rfl := Option.some.inj h; have hcl := clone_calls w A0 c0 l0.length l0 rfl hr0 (by omega); have HL := Lib.hid hl; clear hr0 hc0 h hl; go_enter Tryz.func51, Tryz.ntmps51
    go_wp2_with (first | (go_at_call 64; refine hcl.mono ?_; rintro e w3 ⟨v3, rfl, hR3, hB3⟩) | (go_at_call 65; refine (sortStable_any w3 w.heap.size v3 l0 hR3 hB3.size HL.out).mono ?_; rintro e w4 ⟨rfl, hR4, hB4⟩))
    go_ret; exact ⟨v3, rfl, hR4, hB3.trans hB4⟩
  · rw [if_neg hl] at h
    cases h

def Qbp.f (a0 : ByteArray) : Option Bool := if a0.size ≤ maxLen then some (mayName a0) else none
theorem Qbp.calls (a0 : ByteArray) (r : Bool) (w : World) (h : Qbp.f a0 = some r) :
    Calls Tryz.prog 70 #[.string a0] w fun e w' => e = .returned (.bool r) ∧ Below w.heap.size w w' := by
  unfold Qbp.f at h
  split at h
  · rename_i hs
    obtain rfl := Option.some.inj h; exact may_walk a0 w hs
  · cases h

def Qa9.l0 : Nat → ByteArray → Int → Option (Int)
 | 0, _, _ => none
 | k + 1, x0, x3 => if x3 ≤ 16 then ((QbZ.f x3).bind fun t101 => (if t101.toList = x0.toList then (some x3) else (Qa9.l0 k x0 (wrap64 (x3 + 1))))) else (some 0)
def Qa9.f (k : Nat) (a0 : ByteArray) : Option (Int) := Qa9.l0 k a0 1
set_option maxHeartbeats 8000000 in
set_option maxRecDepth 100000 in
theorem Qa9.calls (k : Nat) (a0 : ByteArray) (r : Int) (w : World) (h : Qa9.f k a0 = some r) :
  Calls Tryz.prog 74 #[.string a0] w fun e w' => e = .returned (.int .i64 r) ∧ Drawn0 w w' := by
 have H : (Qa9.l0 k a0 1) = some r := h; clear h; have H' := Qaa.mk H; clear H; go_enter Tryz.func74, Tryz.ntmps74; go_wp2
 go_loopg [3] k (fun kq v3 w' => ∃ (x3_1 : Int), v3 = .int .i64 x3_1 ∧ Qaa (Qa9.l0 kq a0 x3_1 = some r) ∧ Qaa (kq ≤ k) ∧ Drawn0 w w')
 case atStart => exact ⟨(1), (by first | rfl | (simp; done) | (simp [*]; done)), H', ⟨Nat.le_refl _⟩, by repeat (first | exact Drawn0.refl _ | apply Drawn0.step)⟩
 case round =>
  clear H'; obtain ⟨x3_1, rfl, HA, HK1, ⟨m1, rfl⟩⟩ := hrel
  cases gk with
  | zero => exact absurd HA.out (by simp [Qa9.l0])
  | succ k1 =>
   have H := HA.out; clear HA; simp only [Qa9.l0] at H
   by_cases c2 : x3_1 ≤ 16
   ·rw [if_pos c2] at H; have c2b0 : decide (x3_1 ≤ 16) = true := decide_eq_true c2; clear c2; replace H := Option.bind_eq_some_iff.mp H; obtain ⟨t101, A30, H⟩ := H; replace H : (if t101.toList = a0.toList then (some x3_1) else (Qa9.l0 k1 a0 (wrap64 (x3_1 + 1)))) = some r := H; have A3 := Qaa.mk A30; clear A30
    by_cases c4 : t101.toList = a0.toList
    ·rw [if_pos c4] at H; have c4b0 : (t101.toList == a0.toList) = true := beq_iff_eq.mpr c4; have c4b1 : (t101.toList != a0.toList) = false := bne_eq_false_iff_eq.mpr c4; clear c4; obtain rfl := Option.some.inj H
     go_wp2_with (first | ((with_reducible refine Qa5 (f := 69) rfl ?_); refine gL 9 Tryz.func69 #[.int .i64 x3_1] ?_; (with_reducible refine (QbZ.calls x3_1 t101 _ A3.out).mono ?_); rintro e w' ⟨rfl, ⟨nd, rfl⟩⟩; refine ⟨_, rfl, ?_⟩))
     go_ret; exact ⟨by first | rfl | (simp; done) | (simp [*]; done), by repeat (first | exact Drawn0.refl _ | apply Drawn0.step)⟩
    ·rw [if_neg c4] at H; have c4b0 : (t101.toList == a0.toList) = false := beq_eq_false_iff_ne.mpr c4; have c4b1 : (t101.toList != a0.toList) = true := bne_iff_ne.mpr c4; have H' := Qaa.mk H; clear H
     go_wp2_with (first | ((with_reducible refine Qa5 (f := 69) rfl ?_); refine gL 9 Tryz.func69 #[.int .i64 x3_1] ?_; (with_reducible refine (QbZ.calls x3_1 t101 _ A3.out).mono ?_); rintro e w' ⟨rfl, ⟨nd, rfl⟩⟩; refine ⟨_, rfl, ?_⟩))
     go_roundg k1
     case measure => have := HK1.out; omega
     case rel => exact ⟨(wrap64 (x3_1 + 1)), (by first | rfl | (simp; done) | (simp [*]; done)), H', ⟨by have := HK1.out; omega⟩, by repeat (first | exact Drawn0.refl _ | apply Drawn0.step)⟩
   ·rw [if_neg c2] at H; have c2b0 : decide (x3_1 ≤ 16) = false := decide_eq_false c2; clear c2; obtain rfl := Option.some.inj H; go_wp2; go_ret; exact ⟨by first | rfl | (simp; done) | (simp [*]; done), by repeat (first | exact Drawn0.refl _ | apply Drawn0.step)⟩

def Qbn.f (k : Nat) (a0_0 : ByteArray) (a0_1 : ByteArray) : Option (Bool) := (Qa9.f k a0_0).bind fun t102 => (if t102 > 0 then ((Qbp.f a0_1).bind fun t103 => (some t103)) else (some false))
set_option maxHeartbeats 8000000 in
set_option maxRecDepth 100000 in
theorem Qbn.calls (k : Nat) (a0_0 : ByteArray) (a0_1 : ByteArray) (r : Bool) (w : World) (h : Qbn.f k a0_0 a0_1 = some r) :
  Calls Tryz.prog 71 #[.agg #[.string a0_0, .string a0_1]] w fun e w' => e = .returned (.bool r) ∧ Below w.heap.size w w' := by
 have hu24 := Tryz.underlying24; have HB := Qaa.mk (Below.refl w.heap.size w); have H : ((Qa9.f k a0_0).bind fun t102 => (if t102 > 0 then ((Qbp.f a0_1).bind fun t103 => (some t103)) else (some false))) = some r := h; clear h; replace H := Option.bind_eq_some_iff.mp H; obtain ⟨t102, A20, H⟩ := H; replace H : (if t102 > 0 then ((Qbp.f a0_1).bind fun t103 => (some t103)) else (some false)) = some r := H; have A2 := Qaa.mk A20; clear A20
 by_cases c3 : t102 > 0
 ·rw [if_pos c3] at H; have c3b0 : decide (0 < t102) = true := decide_eq_true c3; clear c3; replace H := Option.bind_eq_some_iff.mp H; obtain ⟨t103, A40, H⟩ := H; replace H : (some t103) = some r := H; have A4 := Qaa.mk A40; clear A40; obtain rfl := Option.some.inj H; go_enter Tryz.func71, Tryz.ntmps71
  go_wp2_with (first | ((with_reducible refine QaM (N := 1) rfl ?_); refine QaK ?hg (N := 1) ?hd (cs := #[.string a0_0, .string a0_1]) (t := 24) ?hr ?_; (case hd => rfl); (case hg => rfl); (case hr => first | (go_simp; done) | (go_simp; rfl)); intro gb101 hg w5 hbox hb; have BK101 := Qaa.mk (hbox); have GW101 := (gz_ hg : Qaa (w.heap.size ≤ gb101)); have GE101 := (gz_ hg : Qaa (w.heap.size ≤ gb101)); replace HB := Qaa.mk (Qad bw_ hb); clear hb hbox hg; obtain ⟨c6_0, c6_1⟩ := Qb2 BK101.out; obtain ⟨f6_0, f6_1⟩ := fz_2 BK101.out) | ((with_reducible refine Qa5 (f := 74) rfl ?_); refine gL 5 Tryz.func74 #[.string a0_0] ?_; (with_reducible refine (Qa9.calls k a0_0 t102 _ A2.out).mono ?_); rintro e w' ⟨rfl, ⟨nd, rfl⟩⟩; refine ⟨_, rfl, ?_⟩) | (go_at_call 70; (with_reducible refine (Qbp.calls a0_1 t103 _ A4.out).mono ?_); rintro e w7 ⟨rfl, hb⟩; replace BK101 := Qaa.mk (Qac (g := gb101) bk_ hb); replace HB := Qaa.mk (Qad bw_ hb); (try clear hb); (try clear hb2); (try clear hk); (try clear hi)))
  go_ret; exact ⟨by first | rfl | (simp [Qaw, Qav] <;> rfl) | (simp [*, Qaw, Qav] <;> rfl), bw_⟩
 ·rw [if_neg c3] at H; have c3b0 : decide (0 < t102) = false := decide_eq_false c3; clear c3; obtain rfl := Option.some.inj H; go_enter Tryz.func71, Tryz.ntmps71
  go_wp2_with (first | ((with_reducible refine QaM (N := 1) rfl ?_); refine QaK ?hg (N := 1) ?hd (cs := #[.string a0_0, .string a0_1]) (t := 24) ?hr ?_; (case hd => rfl); (case hg => rfl); (case hr => first | (go_simp; done) | (go_simp; rfl)); intro gb101 hg w8 hbox hb; have BK101 := Qaa.mk (hbox); have GW101 := (gz_ hg : Qaa (w.heap.size ≤ gb101)); have GE101 := (gz_ hg : Qaa (w.heap.size ≤ gb101)); replace HB := Qaa.mk (Qad bw_ hb); clear hb hbox hg; obtain ⟨c9_0, c9_1⟩ := Qb2 BK101.out; obtain ⟨f9_0, f9_1⟩ := fz_2 BK101.out) | ((with_reducible refine Qa5 (f := 74) rfl ?_); refine gL 5 Tryz.func74 #[.string a0_0] ?_; (with_reducible refine (Qa9.calls k a0_0 t102 _ A2.out).mono ?_); rintro e w' ⟨rfl, ⟨nd, rfl⟩⟩; refine ⟨_, rfl, ?_⟩))
  go_ret; exact ⟨by first | rfl | (simp [Qaw, Qav] <;> rfl) | (simp [*, Qaw, Qav] <;> rfl), bw_⟩

def QbX.f (a0_0 : ByteArray) (a0_1 : ByteArray) : Option (Bool) := if a0_0.toList = ([] : List UInt8) then ((Qbp.f a0_1).bind fun t102 => (some t102)) else (some false)
set_option maxHeartbeats 8000000 in
set_option maxRecDepth 100000 in
theorem QbX.calls (a0_0 : ByteArray) (a0_1 : ByteArray) (r : Bool) (w : World) (h : QbX.f a0_0 a0_1 = some r) :
  Calls Tryz.prog 72 #[.agg #[.string a0_0, .string a0_1]] w fun e w' => e = .returned (.bool r) ∧ Below w.heap.size w w' := by
 have hu24 := Tryz.underlying24; have HB := Qaa.mk (Below.refl w.heap.size w); have H : (if a0_0.toList = ([] : List UInt8) then ((Qbp.f a0_1).bind fun t102 => (some t102)) else (some false)) = some r := h; clear h
 by_cases c2 : a0_0.toList = ([] : List UInt8)
 ·rw [if_pos c2] at H; have c2b0 : (a0_0.toList == ([] : List UInt8)) = true := beq_iff_eq.mpr c2; have c2b1 : (a0_0.toList != ([] : List UInt8)) = false := bne_eq_false_iff_eq.mpr c2; clear c2; replace H := Option.bind_eq_some_iff.mp H; obtain ⟨t102, A30, H⟩ := H; replace H : (some t102) = some r := H; have A3 := Qaa.mk A30; clear A30; obtain rfl := Option.some.inj H; go_enter Tryz.func72, Tryz.ntmps72
  go_wp2_with (first | ((with_reducible refine QaM (N := 1) rfl ?_); refine QaK ?hg (N := 1) ?hd (cs := #[.string a0_0, .string a0_1]) (t := 24) ?hr ?_; (case hd => rfl); (case hg => rfl); (case hr => first | (go_simp; done) | (go_simp; rfl)); intro gb101 hg w4 hbox hb; have BK101 := Qaa.mk (hbox); have GW101 := (gz_ hg : Qaa (w.heap.size ≤ gb101)); have GE101 := (gz_ hg : Qaa (w.heap.size ≤ gb101)); replace HB := Qaa.mk (Qad bw_ hb); clear hb hbox hg; obtain ⟨c5_0, c5_1⟩ := Qb2 BK101.out; obtain ⟨f5_0, f5_1⟩ := fz_2 BK101.out) | (go_at_call 70; (with_reducible refine (Qbp.calls a0_1 t102 _ A3.out).mono ?_); rintro e w6 ⟨rfl, hb⟩; replace BK101 := Qaa.mk (Qac (g := gb101) bk_ hb); replace HB := Qaa.mk (Qad bw_ hb); (try clear hb); (try clear hb2); (try clear hk); (try clear hi)))
  go_ret; exact ⟨by first | rfl | (simp [Qaw, Qav] <;> rfl) | (simp [*, Qaw, Qav] <;> rfl), bw_⟩
 ·rw [if_neg c2] at H; have c2b0 : (a0_0.toList == ([] : List UInt8)) = false := beq_eq_false_iff_ne.mpr c2; have c2b1 : (a0_0.toList != ([] : List UInt8)) = true := bne_iff_ne.mpr c2; obtain rfl := Option.some.inj H; go_enter Tryz.func72, Tryz.ntmps72
  go_wp2_with (first | ((with_reducible refine QaM (N := 1) rfl ?_); refine QaK ?hg (N := 1) ?hd (cs := #[.string a0_0, .string a0_1]) (t := 24) ?hr ?_; (case hd => rfl); (case hg => rfl); (case hr => first | (go_simp; done) | (go_simp; rfl)); intro gb101 hg w7 hbox hb; have BK101 := Qaa.mk (hbox); have GW101 := (gz_ hg : Qaa (w.heap.size ≤ gb101)); have GE101 := (gz_ hg : Qaa (w.heap.size ≤ gb101)); replace HB := Qaa.mk (Qad bw_ hb); clear hb hbox hg; obtain ⟨c8_0, c8_1⟩ := Qb2 BK101.out; obtain ⟨f8_0, f8_1⟩ := fz_2 BK101.out))
  go_ret; exact ⟨by first | rfl | (simp [Qaw, Qav] <;> rfl) | (simp [*, Qaw, Qav] <;> rfl), bw_⟩
end
structure BW (W : World) where
  now : World
  ok : Below W.heap.size W now
instance bwNonempty (W : World) : Nonempty (BW W) := ⟨⟨W, Below.refl _ _⟩⟩
theorem Qbb {P : Program} {id : Nat} {Q : Exit → Act → World → Prop} {a : Act} {W : World} {l : List Oper} (hm : P.follows .mixedOrders = true) (hB : Region.lexB .any l.toArray = true)
    (h : wpQuiet P l.toArray (fun w' => ∃ u : BW W, w' = u.now) (fun a' => ∀ w', (∃ u : BW W, w' = u.now) → Q .normal a' w') l a) : (Code.region id l.toArray true).wp P Q a W :=
  wp_region_quiet (C := fun w' => ∃ u : BW W, w' = u.now) hm hB ⟨⟨_, Qan (Below.refl W.heap.size W)⟩, rfl⟩ (by simpa using h)
theorem QaS {W : World} {a : Addr} {v : Value} (h : W.cell? a = some v) (u : BW W) : u.now.cell? a = some v := Qbh u.ok h
theorem QbY {P : Program} {f : FuncId} {args : Array Value} {W : World} {v : Value} {u : BW W} (h : Calls P f args u.now fun e w' => e = .returned v ∧ Below u.now.heap.size u.now w') : Calls P f args u.now fun e w'' => e = .returned v ∧ ∃ u' : BW W, w'' = u'.now :=
  h.mono fun _ w' ⟨he, hb⟩ => ⟨he, ⟨w', Qad u.ok hb⟩, rfl⟩
theorem Qcw {w : World} {a : Addr} {v : Value} (h : w.cell? a = some v) (o : Obj) : (w.alloc o).cell? a = some v := Qbh (Qak (Below.refl _ _) o) h
abbrev roleObj2 (r : Role) : Obj := .cells #[.string r.f0, .string r.f1] 24
theorem roleCells2 {W : World} {k : Nat} {r : Role} (h : W.heap[k]? = some (roleObj2 r)) : W.cell? ⟨k, 0, none⟩ = some (.string r.f0) ∧ W.cell? ⟨k, 1, none⟩ = some (.string r.f1) :=
  ⟨(Qam h 0).trans rfl, (Qam h 1).trans rfl⟩
theorem boxed1 {w W : World} {o : Obj} (h : w.alloc o = W) : Below w.heap.size w W ∧ W.heap[w.heap.size]? = some o := by
  subst h; exact ⟨Qak (Below.refl w.heap.size w) _, Qbf w _⟩
theorem boxed2 {w W : World} {o1 o2 : Obj} (h : (w.alloc o1).alloc o2 = W) : Below w.heap.size w W ∧ W.heap[w.heap.size]? = some o1 ∧ W.heap[w.heap.size + 1]? = some o2 ∧ W.heap.size = w.heap.size + 1 + 1 := by
  subst h
  have e1 : (w.alloc o1).heap.size = w.heap.size + 1 := by simp
  refine ⟨Qak (Qak (Below.refl w.heap.size w) _) _, Qag (Qbf w _) _, ?_, by simp⟩; have := Qbf (w.alloc o1) o2
  rwa [e1] at this
theorem str_t {a b : ByteArray} (h : a = b) : (a.toList == b.toList) = true := by subst h; simp
theorem str_f {a b : ByteArray} (h : ¬ a = b) : (a.toList == b.toList) = false := by
  rw [Bool.eq_false_iff]; intro e; exact h ((Lib.bytes_beq_iff _ _).mp e)
theorem neRole_f {a b : Role} (h : a = b) : (!(a.f0.toList == b.f0.toList) || (!(a.f1.toList == b.f1.toList))) = false := by subst h; simp
theorem neRole_t {a b : Role} (h : ¬ a = b) : (!(a.f0.toList == b.f0.toList) || (!(a.f1.toList == b.f1.toList))) = true := by
  have := eqRole_f h
  revert this
  cases (a.f0.toList == b.f0.toList) <;> cases (a.f1.toList == b.f1.toList) <;> simp
section
attribute [local go_sem high] eqA24
def noText (s : ByteArray) : Bool := s.toList == ([] : List UInt8)
def noRole (r : Role) : Bool := noText r.f0 && noText r.f1
def and3 (x : Option Bool) (y z : Option Bool) : Option Bool := x.bind fun b => if b = true then (y.bind fun d => if d = true then z else some false) else some false
def mayKind (c : Cred) : Option Bool :=
  if c.f2 = 1 then and3 (Qbp.f c.f3) (some (noRole c.f4)) (some (noRole c.f5))
  else if c.f2 = 2 then and3 (Qbn.f 20 c.f4.f0 c.f4.f1) (some (noRole c.f5)) (some (noText c.f3))
  else if c.f2 = 3 then and3 (QbX.f c.f4.f0 c.f4.f1) (QbX.f c.f5.f0 c.f5.f1) (some (noText c.f3))
  else if c.f2 = 4 then and3 (Qbn.f 20 c.f4.f0 c.f4.f1) (Qbn.f 20 c.f5.f0 c.f5.f1) (some (noText c.f3))
  else some false
def mayF (c : Cred) : Option Bool :=
  if noText (domName c.f0.f0) = true then some false else if c.f0.f1 < 1 then some false else if c.f0.f1 > 4000 then some false else (Qbp.f c.f1).bind fun m => if m = true then mayKind c else some false
theorem noText_f {s : ByteArray} (h : noText s = false) : (s.toList == ([] : List UInt8)) = false ∧ decide (s.toList = ([] : List UInt8)) = false := by
  unfold noText at h; exact ⟨h, by rw [beq_eq_false_iff_ne] at h; exact decide_eq_false h⟩
theorem noText_t {s : ByteArray} (h : noText s = true) : (s.toList == ([] : List UInt8)) = true ∧ s.toList = ([] : List UInt8) := by
  unfold noText at h; exact ⟨h, beq_iff_eq.mp h⟩
theorem noRole_any (r : Role) : (∃ x y, noRole r = (x && y) ∧ (r.f0.toList == ([] : List UInt8)) = x ∧ (r.f1.toList == ([] : List UInt8)) = y) := ⟨_, _, rfl, rfl, rfl⟩
set_option maxRecDepth 100000 in
set_option maxHeartbeats 8000000 in
theorem mayC_walk (w : World) (c : Cred) (r : Bool) (h : mayF c = some r) : Calls Tryz.prog 52 #[encCred c] w fun e w' => e = .returned (.bool r) ∧ Below w.heap.size w w' := by
  unfold mayF at h; unfold encCred; go_enter Tryz.func52, Tryz.ntmps52
  go_upto_region 1 with fail
  change Code.wp _ _ _ _ (w.alloc (credObj c))
  generalize hW : w.alloc (credObj c) = W
  obtain ⟨HB, BC⟩ := boxed1 hW; obtain ⟨c0, c1, c2, c3, c4, c5, c6, c7, c8⟩ := credCells BC; clear hW; cases e0 : noText (domName c.f0.f0)
  · rw [e0, if_neg (by decide)] at h
    obtain ⟨d0, d1⟩ := noText_f e0; clear e0
    by_cases e1 : c.f0.f1 < 1
    · rw [if_pos e1] at h
      obtain rfl := Option.some.inj h; have d2 : decide (c.f0.f1 < 1) = true := decide_eq_true e1; clear h e1
      go_wp2_with (go_at_call 69; refine (Qb1 _ _).mono ?_; rintro e w' ⟨rfl, rfl⟩)
      go_ret; exact ⟨rfl, HB⟩
    · rw [if_neg e1] at h
      have d2 : decide (c.f0.f1 < 1) = false := decide_eq_false e1; clear e1
      by_cases e1 : c.f0.f1 > 4000
      · rw [if_pos e1] at h
        obtain rfl := Option.some.inj h; have d3 : decide (4000 < c.f0.f1) = true := decide_eq_true e1; clear h e1
        go_wp2_with (go_at_call 69; refine (Qb1 _ _).mono ?_; rintro e w' ⟨rfl, rfl⟩)
        go_ret; exact ⟨rfl, HB⟩
      · rw [if_neg e1] at h
        have d3 : decide (4000 < c.f0.f1) = false := decide_eq_false e1; clear e1; obtain ⟨m, hm, h⟩ := Option.bind_eq_some_iff.mp h; have HM := Lib.hid hm; cases m
        · obtain rfl := Option.some.inj h
          clear h hm
          go_wp2_with (first | (go_at_call 69; refine (Qb1 _ _).mono ?_; rintro e w' ⟨rfl, rfl⟩) | (go_at_call 70; refine (Qbp.calls _ _ _ HM.out).mono ?_; rintro e w3 ⟨rfl, hB3⟩))
          go_ret; exact ⟨rfl, Qad HB hB3⟩
        · rw [if_pos rfl] at h
          have HH := Lib.hid h; clear h hm
          go_upto_region 3 with (first | (go_at_call 69; refine (Qb1 _ _).mono ?_; rintro e w' ⟨rfl, rfl⟩) | (go_at_call 70; refine (Qbp.calls _ _ _ HM.out).mono ?_; rintro e w3 ⟨rfl, hB3⟩))
          have HB3 := Qad HB hB3; have BC3 := Qac BC hB3; clear c0 c1 c2 c3 c4 c5 c6 c7 c8 HB BC hB3 d0 d1 d2 d3
          go_upto_region 4 with fail
          change Code.wp _ _ _ _ (w3.alloc (roleObj2 ⟨⟨#[]⟩, ⟨#[]⟩⟩)); have HB4 := Qak HB3 (roleObj2 ⟨⟨#[]⟩, ⟨#[]⟩⟩); have BC4 := Qag BC3 (roleObj2 ⟨⟨#[]⟩, ⟨#[]⟩⟩); have BN := Qbf w3 (roleObj2 ⟨⟨#[]⟩, ⟨#[]⟩⟩); clear HB3 BC3
          generalize w3.heap.size = k3 at BN ⊢
          generalize w3.alloc (roleObj2 ⟨⟨#[]⟩, ⟨#[]⟩⟩) = X at HB4 BC4 BN ⊢
          obtain ⟨c0, c1, c2, c3, c4, c5, c6, c7, c8⟩ := credCells BC4; obtain ⟨z0, z1⟩ := roleCells2 BN; have h := HH.out; unfold mayKind at h; clear HH
          by_cases k1 : c.f2 = 1
          · rw [if_pos k1] at h
            have d1 : (c.f2 == 1) = true := beq_iff_eq.mpr k1; clear k1; unfold and3 at h; obtain ⟨b, hb, h⟩ := Option.bind_eq_some_iff.mp h; have HA := Lib.hid hb; clear hb; cases b
            · obtain rfl := Option.some.inj h
              clear h
              go_wp2_with (first | (go_at_call 70; (with_reducible refine (Qbp.calls _ _ _ HA.out).mono ?_); rintro e w5 ⟨rfl, hB5⟩; have HB5 := Qad HB4 hB5; have BC5 := Qac BC4 hB5; have BN5 := Qac BN hB5; obtain ⟨c0, c1, c2, c3, c4, c5, c6, c7, c8⟩ := credCells BC5; obtain ⟨z0, z1⟩ := roleCells2 BN5))
              go_ret; exact ⟨rfl, HB5⟩
            rw [if_pos rfl] at h; rw [Option.bind_some] at h; obtain ⟨x4, y4, e4, hx4, hy4⟩ := noRole_any c.f4; rw [e4] at h; clear e4; obtain ⟨x5, y5, e5, hx5, hy5⟩ := noRole_any c.f5; rw [e5] at h; clear e5; cases x4
            · obtain rfl : false = r := Option.some.inj h
              clear h
              go_wp2_with (first | (go_at_call 70; (with_reducible refine (Qbp.calls _ _ _ HA.out).mono ?_); rintro e w5 ⟨rfl, hB5⟩; have HB5 := Qad HB4 hB5; have BC5 := Qac BC4 hB5; have BN5 := Qac BN hB5; obtain ⟨c0, c1, c2, c3, c4, c5, c6, c7, c8⟩ := credCells BC5; obtain ⟨z0, z1⟩ := roleCells2 BN5))
              go_ret; exact ⟨rfl, HB5⟩
            cases y4
            · obtain rfl : false = r := Option.some.inj h
              clear h
              go_wp2_with (first | (go_at_call 70; (with_reducible refine (Qbp.calls _ _ _ HA.out).mono ?_); rintro e w5 ⟨rfl, hB5⟩; have HB5 := Qad HB4 hB5; have BC5 := Qac BC4 hB5; have BN5 := Qac BN hB5; obtain ⟨c0, c1, c2, c3, c4, c5, c6, c7, c8⟩ := credCells BC5; obtain ⟨z0, z1⟩ := roleCells2 BN5))
              go_ret; exact ⟨rfl, HB5⟩
            cases x5
            · obtain rfl : false = r := Option.some.inj h
              clear h
              go_wp2_with (first | (go_at_call 70; (with_reducible refine (Qbp.calls _ _ _ HA.out).mono ?_); rintro e w5 ⟨rfl, hB5⟩; have HB5 := Qad HB4 hB5; have BC5 := Qac BC4 hB5; have BN5 := Qac BN hB5; obtain ⟨c0, c1, c2, c3, c4, c5, c6, c7, c8⟩ := credCells BC5; obtain ⟨z0, z1⟩ := roleCells2 BN5))
              go_ret; exact ⟨rfl, HB5⟩
            cases y5
            · obtain rfl : false = r := Option.some.inj h
              clear h
              go_wp2_with (first | (go_at_call 70; (with_reducible refine (Qbp.calls _ _ _ HA.out).mono ?_); rintro e w5 ⟨rfl, hB5⟩; have HB5 := Qad HB4 hB5; have BC5 := Qac BC4 hB5; have BN5 := Qac BN hB5; obtain ⟨c0, c1, c2, c3, c4, c5, c6, c7, c8⟩ := credCells BC5; obtain ⟨z0, z1⟩ := roleCells2 BN5))
              go_ret; exact ⟨rfl, HB5⟩
            obtain rfl : true = r := Option.some.inj h; clear h
            go_wp2_with (first | (go_at_call 70; (with_reducible refine (Qbp.calls _ _ _ HA.out).mono ?_); rintro e w5 ⟨rfl, hB5⟩; have HB5 := Qad HB4 hB5; have BC5 := Qac BC4 hB5; have BN5 := Qac BN hB5; obtain ⟨c0, c1, c2, c3, c4, c5, c6, c7, c8⟩ := credCells BC5; obtain ⟨z0, z1⟩ := roleCells2 BN5))
            go_ret; exact ⟨rfl, HB5⟩
          · rw [if_neg k1] at h
            have d1 : (c.f2 == 1) = false := beq_eq_false_iff_ne.mpr k1; clear k1
            by_cases k2 : c.f2 = 2
            · rw [if_pos k2] at h
              have d2 : (c.f2 == 2) = true := beq_iff_eq.mpr k2; clear k2; unfold and3 at h; obtain ⟨b, hb, h⟩ := Option.bind_eq_some_iff.mp h; have HA := Lib.hid hb; clear hb; cases b
              · obtain rfl := Option.some.inj h
                clear h
                go_wp2_with (first | (go_at_call 71; (with_reducible refine (Qbn.calls 20 _ _ _ _ HA.out).mono ?_); rintro e w5 ⟨rfl, hB5⟩; have HB5 := Qad HB4 hB5; have BC5 := Qac BC4 hB5; have BN5 := Qac BN hB5; obtain ⟨c0, c1, c2, c3, c4, c5, c6, c7, c8⟩ := credCells BC5; obtain ⟨z0, z1⟩ := roleCells2 BN5))
                go_ret; exact ⟨rfl, HB5⟩
              rw [if_pos rfl] at h; rw [Option.bind_some] at h; obtain ⟨x5, y5, e5, hx5, hy5⟩ := noRole_any c.f5; rw [e5] at h; clear e5
              obtain ⟨x3, hx3⟩ : ∃ x3, (c.f3.toList == ([] : List UInt8)) = x3 := ⟨_, rfl⟩
              rw [show noText c.f3 = x3 from hx3] at h; cases x5
              · obtain rfl : false = r := Option.some.inj h
                clear h
                go_wp2_with (first | (go_at_call 71; (with_reducible refine (Qbn.calls 20 _ _ _ _ HA.out).mono ?_); rintro e w5 ⟨rfl, hB5⟩; have HB5 := Qad HB4 hB5; have BC5 := Qac BC4 hB5; have BN5 := Qac BN hB5; obtain ⟨c0, c1, c2, c3, c4, c5, c6, c7, c8⟩ := credCells BC5; obtain ⟨z0, z1⟩ := roleCells2 BN5))
                go_ret; exact ⟨rfl, HB5⟩
              cases y5
              · obtain rfl : false = r := Option.some.inj h
                clear h
                go_wp2_with (first | (go_at_call 71; (with_reducible refine (Qbn.calls 20 _ _ _ _ HA.out).mono ?_); rintro e w5 ⟨rfl, hB5⟩; have HB5 := Qad HB4 hB5; have BC5 := Qac BC4 hB5; have BN5 := Qac BN hB5; obtain ⟨c0, c1, c2, c3, c4, c5, c6, c7, c8⟩ := credCells BC5; obtain ⟨z0, z1⟩ := roleCells2 BN5))
                go_ret; exact ⟨rfl, HB5⟩
              cases x3
              · obtain rfl : false = r := Option.some.inj h
                clear h
                go_wp2_with (first | (go_at_call 71; (with_reducible refine (Qbn.calls 20 _ _ _ _ HA.out).mono ?_); rintro e w5 ⟨rfl, hB5⟩; have HB5 := Qad HB4 hB5; have BC5 := Qac BC4 hB5; have BN5 := Qac BN hB5; obtain ⟨c0, c1, c2, c3, c4, c5, c6, c7, c8⟩ := credCells BC5; obtain ⟨z0, z1⟩ := roleCells2 BN5))
                go_ret; exact ⟨rfl, HB5⟩
              obtain rfl : true = r := Option.some.inj h; clear h
              go_wp2_with (first | (go_at_call 71; (with_reducible refine (Qbn.calls 20 _ _ _ _ HA.out).mono ?_); rintro e w5 ⟨rfl, hB5⟩; have HB5 := Qad HB4 hB5; have BC5 := Qac BC4 hB5; have BN5 := Qac BN hB5; obtain ⟨c0, c1, c2, c3, c4, c5, c6, c7, c8⟩ := credCells BC5; obtain ⟨z0, z1⟩ := roleCells2 BN5))
              go_ret; exact ⟨rfl, HB5⟩
            · rw [if_neg k2] at h
              have d2 : (c.f2 == 2) = false := beq_eq_false_iff_ne.mpr k2; clear k2
              by_cases k3 : c.f2 = 3
              · rw [if_pos k3] at h
                have d3 : (c.f2 == 3) = true := beq_iff_eq.mpr k3; clear k3; unfold and3 at h; obtain ⟨b, hb, h⟩ := Option.bind_eq_some_iff.mp h; have HA := Lib.hid hb; clear hb; cases b
                · obtain rfl := Option.some.inj h
                  clear h
                  go_wp2_with (first | (go_at_call 72; (with_reducible refine (QbX.calls _ _ _ _ HA.out).mono ?_); rintro e w5 ⟨rfl, hB5⟩; have HB5 := Qad HB4 hB5; have BC5 := Qac BC4 hB5; have BN5 := Qac BN hB5; obtain ⟨c0, c1, c2, c3, c4, c5, c6, c7, c8⟩ := credCells BC5; obtain ⟨z0, z1⟩ := roleCells2 BN5))
                  go_ret; exact ⟨rfl, HB5⟩
                rw [if_pos rfl] at h; obtain ⟨d, hd, h⟩ := Option.bind_eq_some_iff.mp h; have HD := Lib.hid hd; clear hd; cases d
                · obtain rfl := Option.some.inj h
                  clear h
                  go_wp2_with (first | (go_at_call 72; (with_reducible refine (QbX.calls _ _ _ _ HA.out).mono ?_); rintro e w5 ⟨rfl, hB5⟩; have HB5 := Qad HB4 hB5; have BC5 := Qac BC4 hB5; have BN5 := Qac BN hB5; obtain ⟨c0, c1, c2, c3, c4, c5, c6, c7, c8⟩ := credCells BC5; obtain ⟨z0, z1⟩ := roleCells2 BN5) | (go_at_call 72; (with_reducible refine (QbX.calls _ _ _ _ HD.out).mono ?_); rintro e w6 ⟨rfl, hB6⟩; have HB6 := Qad HB5 hB6; have BC6 := Qac BC5 hB6; have BN6 := Qac BN5 hB6; obtain ⟨c0, c1, c2, c3, c4, c5, c6, c7, c8⟩ := credCells BC6; obtain ⟨z0, z1⟩ := roleCells2 BN6))
                  go_ret; exact ⟨rfl, HB6⟩
                rw [if_pos rfl] at h
                obtain ⟨x3, hx3⟩ : ∃ x3, (c.f3.toList == ([] : List UInt8)) = x3 := ⟨_, rfl⟩
                rw [show noText c.f3 = x3 from hx3] at h; cases x3
                · obtain rfl : false = r := Option.some.inj h
                  clear h
                  go_wp2_with (first | (go_at_call 72; (with_reducible refine (QbX.calls _ _ _ _ HA.out).mono ?_); rintro e w5 ⟨rfl, hB5⟩; have HB5 := Qad HB4 hB5; have BC5 := Qac BC4 hB5; have BN5 := Qac BN hB5; obtain ⟨c0, c1, c2, c3, c4, c5, c6, c7, c8⟩ := credCells BC5; obtain ⟨z0, z1⟩ := roleCells2 BN5) | (go_at_call 72; (with_reducible refine (QbX.calls _ _ _ _ HD.out).mono ?_); rintro e w6 ⟨rfl, hB6⟩; have HB6 := Qad HB5 hB6; have BC6 := Qac BC5 hB6; have BN6 := Qac BN5 hB6; obtain ⟨c0, c1, c2, c3, c4, c5, c6, c7, c8⟩ := credCells BC6; obtain ⟨z0, z1⟩ := roleCells2 BN6))
                  go_ret; exact ⟨rfl, HB6⟩
                obtain rfl : true = r := Option.some.inj h; clear h
                go_wp2_with (first | (go_at_call 72; (with_reducible refine (QbX.calls _ _ _ _ HA.out).mono ?_); rintro e w5 ⟨rfl, hB5⟩; have HB5 := Qad HB4 hB5; have BC5 := Qac BC4 hB5; have BN5 := Qac BN hB5; obtain ⟨c0, c1, c2, c3, c4, c5, c6, c7, c8⟩ := credCells BC5; obtain ⟨z0, z1⟩ := roleCells2 BN5) | (go_at_call 72; (with_reducible refine (QbX.calls _ _ _ _ HD.out).mono ?_); rintro e w6 ⟨rfl, hB6⟩; have HB6 := Qad HB5 hB6; have BC6 := Qac BC5 hB6; have BN6 := Qac BN5 hB6; obtain ⟨c0, c1, c2, c3, c4, c5, c6, c7, c8⟩ := credCells BC6; obtain ⟨z0, z1⟩ := roleCells2 BN6))
                go_ret; exact ⟨rfl, HB6⟩
              · rw [if_neg k3] at h
                have d3 : (c.f2 == 3) = false := beq_eq_false_iff_ne.mpr k3; clear k3
                by_cases k4 : c.f2 = 4
                · rw [if_pos k4] at h
                  have d4 : (c.f2 == 4) = true := beq_iff_eq.mpr k4; clear k4; unfold and3 at h; obtain ⟨b, hb, h⟩ := Option.bind_eq_some_iff.mp h; have HA := Lib.hid hb; clear hb; cases b
                  · obtain rfl := Option.some.inj h
                    clear h
                    go_wp2_with (first | (go_at_call 71; (with_reducible refine (Qbn.calls 20 _ _ _ _ HA.out).mono ?_); rintro e w5 ⟨rfl, hB5⟩; have HB5 := Qad HB4 hB5; have BC5 := Qac BC4 hB5; have BN5 := Qac BN hB5; obtain ⟨c0, c1, c2, c3, c4, c5, c6, c7, c8⟩ := credCells BC5; obtain ⟨z0, z1⟩ := roleCells2 BN5))
                    go_ret; exact ⟨rfl, HB5⟩
                  rw [if_pos rfl] at h; obtain ⟨d, hd, h⟩ := Option.bind_eq_some_iff.mp h; have HD := Lib.hid hd; clear hd; cases d
                  · obtain rfl := Option.some.inj h
                    clear h
                    go_wp2_with (first | (go_at_call 71; (with_reducible refine (Qbn.calls 20 _ _ _ _ HA.out).mono ?_); rintro e w5 ⟨rfl, hB5⟩; have HB5 := Qad HB4 hB5; have BC5 := Qac BC4 hB5; have BN5 := Qac BN hB5; obtain ⟨c0, c1, c2, c3, c4, c5, c6, c7, c8⟩ := credCells BC5; obtain ⟨z0, z1⟩ := roleCells2 BN5) | (go_at_call 71; (with_reducible refine (Qbn.calls 20 _ _ _ _ HD.out).mono ?_); rintro e w6 ⟨rfl, hB6⟩; have HB6 := Qad HB5 hB6; have BC6 := Qac BC5 hB6; have BN6 := Qac BN5 hB6; obtain ⟨c0, c1, c2, c3, c4, c5, c6, c7, c8⟩ := credCells BC6; obtain ⟨z0, z1⟩ := roleCells2 BN6))
                    go_ret; exact ⟨rfl, HB6⟩
                  rw [if_pos rfl] at h
                  obtain ⟨x3, hx3⟩ : ∃ x3, (c.f3.toList == ([] : List UInt8)) = x3 := ⟨_, rfl⟩
                  rw [show noText c.f3 = x3 from hx3] at h; cases x3
                  · obtain rfl : false = r := Option.some.inj h
                    clear h
                    go_wp2_with (first | (go_at_call 71; (with_reducible refine (Qbn.calls 20 _ _ _ _ HA.out).mono ?_); rintro e w5 ⟨rfl, hB5⟩; have HB5 := Qad HB4 hB5; have BC5 := Qac BC4 hB5; have BN5 := Qac BN hB5; obtain ⟨c0, c1, c2, c3, c4, c5, c6, c7, c8⟩ := credCells BC5; obtain ⟨z0, z1⟩ := roleCells2 BN5) | (go_at_call 71; (with_reducible refine (Qbn.calls 20 _ _ _ _ HD.out).mono ?_); rintro e w6 ⟨rfl, hB6⟩; have HB6 := Qad HB5 hB6; have BC6 := Qac BC5 hB6; have BN6 := Qac BN5 hB6; obtain ⟨c0, c1, c2, c3, c4, c5, c6, c7, c8⟩ := credCells BC6; obtain ⟨z0, z1⟩ := roleCells2 BN6))
                    go_ret; exact ⟨rfl, HB6⟩
                  obtain rfl : true = r := Option.some.inj h; clear h
                  go_wp2_with (first | (go_at_call 71; (with_reducible refine (Qbn.calls 20 _ _ _ _ HA.out).mono ?_); rintro e w5 ⟨rfl, hB5⟩; have HB5 := Qad HB4 hB5; have BC5 := Qac BC4 hB5; have BN5 := Qac BN hB5; obtain ⟨c0, c1, c2, c3, c4, c5, c6, c7, c8⟩ := credCells BC5; obtain ⟨z0, z1⟩ := roleCells2 BN5) | (go_at_call 71; (with_reducible refine (Qbn.calls 20 _ _ _ _ HD.out).mono ?_); rintro e w6 ⟨rfl, hB6⟩; have HB6 := Qad HB5 hB6; have BC6 := Qac BC5 hB6; have BN6 := Qac BN5 hB6; obtain ⟨c0, c1, c2, c3, c4, c5, c6, c7, c8⟩ := credCells BC6; obtain ⟨z0, z1⟩ := roleCells2 BN6))
                  go_ret; exact ⟨rfl, HB6⟩
                · rw [if_neg k4] at h
                  have d4 : (c.f2 == 4) = false := beq_eq_false_iff_ne.mpr k4; clear k4; obtain rfl := Option.some.inj h; clear h; go_wp2; go_ret; exact ⟨rfl, HB4⟩
  · rw [e0, if_pos rfl] at h
    obtain rfl := Option.some.inj h; obtain ⟨d0, d1⟩ := noText_t e0; clear e0 h
    go_wp2_with (go_at_call 69; refine (Qb1 _ _).mono ?_; rintro e w' ⟨rfl, rfl⟩)
    go_ret; exact ⟨rfl, HB⟩
end
section
attribute [local go_sem] QaQ QaO QaZ QaY QaJ QaI QaP QaN
def cred_May.f (a0_0 : Int) (a0_1 : Int) (a0_2 : ByteArray) (a0_3 : Int) (a0_4 : ByteArray) (a0_5 : ByteArray) (a0_6 : ByteArray) (a0_7 : ByteArray) (a0_8 : ByteArray) : Option Bool := mayF ⟨⟨a0_0, a0_1⟩, a0_2, a0_3, a0_4, ⟨a0_5, a0_6⟩, ⟨a0_7, a0_8⟩⟩
theorem cred_May.calls (a0_0 : Int) (a0_1 : Int) (a0_2 : ByteArray) (a0_3 : Int) (a0_4 : ByteArray) (a0_5 : ByteArray) (a0_6 : ByteArray) (a0_7 : ByteArray) (a0_8 : ByteArray) (r : Bool) (w : World) (h : cred_May.f a0_0 a0_1 a0_2 a0_3 a0_4 a0_5 a0_6 a0_7 a0_8 = some r) :
    Calls Tryz.prog 52 #[.agg #[.int .i64 a0_0, .int .i64 a0_1, .string a0_2, .int .i64 a0_3, .string a0_4, .string a0_5, .string a0_6, .string a0_7, .string a0_8]] w fun e w' => e = .returned (.bool r) ∧ Below w.heap.size w w' := by
  exact mayC_walk w ⟨⟨a0_0, a0_1⟩, a0_2, a0_3, a0_4, ⟨a0_5, a0_6⟩, ⟨a0_7, a0_8⟩⟩ r h
end
section
open Go.Maps
abbrev ID := S27
theorem id_ext {a b : ID} (h0 : a.f0 = b.f0) (h1 : a.f1 = b.f1) : a = b := by cases a; cases b; simp_all
instance idDec : DecidableEq ID := fun a b => decidable_of_iff (a.f0 = b.f0 ∧ a.f1 = b.f1) ⟨fun h => id_ext h.1 h.2, fun h => by rw [h]; exact ⟨rfl, rfl⟩⟩
def encID (x : ID) : Value := .agg #[.int .i64 x.f0, .int .i64 x.f1]
def okID (x : ID) : Prop := (Lit.int .i64 x.f0).wf = true ∧ (Lit.int .i64 x.f1).wf = true
instance okIDDec (x : ID) : Decidable (okID x) := by unfold okID; infer_instance
theorem idk_laid : laidOutB Tryz.prog = true := by kernel_rfl
theorem idk_row : 27 < Tryz.prog.types.size := of_decide_eq_true (by kernel_rfl)
theorem idk_key : Tryz.prog.keyType 27 = true := by kernel_rfl
theorem idk_tsize : Tryz.prog.types.size = 2 + (Tryz.prog.types.size - 2) := by have := of_decide_eq_true (p := 2 ≤ Tryz.prog.types.size) (by kernel_rfl); omega
theorem idLaw : WideMaps.KeyLaw Tryz.prog 27 := deep_law_laid idk_laid (m := 2) (by omega) idk_row (by kernel_rfl) (by rw [Tryz.underlying27])
theorem idk_cells : Tryz.prog.cellsOf 27 = 2 := by kernel_rfl
theorem idk_int : Tryz.prog.cellsOf 3 = 1 := by kernel_rfl
theorem lits_int (d : Nat) (n : Int) (hn : (Lit.int .i64 n).wf = true) : Tryz.prog.keyLits (d + 1) 3 [.int .i64 n] = some [.int .i64 n] := by
  unfold Program.keyLits; rw [Tryz.underlying3]; simp [hn]
theorem lits_id (d : Nat) (x : ID) (hx : okID x) : Tryz.prog.keyLits (d + 2) 27 [.int .i64 x.f0, .int .i64 x.f1] = some [.int .i64 x.f0, .int .i64 x.f1] := by
  unfold Program.keyLits; rw [Tryz.underlying27]; simp [idk_cells, idk_int, lits_int d _ hx.1, lits_int d _ hx.2]
theorem idKey : KeyK Tryz.prog 27 encID okID where
  keyed := Keyed.of_law idLaw
  lit x hx := by
    refine ⟨.string (keyBytes [.int .i64 x.f0, .int .i64 x.f1]), ?_⟩
    have hf : (encID x).formed Tryz.prog 27 = true := by
      simp [encID, Value.formed, Tryz.underlying27, idk_cells]
    unfold keyOf; rw [Tryz.underlying27]; simp only [idk_key, hf, Bool.and_self, if_true]
    have hc : (encID x).cells.toList = [.int .i64 x.f0, .int .i64 x.f1] := by simp [encID, Value.cells]
    rw [hc, idk_tsize, show 2 + (Tryz.prog.types.size - 2) + 1 = (Tryz.prog.types.size - 1) + 2 from by have := idk_tsize; omega, lits_id _ x hx]; rfl
  inj p q _ _ h := by
    simp only [encID, Value.agg.injEq, Array.mk.injEq, List.cons.injEq, Value.int.injEq, and_true, true_and] at h; exact id_ext h.1 h.2
theorem neID_f {a b : ID} (h : a = b) : (!(a.f0 == b.f0) || (!(a.f1 == b.f1))) = false := by subst h; simp
theorem neID_t {a b : ID} (h : ¬ a = b) : (!(a.f0 == b.f0) || (!(a.f1 == b.f1))) = true := by
  by_cases e0 : a.f0 = b.f0
  · by_cases e1 : a.f1 = b.f1
    · exact absurd (by cases a; cases b; simp_all) h
    · simp [e1]
  · simp [e0]
end
section
attribute [local go_sem high] eqA27
abbrev mayOf (c : Cred) : Option Bool := cred_May.f c.f0.f0 c.f0.f1 c.f1 c.f2 c.f3 c.f4.f0 c.f4.f1 c.f5.f0 c.f5.f1
def countsF : List Cred → List Cred → Option (List Cred)
  | [], out => some out
  | c :: S, out => (mayOf c).bind fun m => if m = true then (if (out.getLast?).map (·.f0) = some c.f0 then countsF S out else countsF S (out ++ [c])) else countsF S out
set_option maxRecDepth 100000 in
set_option maxHeartbeats 8000000 in
theorem countsW (w : World) (A0 : Option Addr) (c0 : Nat) (l S out : List Cred) (hr0 : Kd.C kCred w A0 l.length l) (hc0 : l.length ≤ c0) (hS : Qcm.f l = some S) (hlen : S.length ≤ 1000000) (h : countsF S [] = some out) :
    Calls Tryz.prog 36 #[.slice A0 l.length c0] w fun e w' => ∃ v, e = .returned v ∧ Kd.R kCred 46 w' w.heap.size (fun _ => True) v out ∧ Below w.heap.size w w' := by
  have HS := Lib.hid hS; have HF := Lib.hid h; have HL := Lib.hid hlen; have HR0 := Lib.hid hr0; have HC0 := Lib.hid hc0; clear hS h hlen hr0 hc0; go_enter Tryz.func36, Tryz.ntmps36
  go_wp2_with (go_at_call 51; refine (Qcm.calls A0 c0 l S w HR0.out HC0.out HS.out).mono ?_; rintro e w3 ⟨v3, rfl, hR3, hB3⟩; obtain ⟨A3, cc3, rfl⟩ := Kd.Qa2 hR3)
  have HC3 := Lib.hid (Kd.QaF hR3).2.2; have HB3 := Lib.hid hB3; clear hR3 hB3
  go_loopg [3, 9] (S.length + 1) (fun kq v3 v9 w' => ∃ (i : Nat) (acc : List Cred), v9 = .int .i64 i ∧ Hid (kq = S.length + 1 - i) ∧ Hid (i ≤ S.length) ∧ Hid (acc.length ≤ i) ∧ Hid (countsF (S.drop i) acc = some out) ∧ Hid (Kd.R kCred 46 w' w3.heap.size (fun _ => True) v3 acc) ∧ Hid (Below w3.heap.size w3 w'))
  case atStart => exact ⟨0, [], rfl, Lib.hid rfl, Lib.hid (Nat.zero_le _), Lib.hid (Nat.le_refl _), HF, Lib.hid (Kd.R_nil _ _ _ _ _), Lib.hid (Below.refl _ _)⟩
  case round =>
    clear HF; obtain ⟨i, acc, rfl, HKq, HI, HA, HF, HR, HW⟩ := hrel; obtain ⟨A4, c4, hv⟩ := Kd.Qa2 HR.out; subst hv
    by_cases hi : i < S.length
    · have d1 : decide ((i : Int) < (S.length : Int)) = true := decide_eq_true (by omega)
      have d2 : decide (i < S.length) = true := decide_eq_true hi; obtain ⟨ad, e, hx0, hx1, hx2, hx3, hx4, hx5, hx6, hx7, hx8⟩ := Qcr (Kd.Qbc HC3.out HW.out) (i : Int) (by omega) (by omega); obtain rfl := e
      obtain ⟨x, hx⟩ : ∃ x, x = S[i] := ⟨_, rfl⟩
      have erd : Qae S (i : Int) = x := by
        unfold Qae; rw [hx, Int.toNat_natCast, List.getD_eq_getElem?_getD, List.getElem?_eq_getElem hi]; rfl
      rw [erd, Int.toNat_natCast] at hx0 hx1 hx2 hx3 hx4 hx5 hx6 hx7 hx8; have p101 : (0 ≤ (i : Int)) = True := eq_true (by omega); have q101 : ((i : Int) < (S.length : Int)) = True := eq_true (by omega); have hF := HF.out; rw [List.drop_eq_getElem_cons hi, ← hx, countsF] at hF; obtain ⟨m, hm, hF⟩ := Option.bind_eq_some_iff.mp hF
      have wrapI : wrap64 ((i : Int) + 1) = ((i + 1 : Nat) : Int) := by unfold wrap64; have := HL.out; omega
      have HIL := Lib.hid hi; have HMy := Lib.hid hm; clear hx erd hi hm; replace HF := Lib.hid hF; clear hF
      go_upto_region 5 with fail
      change Code.wp _ _ _ _ (wr.alloc (credObj x)); have HXa := Qak (Below.refl wr.heap.size wr) (credObj x); have B3 := Qbf wr (credObj x); have WX := Qad HW.out HXa; have RX := Kd.Qau HR.out HXa
      obtain ⟨kx, hkx⟩ : ∃ kx, kx = wr.heap.size := ⟨_, rfl⟩
      rw [← hkx] at B3 ⊢; clear hx0 hx1 hx2 hx3 hx4 hx5 hx6 hx7 hx8 HXa HW HR hkx
      generalize wr.alloc (credObj x) = X at B3 WX RX ⊢
      obtain ⟨kc0, kc1, kc2, kc3, kc4, kc5, kc6, kc7, kc8⟩ := credCells B3; have HBX := Lib.hid B3; have HWX := Lib.hid WX; have HRX := Lib.hid RX; clear B3 WX RX; have g0 := QaS kc0; have g1 := QaS kc1; have g2 := QaS kc2; have g3 := QaS kc3; have g4 := QaS kc4; have g5 := QaS kc5; have g6 := QaS kc6; have g7 := QaS kc7; have g8 := QaS kc8; clear kc0 kc1 kc2 kc3 kc4 kc5 kc6 kc7 kc8; have HMC := Lib.hid (fun W => cred_May.calls _ _ _ _ _ _ _ _ _ _ W HMy.out); cases m
      · have hF := HF.out
        rw [if_neg (by decide)] at hF; replace HF := Lib.hid hF; clear hF; refine Qbb (by kernel_rfl) (by kernel_rfl) ?_
        repeat (go_big_quiet_step (with_reducible refine QbY (HMC.out _)))
        refine wpQuiet_nil ?_; rintro _ ⟨u, rfl⟩; have HWY := Lib.hid (Qad HWX.out u.ok); have HRY := Lib.hid (Kd.Qau HRX.out u.ok); have BY := Qac HBX.out u.ok; clear g0 g1 g2 g3 g4 g5 g6 g7 g8 HWX HRX HBX
        generalize u.now = Y at HWY HRY BY ⊢
        clear u; go_wp2
        go_roundg (S.length + 1 - (i + 1))
        case measure => have := HKq.out; have := HIL.out; omega
        case rel => exact ⟨i + 1, acc, by first | rfl | exact congrArg _ wrapI, Lib.hid rfl, Lib.hid HIL.out, Lib.hid (Nat.le_succ_of_le HA.out), HF, HRY, HWY⟩
      · have hF := HF.out
        rw [if_pos rfl] at hF
        by_cases ha : acc.length = 0
        · have e0 : acc = [] := List.eq_nil_of_length_eq_zero ha
          rw [if_neg (by rw [e0]; simp)] at hF; replace HF := Lib.hid hF; have b1 : ((acc.length : Int) == 0) = true := beq_iff_eq.mpr (by omega); have b2 : (acc.length == 0) = true := beq_iff_eq.mpr ha; clear hF e0 ha; refine Qbb (by kernel_rfl) (by kernel_rfl) ?_
          repeat (go_big_quiet_step (with_reducible refine QbY (HMC.out _)))
          refine wpQuiet_nil ?_; rintro _ ⟨u, rfl⟩; have HWY := Lib.hid (Qad HWX.out u.ok); have HRY := Lib.hid (Kd.Qau HRX.out u.ok); have BY := Qac HBX.out u.ok; clear g0 g1 g2 g3 g4 g5 g6 g7 g8 HWX HRX HBX
          generalize u.now = Y at HWY HRY BY ⊢
          clear u; obtain ⟨kc0, kc1, kc2, kc3, kc4, kc5, kc6, kc7, kc8⟩ := credCells BY; clear BY
          go_wp2_with ((with_reducible refine Qa3 (b := .append) (xs := #[.tmp 32, .tmp 34]) rfl ?_); at_builtin; refine Kd.QbB kCred (w0 := w3) w3.heap.size rfl (.tmp 32) (.tmp 34) 22 46 (.agg #[.int .i64 0, .int .i64 0, .string ⟨#[]⟩, .int .i64 0, .string ⟨#[]⟩, .string ⟨#[]⟩, .string ⟨#[]⟩, .string ⟨#[]⟩, .string ⟨#[]⟩]) 120 rfl Tryz.underlying22 infoCred rfl (by decide) (by omega) _ acc x [.int .i64 x.f0.f0, .int .i64 x.f0.f1, .string x.f1, .int .i64 x.f2, .string x.f3, .string x.f4.f0, .string x.f4.f1, .string x.f5.f0, .string x.f5.f1] (fun _ => True) (fun _ => False) rfl rfl ?aP (fun _ hk => hk.elim) (fun _ _ => trivial) ?aO ?aB ?aS ?aL ?_; (case aP => exact Qcu _ _ _ x); (case aB => exact HWY.out); (case aO => exact HRY.out); (case aS => exact QaD HWY.out); (case aL => have := HA.out; have := HIL.out; have := HL.out; omega); intro v2 w2 ho hb hg hat)
          have HO := Lib.hid ho; have HBo := Lib.hid hb
          clear ho hb hg hat
          go_roundg (S.length + 1 - (i + 1))
          case measure => have := HKq.out; have := HIL.out; omega
          case rel => exact ⟨i + 1, acc ++ [x], by first | rfl | exact congrArg _ wrapI, Lib.hid rfl, Lib.hid HIL.out, Lib.hid (by have := HA.out; simp; omega), HF, HO, HBo⟩
        · obtain ⟨j, hj⟩ : ∃ j, acc.length = j + 1 := ⟨acc.length - 1, by omega⟩
          have b1 : ((acc.length : Int) == 0) = false := beq_eq_false_iff_ne.mpr (by omega); have b2 : (acc.length == 0) = false := beq_eq_false_iff_ne.mpr ha
          have b3 : (acc.length : Int) - 1 = (j : Int) := by omega
          have b4 : wrap64 (j : Int) = (j : Int) := by unfold wrap64; have := HA.out; have := HIL.out; have := HL.out; omega
          have b5 : (0 ≤ (j : Int)) = True := eq_true (by omega); have b6 : ((j : Int) < (acc.length : Int)) = True := eq_true (by omega); have b7 : (j < acc.length) = True := eq_true (by omega); obtain ⟨al, e, hy0, hy1, _, _, _, _, _, _, _⟩ := Qcr (Kd.QaF HRX.out).2.2 (j : Int) (by omega) (by omega); obtain rfl := e
          obtain ⟨y, hy⟩ : ∃ y, y = Qae acc (j : Int) := ⟨_, rfl⟩
          have hl : acc.getLast?.map (·.f0) = some y.f0 := by
            rw [List.getLast?_eq_getElem?, hj, Nat.add_sub_cancel, List.getElem?_eq_getElem (by omega), hy]; unfold Qae; rw [Int.toNat_natCast, List.getD_eq_getElem?_getD, List.getElem?_eq_getElem (by omega)]; rfl
          rw [← hy, Int.toNat_natCast] at hy0 hy1; rw [hl] at hF; have g9 := QaS hy0; have g10 := QaS hy1; clear hy hl hy0 hy1 ha; have HJ := Lib.hid hj; clear hj
          by_cases e1 : y.f0 = x.f0
          · rw [if_pos (by rw [e1])] at hF
            replace HF := Lib.hid hF; have b8 := neID_f e1; clear hF e1; refine Qbb (by kernel_rfl) (by kernel_rfl) ?_
            repeat (go_big_quiet_step (with_reducible refine QbY (HMC.out _)))
            refine wpQuiet_nil ?_; rintro _ ⟨u, rfl⟩; have HWY := Lib.hid (Qad HWX.out u.ok); have HRY := Lib.hid (Kd.Qau HRX.out u.ok); have BY := Qac HBX.out u.ok; clear g0 g1 g2 g3 g4 g5 g6 g7 g8 HWX HRX HBX
            generalize u.now = Y at HWY HRY BY ⊢
            clear u; go_wp2
            go_roundg (S.length + 1 - (i + 1))
            case measure => have := HKq.out; have := HIL.out; omega
            case rel => exact ⟨i + 1, acc, by first | rfl | exact congrArg _ wrapI, Lib.hid rfl, Lib.hid HIL.out, Lib.hid (Nat.le_succ_of_le HA.out), HF, HRY, HWY⟩
          · rw [if_neg (by simpa using e1)] at hF
            replace HF := Lib.hid hF; have b8 := neID_t e1; clear hF e1; refine Qbb (by kernel_rfl) (by kernel_rfl) ?_
            repeat (go_big_quiet_step (with_reducible refine QbY (HMC.out _)))
            refine wpQuiet_nil ?_; rintro _ ⟨u, rfl⟩; have HWY := Lib.hid (Qad HWX.out u.ok); have HRY := Lib.hid (Kd.Qau HRX.out u.ok); have BY := Qac HBX.out u.ok; clear g0 g1 g2 g3 g4 g5 g6 g7 g8 HWX HRX HBX
            generalize u.now = Y at HWY HRY BY ⊢
            clear u; clear g9 g10 b1 b2 b3 b4 b5 b6 b7 b8; obtain ⟨kc0, kc1, kc2, kc3, kc4, kc5, kc6, kc7, kc8⟩ := credCells BY; clear BY
            go_wp2_with ((with_reducible refine Qa3 (b := .append) (xs := #[.tmp 32, .tmp 34]) rfl ?_); at_builtin; refine Kd.QbB kCred (w0 := w3) w3.heap.size rfl (.tmp 32) (.tmp 34) 22 46 (.agg #[.int .i64 0, .int .i64 0, .string ⟨#[]⟩, .int .i64 0, .string ⟨#[]⟩, .string ⟨#[]⟩, .string ⟨#[]⟩, .string ⟨#[]⟩, .string ⟨#[]⟩]) 120 rfl Tryz.underlying22 infoCred rfl (by decide) (by omega) _ acc x [.int .i64 x.f0.f0, .int .i64 x.f0.f1, .string x.f1, .int .i64 x.f2, .string x.f3, .string x.f4.f0, .string x.f4.f1, .string x.f5.f0, .string x.f5.f1] (fun _ => True) (fun _ => False) rfl rfl ?aP (fun _ hk => hk.elim) (fun _ _ => trivial) ?aO ?aB ?aS ?aL ?_; (case aP => exact Qcu _ _ _ x); (case aB => exact HWY.out); (case aO => exact HRY.out); (case aS => exact QaD HWY.out); (case aL => have := HA.out; have := HIL.out; have := HL.out; omega); intro v2 w2 ho hb hg hat)
            have HO := Lib.hid ho; have HBo := Lib.hid hb
            clear ho hb hg hat
            go_roundg (S.length + 1 - (i + 1))
            case measure => have := HKq.out; have := HIL.out; omega
            case rel => exact ⟨i + 1, acc ++ [x], by first | rfl | exact congrArg _ wrapI, Lib.hid rfl, Lib.hid HIL.out, Lib.hid (by have := HA.out; simp; omega), HF, HO, HBo⟩
    · have d1 : decide ((i : Int) < (S.length : Int)) = false := decide_eq_false (by omega)
      have d2 : decide (i < S.length) = false := decide_eq_false hi; have hF := HF.out; rw [List.drop_eq_nil_of_le (by omega), countsF] at hF; obtain rfl := Option.some.inj hF; clear hF HF hi; go_wp2; go_ret; exact ⟨_, rfl, Kd.Qa7 HR.out HB3.out.size, Qad HB3.out HW.out⟩
end
section
attribute [local go_sem] QaQ QaO QaZ QaY QaJ QaI QaP QaN
def Qb3.f (l0 : List (S46)) : Option (List (S46)) := (Qcm.f l0).bind fun S => if S.length ≤ 1000000 then countsF S [] else none
theorem Qb3.calls (A0 : Option Addr) (c0 : Nat) (l0 : List (S46)) (r : List (S46)) (w : World) (hr0 : Kd.C k46 w A0 l0.length l0) (hc0 : l0.length ≤ c0) (h : Qb3.f l0 = some r) :
    Calls Tryz.prog 36 #[.slice A0 l0.length c0] w fun e w' => ∃ v0_ : Value, e = .returned (v0_) ∧ Kd.R k46 46 w' w.heap.size (fun _ => True) v0_ r ∧ Below w.heap.size w w' := by
  unfold Qb3.f at h; obtain ⟨S, hS, h⟩ := Option.bind_eq_some_iff.mp h
  by_cases hl : S.length ≤ 1000000
  · rw [if_pos hl] at h
    exact countsW w A0 c0 l0 S r hr0 hc0 hS hl h
  · rw [if_neg hl] at h
    cases h
end
section
attribute [local go_sem] QaQ QaO QaZ QaY QaJ QaI QaP QaN
open Go.Maps
open Go.ChangeMaps (setBlock)
abbrev Pair := S55
theorem QbN {a b : Pair} (h0 : a.f0 = b.f0) (h1 : a.f1 = b.f1) : a = b := by cases a; cases b; simp_all
instance pairDec : DecidableEq Pair := fun a b => decidable_of_iff (a.f0 = b.f0 ∧ a.f1 = b.f1) ⟨fun h => QbN h.1 h.2, fun h => by rw [h]; exact ⟨rfl, rfl⟩⟩
def encPair (p : Pair) : Value := .agg #[.string p.f0.f0, .string p.f0.f1, .string p.f1]
def okPair (p : Pair) : Prop := p.f0.f0.size ≤ maxLen ∧ p.f0.f1.size ≤ maxLen ∧ p.f1.size ≤ maxLen
theorem Tryz.laidOut : laidOutB Tryz.prog = true := by kernel_rfl
theorem Tryz.rowPair : 55 < Tryz.prog.types.size := of_decide_eq_true (by kernel_rfl)
theorem Tryz.keyPair : Tryz.prog.keyType 55 = true := by kernel_rfl
theorem Tryz.tsize : Tryz.prog.types.size = 2 + (Tryz.prog.types.size - 2) := by have := of_decide_eq_true (p := 2 ≤ Tryz.prog.types.size) (by kernel_rfl); omega
theorem pairLaw : WideMaps.KeyLaw Tryz.prog 55 := deep_law_laid Tryz.laidOut (m := 3) (by omega) Tryz.rowPair (by kernel_rfl) (by rw [Tryz.underlying55])
theorem Tryz.cellsPair : Tryz.prog.cellsOf 55 = 3 := by kernel_rfl
theorem lits_str (d : Nat) (s : ByteArray) (hs : s.size ≤ maxLen) : Tryz.prog.keyLits (d + 1) 9 [.string s] = some [.string s.data.toList] := by
  unfold Program.keyLits; rw [Tryz.underlying9]; simp [hs]
theorem lits_role (d : Nat) (a b : ByteArray) (ha : a.size ≤ maxLen) (hb : b.size ≤ maxLen) : Tryz.prog.keyLits (d + 2) 24 [.string a, .string b] = some [.string a.data.toList, .string b.data.toList] := by
  unfold Program.keyLits; rw [Tryz.underlying24]; simp [Tryz.cellsRole, Tryz.cellsStr, lits_str d a ha, lits_str d b hb]
theorem lits_pair (d : Nat) (p : Pair) (hp : okPair p) : Tryz.prog.keyLits (d + 3) 55 [.string p.f0.f0, .string p.f0.f1, .string p.f1] = some [.string p.f0.f0.data.toList, .string p.f0.f1.data.toList, .string p.f1.data.toList] := by
  unfold Program.keyLits; rw [Tryz.underlying55]; simp [Tryz.cellsPair, Tryz.cellsRole, Tryz.cellsStr, lits_role d _ _ hp.1 hp.2.1, lits_str (d + 1) _ hp.2.2]
theorem pairKey : KeyK Tryz.prog 55 encPair okPair where
  keyed := Keyed.of_law pairLaw
  lit p hp := by
    refine ⟨.string (keyBytes [.string p.f0.f0.data.toList, .string p.f0.f1.data.toList, .string p.f1.data.toList]), ?_⟩
    have hf : (encPair p).formed Tryz.prog 55 = true := by
      simp [encPair, Value.formed, Tryz.underlying55, Tryz.cellsPair]
    unfold keyOf; rw [Tryz.underlying55]; simp only [Tryz.keyPair, hf, Bool.and_self, if_true]
    have hc : (encPair p).cells.toList = [.string p.f0.f0, .string p.f0.f1, .string p.f1] := by simp [encPair, Value.cells]
    rw [hc, Tryz.tsize, show 2 + (Tryz.prog.types.size - 2) + 1 = (Tryz.prog.types.size - 2) + 3 from by omega, lits_pair _ p hp]; rfl
  inj p q _ _ h := by
    simp only [encPair, Value.agg.injEq, Array.mk.injEq, List.cons.injEq, Value.string.injEq, and_true] at h; exact QbN (role_ext h.1 h.2.1) h.2.2
abbrev kPair := k55
def knownT (known : List Pair) : List (Pair × Value) := known.map fun p => (p, .bool true)
def SolverAt (w : World) (B : Nat) (ok : Nat → Prop) (g b : Nat) (vc : Value) (creds : List Cred) (known waits : List Pair) : Prop :=
  ∃ vw, w.heap[g]? = some (.cells #[vc, .map (some b), vw] 93 (0, 0)) ∧ (B ≤ g ∧ ok g) ∧ (B ≤ b ∧ ok b) ∧ Kd.R kCred 46 w B (fun _ => True) vc creds ∧ Tbl encPair okPair w b (knownT known) ∧ Kd.Q kPair 55 w B ok vw waits
theorem SolverAt.below {w w' : World} {B g b : Nat} {ok : Nat → Prop} {vc : Value} {creds : List Cred} {known waits : List Pair} (h : SolverAt w B ok g b vc creds known waits) (hb : Below w.heap.size w w') : SolverAt w' B ok g b vc creds known waits := by
  obtain ⟨vw, hg, hBg, hBb, hvc, hT, hQ⟩ := h; exact ⟨vw, (hb.block g (Qb9 hg)).trans hg, hBg, hBb, Kd.Qau hvc hb, hT.below hb, Kd.Q_below hQ hb⟩
def Kept (w w' : World) (ok : Nat → Prop) : Prop := ∀ k, k < w.heap.size → ¬ ok k → w'.heap[k]? = w.heap[k]?
theorem Kept.of_below {w w' : World} (h : Below w.heap.size w w') (ok : Nat → Prop) : Kept w w' ok := fun k hk _ => h.block k hk
theorem Kept.trans {w w1 w2 : World} {ok ok' : Nat → Prop} (h : Kept w w1 ok) (h' : Kept w1 w2 ok') (hs : w.heap.size ≤ w1.heap.size) (hok : ∀ k, k < w.heap.size → ok' k → ok k) : Kept w w2 ok :=
  fun k hk hn => (h' k (by omega) (fun e => hn (hok k hk e))).trans (h k hk hn)
theorem SolverAt.mono {w : World} {B g b : Nat} {ok ok' : Nat → Prop} {vc : Value} {creds : List Cred} {known waits : List Pair} (h : SolverAt w B ok g b vc creds known waits) (hk : ∀ k, ok k → ok' k) : SolverAt w B ok' g b vc creds known waits := by
  obtain ⟨vw, hg, hBg, hBb, hvc, hT, hQ⟩ := h; exact ⟨vw, hg, ⟨hBg.1, hk _ hBg.2⟩, ⟨hBb.1, hk _ hBb.2⟩, hvc, hT, Kd.Q_mono hQ hk⟩
theorem knownT_get (known : List Pair) (p : Pair) : tget (knownT known) p = if p ∈ known then some (.bool true) else none := by
  unfold tget knownT
  induction known with
  | nil => rfl
  | cons q known ih =>
    rw [List.map_cons, List.find?_cons]
    by_cases h : q = p
    · subst h
      simp
    · rw [decide_eq_false h]
      simp only [List.mem_cons]; rw [ih]
      have : (p = q ∨ p ∈ known) ↔ p ∈ known := ⟨fun h' => h'.resolve_left (fun e => h e.symm), .inr⟩
      simp only [this]
theorem blk_thaw {w : World} {g : Nat} {cs : Array Value} {t : TypeId} (h : w.heap[g]? = some (.cells cs t (0, 0))) (i : Nat) : w.frozen? ⟨g, i, none⟩ = false := by simp [World.frozen?, h]
theorem QaV {w : World} {a : Addr} {v : Value} (h : w.cell? a = some v) (o : Obj) : (w.alloc o).cell? a = some v := Qbh (Qak (Below.refl _ _) o) h
theorem heap_alloc_old {w : World} {i : Nat} (h : i < w.heap.size) (o : Obj) : (w.alloc o).heap[i]? = w.heap[i]? := (MapKept.heap_alloc w o).2 i h
theorem infoPair : (Tryz.prog.info? 55).map (fun i => (i.zero, i.size, i.bytes)) = some (some (.agg #[.string ⟨#[]⟩, .string ⟨#[]⟩, .string ⟨#[]⟩]), 3, 48) := by kernel_rfl
theorem zeroBool (w : World) : (zeroValue 4).run Tryz.prog w = .ok (.bool false) w := by kernel_rfl
set_option maxRecDepth 100000 in
set_option maxHeartbeats 2000000 in
theorem learn_old (w : World) (B g b : Nat) (ok : Nat → Prop) (vc : Value) (creds : List Cred) (known waits : List Pair) (p : Pair) (hp : okPair p) (hS : SolverAt w B ok g b vc creds known waits) (hin : p ∈ known) :
    Calls Tryz.prog 75 #[.pointer (some ⟨g, 0, none⟩), encPair p] w fun e w' => e = .returned (.tuple #[]) ∧ SolverAt w' B ok g b vc creds known waits ∧ Below w.heap.size w w' := by
  obtain ⟨vw, hg, hBg, hBb, hvc, hT, hQ⟩ := hS
  have hl := fun n => hT.look pairKey Tryz.underlying63 zeroBool hp false ((w.alloc (.cells #[.string p.f0.f0, .string p.f0.f1, .string p.f1] 55)).drewN n) (heap_alloc_old hT.lt _)
  rw [knownT_get, if_pos hin] at hl; simp only [Option.getD_some, Bool.false_eq_true, if_false, encPair] at hl; have hc1 := QaV (show w.cell? ⟨g, 1, none⟩ = some (.map (some b)) from (Qam hg 1).trans rfl) (.cells #[.string p.f0.f0, .string p.f0.f1, .string p.f1] 55); unfold encPair; go_enter Tryz.func75, Tryz.ntmps75; go_wp2
  go_quiet (fail)
  go_wp2; go_end0; have hb := Qaz (Qak (Below.refl w.heap.size w) (.cells #[.string p.f0.f0, .string p.f0.f1, .string p.f1] 55)) nq; exact ⟨rfl, SolverAt.below ⟨vw, hg, hBg, hBb, hvc, hT, hQ⟩ hb, hb⟩
theorem learn_mid (w : World) (B g b : Nat) (O : Obj) (vc vw : Value) (known : List Pair) (p : Pair) (nq : Nat) (Y : World) (hBb : B ≤ b) (hg : w.heap[g]? = some (.cells #[vc, .map (some b), vw] 93 (0, 0))) (hT : Tbl encPair okPair w b (knownT known))
    (hT' : ∀ W : World, b < W.heap.size → Tbl encPair okPair (setBlock W b O) b (tput (knownT known) p (.bool true))) (hY : Y = setBlock ((w.alloc (.cells #[.string p.f0.f0, .string p.f0.f1, .string p.f1] 55)).drewN (nq + 1)) b O) :
    (Y.heap[g]? = some (.cells #[vc, .map (some b), vw] 93 (0, 0)) ∧ Y.heap[w.heap.size]? = some (.cells #[.string p.f0.f0, .string p.f0.f1, .string p.f1] 55 (0, 0)) ∧ Tbl encPair okPair Y b (tput (knownT known) p (.bool true))) ∧ Y.heap.size = w.heap.size + 1 ∧ (∀ i, i < w.heap.size → i ≠ b → Y.heap[i]? = w.heap[i]?) ∧ Below B w Y := by
  have hlt := hT.lt; have hgl := Qb9 hg
  have hgb : g ≠ b := by
    rintro rfl; obtain ⟨es, clock, hb, _⟩ := hT; rw [hg] at hb; cases hb
  have hother : ∀ (W : World) (i : Nat), i ≠ b → (setBlock W b O).heap[i]? = W.heap[i]? := fun W i hi => by simp [setBlock, Ne.symm hi]
  have hsz : ((w.alloc (.cells #[.string p.f0.f0, .string p.f0.f1, .string p.f1] 55)).drewN (nq + 1)).heap.size = w.heap.size + 1 := by simp
  have hold : ∀ i, i < w.heap.size → i ≠ b → Y.heap[i]? = w.heap[i]? := fun i hi hne => by
    rw [hY, hother _ _ hne]; exact heap_alloc_old hi _
  refine ⟨⟨(hold g hgl hgb).trans hg, ?_, ?_⟩, ?_, hold, ?_⟩
  · rw [hY, hother _ _ (by omega)]
    exact heap_alloc_new w _
  · rw [hY]
    exact hT' _ (by rw [hsz]; omega)
  · rw [hY]
    show ((w.alloc _).heap.setIfInBounds b O).size = _
    simp
  · rw [hY]
    exact ⟨rfl, rfl, rfl, by show w.heap.size ≤ ((w.alloc _).heap.setIfInBounds b O).size; simp, fun i hi => by rw [hother _ _ (by omega)]; exact heap_alloc_old (by omega) _⟩
theorem knownT_put (known : List Pair) (p : Pair) (h : ¬ p ∈ known) : tput (knownT known) p (.bool true) = knownT (known ++ [p]) := by
  unfold tput; rw [if_neg]
  · unfold knownT
    simp
  · unfold knownT
    simp only [List.any_map, List.any_eq_true, not_exists, not_and]; intro q hq hqp; simp at hqp; exact h (hqp ▸ hq)
theorem learn_end (Y w1 : World) (B g b : Nat) (ok : Nat → Prop) (vc vw v1 : Value) (creds : List Cred) (known waits : List Pair) (p : Pair) (hin : ¬ p ∈ known) (hgY : Y.heap[g]? = some (.cells #[vc, .map (some b), vw] 93 (0, 0))) (TY : Tbl encPair okPair Y b (tput (knownT known) p (.bool true)))
    (RY : Kd.R kCred 46 Y B (fun _ => True) vc creds) (QY : Kd.Q kPair 55 Y B ok vw waits) (hBg : B ≤ g ∧ ok g) (hBb : B ≤ b ∧ ok b) (hq1 : Kd.Q kPair 55 w1 B ok v1 (waits ++ [p])) (hg1 : (Y.drew).grownBy w1 vw.ownBlock) :
    SolverAt (w1.setCell ⟨g, 2, none⟩ v1) B ok g b vc creds (known ++ [p]) (waits ++ [p]) := by
  have hg1' : Y.grownBy w1 vw.ownBlock := ⟨hg1.os, hg1.tape, hg1.output, hg1.size, hg1.block⟩
  have hgg := (hg1'.block g (Qb9 hgY) (Kd.Q_ne QY hgY (by decide))).trans hgY
  have hbg : b ≠ g := by
    rintro rfl; obtain ⟨es, clock, hb, _⟩ := TY; rw [hgY] at hb; cases hb
  have hbv : some b ≠ vw.ownBlock := by
    intro e; obtain ⟨cells, hc⟩ := Kd.Q_typed QY b e.symm; obtain ⟨es, clock, hb, _⟩ := TY; rw [hc] at hb; cases hb
  refine ⟨v1, by simpa using blk_set hgg 2 v1, hBg, hBb, ?_, ?_, Kd.Q_set hq1 hgg (by decide) 2 v1⟩
  · refine Kd.R_set (Kd.R_over' RY (fun k hk => Kd.Q_typed QY k hk) (by decide) hg1') hgg (by decide) 2 v1
  · rw [knownT_put known p hin] at TY
    exact (TY.grown hg1' hbv).set hbg v1
set_option maxRecDepth 100000 in
set_option maxHeartbeats 2000000 in
theorem learn_new (w : World) (B g b : Nat) (ok : Nat → Prop) (vc : Value) (creds : List Cred) (known waits : List Pair) (p : Pair) (hp : okPair p) (hS : SolverAt w B ok g b vc creds known waits) (hin : ¬ p ∈ known) (hroom : known.length < 1000000) (hroom2 : waits.length < 1000000) :
    Calls Tryz.prog 75 #[.pointer (some ⟨g, 0, none⟩), encPair p] w fun e w' => e = .returned (.tuple #[]) ∧ SolverAt w' B (fun k => ok k ∨ w.heap.size ≤ k) g b vc creds (known ++ [p]) (waits ++ [p]) ∧ Below B w w' ∧ Kept w w' ok := by
  obtain ⟨vw, hg, hBg, hBb, hvc, hT, hQ⟩ := hS
  have hl := fun n => hT.look pairKey Tryz.underlying63 zeroBool hp false ((w.alloc (.cells #[.string p.f0.f0, .string p.f0.f1, .string p.f1] 55)).drewN n) (heap_alloc_old hT.lt _)
  rw [knownT_get, if_neg hin] at hl; simp only [Option.getD_none, Bool.false_eq_true, if_false, encPair] at hl
  have hT0 : B ≤ w.heap.size := by have := hT.lt; omega
  obtain ⟨O, hu, hT'⟩ := hT.store pairKey Tryz.underlying63 hp (.bool true) (by unfold knownT maxLen; rw [List.length_map]; omega)
  have hu1 := fun n => hu ((w.alloc (.cells #[.string p.f0.f0, .string p.f0.f1, .string p.f1] 55)).drewN n) (heap_alloc_old hT.lt _)
  simp only [encPair] at hu1; have hc1 := QaV (show w.cell? ⟨g, 1, none⟩ = some (.map (some b)) from (Qam hg 1).trans rfl) (.cells #[.string p.f0.f0, .string p.f0.f1, .string p.f1] 55); unfold encPair; clear hu; go_enter Tryz.func75, Tryz.ntmps75; go_wp2
  go_quiet (fail)
  go_wp2
  go_region
  all_goals
    obtain ⟨Y, hY⟩ : ∃ Y, Y = setBlock ((w.alloc (.cells #[.string p.f0.f0, .string p.f0.f1, .string p.f1] 55)).drewN (nq + 1)) b O := ⟨_, rfl⟩
    rw [← hY]; have HY := Lib.hid hY; clear hY hu1 hl hc1; obtain ⟨⟨hgY, boxY, TY⟩, sizeY, oldY, belowY⟩ := learn_mid w B g b O vc vw known p nq Y hBb.1 hg hT hT' HY.out
    have QYo : Kd.Q kPair 55 Y B ok vw waits := Kd.Q_mono (Kd.Q_move (Kd.Q_bound hQ) (fun k hk => oldY k hk.2.2.1 (fun e => by
      obtain ⟨_, _, _, q, _, cells, hc⟩ := hk; obtain ⟨es, clock, hb, _⟩ := hT; rw [e, hb] at hc
      cases hc))) (fun _ hk => hk.1)
    have QY : Kd.Q kPair 55 Y B (fun k => ok k ∨ w.heap.size ≤ k) vw waits := Kd.Q_mono QYo (fun _ h => .inl h)
    have RY : Kd.R kCred 46 Y B (fun _ => True) vc creds := Kd.QaL (Kd.R_move (Kd.QbT hvc) (fun k hk => oldY k hk.2.2.1 (fun e => by
      obtain ⟨_, _, _, q, _, cells, hc⟩ := hk; obtain ⟨es, clock, hb, _⟩ := hT; rw [e, hb] at hc
      cases hc))) (fun _ hk => hk.1)
    have c2 : Y.cell? ⟨g, 2, none⟩ = some vw := (Qam hgY 2).trans rfl; have c2a := QaV c2 (.cells #[.string p.f0.f0, .string p.f0.f1, .string p.f1] 55); have b0 : Y.cell? ⟨w.heap.size, 0, none⟩ = some (.string p.f0.f0) := (Qam boxY 0).trans rfl; have b1 : Y.cell? ⟨w.heap.size, 1, none⟩ = some (.string p.f0.f1) := (Qam boxY 1).trans rfl; have b2 : Y.cell? ⟨w.heap.size, 2, none⟩ = some (.string p.f1) := (Qam boxY 2).trans rfl; have SZ := Lib.hid sizeY; clear sizeY hT hT' HY; go_wp2
    go_region_law ((refine Kd.Q_append_step kPair (w0 := w) (W := Y.drew) B (by rfl) (.tmp 20) (.tmp 22) 56 55 _ 48 (by rfl) Tryz.underlying56 infoPair rfl (by decide) (by decide) vw waits p [.string p.f0.f0, .string p.f0.f1, .string p.f1] (fun k => ok k ∨ w.heap.size ≤ k) (fun _ => False) (by rfl) (by rfl) (k55_mkM _ _ _ p) (fun _ h => h.elim) (fun k hk => .inr (by have := SZ.out; have hk' : Y.heap.size ≤ k := hk; omega)) (Kd.Q_drew QY) (below_drew belowY) (by have := SZ.out; have := hT0; simp; omega) (by omega) ?_; intro v1 w1 hq1 hb1 hg1 hat; obtain ⟨A1, c1, rfl, hl1⟩ := Kd.Q_slice hq1; have hg2 := (hg1.block g (Qb9 hgY) (Kd.Q_ne QY hgY (by decide))).trans hgY; have c2' : w1.cell? ⟨g, 2, none⟩ = some vw := (Qam hg2 2).trans rfl; have f2' : w1.frozen? ⟨g, 2, none⟩ = false := blk_thaw hg2 2))
    all_goals
      go_wp2; go_end0; refine ⟨rfl, learn_end Y w1 B g b (fun k => ok k ∨ w.heap.size ≤ k) vc vw _ creds known waits p hin hgY TY RY QY ⟨hBg.1, .inl hBg.2⟩ ⟨hBb.1, .inl hBb.2⟩ (by simpa using hq1) hg1, hb1.setCell hBg.1 _, fun k hk hn => ?_⟩; have e1 : (w1.setCell ⟨g, 2, none⟩ (.slice A1 (waits.length + 1) c1)).heap[k]? = w1.heap[k]? := Below.heap_setCell w1 ⟨g, 2, none⟩ _ k (fun e => hn (e ▸ hBg.2)); have e2 : w1.heap[k]? = Y.heap[k]? := hg1.block k (by have := SZ.out; show k < Y.heap.size; omega) (fun e => hn (QYo.1 k e.symm)); have e3 := oldY k hk (fun e => hn (e ▸ hBb.2)); have e4 := (e1.trans e2).trans e3
      simpa using e4
structure St where
  known : List Pair
  waits : List Pair
instance okPairDec (p : Pair) : Decidable (okPair p) := by unfold okPair; infer_instance
def St.learn (s : St) (p : Pair) : Option St := if p ∈ s.known then some s else if s.known.length < 1000000 ∧ s.waits.length < 1000000 ∧ okPair p then some ⟨s.known ++ [p], s.waits ++ [p]⟩ else none
theorem SolverAt.oks {w : World} {B g b : Nat} {ok : Nat → Prop} {vc : Value} {creds : List Cred} {known waits : List Pair} (h : SolverAt w B ok g b vc creds known waits) : ∀ p ∈ known, okPair p := by
  obtain ⟨vw, hg, hBg, hBb, hvc, hT, hQ⟩ := h; intro p hp; exact hT.oks (p, .bool true) (List.mem_map.mpr ⟨p, hp, rfl⟩)
theorem SolverAt.base {w : World} {B g b : Nat} {ok : Nat → Prop} {vc : Value} {creds : List Cred} {known waits : List Pair} (h : SolverAt w B ok g b vc creds known waits) : B ≤ w.heap.size := by
  obtain ⟨vw, hg, hBg, hBb, hvc, hT, hQ⟩ := h; have := Qb9 hg; omega
theorem learn_calls (w : World) (B g b : Nat) (ok : Nat → Prop) (vc : Value) (creds : List Cred) (s s' : St) (p : Pair) (hS : SolverAt w B ok g b vc creds s.known s.waits) (h : s.learn p = some s') :
    Calls Tryz.prog 75 #[.pointer (some ⟨g, 0, none⟩), encPair p] w fun e w' => e = .returned (.tuple #[]) ∧ SolverAt w' B (fun k => ok k ∨ w.heap.size ≤ k) g b vc creds s'.known s'.waits ∧ Below B w w' ∧ Kept w w' ok := by
  unfold St.learn at h
  by_cases hin : p ∈ s.known
  · rw [if_pos hin] at h
    obtain rfl := Option.some.inj h; refine (learn_old w B g b ok vc creds s.known s.waits p (hS.oks p hin) hS hin).mono ?_; rintro e w' ⟨h1, h2, h3⟩; exact ⟨h1, h2.mono (fun _ h => .inl h), h3.mono hS.base, Kept.of_below h3 ok⟩
  · rw [if_neg hin] at h
    by_cases hr : s.known.length < 1000000 ∧ s.waits.length < 1000000 ∧ okPair p
    · rw [if_pos hr] at h
      obtain rfl := Option.some.inj h; exact learn_new w B g b ok vc creds s.known s.waits p hr.2.2 hS hin hr.1 hr.2.1
    · rw [if_neg hr] at h
      cases h
end
section
attribute [local go_sem] QaQ QaO QaZ QaY QaJ QaI QaP QaN
attribute [local go_sem high] eqA24
abbrev pairObj (p : Pair) : Obj := .cells #[.string p.f0.f0, .string p.f0.f1, .string p.f1] 55
theorem boxed {w W : World} {c : Cred} {p : Pair} (h : (w.alloc (credObj c)).alloc (pairObj p) = W) : Below w.heap.size w W ∧ W.heap[w.heap.size]? = some (credObj c) ∧ W.heap[w.heap.size + 1]? = some (pairObj p) := by
  subst h; refine ⟨Qak (Qak (Below.refl w.heap.size w) _) _, Qag (Qbf w _) _, ?_⟩; have := Qbf (w.alloc (credObj c)) (pairObj p)
  simpa using this
theorem pairCells {W : World} {k : Nat} {p : Pair} (h : W.heap[k]? = some (pairObj p)) : W.cell? ⟨k, 0, none⟩ = some (.string p.f0.f0) ∧ W.cell? ⟨k, 1, none⟩ = some (.string p.f0.f1) ∧ W.cell? ⟨k, 2, none⟩ = some (.string p.f1) :=
  ⟨(Qam h 0).trans rfl, (Qam h 1).trans rfl, (Qam h 2).trans rfl⟩
def includeF (c : Cred) (p : Pair) (s : St) : Option St := if p.f0 = c.f4 then s.learn ⟨credRole c, p.f1⟩ else some s
set_option maxRecDepth 100000 in
set_option maxHeartbeats 2000000 in
theorem include_calls (w : World) (B g b : Nat) (ok : Nat → Prop) (vc : Value) (creds : List Cred) (s s' : St) (c : Cred) (p : Pair) (hS : SolverAt w B ok g b vc creds s.known s.waits) (h : includeF c p s = some s') :
    Calls Tryz.prog 76 #[.pointer (some ⟨g, 0, none⟩), encCred c, encPair p] w fun e w' => e = .returned (.tuple #[]) ∧ SolverAt w' B (fun k => ok k ∨ w.heap.size ≤ k) g b vc creds s'.known s'.waits ∧ Below B w w' ∧ Kept w w' ok := by
  unfold includeF at h
  by_cases he : p.f0 = c.f4
  · rw [if_pos he] at h
    have hb := eqRole_t he; clear he; unfold encPair encCred; go_enter Tryz.func76, Tryz.ntmps76; go_wp2; change Code.wp _ _ _ _ ((w.alloc (credObj c)).alloc (pairObj p))
    generalize hW : (w.alloc (credObj c)).alloc (pairObj p) = W
    obtain ⟨HB, BC, BP⟩ := boxed hW; obtain ⟨c0, c1, c2, c3, c4, c5, c6, c7, c8⟩ := credCells BC; obtain ⟨p0, p1, p2⟩ := pairCells BP; clear hW
    go_region_with (first | (go_at_call 53; refine (Qcb c _).mono ?_; rintro e w3 ⟨rfl, hB3⟩; have HB3 : Below w.heap.size w w3 := Qad (by repeat (first | exact HB | apply Qaz | apply Qan)) hB3; have p23 := Qbh hB3 p2) | (go_at_call 75; refine (learn_calls _ B g b ok vc creds s s' ⟨credRole c, p.f1⟩ ?_ h).mono ?_; exact hS.below HB3; rintro e w5 ⟨rfl, hS5, hB5, hK5⟩))
    all_goals
      go_wp2; go_end0; exact ⟨rfl, hS5.mono (fun k h => h.imp_right (fun h => Nat.le_trans HB3.size h)), (HB3.mono hS.base).trans hB5, (Kept.of_below HB3 ok).trans hK5 HB3.size (fun _ _ h => h)⟩
  · rw [if_neg he] at h
    obtain rfl := Option.some.inj h; have hb := eqRole_f he; clear he; unfold encPair encCred; go_enter Tryz.func76, Tryz.ntmps76; go_wp2; go_end0; have hb := Qak (Qak (Below.refl w.heap.size w) (credObj c)) (pairObj p); exact ⟨rfl, (hS.below hb).mono (fun _ h => .inl h), hb.mono hS.base, Kept.of_below hb ok⟩

def roleLess (a b : Role) : Bool := if a = b then false else Op.bytesLess a.f0.toList b.f0.toList || (a.f0.toList == b.f0.toList && Op.bytesLess a.f1.toList b.f1.toList)
def encRole (a : Role) : Value := .agg #[.string a.f0, .string a.f1]
set_option maxHeartbeats 1000000 in
theorem less_calls (a b : Role) (W : World) : Calls Tryz.prog 81 #[encRole a, encRole b] W fun e w' => e = .returned (.bool (roleLess a b)) ∧ ∃ q os', w' = Sort.grow (W.drewN q) os' := by
  unfold roleLess encRole
  by_cases h : a = b
  · rw [if_pos h]
    have hb := eqRole_t h; clear h; go_enter Tryz.func81, Tryz.ntmps81; go_wp2; go_ret; exact ⟨rfl, 0, _, by rw [Sort.alloc_eq_grow, Sort.alloc_eq_grow, Sort.grow_grow]; rfl⟩
  · rw [if_neg h]
    have hb := eqRole_f h; clear h
    generalize h1 : Op.bytesLess a.f0.toList b.f0.toList = b1
    generalize h2 : (a.f0.toList == b.f0.toList) = b2 at hb
    generalize h3 : Op.bytesLess a.f1.toList b.f1.toList = b3
    cases b1 <;> cases b2 <;> cases b3 <;> (
      go_enter Tryz.func81, Tryz.ntmps81; go_wp2; go_ret
      exact ⟨rfl, 0, _, by rw [Sort.alloc_eq_grow, Sort.alloc_eq_grow, Sort.grow_grow]; rfl⟩)
end
theorem eqP_pair (d : Nat) (w : World) (x0 y0 : ByteArray) (x1 y1 : ByteArray) (x2 y2 : ByteArray) :
    (Op.equalIn (d + 3) 55 (.agg #[.string x0, .string x1, .string x2]) (.agg #[.string y0, .string y1, .string y2])).run Tryz.prog w = .ok ((x0.toList == y0.toList && (x1.toList == y1.toList)) && (x2.toList == y2.toList)) w := by
  refine eqA_of Tryz.underlying55 (by kernel_rfl) ?_; refine eqf_cons (by rfl) (by go_simp) (by go_simp) (eqA24 (d + 0) w _ _ _ _) ?_; exact eqf_last (by rfl) (by go_simp; rfl) (by go_simp; rfl) (by go_simp)
section
attribute [local go_sem] QaQ QaO QaZ QaY QaJ QaI QaP QaN
attribute [local go_sem high] eqA24
attribute [local go_sem high] eqP_pair
def pairLess (a b : Pair) : Bool := roleLess a.f0 b.f0 || (decide (a.f0 = b.f0) && Op.bytesLess a.f1.toList b.f1.toList)
def pairCmp (x y : Pair) : Int := if x = y then 0 else if pairLess x y = true then -1 else 1
theorem eqPair_t {a b : Pair} (h : a = b) : ((a.f0.f0.toList == b.f0.f0.toList && (a.f0.f1.toList == b.f0.f1.toList)) && (a.f1.toList == b.f1.toList)) = true := by subst h; simp
theorem eqPair_f {a b : Pair} (h : ¬ a = b) : ((a.f0.f0.toList == b.f0.f0.toList && (a.f0.f1.toList == b.f0.f1.toList)) && (a.f1.toList == b.f1.toList)) = false := by
  rw [Bool.eq_false_iff]; intro e; rw [Bool.and_eq_true] at e; refine h (QbN ?_ ((Lib.bytes_beq_iff _ _).mp e.2))
  apply Decidable.byContradiction
  intro hr; rw [eqRole_f hr] at e; exact absurd e.1 (by decide)
theorem boxed_grow {W w3 : World} {x y : Pair} {q : Nat} {os : Array Obj} (h : w3 = Sort.grow (((W.alloc (pairObj x)).alloc (pairObj y)).drewN q) os) : w3.heap[W.heap.size]? = some (pairObj x) ∧ w3.heap[W.heap.size + 1]? = some (pairObj y) ∧ ∃ q os', w3 = Sort.grow (W.drewN q) os' := by
  have hs : ((W.alloc (pairObj x)).alloc (pairObj y)).heap.size = W.heap.size + 2 := by simp
  have hb : ∀ k, k < W.heap.size + 2 → w3.heap[k]? = ((W.alloc (pairObj x)).alloc (pairObj y)).heap[k]? := fun k hk => by
    rw [h]
    show (((W.alloc (pairObj x)).alloc (pairObj y)).heap ++ os)[k]? = _
    rw [Array.getElem?_append_left (by rw [hs]; exact hk)]
  refine ⟨(hb _ (by omega)).trans (Qag (Qbf W _) _), (hb _ (by omega)).trans ?_, q, #[pairObj x] ++ #[pairObj y] ++ os, ?_⟩
  · have := Qbf (W.alloc (pairObj x)) (pairObj y)
    simpa using this
  · rw [h, Sort.alloc_eq_grow, Sort.alloc_eq_grow, Sort.grow_grow]
    exact Sort.grow_grow (W.drewN q) _ os
set_option maxHeartbeats 2000000 in
theorem pairs1_calls (x y : Pair) (W : World) : Calls Tryz.prog 80 #[encPair x, encPair y] W fun e w' => e = .returned (.int .i64 (pairCmp x y)) ∧ ∃ q os', w' = Sort.grow (W.drewN q) os' := by
  unfold pairCmp pairLess encPair
  by_cases h : x = y
  · rw [if_pos h]
    have hb := eqPair_t h; clear h; go_enter Tryz.func80, Tryz.ntmps80; go_wp2; go_ret; exact ⟨rfl, 0, _, by rw [Sort.alloc_eq_grow, Sort.alloc_eq_grow, Sort.grow_grow]; rfl⟩
  · rw [if_neg h]
    have hb := eqPair_f h; clear h
    have HL := fun W' => less_calls x.f0 y.f0 W'
    obtain ⟨b2, h2, hr⟩ : ∃ b2 : Bool, (x.f0.f0.toList == y.f0.f0.toList && (x.f0.f1.toList == y.f0.f1.toList)) = b2 ∧ decide (x.f0 = y.f0) = b2 := by
      by_cases hr : x.f0 = y.f0
      · exact ⟨true, eqRole_t hr, decide_eq_true hr⟩
      · exact ⟨false, eqRole_f hr, decide_eq_false hr⟩
    rw [hr]; clear hr; unfold encRole at HL
    generalize roleLess x.f0 y.f0 = b1 at HL ⊢
    generalize h3 : Op.bytesLess x.f1.toList y.f1.toList = b3
    rw [h2] at hb
    cases b1 <;> cases b2 <;> cases b3 <;> simp only [Bool.true_and, Bool.false_and] at hb <;> (
      go_enter Tryz.func80, Tryz.ntmps80
      go_upto_region 1 with fail
      change Code.wp _ _ _ _ ((W.alloc (pairObj x)).alloc (pairObj y))
      go_wp2_with (go_at_call 81; refine (HL _).mono ?_; rintro e w3 ⟨rfl, q, os, hw3⟩; obtain ⟨BX, BY, hos⟩ := boxed_grow hw3; clear hw3; obtain ⟨x0, x1, x2⟩ := pairCells BX; obtain ⟨y0, y1, y2⟩ := pairCells BY; clear BX BY)
      go_ret
      exact ⟨rfl, hos⟩)
end
section
attribute [local go_sem] QaQ QaO QaZ QaY QaJ QaI QaP QaN
attribute [local go_sem high] eqA24
theorem look_known {w W : World} {B g b : Nat} {ok : Nat → Prop} {vc : Value} {creds : List Cred} {known waits : List Pair} (hS : SolverAt w B ok g b vc creds known waits) (hB : Below w.heap.size w W) (r : Role) (u : ByteArray) (hq : okPair ⟨r, u⟩) (n : Nat) :
    (Instr.lookup 63 (.map (some b)) (.agg #[.string r.f0, .string r.f1, .string u]) false).run Tryz.prog (W.drewN n) = .ok (.bool (decide ((⟨r, u⟩ : Pair) ∈ known))) (W.drewN n) := by
  obtain ⟨vw, hg, hBg, hBb, hvc, hT, hQ⟩ := hS; have hl := hT.look pairKey Tryz.underlying63 zeroBool hq false (W.drewN n) (hB.block b hT.lt); rw [knownT_get] at hl; refine hl.trans ?_
  by_cases hin : (⟨r, u⟩ : Pair) ∈ known
  · simp [hin]
  · simp [hin]
theorem SolverAt.cells {w : World} {B g b : Nat} {ok : Nat → Prop} {vc : Value} {creds : List Cred} {known waits : List Pair} (hS : SolverAt w B ok g b vc creds known waits) : w.cell? ⟨g, 0, none⟩ = some vc ∧ w.cell? ⟨g, 1, none⟩ = some (.map (some b)) := by
  obtain ⟨vw, hg, hBg, hBb, hvc, hT, hQ⟩ := hS; exact ⟨(Qam hg 0).trans rfl, (Qam hg 1).trans rfl⟩
def bothSecond (c : Cred) (p : Pair) (s : St) : Option St := if p.f0 = c.f5 then (if okPair ⟨c.f4, p.f1⟩ then (if (⟨c.f4, p.f1⟩ : Pair) ∈ s.known then s.learn ⟨credRole c, p.f1⟩ else some s) else none) else some s
def bothF (c : Cred) (p : Pair) (s : St) : Option St := if p.f0 = c.f4 then (if okPair ⟨c.f5, p.f1⟩ then (if (⟨c.f5, p.f1⟩ : Pair) ∈ s.known then s.learn ⟨credRole c, p.f1⟩ else bothSecond c p s) else none) else bothSecond c p s
set_option maxRecDepth 100000 in
set_option maxHeartbeats 2000000 in
theorem both_calls (w : World) (B g b : Nat) (ok : Nat → Prop) (vc : Value) (creds : List Cred) (s s' : St) (c : Cred) (p : Pair) (hS : SolverAt w B ok g b vc creds s.known s.waits) (h : bothF c p s = some s') :
    Calls Tryz.prog 78 #[.pointer (some ⟨g, 0, none⟩), encCred c, encPair p] w fun e w' => e = .returned (.tuple #[]) ∧ SolverAt w' B (fun k => ok k ∨ w.heap.size ≤ k) g b vc creds s'.known s'.waits ∧ Below B w w' ∧ Kept w w' ok := by
  unfold encPair encCred; go_enter Tryz.func78, Tryz.ntmps78
  go_upto_region 1 with fail
  change Code.wp _ _ _ _ ((w.alloc (credObj c)).alloc (pairObj p))
  generalize hW : (w.alloc (credObj c)).alloc (pairObj p) = W
  obtain ⟨HB, BC, BP⟩ := boxed hW; obtain ⟨c0, c1, c2, c3, c4, c5, c6, c7, c8⟩ := credCells BC; obtain ⟨p0, p1, p2⟩ := pairCells BP; have s1 := (hS.below HB).cells.2; have L := look_known hS HB; clear hW
  go_cut [41] from 6 to 48 (fun v wc => ∃ t : Bool, v = .bool t ∧ (∃ n, wc = W.drewN n) ∧ (if t then s.learn ⟨credRole c, p.f1⟩ else some s) = some s')
  case first =>
    unfold bothF bothSecond at h
    by_cases e1 : p.f0 = c.f4
    · rw [if_pos e1] at h
      have hb1 := eqRole_t e1; clear e1
      by_cases k1 : okPair ⟨c.f5, p.f1⟩
      · rw [if_pos k1] at h
        have l1 := fun n => L c.f5 p.f1 k1 n
        by_cases i1 : (⟨c.f5, p.f1⟩ : Pair) ∈ s.known
        · rw [if_pos i1] at h
          simp only [decide_eq_true i1] at l1
          go_quiet (fail)
          all_goals
            go_wp2_with fail
            go_meet
            case rel => exact ⟨true, rfl, ⟨_, rfl⟩, h⟩
        · rw [if_neg i1] at h
          simp only [decide_eq_false i1] at l1
          by_cases e2 : p.f0 = c.f5
          · rw [if_pos e2] at h
            have hb2 := eqRole_t e2; clear e2
            by_cases k2 : okPair ⟨c.f4, p.f1⟩
            · rw [if_pos k2] at h
              have l2 := fun n => L c.f4 p.f1 k2 n
              clear L k1 k2
              by_cases i2 : (⟨c.f4, p.f1⟩ : Pair) ∈ s.known
              · rw [if_pos i2] at h
                simp only [decide_eq_true i2] at l2
                go_quiet (fail)
                all_goals
                  go_wp2_with fail
                  go_meet
                  case rel => exact ⟨true, rfl, ⟨_, rfl⟩, h⟩
              · rw [if_neg i2] at h
                simp only [decide_eq_false i2] at l2
                go_quiet (fail)
                all_goals
                  go_wp2_with fail
                  go_meet
                  case rel => exact ⟨false, rfl, ⟨_, rfl⟩, h⟩
            · rw [if_neg k2] at h
              cases h
          · rw [if_neg e2] at h
            have hb2 := eqRole_f e2; clear e2
            go_quiet (fail)
            all_goals
              go_wp2_with fail
              go_meet
              case rel => exact ⟨false, rfl, ⟨_, rfl⟩, h⟩
      · rw [if_neg k1] at h
        cases h
    · rw [if_neg e1] at h
      have hb1 := eqRole_f e1; clear e1
      by_cases e2 : p.f0 = c.f5
      · rw [if_pos e2] at h
        have hb2 := eqRole_t e2; clear e2
        by_cases k2 : okPair ⟨c.f4, p.f1⟩
        · rw [if_pos k2] at h
          have l2 := fun n => L c.f4 p.f1 k2 n
          clear L k2
          by_cases i2 : (⟨c.f4, p.f1⟩ : Pair) ∈ s.known
          · rw [if_pos i2] at h
            simp only [decide_eq_true i2] at l2
            go_quiet (fail)
            all_goals
              go_wp2_with fail
              go_meet
              case rel => exact ⟨true, rfl, ⟨_, rfl⟩, h⟩
          · rw [if_neg i2] at h
            simp only [decide_eq_false i2] at l2
            go_quiet (fail)
            all_goals
              go_wp2_with fail
              go_meet
              case rel => exact ⟨false, rfl, ⟨_, rfl⟩, h⟩
        · rw [if_neg k2] at h
          cases h
      · rw [if_neg e2] at h
        have hb2 := eqRole_f e2; clear e2
        go_quiet (fail)
        all_goals
          go_wp2_with fail
          go_meet
          case rel => exact ⟨false, rfl, ⟨_, rfl⟩, h⟩
  case rest =>
    obtain ⟨t, rfl, ⟨n, rfl⟩, hh⟩ := hcut; clear L h s1; have HBn := Qaz HB n; have BCn := Qai BC n; have BPn := Qai BP n
    generalize W.drewN n = V at HBn BCn BPn ⊢
    clear c0 c1 c2 c3 c4 c5 c6 c7 c8 p0 p1 p2 BC BP HB; obtain ⟨c0, c1, c2, c3, c4, c5, c6, c7, c8⟩ := credCells BCn; obtain ⟨p0, p1, p2⟩ := pairCells BPn
    cases t with
    | true =>
      go_wp2
      go_region_with (first | (go_at_call 53; refine (Qcb c _).mono ?_; rintro e w3 ⟨rfl, hB3⟩; have HB3 : Below w.heap.size w w3 := Qad (by repeat (first | exact HBn | apply Qaz | apply Qan)) hB3; have p23 := Qbh hB3 p2) | (go_at_call 75; refine (learn_calls _ B g b ok vc creds s s' ⟨credRole c, p.f1⟩ ?_ hh).mono ?_; exact hS.below HB3; rintro e w5 ⟨rfl, hS5, hB5, hK5⟩))
      all_goals
        go_wp2; go_end0; exact ⟨rfl, hS5.mono (fun k h => h.imp_right (fun h => Nat.le_trans HB3.size h)), (HB3.mono hS.base).trans hB5, (Kept.of_below HB3 ok).trans hK5 HB3.size (fun _ _ h => h)⟩
    | false =>
      obtain rfl := Option.some.inj hh; go_wp2; go_end0; exact ⟨rfl, (hS.below HBn).mono (fun _ h => .inl h), HBn.mono hS.base, Kept.of_below HBn ok⟩
end
section
attribute [local go_sem] QaQ QaO QaZ QaY QaJ QaI QaP QaN
theorem roleLess_iff (a b : Role) : roleLess a b = true ↔ sLess a.f0 b.f0 = true ∨ (a.f0 = b.f0 ∧ sLess a.f1 b.f1 = true) := by
  unfold roleLess
  by_cases h : a = b
  · subst h
    rw [if_pos rfl, Qco, Qco]; simp
  · rw [if_neg h]
    show (sLess _ _ || (_ && sLess _ _)) = true ↔ _
    rw [Bool.or_eq_true, Bool.and_eq_true, Lib.bytes_beq_iff]
theorem Qcp (a b : Pair) : pairLess a b = true ↔ roleLess a.f0 b.f0 = true ∨ (a.f0 = b.f0 ∧ sLess a.f1 b.f1 = true) := by
  unfold pairLess
  show (roleLess _ _ || (_ && sLess _ _)) = true ↔ _
  rw [Bool.or_eq_true, Bool.and_eq_true, decide_eq_true_eq]
theorem roleLess_irrefl (a : Role) : ¬ roleLess a a = true := by unfold roleLess; simp
theorem roleLess_trans {a b c : Role} (h1 : roleLess a b = true) (h2 : roleLess b c = true) : roleLess a c = true := by
  rw [roleLess_iff] at *
  rcases h1 with h1 | ⟨e1, h1⟩
  · rcases h2 with h2 | ⟨e2, h2⟩
    · exact .inl (sLess_trans h1 h2)
    · exact .inl (e2 ▸ h1)
  · rcases h2 with h2 | ⟨e2, h2⟩
    · exact .inl (e1 ▸ h2)
    · exact .inr ⟨e1.trans e2, sLess_trans h1 h2⟩
theorem roleLess_total {a b : Role} (h1 : ¬ roleLess a b = true) (h2 : ¬ roleLess b a = true) : a = b := by
  rw [roleLess_iff, not_or, not_and, Bool.not_eq_true, Bool.not_eq_true] at *; have e := sLess_total h1.1 h2.1; exact role_ext e (sLess_total (h1.2 e) (h2.2 e.symm))
theorem QbV (a : Pair) : ¬ pairLess a a = true := by
  rw [Qcp, Qco]; simp [roleLess_irrefl]
theorem Qcj {a b c : Pair} (h1 : pairLess a b = true) (h2 : pairLess b c = true) : pairLess a c = true := by
  rw [Qcp] at *
  rcases h1 with h1 | ⟨e1, h1⟩
  · rcases h2 with h2 | ⟨e2, h2⟩
    · exact .inl (roleLess_trans h1 h2)
    · exact .inl (e2 ▸ h1)
  · rcases h2 with h2 | ⟨e2, h2⟩
    · exact .inl (e1 ▸ h2)
    · exact .inr ⟨e1.trans e2, sLess_trans h1 h2⟩
theorem Qck {a b : Pair} (h1 : ¬ pairLess a b = true) (h2 : ¬ pairLess b a = true) : a = b := by
  rw [Qcp, not_or, not_and, Bool.not_eq_true] at *; have e := roleLess_total (by simpa using h1.1) (by simpa using h2.1); exact QbN e (sLess_total (by simpa using h1.2 e) (by simpa using h2.2 e.symm))
theorem Qca (x y : Pair) : Go.Proofs.ltOf pairCmp x y = pairLess x y := by
  unfold Go.Proofs.ltOf pairCmp
  by_cases h : x = y
  · subst h
    rw [if_pos rfl]; have := QbV x
    simp_all
  · rw [if_neg h]
    by_cases h2 : pairLess x y = true
    · rw [if_pos h2, h2]
      rfl
    · rw [if_neg h2]
      simp_all
theorem pairSWO : Go.Sort.SWO (Go.Proofs.ltOf pairCmp) where
  irrefl x := by rw [Qca]; have := QbV x; simp_all
  trans x y z h1 h2 := by rw [Qca] at *; exact Qcj h1 h2
  ntrans x y z h1 h2 := by
    rw [Qca] at *; rw [Bool.eq_false_iff] at *; intro h3
    by_cases h4 : pairLess y x = true
    · exact h2 (Qcj h4 h3)
    · rw [Qck h1 h4] at h3
      exact h2 h3
def sortPairs (l : List Pair) : List Pair := l.mergeSort fun x y => !(Go.Proofs.ltOf pairCmp) y x
def encPairL (p : Pair) : List Value := [.string p.f0.f0, .string p.f0.f1, .string p.f1]
instance : Inhabited Pair := ⟨⟨⟨⟨#[]⟩, ⟨#[]⟩⟩, ⟨#[]⟩⟩⟩
theorem flatPair : Flat kPair encPairL where
  opens h := k55_openM h
  shuts w base ok x := k55_mkM w base ok x
  len _ := rfl
theorem isAggPair (w : World) : (isAgg 55).run Tryz.prog w = .ok true w := by kernel_rfl
theorem sizeOfPair (w : World) : (Go.sizeOf 55).run Tryz.prog w = .ok 3 w := by kernel_rfl
theorem sort_calls (w : World) (B : Nat) (v : Value) (l : List Pair) (hR : Kd.R kPair 55 w B (fun _ => True) v l) (hB : B ≤ w.heap.size) (hl : l.length < 4611686018427387904) : Calls Tryz.prog 79 #[v, .func (.func 80) #[] #[]] w fun e w' =>
    e = .returned (.tuple #[]) ∧ Kd.R kPair 55 w' B (fun _ => True) v (sortPairs l) ∧ Below B w w' := by
  obtain ⟨A, c, rfl⟩ := Kd.Qa2 hR
  cases A with
  | none =>
    have hl : l = [] := by
      obtain ⟨_, inner, ⟨_, ho⟩, hr⟩ := hR
      rcases ho with ⟨_, h0⟩ | ⟨g', cap', cur, hv, _⟩
      · exact List.eq_nil_of_length_eq_zero h0
      · cases hv
    subst hl; refine (AnyF.slices_SortFunc_none Tryz.sortPair none c (.func (.func 80) #[] #[]) w).mono ?_; rintro e w' ⟨rfl, rfl⟩; exact ⟨rfl, by simpa [sortPairs] using hR, Below.refl _ _⟩
  | some a =>
    obtain ⟨g, off, fr⟩ := a
    have hfr : fr = none := by
      obtain ⟨_, inner, ⟨_, ho⟩, hr⟩ := hR
      rcases ho with ⟨h0, _⟩ | ⟨g', cap', cur, hv, _⟩
      · cases h0
      · simp only [Value.slice.injEq, Option.some.injEq, Addr.mk.injEq] at hv
        exact hv.1.2.2
    subst hfr; obtain ⟨rfl, _, hg, hH, hlt, hmax⟩ := holds_of_R flatPair hR; have eg : ∀ args w, (callFunc 80 args).run Tryz.prog w = .ok (.enter 80 args) w := enters_of Tryz.func80 (by kernel_rfl) rfl
    have hc : CmpLays Tryz.prog 80 #[] encPairL 3 pairCmp g 0 l.toArray.size w := fun _ _ _ _ x y => pairs1_calls x y _
    have hT : ∀ x y, (ltOf pairCmp) x y = false → (ltOf pairCmp) y x = false → x = y := fun x y h1 h2 => by
      rw [Qca] at *; exact Qck (by simp_all) (by simp_all)
    have hsz : l.toArray.size < 4611686018427387904 := by simpa using hl
    refine (AnyQ.slices_SortFunc_total Tryz.sortPair 3 isAggPair sizeOfPair encPairL (fun _ => rfl) (fun x v hv => by simp [encPairL] at hv; rcases hv with rfl | rfl | rfl <;> rfl) pairCmp pairSWO 80 #[] g 0 c l.toArray w eg hc hH hlt hsz hT).mono ?_; rintro e w' ⟨rfl, n, os, rfl⟩; exact ⟨rfl, R_of_sorted flatPair hR n (sortPairs l) os (List.length_mergeSort _), sorted_below encPairL w g 3 n (sortPairs l) os hB hg⟩
theorem sortPairs_length (l : List Pair) : (sortPairs l).length = l.length := List.length_mergeSort _
theorem R_keep {α : Type} {d : Kd α} {e : Nat} {w w1 : World} {base : Nat} {ok : Nat → Prop} {v : Value} {xs : List α} (h : Kd.R d e w base ok v xs) {row : Nat} (hg : w.grownBy w1 (some row)) (hrow : ∀ c t, w.heap[row]? ≠ some (.cells c t (0, 0))) : Kd.R d e w1 base ok v xs := by
  refine Kd.QaL (Kd.R_move (Kd.QbT h) (fun k hk => ?_)) (fun _ hk => hk.1); obtain ⟨_, _, hlt, q, _, cells, hc⟩ := hk; refine hg.block k hlt (fun e => ?_)
  injection e with e
  subst e; exact hrow _ _ hc
theorem rng_cells {w : World} {b r : Nat} {l left : List (Pair × Value)} (h : Rng encPair okPair w b r l left) : (∀ c t, w.heap[r]? ≠ some (.cells c t (0, 0))) ∧ (∀ c t, w.heap[b]? ≠ some (.cells c t (0, 0))) := by
  obtain ⟨es, clock, since, seen, c0, hb, hl, ho, hs, hm, hr, _⟩ := h; exact ⟨fun c t e => by (rw [hr] at e; cases e), fun c t e => by (rw [hb] at e; cases e)⟩
theorem knownT_split {left : List Pair} {a c : List (Pair × Value)} {x : Pair × Value} (h : knownT left = a ++ x :: c) : ∃ l1 p l2, left = l1 ++ p :: l2 ∧ a = knownT l1 ∧ c = knownT l2 ∧ x = (p, .bool true) := by
  unfold knownT at *; obtain ⟨l1, l2', rfl, h1, h2⟩ := List.map_eq_append_iff.mp h; obtain ⟨p, l2, rfl, h3, h4⟩ := List.map_eq_cons_iff.mp h2; exact ⟨l1, p, l2, rfl, h1.symm, h4.symm, h3.symm⟩
theorem sortPairs_perm {l l' : List Pair} (h : l.Perm l') : sortPairs l = sortPairs l' := by
  have hsort : ∀ x : List Pair, (sortPairs x).Pairwise (fun a b => (!(ltOf pairCmp) b a) = true) := fun x => by
    unfold sortPairs; refine List.pairwise_mergeSort (le := fun x y => !(ltOf pairCmp) y x) ?_ ?_ x
    · intro a b c h1 h2
      simp only [Bool.not_eq_true'] at *; exact pairSWO.ntrans _ _ _ h2 h1
    · intro a b
      rw [Qca, Qca]
      by_cases h1 : pairLess b a = true
      · have : ¬ pairLess a b = true := fun h2 => QbV _ (Qcj h1 h2)
        simp_all
      · simp_all
  refine List.Perm.eq_of_pairwise (le := fun a b => (!(ltOf pairCmp) b a) = true) ?_ (hsort l) (hsort l') (((List.mergeSort_perm l _).trans h).trans (List.mergeSort_perm l' _).symm); intro a b _ _ h1 h2; simp only [Qca] at h1 h2; exact Qck (by simp_all) (by simp_all)
set_option maxRecDepth 100000 in
set_option maxHeartbeats 4000000 in
theorem pairs_calls (w : World) (B g b : Nat) (ok : Nat → Prop) (vc : Value) (creds : List Cred) (s : St) (hS : SolverAt w B ok g b vc creds s.known s.waits) (hroom : s.known.length ≤ 1000000) :
    Calls Tryz.prog 58 #[.pointer (some ⟨g, 0, none⟩)] w fun e w' => ∃ v, e = .returned v ∧ Kd.R kPair 55 w' w.heap.size (fun _ => True) v (sortPairs s.known) ∧ Below w.heap.size w w' := by
  have s1 := (SolverAt.cells hS).2; have _ := @look_known; obtain ⟨vw, hg, hBg, hBb, hvc, hT, hQ⟩ := hS; obtain ⟨O, hrun, hrng⟩ := hT.range (P := Tryz.prog) Tryz.underlying63; have hrun1 := hrun w rfl; have HR0 := Lib.hid (hrng w rfl); clear hrun hrng hT; clear hg hBg hBb hvc hQ; go_enter Tryz.func58, Tryz.ntmps58; go_wp2
  go_loopg [3, 4] (s.known.length + 1) (fun kq v3 _ w' => ∃ dn left : List Pair, Hid (kq = left.length + 1) ∧ Hid (Kd.R kPair 55 w' w.heap.size (fun _ => True) v3 dn) ∧ Hid (Rng encPair okPair w' b w.heap.size (knownT s.known) (knownT left)) ∧ Hid ((dn ++ left).Perm s.known) ∧ Hid (Below w.heap.size w w'))
  case atStart => exact ⟨[], s.known, Lib.hid rfl, Lib.hid (Kd.R_nil _ _ _ _ _), Lib.hid HR0.out, Lib.hid (List.Perm.refl _), Lib.hid (Qak (Below.refl _ _) _)⟩
  case round =>
    clear hrun1 HR0; obtain ⟨dn, left, HK, HO, HRng, HP, HB⟩ := hrel
    rcases HRng.out.next (P := Tryz.prog) 0 with ⟨hl, hnx⟩ | ⟨a, x, c, w1, hsp, hok, hnx, hrng1, hgr, hsz, hent⟩
    · have hl' : left = [] := by simpa [knownT] using hl
      have HE := Lib.hid hl'; clear hl hl'
      go_wp2_with (go_at_call 79; refine (sort_calls _ w.heap.size _ dn HO.out HB.out.size (by have := HP.out.length_eq; simp at this; omega)).mono ?_; rintro e w3 ⟨rfl, hR3, hB3⟩)
      go_ret; have hp := HP.out; rw [HE.out, List.append_nil] at hp; rw [sortPairs_perm hp] at hR3; exact ⟨_, rfl, hR3, HB.out.trans hB3⟩
    · obtain ⟨l1, p, l2, e0, rfl, rfl, rfl⟩ := knownT_split hsp
      have HE := Lib.hid e0; have HC := rng_cells HRng.out; have R1 := Lib.hid (R_keep HO.out hgr HC.1); have B1 := Lib.hid (HB.out.grown hgr HB.out.size (fun k hk => by injection hk with hk; omega)); have N1 := Lib.hid hrng1; have hent1 := hent w1 rfl rfl; have LM := Lib.hid (show dn.length < 1000001 by have := HP.out.length_eq; simp at this; omega); unfold encPair at hnx hent1; clear hsp e0 hok hrng1 hgr hsz hent HC HO HRng HB
      go_wp2_with ((with_reducible refine Qa3 (b := .append) (xs := #[.tmp 14, .tmp 16]) rfl ?_); at_builtin; refine Kd.QbB kPair (w0 := w) w.heap.size rfl (.tmp 14) (.tmp 16) 56 55 (.agg #[(.string ⟨#[]⟩), (.string ⟨#[]⟩), (.string ⟨#[]⟩)]) 48 rfl Tryz.underlying56 infoPair rfl (by decide) (by omega) _ dn p [.string p.f0.f0, .string p.f0.f1, .string p.f1] (fun _ => True) (fun _ => False) rfl ?aX ?aP (fun _ hk => hk.elim) (fun _ _ => trivial) ?aO ?aB ?aS ?aL ?_; (case aX => (show Value.slice (some ⟨w1.heap.size + 1, 0, none⟩) 1 1 = _; simp)); (case aP => exact k55_mkM _ _ _ p); (case aB => exact (Qak B1.out _)); (case aO => exact (Kd.Qax R1.out _)); (case aS => exact (QaD (Qak B1.out _))); (case aL => have := LM.out; omega); intro v2 w2 ho hb hg hat)
      have hne := rng_cells N1.out
      have hrow : ∀ i, (∀ c t, w1.heap[i]? ≠ some (.cells c t (0, 0))) → some i ≠ u3.ownBlock := fun i hi e => by
        obtain ⟨cells, hc⟩ := Kd.R_typed R1.out i e.symm; exact hi _ _ hc
      have hnew := (N1.out.below (Qak (Below.refl w1.heap.size w1) _)).grown hg (hrow b hne.2) (hrow _ hne.1); have HG := Lib.hid hnew; clear hnew hnx hent1
      go_roundg ((l1 ++ l2).length + 1)
      case measure =>
        have e1 := HK.out; rw [HE.out] at e1; simp at e1 ⊢; omega
      case rel =>
        refine ⟨dn ++ [p], l1 ++ l2, Lib.hid rfl, Lib.hid ho, Lib.hid ?_, Lib.hid ?_, Lib.hid hb⟩
        · have := HG.out
          rw [show knownT (l1 ++ l2) = knownT l1 ++ knownT l2 from List.map_append]; exact this
        · have hp := HP.out
          rw [HE.out] at hp; refine List.Perm.trans ?_ hp; rw [List.append_assoc]; exact List.Perm.append_left dn (show (p :: (l1 ++ l2)).Perm (l1 ++ p :: l2) from List.perm_middle.symm)
end
section
attribute [local go_sem] QaQ QaO QaZ QaY QaJ QaI QaP QaN
attribute [local go_sem high] eqA24
def linkFirst (c : Cred) : Role := ⟨domName c.f0.f0, c.f4.f1⟩
def learnMany (c : Cred) (second : Role) : List Pair → St → Option St
  | [], s => some s
  | q :: l, s => if q.f0 = second then (s.learn ⟨credRole c, q.f1⟩).bind (learnMany c second l) else learnMany c second l s
def linkA (c : Cred) (p : Pair) (s : St) : Option St :=
  if p.f0 = linkFirst c then (Qa9.f 20 p.f1).bind fun n => if n > 0 then (if s.known.length ≤ 1000000 then learnMany c ⟨p.f1, c.f5.f1⟩ (sortPairs s.known) s else none) else some s else some s
def linkB (c : Cred) (p : Pair) (s : St) : Option St :=
  if p.f0.f1 = c.f5.f1 then (if okPair ⟨linkFirst c, p.f0.f0⟩ then (if (⟨linkFirst c, p.f0.f0⟩ : Pair) ∈ s.known then s.learn ⟨credRole c, p.f1⟩ else some s) else none) else some s
def linkF (c : Cred) (p : Pair) (s : St) : Option St := (linkA c p s).bind (linkB c p)
abbrev roleObj (r : Role) : Obj := .cells #[.string r.f0, .string r.f1] 24
theorem roleCells {W : World} {k : Nat} {r : Role} (h : W.heap[k]? = some (roleObj r)) : W.cell? ⟨k, 0, none⟩ = some (.string r.f0) ∧ W.cell? ⟨k, 1, none⟩ = some (.string r.f1) :=
  ⟨(Qam h 0).trans rfl, (Qam h 1).trans rfl⟩
theorem wrap_id {n : Int} (h0 : -9223372036854775808 ≤ n) (h1 : n ≤ 9223372036854775807) : wrap64 n = n := by
  unfold wrap64; omega
set_option maxRecDepth 100000 in
set_option maxHeartbeats 4000000 in
theorem link_calls (w : World) (B g b : Nat) (ok : Nat → Prop) (vc : Value) (creds : List Cred) (s s' : St) (c : Cred) (p : Pair) (hS : SolverAt w B ok g b vc creds s.known s.waits) (hok : ∀ k, ok k → k < w.heap.size) (h : linkF c p s = some s') :
    Calls Tryz.prog 77 #[.pointer (some ⟨g, 0, none⟩), encCred c, encPair p] w fun e w' => e = .returned (.tuple #[]) ∧ SolverAt w' B (fun k => ok k ∨ w.heap.size ≤ k) g b vc creds s'.known s'.waits ∧ Below B w w' ∧ Kept w w' ok := by
  unfold encPair encCred; go_enter Tryz.func77, Tryz.ntmps77
  go_upto_region 1 with fail
  change Code.wp _ _ _ _ ((w.alloc (credObj c)).alloc (pairObj p))
  generalize hW : (w.alloc (credObj c)).alloc (pairObj p) = W
  obtain ⟨HB, BC, BP⟩ := boxed hW; obtain ⟨c0, c1, c2, c3, c4, c5, c6, c7, c8⟩ := credCells BC; obtain ⟨p0, p1, p2⟩ := pairCells BP; clear hW
  go_cut [6] from 6 to 78 (fun v wc => ∃ k1, v = .pointer (some ⟨k1, 0, none⟩) ∧ w.heap.size ≤ k1 ∧ wc.heap[k1]? = some (roleObj (linkFirst c)) ∧ Below W.heap.size W wc)
  case first =>
    have c0a := QaV c0 (.cells #[.string ⟨#[]⟩, .string ⟨#[]⟩] 24); have c6a := QaV c6 (.cells #[.string ⟨#[]⟩, .string ⟨#[]⟩] 24)
    --FIRST
    go_region_with (go_at_call 69; refine (Qb1 _ _).mono ?_; rintro e w' ⟨rfl, rfl⟩)
    all_goals
      go_wp2_with fail
      go_meet
      case rel => exact ⟨W.heap.size, rfl, HB.size, Qah (Qbf W _), Qan (Qak (Below.refl _ _) _)⟩
    --END
  case rest =>
    obtain ⟨k1, rfl, hk1, BF, HB1⟩ := hcut; have HBc := Qad HB HB1; have BCc := Qac BC HB1; have BPc := Qac BP HB1; clear c0 c1 c2 c3 c4 c5 c6 c7 c8 p0 p1 p2 BC BP HB HB1; obtain ⟨s1, hA, hB⟩ := Option.bind_eq_some_iff.mp h; clear h; have K1 := Lib.hid hk1; clear hk1
    go_upto_region 2 with fail
    have KA := Lib.hid hA; clear hA
    go_cut [27] from 10 to 78 (fun v w2 => ∃ t : Bool, v = .bool t ∧ (∃ n, w2 = wc.drewN n) ∧ (if t then (s.known.length ≤ 1000000 ∧ learnMany c ⟨p.f1, c.f5.f1⟩ (sortPairs s.known) s = some s1) else s = s1))
    case first =>
      clear hB; obtain ⟨c0, c1, c2, c3, c4, c5, c6, c7, c8⟩ := credCells BCc; obtain ⟨p0, p1, p2⟩ := pairCells BPc; obtain ⟨f0, f1⟩ := roleCells BF; have hA := KA.out; unfold linkA at hA
      by_cases e1 : p.f0 = linkFirst c
      · rw [if_pos e1] at hA
        obtain ⟨n, hn, hA⟩ := Option.bind_eq_some_iff.mp hA; have hb1 := eqRole_t e1; clear e1 KA; have HN := Lib.hid hn; clear hn
        by_cases hn0 : n > 0
        · rw [if_pos hn0] at hA
          have d1 : decide (0 < n) = true := decide_eq_true hn0; clear hn0
          by_cases hl : s.known.length ≤ 1000000
          · rw [if_pos hl] at hA
            have HA := Lib.hid hA; have HL := Lib.hid hl; clear hA hl
            go_wp2_with (go_at_call 74; refine (Qa9.calls 20 _ _ _ HN.out).mono ?_; rintro e w' ⟨rfl, ⟨nd, rfl⟩⟩)
            go_meet
            case rel => exact ⟨true, rfl, ⟨_, rfl⟩, HL.out, HA.out⟩
          · rw [if_neg hl] at hA
            cases hA
        · rw [if_neg hn0] at hA
          have HA := Lib.hid (Option.some.inj hA); have d1 : decide (0 < n) = false := decide_eq_false hn0; clear hn0 hA
          go_wp2_with (go_at_call 74; refine (Qa9.calls 20 _ _ _ HN.out).mono ?_; rintro e w' ⟨rfl, ⟨nd, rfl⟩⟩)
          go_meet
          case rel => exact ⟨false, rfl, ⟨_, rfl⟩, HA.out⟩
      · rw [if_neg e1] at hA
        have HA := Lib.hid (Option.some.inj hA); have hb1 := eqRole_f e1; clear e1 hA KA; go_wp2
        go_meet
        case rel => exact ⟨false, rfl, ⟨0, rfl⟩, HA.out⟩
    case rest =>
      obtain ⟨t, rfl, ⟨nd, rfl⟩, ht⟩ := hcut; have HBd := Qaz HBc nd; have BCd := Qai BCc nd; have BPd := Qai BPc nd; have BFd := Qai BF nd; clear HBc BCc BPc BF
      generalize wc.drewN nd = V at HBd BCd BPd BFd ⊢
      have HT := Lib.hid ht; clear ht KA
      go_upto_if 27 with fail
      go_cut [] from 7 to 78 (fun w2 => SolverAt w2 B (fun k => ok k ∨ w.heap.size ≤ k) g b vc creds s1.known s1.waits ∧ Below B w w2 ∧ Kept w w2 ok ∧ w2.heap[w.heap.size]? = some (credObj c) ∧ w2.heap[w.heap.size + 1]? = some (pairObj p) ∧ w2.heap[k1]? = some (roleObj (linkFirst c)))
      case first =>
        cases t with
        | false =>
          go_wp2
          go_meet
          case rel =>
            obtain rfl : s = s1 := HT.out; exact ⟨(hS.below HBd).mono (fun _ h => .inl h), HBd.mono hS.base, Kept.of_below HBd ok, BCd, BPd, BFd⟩
        | true =>
          obtain ⟨hl, hm⟩ : s.known.length ≤ 1000000 ∧ learnMany c ⟨p.f1, c.f5.f1⟩ (sortPairs s.known) s = some s1 := HT.out; obtain ⟨c0, c1, c2, c3, c4, c5, c6, c7, c8⟩ := credCells BCd; obtain ⟨p0, p1, p2⟩ := pairCells BPd; have HM := Lib.hid hm; have HL := Lib.hid hl; clear hm hl HT
          go_upto_region 4 with fail
          change Code.wp _ _ _ _ (V.alloc (.cells #[.string p.f1, .string c.f5.f1] 24)); have HB2 := Qak HBd (roleObj ⟨p.f1, c.f5.f1⟩); have BC2 := Qag BCd (roleObj ⟨p.f1, c.f5.f1⟩); have BP2 := Qag BPd (roleObj ⟨p.f1, c.f5.f1⟩); have BF2 := Qag BFd (roleObj ⟨p.f1, c.f5.f1⟩); have BS2 := Qbf V (roleObj ⟨p.f1, c.f5.f1⟩); have HV := Lib.hid (HBd.size); clear c0 c1 c2 c3 c4 c5 c6 c7 c8 p0 p1 p2 HBd BCd BPd BFd; change Code.wp _ _ _ _ (V.alloc (roleObj ⟨p.f1, c.f5.f1⟩))
          generalize hU : V.alloc (roleObj ⟨p.f1, c.f5.f1⟩) = U at HB2 BC2 BP2 BF2 BS2 ⊢
          clear hU
          go_wp2_with (go_at_call 58; refine (pairs_calls _ B g b ok vc creds s (hS.below HB2) HL.out).mono ?_; rintro e w5 ⟨v5, rfl, hR5, hB5⟩; obtain ⟨A5, cc5, rfl⟩ := Kd.Qa2 hR5; have HB5 := Qad HB2 hB5; have BC5 := Qac BC2 hB5; have BP5 := Qac BP2 hB5; have BF5 := Qac BF2 hB5; have BS5 := Qac BS2 hB5)
          have HU := Lib.hid HB2.size; have hS5 := hS.below HB5; have HS5 := Lib.hid hS5; have HB5' := Lib.hid HB5; have HR5 := Lib.hid hR5; have HC5 := Lib.hid BC5; have HP5 := Lib.hid BP5; have HF5 := Lib.hid BF5; have HT5 := Lib.hid BS5; have VLE := Lib.hid (show V.heap.size < w5.heap.size from Qb9 BS5); clear hR5 hB5 hS5 HB5 BC5 BP5 BF5 BS5 HB2 BC2 BP2 BF2 BS2; have HLL := Lib.hid (show (sortPairs s.known).length ≤ 1000000 by rw [sortPairs_length]; exact HL.out)
          generalize sortPairs s.known = L at HM HR5 HLL ⊢
          go_loopg [37, 9] (L.length + 1) (fun kq v37 _ w' => ∃ (i : Nat) (st : St), v37 = .int .i64 i ∧ Hid (kq = L.length + 1 - i) ∧ Hid (i ≤ L.length) ∧ Hid (learnMany c ⟨p.f1, c.f5.f1⟩ (L.drop i) st = some s1) ∧ Hid (SolverAt w' B (fun k => ok k ∨ w5.heap.size ≤ k) g b vc creds st.known st.waits) ∧ Hid (Below B w w') ∧ Hid (Kept w5 w' ok) ∧ Hid (w5.heap.size ≤ w'.heap.size))
          case atStart => exact ⟨0, s, rfl, Lib.hid rfl, Lib.hid (Nat.zero_le _), Lib.hid HM.out, Lib.hid (HS5.out.mono (fun _ h => .inl h)), Lib.hid (HB5'.out.mono hS.base), Lib.hid (fun _ _ _ => rfl), Lib.hid (Nat.le_refl _)⟩
          case round =>
            obtain ⟨i, st, rfl, HK, HI, HLM, HSt, HBt, HKt, HSz⟩ := hrel
            have box : ∀ {k : Nat} {o : Obj}, w5.heap[k]? = some o → w.heap.size ≤ k → ∀ w', Kept w5 w' ok → w'.heap[k]? = some o := fun hb hk w' hK => (hK _ (Qb9 hb) (fun e => by have := hok _ e; omega)).trans hb
            by_cases hi : i < L.length
            · have d1 : decide ((i : Int) < (L.length : Int)) = true := decide_eq_true (by omega)
              have d2 : decide (i < L.length) = true := decide_eq_true hi; have B4 := box HC5.out (Nat.le_refl _) _ HKt.out; have B5 := box HP5.out (by omega) _ HKt.out; have B7 := box HT5.out HV.out _ HKt.out
              have HKU : ∀ k, U.heap.size ≤ k → ¬ ok k := fun k hk e => by have := hok k e; have := HU.out; omega
              have R9 : Kd.R kPair 55 wr U.heap.size (fun _ => True) (.slice A5 L.length cc5) L := Kd.QaL (Kd.R_move (Kd.QbT HR5.out) (fun k hk => HKt.out k hk.2.2.1 (HKU k hk.2.1))) (fun _ h => h.1); obtain ⟨ad, e, hx0, hx1, hx2⟩ := at_T55 (Kd.QaF R9).2.2 (i : Int) (by omega) (by omega); cases e
              obtain ⟨q, hq⟩ : ∃ q, q = L[i] := ⟨_, rfl⟩
              have erd : rd_T55 L (i : Int) = q := by
                unfold rd_T55; rw [hq, Int.toNat_natCast, List.getD_eq_getElem?_getD, List.getElem?_eq_getElem hi]; rfl
              rw [erd, Int.toNat_natCast] at hx0 hx1 hx2; have hm := HLM.out; rw [List.drop_eq_getElem_cons hi, ← hq] at hm; unfold learnMany at hm
              have p101 : 0 ≤ (i : Int) := by omega
              have q101 : (i : Int) < (L.length : Int) := by omega
              replace p101 := eq_true p101; replace q101 := eq_true q101; have HIL := Lib.hid hi; clear box hi hq erd R9
              go_upto_region 7 with fail
              change Code.wp _ _ _ _ (wr.alloc (pairObj q)); have HX := Qak (Below.refl wr.heap.size wr) (pairObj q); have B9 := Qbf wr (pairObj q); have B4x := Qac B4 HX; have B7x := Qac B7 HX; clear B4 B5 B7 hx0 hx1 hx2
              generalize wr.alloc (pairObj q) = X at HX B9 B4x B7x ⊢
              obtain ⟨c0, c1, c2, c3, c4, c5, c6, c7, c8⟩ := credCells B4x; obtain ⟨s0, s1'⟩ := roleCells B7x; obtain ⟨q0, q1, q2⟩ := pairCells B9
              have wrapI : wrap64 ((i : Int) + 1) = ((i + 1 : Nat) : Int) := by rw [wrap_id (by omega) (by have := HLL.out; have := HIL.out; omega)]; rfl
              by_cases e1 : q.f0 = ⟨p.f1, c.f5.f1⟩
              · rw [if_pos e1] at hm
                obtain ⟨st2, h1, h2⟩ := Option.bind_eq_some_iff.mp hm; have H1 := Lib.hid h1; have H2 := Lib.hid h2; have hb1 : (q.f0.f0.toList == p.f1.toList && (q.f0.f1.toList == c.f5.f1.toList)) = true := eqRole_t e1; clear e1 hm h1 h2; go_wp2
                go_region_with (first | (go_at_call 53; refine (Qcb c _).mono ?_; rintro e w3 ⟨rfl, hB3⟩; have HB3 : Below X.heap.size X w3 := Qad (by repeat (first | exact Below.refl _ _ | apply Qaz | apply Qan)) hB3; have p23 := Qbh hB3 q2) | (go_at_call 75; refine (learn_calls _ B g b (fun k => ok k ∨ w5.heap.size ≤ k) vc creds st st2 ⟨credRole c, q.f1⟩ ?_ H1.out).mono ?_; exact (HSt.out.below HX).below HB3; rintro e w8 ⟨rfl, hS8, hB8, hK8⟩))
                all_goals
                  go_wp2
                  go_roundg (L.length + 1 - (i + 1))
                  case measure => have := HK.out; have := HI.out; omega
                  case rel => exact ⟨i + 1, st2, by first | rfl | exact congrArg _ wrapI, Lib.hid rfl, Lib.hid (by have := HIL.out; omega), Lib.hid H2.out, Lib.hid (hS8.mono (fun k h => h.elim id (fun h => .inr (by have := HSz.out; have := HX.size; have := HB3.size; omega)))), Lib.hid ((HBt.out.trans (HX.mono (by have := HSt.out.base; omega))).trans ((HB3.mono (by have := HSt.out.base; have := HX.size; omega)).trans hB8)), Lib.hid (fun k hk hn => (hK8 k (by have := HSz.out; have := HX.size; have := HB3.size; omega) (fun e => e.elim hn (by omega))).trans ((HB3.block k (by have := HSz.out; have := HX.size; omega)).trans ((HX.block k (by have := HSz.out; omega)).trans (HKt.out k hk hn)))), Lib.hid (by have := HSz.out; have := HX.size; have := HB3.size; have := hB8.size; omega)⟩
              · rw [if_neg e1] at hm
                have H2 := Lib.hid hm; have hb1 : (q.f0.f0.toList == p.f1.toList && (q.f0.f1.toList == c.f5.f1.toList)) = false := eqRole_f e1; clear e1 hm; go_wp2
                go_roundg (L.length + 1 - (i + 1))
                case measure => have := HK.out; have := HI.out; omega
                case rel => exact ⟨i + 1, st, by first | rfl | exact congrArg _ wrapI, Lib.hid rfl, Lib.hid (by have := HIL.out; omega), Lib.hid H2.out, Lib.hid (HSt.out.below HX), Lib.hid (HBt.out.trans (HX.mono (by have := HSt.out.base; omega))), Lib.hid (fun k hk hn => (HX.block k (by have := HSz.out; omega)).trans (HKt.out k hk hn)), Lib.hid (by have := HSz.out; have := HX.size; omega)⟩
            · have d1 : decide ((i : Int) < (L.length : Int)) = false := decide_eq_false (by omega)
              have d2 : decide (i < L.length) = false := decide_eq_false hi; have HE := Lib.hid (show i = L.length by have := HI.out; omega); clear hi; go_wp2
              go_meet
              case rel =>
                have hm := HLM.out; rw [HE.out, List.drop_length] at hm; obtain rfl : st = s1 := Option.some.inj hm; exact ⟨HSt.out.mono (fun k h => h.imp_right (fun h => Nat.le_trans HB5'.out.size h)), HBt.out, (Kept.of_below HB5'.out ok).trans HKt.out HB5'.out.size (fun _ _ h => h), box HC5.out (Nat.le_refl _) _ HKt.out, box HP5.out (by omega) _ HKt.out, box HF5.out K1.out _ HKt.out⟩
      case rest =>
        obtain ⟨hS2, hB2, hK2, BC2, BP2, BF2⟩ := hcut; obtain ⟨c0, c1, c2, c3, c4, c5, c6, c7, c8⟩ := credCells BC2; obtain ⟨p0, p1, p2⟩ := pairCells BP2; obtain ⟨f0, f1⟩ := roleCells BF2; have s1c := (SolverAt.cells hS2).2; have HWc := Lib.hid (show w.heap.size ≤ wc.heap.size from Nat.le_of_lt (Qb9 BC2)); clear HT HBd BCd BPd BFd; have hBw := Below.refl wc.heap.size wc
        go_upto_region 10 with fail
        go_cut [71] from 53 to 78 (fun v w3 => ∃ t : Bool, v = .bool t ∧ (∃ n, w3 = wc.drewN n) ∧ (if t then s1.learn ⟨credRole c, p.f1⟩ else some s1) = some s')
        case first =>
          unfold linkB at hB
          by_cases e1 : p.f0.f1 = c.f5.f1
          · rw [if_pos e1] at hB
            have hb1 : (p.f0.f1.toList == c.f5.f1.toList) = true := by rw [e1]; simp
            clear e1
            by_cases k1' : okPair ⟨linkFirst c, p.f0.f0⟩
            · rw [if_pos k1'] at hB
              have l1 := fun n => look_known hS2 hBw (linkFirst c) p.f0.f0 k1' n
              by_cases i1 : (⟨linkFirst c, p.f0.f0⟩ : Pair) ∈ s1.known
              · rw [if_pos i1] at hB
                simp only [decide_eq_true i1] at l1; have HH := Lib.hid hB; clear hB k1'
                go_quiet (fail)
                all_goals
                  go_wp2_with fail
                  go_meet
                  case rel => exact ⟨true, rfl, ⟨_, rfl⟩, HH.out⟩
              · rw [if_neg i1] at hB
                simp only [decide_eq_false i1] at l1; have HH := Lib.hid hB; clear hB k1'
                go_quiet (fail)
                all_goals
                  go_wp2_with fail
                  go_meet
                  case rel => exact ⟨false, rfl, ⟨_, rfl⟩, HH.out⟩
            · rw [if_neg k1'] at hB
              cases hB
          · rw [if_neg e1] at hB
            have hb1 : (p.f0.f1.toList == c.f5.f1.toList) = false := (Lib.bytes_beq_false_iff _ _).mpr e1; have HH := Lib.hid hB; clear hB e1
            go_quiet (fail)
            all_goals
              go_wp2_with fail
              go_meet
              case rel => exact ⟨false, rfl, ⟨_, rfl⟩, HH.out⟩
        case rest =>
          obtain ⟨t, rfl, ⟨n3, rfl⟩, ht⟩ := hcut; have HBn := Qaz hBw n3; have BCn := Qai BC2 n3; have BPn := Qai BP2 n3; clear c0 c1 c2 c3 c4 c5 c6 c7 c8 p0 p1 p2 f0 f1 BC2 BP2 BF2; have HH := Lib.hid ht
          generalize wc.drewN n3 = Y at HBn BCn BPn ⊢
          obtain ⟨c0, c1, c2, c3, c4, c5, c6, c7, c8⟩ := credCells BCn; obtain ⟨p0, p1, p2⟩ := pairCells BPn; have HSY := Lib.hid (hS2.below HBn); have HBY := Lib.hid (hB2.trans (HBn.mono hS2.base)); have HKY := Lib.hid (show Kept w Y ok from hK2.trans (Kept.of_below HBn ok) HWc.out (fun _ _ h => h)); have HSZ := Lib.hid (show w.heap.size ≤ Y.heap.size by have := HWc.out; have := HBn.size; omega); clear HBn BCn BPn hS2 hB2 hK2 hBw s1c ht
          cases t with
          | false =>
            obtain rfl : s1 = s' := Option.some.inj HH.out; go_wp2; go_end0; exact ⟨rfl, HSY.out, HBY.out, HKY.out⟩
          | true =>
            go_wp2
            go_region_with (first | (go_at_call 53; refine (Qcb c _).mono ?_; rintro e w3 ⟨rfl, hB3⟩; have HB3 : Below Y.heap.size Y w3 := Qad (by repeat (first | exact Below.refl _ _ | apply Qaz | apply Qan)) hB3; have p23 := Qbh hB3 p2) | (go_at_call 75; refine (learn_calls _ B g b (fun k => ok k ∨ w.heap.size ≤ k) vc creds s1 s' ⟨credRole c, p.f1⟩ ?_ HH.out).mono ?_; exact HSY.out.below HB3; rintro e w8 ⟨rfl, hS8, hB8, hK8⟩))
            all_goals
              go_wp2; go_end0; exact ⟨rfl, hS8.mono (fun k h => h.elim id (fun h => .inr (by have := HSZ.out; have := HB3.size; omega))), (HBY.out.trans (HB3.mono HSY.out.base)).trans hB8, fun k hk hn => (hK8 k (by have := HSZ.out; have := HB3.size; omega) (fun e => e.elim hn (by omega))).trans ((HB3.block k (by have := HSZ.out; omega)).trans (HKY.out k hk hn))⟩
end
section
attribute [local go_sem] QaQ QaO QaZ QaY QaJ QaI QaP QaN
def membersF : List Cred → St → Option St
  | [], s => some s
  | c :: l, s => if c.f2 = 1 then (s.learn ⟨credRole c, c.f3⟩).bind (membersF l) else membersF l s
def stepF (p : Pair) (c : Cred) (s : St) : Option St := if c.f2 = 1 then some s else if c.f2 = 3 then linkF c p s else if c.f2 = 4 then bothF c p s else includeF c p s
def stepsF (p : Pair) : List Cred → St → Option St
  | [], s => some s
  | c :: l, s => (stepF p c s).bind (stepsF p l)
def loopF (creds : List Cred) : Nat → St → Option St
  | 0, _ => none
  | k + 1, s => match s.waits with
    | [] => some s
    | p :: ws => (stepsF p creds ⟨s.known, ws⟩).bind (loopF creds k)
def runF (k : Nat) (creds : List Cred) : Option St := (membersF creds ⟨[], []⟩).bind (loopF creds k)
theorem addr_zero (ad : Addr) : ad.add 0 = ad := by
  obtain ⟨b, o, f⟩ := ad; unfold Addr.add
  split <;> simp_all
theorem SolverAt.bound {w : World} {B g b : Nat} {ok : Nat → Prop} {vc : Value} {creds : List Cred} {known waits : List Pair} (h : SolverAt w B ok g b vc creds known waits) : SolverAt w B (fun k => ok k ∧ k < w.heap.size) g b vc creds known waits := by
  obtain ⟨vw, hg, hBg, hBb, hvc, hT, hQ⟩ := h; exact ⟨vw, hg, ⟨hBg.1, hBg.2, Qb9 hg⟩, ⟨hBb.1, hBb.2, hT.lt⟩, hvc, hT, Kd.Q_mono (Kd.Q_bound hQ) (fun k hk => ⟨hk.1, hk.2.2.1⟩)⟩
theorem SolverAt.waits' {w : World} {B g b : Nat} {ok : Nat → Prop} {vc : Value} {creds : List Cred} {known waits : List Pair} (h : SolverAt w B ok g b vc creds known waits) : ∃ A c, waits.length ≤ c ∧ w.heap[g]? = some (.cells #[vc, .map (some b), .slice A waits.length c] 93 (0, 0)) ∧ Kd.C kPair w A waits.length waits := by
  obtain ⟨vw, hg, hBg, hBb, hvc, hT, hQ⟩ := h; obtain ⟨A, c, rfl, hl, hC⟩ := Kd.Q_reads hQ; exact ⟨A, c, hl, hg, hC⟩
theorem SolverAt.creds' {w : World} {B g b : Nat} {ok : Nat → Prop} {A : Option Addr} {n c : Nat} {creds : List Cred} {known waits : List Pair} (h : SolverAt w B ok g b (.slice A n c) creds known waits) : n = creds.length ∧ Kd.C kCred w A creds.length creds := by
  obtain ⟨vw, hg, hBg, hBb, hvc, hT, hQ⟩ := h; have := Kd.QaF hvc; exact ⟨this.1, this.2.2⟩
theorem SolverAt.pop {w W : World} {B g b : Nat} {ok : Nat → Prop} {vc : Value} {creds : List Cred} {known ws : List Pair} {p : Pair} {A : Option Addr} {c : Nat} (h : SolverAt w B ok g b vc creds known (p :: ws)) (hg : w.heap[g]? = some (.cells #[vc, .map (some b), .slice A (ws.length + 1) c] 93 (0, 0)))
    (hb : Below w.heap.size w W) : SolverAt (W.setCell ⟨g, 2, none⟩ (.slice (if c = 1 then A else A.map (·.add 3)) ws.length (c - 1))) B ok g b vc creds known ws := by
  have hgW := (hb.block g (Qb9 hg)).trans hg; obtain ⟨vw, hg', hBg, hBb, hvc, hT, hQ⟩ := h; rw [hg] at hg'
  injection hg' with hg'
  injection hg' with hg'
  have e : vw = .slice A (ws.length + 1) c := by
    injection hg' with hg'
    injection hg' with _ hg'
    injection hg' with _ hg'
    injection hg' with hg' _
    exact hg'.symm
  subst e; have hQ2 := Kd.Q_drop (k := 1) (Kd.Q_below hQ hb) (by simp); simp only [Nat.one_mul, List.drop_succ_cons, List.drop_zero, Nat.add_sub_cancel] at hQ2
  have hbg : b ≠ g := by
    rintro rfl; obtain ⟨es, clock, hb, _⟩ := hT; rw [hg] at hb; cases hb
  exact ⟨.slice (if c = 1 then A else A.map (·.add 3)) ws.length (c - 1), by simpa using blk_set hgW 2 _, hBg, hBb, Kd.R_set (Kd.Qau hvc hb) hgW (by decide) 2 _, (hT.below hb).set hbg _, Kd.Q_set hQ2 hgW (by decide) 2 _⟩
set_option maxRecDepth 100000 in
set_option maxHeartbeats 4000000 in
theorem run_calls (w : World) (B g b : Nat) (ok : Nat → Prop) (vc : Value) (creds : List Cred) (fuel : Nat) (s' : St) (hS : SolverAt w B ok g b vc creds [] []) (hcl : creds.length ≤ 1000000) (h : runF fuel creds = some s') :
    Calls Tryz.prog 57 #[.pointer (some ⟨g, 0, none⟩)] w fun e w' => e = .returned (.tuple #[]) ∧ SolverAt w' B (fun k => ok k ∨ w.heap.size ≤ k) g b vc creds s'.known s'.waits ∧ Below B w w' := by
  obtain ⟨s1, hM, hL⟩ := Option.bind_eq_some_iff.mp h; clear h
  obtain ⟨A0, cc0, rfl⟩ : ∃ A c, vc = .slice A creds.length c := by
    obtain ⟨vw, hg, hBg, hBb, hvc, hT, hQ⟩ := hS; exact Kd.Qa2 hvc
  have g0 := (SolverAt.cells hS).1; have HS := Lib.hid hS; have HM := Lib.hid hM; have HL := Lib.hid hL; have HC := Lib.hid hcl; clear hS hM hL hcl; go_enter Tryz.func57, Tryz.ntmps57; go_wp2
  go_loopg [3, 13] (creds.length + 1) (fun kq _ v13 w' => ∃ (i : Nat) (st : St), v13 = .int .i64 i ∧ Hid (kq = creds.length + 1 - i) ∧ Hid (i ≤ creds.length) ∧ Hid (membersF (creds.drop i) st = some s1) ∧ Hid (SolverAt w' B (fun k => ok k ∨ w.heap.size ≤ k) g b (.slice A0 creds.length cc0) creds st.known st.waits) ∧ Hid (Below B w w') ∧ Hid (w.heap.size ≤ w'.heap.size))
  case atStart => exact ⟨0, ⟨[], []⟩, rfl, Lib.hid rfl, Lib.hid (Nat.zero_le _), Lib.hid HM.out, Lib.hid (HS.out.mono (fun _ h => .inl h)), Lib.hid (Below.refl _ _), Lib.hid (Nat.le_refl _)⟩
  case round =>
    obtain ⟨i, st, rfl, HK, HI, HMs, HSt, HBt, HSz⟩ := hrel
    by_cases hi : i < creds.length
    · have d1 : decide ((i : Int) < (creds.length : Int)) = true := decide_eq_true (by omega)
      have d2 : decide (i < creds.length) = true := decide_eq_true hi; obtain ⟨ad, e, hx0, hx1, hx2, hx3, hx4, hx5, hx6, hx7, hx8⟩ := Qcr (SolverAt.creds' HSt.out).2 (i : Int) (by omega) (by omega); cases e
      obtain ⟨c, hc⟩ : ∃ c, c = creds[i] := ⟨_, rfl⟩
      have erd : Qae creds (i : Int) = c := by
        unfold Qae; rw [hc, Int.toNat_natCast, List.getD_eq_getElem?_getD, List.getElem?_eq_getElem hi]; rfl
      rw [erd, Int.toNat_natCast] at hx0 hx1 hx2 hx3 hx4 hx5 hx6 hx7 hx8; have hm := HMs.out; rw [List.drop_eq_getElem_cons hi, ← hc] at hm; unfold membersF at hm; have p101 : (0 ≤ (i : Int)) = True := eq_true (by omega); have q101 : ((i : Int) < (creds.length : Int)) = True := eq_true (by omega); have HIL := Lib.hid hi; clear hi hc erd
      have wrapI : wrap64 ((i : Int) + 1) = ((i + 1 : Nat) : Int) := by rw [wrap_id (by omega) (by have := HC.out; have := HIL.out; omega)]; rfl
      go_upto_region 3 with fail
      change Code.wp _ _ _ _ (wr.alloc (credObj c)); have HX := Qak (Below.refl wr.heap.size wr) (credObj c); have B3 := Qbf wr (credObj c); clear hx0 hx1 hx2 hx3 hx4 hx5 hx6 hx7 hx8
      generalize wr.alloc (credObj c) = X at HX B3 ⊢
      obtain ⟨c0, c1, c2, c3, c4, c5, c6, c7, c8⟩ := credCells B3
      by_cases e1 : c.f2 = 1
      · rw [if_pos e1] at hm
        obtain ⟨st2, h1, h2⟩ := Option.bind_eq_some_iff.mp hm; have H1 := Lib.hid h1; have H2 := Lib.hid h2; have hb1 : (c.f2 == 1) = true := beq_iff_eq.mpr e1; clear e1 hm h1 h2
        --FIRST
        go_wp2
        go_region_with (first | (go_at_call 53; refine (Qcb c _).mono ?_; rintro e w3 ⟨rfl, hB3⟩; have HB3 : Below X.heap.size X w3 := Qad (by repeat (first | exact Below.refl _ _ | apply Qaz | apply Qan)) hB3; have p23 := Qbh hB3 c4) | (go_at_call 75; refine (learn_calls _ B g b (fun k => ok k ∨ w.heap.size ≤ k) (.slice (some ad) creds.length cc0) creds st st2 ⟨credRole c, c.f3⟩ ?_ H1.out).mono ?_; exact (HSt.out.below HX).below HB3; rintro e w8 ⟨rfl, hS8, hB8, hK8⟩))
        all_goals
          go_wp2
          go_roundg (creds.length + 1 - (i + 1))
          case measure => have := HK.out; have := HI.out; omega
          case rel => exact ⟨i + 1, st2, by first | rfl | exact congrArg _ wrapI, Lib.hid rfl, Lib.hid (by have := HIL.out; omega), Lib.hid H2.out, Lib.hid (hS8.mono (fun k h => h.elim id (fun h => .inr (by have := HSz.out; have := HX.size; have := HB3.size; omega)))), Lib.hid ((HBt.out.trans (HX.mono (by have := HSt.out.base; omega))).trans ((HB3.mono (by have := HSt.out.base; have := HX.size; omega)).trans hB8)), Lib.hid (by have := HSz.out; have := HX.size; have := HB3.size; have := hB8.size; omega)⟩
        --END
      · rw [if_neg e1] at hm
        have H2 := Lib.hid hm; have hb1 : (c.f2 == 1) = false := beq_eq_false_iff_ne.mpr e1; clear e1 hm; go_wp2
        go_roundg (creds.length + 1 - (i + 1))
        case measure => have := HK.out; have := HI.out; omega
        case rel => exact ⟨i + 1, st, by first | rfl | exact congrArg _ wrapI, Lib.hid rfl, Lib.hid (by have := HIL.out; omega), Lib.hid H2.out, Lib.hid (HSt.out.below HX), Lib.hid (HBt.out.trans (HX.mono (by have := HSt.out.base; omega))), Lib.hid (by have := HSz.out; have := HX.size; omega)⟩
    · have d1 : decide ((i : Int) < (creds.length : Int)) = false := decide_eq_false (by omega)
      have d2 : decide (i < creds.length) = false := decide_eq_false hi; have HE := Lib.hid (show i = creds.length by have := HI.out; omega); clear hi; go_wp2; have hm := HMs.out; rw [HE.out, List.drop_length] at hm; obtain rfl : st = s1 := Option.some.inj hm; have HS1 := Lib.hid HSt.out; have HB1 := Lib.hid HBt.out; have HZ1 := Lib.hid HSz.out; clear HSt HBt HSz hm HM HMs HK HI HE d1 d2
      go_loopg [4, 6, 7, 53] fuel (fun kq _ _ _ _ w' => ∃ st : St, Hid (loopF creds kq st = some s') ∧ Hid (SolverAt w' B (fun k => ok k ∨ w.heap.size ≤ k) g b (.slice A0 creds.length cc0) creds st.known st.waits) ∧ Hid (Below B w w') ∧ Hid (w.heap.size ≤ w'.heap.size))
      case atStart => exact ⟨st, Lib.hid HL.out, Lib.hid HS1.out, Lib.hid HB1.out, Lib.hid HZ1.out⟩
      case round =>
        clear HS1 HB1 HZ1 HL; obtain ⟨st, HLo, HSt, HBt, HSz⟩ := hrel; have hl := HLo.out; clear HLo
        cases gk with
        | zero => cases hl
        | succ k1 =>
          unfold loopF at hl; obtain ⟨kn, wts⟩ := st; obtain ⟨A, cc, hcc, hgw, hC⟩ := SolverAt.waits' HSt.out
          cases wts with
          | nil =>
            obtain rfl := Option.some.inj hl; clear hl; have g2 := (Qam hgw 2).trans (rfl : _ = some (Value.slice A 0 cc)); clear hgw hC; go_wp2; go_end0; exact ⟨rfl, HSt.out, HBt.out⟩
          | cons p ws =>
            simp only at hl; obtain ⟨st2, h1, h2⟩ := Option.bind_eq_some_iff.mp hl; have H1 := Lib.hid h1; have H2 := Lib.hid h2; clear hl h1 h2
            obtain ⟨n, hn⟩ : ∃ n, n = ws.length + 1 := ⟨_, rfl⟩
            have HN := Lib.hid hn; have d1 : decide ((0 : Int) < (n : Int)) = true := decide_eq_true (by omega); have d2 : decide (0 < n) = true := decide_eq_true (by omega); have g2 := (Qam hgw 2).trans (show _ = some (Value.slice A n cc) by rw [hn]; rfl); obtain ⟨ad, e, hx0, hx1, hx2⟩ := at_T55 hC (0 : Int) (by omega) (by simp); cases e; have p101 : ((0 : Int) ≤ 0) = True := eq_true (by omega); have q101 : ((0 : Int) < (n : Int)) = True := eq_true (by omega); have erd : rd_T55 (p :: ws) (0 : Int) = p := rfl; have had : ad.add ((0 : Int).toNat * 3) = ad := addr_zero ad; have r101 : (0 < n) = True := eq_true (by omega); rw [erd, had] at hx0 hx1 hx2; have HGW := Lib.hid hgw; clear hgw hC hn erd
            go_upto_region 8 with fail
            change Code.wp _ _ _ _ (wr.alloc (pairObj p)); have HX := Qak (Below.refl wr.heap.size wr) (pairObj p); have B4 := Qbf wr (pairObj p); have gX := (HX.block g (Qb9 HGW.out)).trans HGW.out; have HPop := Lib.hid (SolverAt.pop (SolverAt.bound HSt.out) HGW.out HX)
            have HXs : (wr.alloc (pairObj p)).heap.size = wr.heap.size + 1 := by simp
            clear hx0 hx1 hx2 g2 had
            generalize wr.alloc (pairObj p) = X at HX B4 gX HPop HXs ⊢
            have g2 := (Qam gX 2).trans (show _ = some (Value.slice (some ad) n cc) by rw [HN.out]; rfl); have f2 := blk_thaw gX 2; obtain ⟨i04, hi04, _, hsz4, _⟩ := info_parts infoPair; have hcut := cut_from (P := Tryz.prog) 56 55 .i64 Tryz.underlying56 hi04 3 hsz4 (some ad) n cc 1 (by omega) (by have := HN.out; omega); simp only [Int.toNat_one, Nat.one_mul] at hcut
            obtain ⟨A2, hA2⟩ : ∃ A2, A2 = (if cc = 1 then some ad else (some ad).map (·.add 3)) := ⟨_, rfl⟩
            obtain ⟨n2, hn2⟩ : ∃ n2, n2 = n - 1 := ⟨_, rfl⟩
            obtain ⟨cc2, hc2⟩ : ∃ cc2, cc2 = cc - 1 := ⟨_, rfl⟩
            rw [← hA2, ← hn2, ← hc2] at hcut; have HPop2 := Lib.hid (show SolverAt (X.setCell ⟨g, 2, none⟩ (.slice A2 n2 cc2)) B (fun k => (ok k ∨ w.heap.size ≤ k) ∧ k < wr.heap.size) g b (.slice A0 creds.length cc0) creds kn ws by rw [hn2, HN.out, Nat.add_sub_cancel, hA2, hc2]; exact HPop.out); clear hA2 hn2 hc2 HPop hi04 hsz4
            have hne4 : wr.heap.size ≠ g := by have := Qb9 HGW.out; omega
            have B4z : (X.setCell ⟨g, 2, none⟩ (.slice A2 n2 cc2)).heap[wr.heap.size]? = some (pairObj p) := (Below.heap_setCell X ⟨g, 2, none⟩ (.slice A2 n2 cc2) _ hne4).trans B4
            have SZz : (X.setCell ⟨g, 2, none⟩ (.slice A2 n2 cc2)).heap.size = X.heap.size := by simp
            have hBg : B ≤ g := by obtain ⟨_, _, hh, _⟩ := HSt.out; exact hh.1
            have BZz := (HX.mono (by have := HSt.out.base; omega)).setCell (p := ⟨g, 2, none⟩) hBg (.slice A2 n2 cc2); have H4z := Lib.hid B4z; have HSZz := Lib.hid SZz; have HBZz := Lib.hid BZz; have HX2 := Lib.hid (show X.heap.size = wr.heap.size + 1 from HXs); clear hne4 B4z SZz hBg BZz
            go_upto_region 9 with fail
            change Code.wp _ _ _ _ (X.setCell ⟨g, 2, none⟩ (.slice A2 n2 cc2))
            generalize X.setCell ⟨g, 2, none⟩ (.slice A2 n2 cc2) = Z at H4z HSZz HBZz HPop2 ⊢
            have z0 := (SolverAt.cells HPop2.out).1; have HB' := Lib.hid (HX.size); clear B4 gX g2 f2 hcut HX HGW; go_wp2; have HSZ2 := Lib.hid (show Z.heap.size = wr.heap.size + 1 by have := HSZz.out; have := HX2.out; omega)
            obtain ⟨wO, hwO⟩ : ∃ x, x = wr := ⟨_, rfl⟩
            subst hwO
            go_loopg [6, 7, 53] (creds.length + 1) (fun kq _ _ v53 w' => ∃ (j : Nat) (st3 : St), v53 = .int .i64 j ∧ Hid (kq = creds.length + 1 - j) ∧ Hid (j ≤ creds.length) ∧ Hid (stepsF p (creds.drop j) st3 = some st2) ∧ Hid (SolverAt w' B (fun k => ((ok k ∨ w.heap.size ≤ k) ∧ k < wO.heap.size) ∨ Z.heap.size ≤ k) g b (.slice A0 creds.length cc0) creds st3.known st3.waits) ∧ Hid (Below B wO w') ∧ Hid (w'.heap[wO.heap.size]? = some (pairObj p)) ∧ Hid (Z.heap.size ≤ w'.heap.size))
            case atStart => exact ⟨0, ⟨kn, ws⟩, rfl, Lib.hid rfl, Lib.hid (Nat.zero_le _), Lib.hid H1.out, Lib.hid (HPop2.out.mono (fun _ h => .inl h)), Lib.hid HBZz.out, Lib.hid H4z.out, Lib.hid (Nat.le_refl _)⟩
            case round =>
              clear z0 HPop2 H4z HBZz; obtain ⟨j, st3, rfl, HK3, HJ, HM3, HS3, HB3, HP3, HZ3⟩ := hrel
              by_cases hj : j < creds.length
              · have d1 : decide ((j : Int) < (creds.length : Int)) = true := decide_eq_true (by omega)
                have d2 : decide (j < creds.length) = true := decide_eq_true hj; obtain ⟨ad3, e, hx0, hx1, hx2, hx3, hx4, hx5, hx6, hx7, hx8⟩ := Qcr (SolverAt.creds' HS3.out).2 (j : Int) (by omega) (by omega); cases e
                obtain ⟨c, hc⟩ : ∃ c, c = creds[j] := ⟨_, rfl⟩
                have erd : Qae creds (j : Int) = c := by
                  unfold Qae; rw [hc, Int.toNat_natCast, List.getD_eq_getElem?_getD, List.getElem?_eq_getElem hj]; rfl
                rw [erd, Int.toNat_natCast] at hx0 hx1 hx2 hx3 hx4 hx5 hx6 hx7 hx8; have hm := HM3.out; rw [List.drop_eq_getElem_cons hj, ← hc] at hm; unfold stepsF at hm; obtain ⟨st4, h1j, h2j⟩ := Option.bind_eq_some_iff.mp hm; have H2j := Lib.hid h2j; have p101 : (0 ≤ (j : Int)) = True := eq_true (by omega); have q101 : ((j : Int) < (creds.length : Int)) = True := eq_true (by omega); have HJL := Lib.hid hj
                have wrapJ : wrap64 ((j : Int) + 1) = ((j + 1 : Nat) : Int) := by rw [wrap_id (by omega) (by have := HC.out; have := HJL.out; omega)]; rfl
                clear hj hc erd hm h2j
                go_upto_region 12 with fail
                change Code.wp _ _ _ _ (wr.alloc (credObj c)); have HX3 := Qak (Below.refl wr.heap.size wr) (credObj c); have B3 := Qbf wr (credObj c); have B4x := Qag HP3.out (credObj c); clear hx0 hx1 hx2 hx3 hx4 hx5 hx6 hx7 hx8
                generalize wr.alloc (credObj c) = X3 at HX3 B3 B4x ⊢
                obtain ⟨c0, c1, c2, c3, c4, c5, c6, c7, c8⟩ := credCells B3; obtain ⟨p0, p1, p2⟩ := pairCells B4x; unfold stepF at h1j
                by_cases e1 : c.f2 = 1
                · rw [if_pos e1] at h1j
                  have b1 : (c.f2 == 1) = true := beq_iff_eq.mpr e1; obtain rfl := Option.some.inj h1j; clear e1 h1j; go_wp2
                  go_roundg (creds.length + 1 - (j + 1))
                  case measure => have := HK3.out; have := HJ.out; omega
                  case rel => exact ⟨j + 1, st3, by first | rfl | exact congrArg _ wrapJ, Lib.hid rfl, Lib.hid (by have := HJL.out; omega), Lib.hid H2j.out, Lib.hid (HS3.out.below HX3), Lib.hid (HB3.out.trans (HX3.mono (by have := HS3.out.base; omega))), Lib.hid B4x, Lib.hid (by have := HZ3.out; have := HX3.size; omega)⟩
                · rw [if_neg e1] at h1j
                  have b1 : (c.f2 == 1) = false := beq_eq_false_iff_ne.mpr e1
                  by_cases e3 : c.f2 = 3
                  · rw [if_pos e3] at h1j
                    have b3 : (c.f2 == 3) = true := beq_iff_eq.mpr e3; have H1j := Lib.hid h1j; clear e1 e3 h1j; have hS3 := SolverAt.bound (HS3.out.below HX3)
                    go_wp2_with (go_at_call 77; refine (link_calls X3 B g b _ _ creds st3 st4 c p hS3 (fun k h => h.2) H1j.out).mono ?_; rintro e w8 ⟨rfl, hS8, hB8, hK8⟩)
                    go_roundg (creds.length + 1 - (j + 1))
                    case measure => have := HK3.out; have := HJ.out; omega
                    case rel => exact ⟨j + 1, st4, by first | rfl | exact congrArg _ wrapJ, Lib.hid rfl, Lib.hid (by have := HJL.out; omega), Lib.hid H2j.out, Lib.hid (hS8.mono (fun k h => h.elim (fun h => h.1) (fun h => .inr (by have := HZ3.out; have := HX3.size; omega)))), Lib.hid ((HB3.out.trans (HX3.mono (by have := HS3.out.base; omega))).trans hB8), Lib.hid ((hK8 _ (Qb9 B4x) (fun h => by have := HSZ2.out; rcases h.1 with h | h; (exact absurd h.2 (by omega)); omega)).trans B4x), Lib.hid (by have := HZ3.out; have := HX3.size; have := hB8.size; omega)⟩
                  · rw [if_neg e3] at h1j
                    have b3 : (c.f2 == 3) = false := beq_eq_false_iff_ne.mpr e3
                    by_cases e4 : c.f2 = 4
                    · rw [if_pos e4] at h1j
                      have b4 : (c.f2 == 4) = true := beq_iff_eq.mpr e4; have H1j := Lib.hid h1j; clear e1 e3 e4 h1j; have hS3 := SolverAt.bound (HS3.out.below HX3)
                      go_wp2_with (go_at_call 78; refine (both_calls X3 B g b _ _ creds st3 st4 c p hS3 H1j.out).mono ?_; rintro e w8 ⟨rfl, hS8, hB8, hK8⟩)
                      go_roundg (creds.length + 1 - (j + 1))
                      case measure => have := HK3.out; have := HJ.out; omega
                      case rel => exact ⟨j + 1, st4, by first | rfl | exact congrArg _ wrapJ, Lib.hid rfl, Lib.hid (by have := HJL.out; omega), Lib.hid H2j.out, Lib.hid (hS8.mono (fun k h => h.elim (fun h => h.1) (fun h => .inr (by have := HZ3.out; have := HX3.size; omega)))), Lib.hid ((HB3.out.trans (HX3.mono (by have := HS3.out.base; omega))).trans hB8), Lib.hid ((hK8 _ (Qb9 B4x) (fun h => by have := HSZ2.out; rcases h.1 with h | h; (exact absurd h.2 (by omega)); omega)).trans B4x), Lib.hid (by have := HZ3.out; have := HX3.size; have := hB8.size; omega)⟩
                    · rw [if_neg e4] at h1j
                      have b4 : (c.f2 == 4) = false := beq_eq_false_iff_ne.mpr e4; have H1j := Lib.hid h1j; clear e1 e3 e4 h1j; have hS3 := SolverAt.bound (HS3.out.below HX3)
                      go_wp2_with (go_at_call 76; refine (include_calls X3 B g b _ _ creds st3 st4 c p hS3 H1j.out).mono ?_; rintro e w8 ⟨rfl, hS8, hB8, hK8⟩)
                      go_roundg (creds.length + 1 - (j + 1))
                      case measure => have := HK3.out; have := HJ.out; omega
                      case rel => exact ⟨j + 1, st4, by first | rfl | exact congrArg _ wrapJ, Lib.hid rfl, Lib.hid (by have := HJL.out; omega), Lib.hid H2j.out, Lib.hid (hS8.mono (fun k h => h.elim (fun h => h.1) (fun h => .inr (by have := HZ3.out; have := HX3.size; omega)))), Lib.hid ((HB3.out.trans (HX3.mono (by have := HS3.out.base; omega))).trans hB8), Lib.hid ((hK8 _ (Qb9 B4x) (fun h => by have := HSZ2.out; rcases h.1 with h | h; (exact absurd h.2 (by omega)); omega)).trans B4x), Lib.hid (by have := HZ3.out; have := HX3.size; have := hB8.size; omega)⟩
              · have d1 : decide ((j : Int) < (creds.length : Int)) = false := decide_eq_false (by omega)
                have d2 : decide (j < creds.length) = false := decide_eq_false hj; have HE := Lib.hid (show j = creds.length by have := HJ.out; omega); clear hj; go_wp2; have hm := HM3.out; rw [HE.out, List.drop_length] at hm; obtain rfl : st3 = st2 := Option.some.inj hm
                go_roundg k1
                case measure => omega
                case rel => exact ⟨st3, Lib.hid H2.out, Lib.hid (HS3.out.mono (fun k h => h.elim (fun h => h.1) (fun h => .inr (by have := HSz.out; have := HSZ2.out; omega)))), Lib.hid (HBt.out.trans HB3.out), Lib.hid (by have := HSz.out; have := HSZ2.out; have := HZ3.out; omega)⟩

def solve_All.f (l0 : List (S46)) : Option (List (S55)) := (Qb3.f l0).bind fun cs => if cs.length ≤ 1000000 then (runF 2000 cs).bind fun s => (if s.known.length ≤ 1000000 then some (sortPairs s.known) else none) else none
theorem solver_made {w w3 : World} {v : Value} {cs : List Cred} (hR : Kd.R kCred 46 w3 w.heap.size (fun _ => True) v cs) (hB : Below w.heap.size w w3) :
    SolverAt ((w3.alloc (.map #[] 0)).alloc (.cells #[v, .map (some w3.heap.size), .slice none 0 0] 93)) w.heap.size (fun _ => True) (w3.heap.size + 1) w3.heap.size v cs [] [] := by
  have h1 := Qak (Below.refl w3.heap.size w3) (.map #[] 0); have h2 := Qak h1 (.cells #[v, .map (some w3.heap.size), .slice none 0 0] 93); refine ⟨.slice none 0 0, ?_, ⟨by have := hB.size; omega, trivial⟩, ⟨hB.size, trivial⟩, Kd.Qau hR h2, ?_, Kd.Q_nil _ _ _ _ _⟩
  · have := Qbf (w3.alloc (.map #[] 0)) (.cells #[v, .map (some w3.heap.size), .slice none 0 0] 93)
    simpa using this
  · exact (Tbl.made encPair okPair w3).below (Qak (Below.refl _ _) _)
set_option maxRecDepth 100000 in
set_option maxHeartbeats 4000000 in
theorem solve_All.calls (A0 : Option Addr) (c0 : Nat) (l0 : List (S46)) (r : List (S55)) (w : World) (hr0 : Kd.C k46 w A0 l0.length l0) (hc0 : l0.length ≤ c0) (h : solve_All.f l0 = some r) :
    Calls Tryz.prog 38 #[.slice A0 l0.length c0] w fun e w' => ∃ v0_ : Value, e = .returned (v0_) ∧ Kd.R k55 55 w' w.heap.size (fun _ => True) v0_ r ∧ Below w.heap.size w w' := by
  unfold solve_All.f at h; obtain ⟨cs, hcs, h⟩ := Option.bind_eq_some_iff.mp h
  by_cases hl : cs.length ≤ 1000000
  · rw [if_pos hl] at h
    obtain ⟨s, hs, h⟩ := Option.bind_eq_some_iff.mp h
    by_cases hk : s.known.length ≤ 1000000
    · rw [if_pos hk] at h
      obtain rfl := Option.some.inj h; have hct := Qb3.calls A0 c0 l0 cs w hr0 hc0 hcs; have HC := Lib.hid hl; have HS := Lib.hid hs; have HK := Lib.hid hk
      have hmk := fun W => run_makeMap (P := Tryz.prog) 63 W
      clear hr0 hc0 h hl hs hk hcs; go_enter Tryz.func38, Tryz.ntmps38
      go_wp2_with (first | (go_at_call 36; refine hct.mono ?_; rintro e w3 ⟨v3, rfl, hR3, hB3⟩; obtain ⟨A3, c3, rfl⟩ := Kd.Qa2 hR3) | (go_at_call 57; refine (run_calls _ w.heap.size (w3.heap.size + 1) w3.heap.size (fun _ => True) _ cs 2000 s (solver_made hR3 hB3) HC.out HS.out).mono ?_; rintro e w5 ⟨rfl, hS5, hB5⟩) | (go_at_call 58; refine (pairs_calls w5 w.heap.size (w3.heap.size + 1) w3.heap.size _ _ cs s hS5 HK.out).mono ?_; rintro e w6 ⟨v6, rfl, hR6, hB6⟩))
      go_ret; have hT := (hB3.trans ((Qak (Qak (Below.refl w3.heap.size w3) _) _).mono hB3.size)).trans hB5; exact ⟨v6, rfl, Kd.Qa7 hR6 hT.size, hT.trans (hB6.mono hT.size)⟩
    · rw [if_neg hk] at h
      cases h
  · rw [if_neg hl] at h
    cases h
end
section
open Go.Maps
attribute [local go_sem high] eqA24
def rndT (T : List (Pair × Int)) : List (Pair × Value) := T.map fun x => (x.1, .int .i64 x.2)
def rnd (T : List (Pair × Int)) (p : Pair) : Int := ((T.find? fun y => decide (y.1 = p)).map (·.2)).getD 0
theorem zeroInt (w : World) : (zeroValue 3).run Tryz.prog w = .ok (.int .i64 0) w := by kernel_rfl
theorem rndT_get (T : List (Pair × Int)) (p : Pair) : (tget (rndT T) p).getD (.int .i64 0) = .int .i64 (rnd T p) := by
  unfold tget rndT rnd
  induction T with
  | nil => rfl
  | cons y T ih =>
    rw [List.map_cons, List.find?_cons, List.find?_cons]; cases decide (y.1 = p)
    · exact ih
    · rfl
abbrev finObj (A0 : Option Addr) (n0 c0 : Nat) (A1 : Option Addr) (n1 c1 b : Nat) : Obj := .cells #[.slice A0 n0 c0, .slice A1 n1 c1, .map (some b)] 59
structure FinD where
  A0 : Option Addr
  c0 : Nat
  creds : List Cred
  A1 : Option Addr
  c1 : Nat
  pairs : List Pair
structure FinAt (w : World) (g b : Nat) (D : FinD) (T : List (Pair × Int)) : Prop where
  blk : w.heap[g]? = some (finObj D.A0 D.creds.length D.c0 D.A1 D.pairs.length D.c1 b)
  cr : Kd.C kCred w D.A0 D.creds.length D.creds
  crc : D.creds.length ≤ D.c0
  pr : Kd.C kPair w D.A1 D.pairs.length D.pairs
  prc : D.pairs.length ≤ D.c1
  tbl : Tbl encPair okPair w b (rndT T)
theorem FinAt.below {w W : World} {g b : Nat} {D : FinD} {T : List (Pair × Int)} (h : FinAt w g b D T) (hb : Below w.heap.size w W) : FinAt W g b D T :=
  ⟨Qac h.blk hb, Kd.Qbc h.cr hb, h.crc, Kd.Qbc h.pr hb, h.prc, h.tbl.below hb⟩
theorem FinAt.cells {w : World} {g b : Nat} {D : FinD} {T : List (Pair × Int)} (h : FinAt w g b D T) : w.cell? ⟨g, 0, none⟩ = some (.slice D.A0 D.creds.length D.c0) ∧ w.cell? ⟨g, 1, none⟩ = some (.slice D.A1 D.pairs.length D.c1) ∧ w.cell? ⟨g, 2, none⟩ = some (.map (some b)) :=
  ⟨(Qam h.blk 0).trans rfl, (Qam h.blk 1).trans rfl, (Qam h.blk 2).trans rfl⟩
theorem FinAt.look {w W : World} {g b : Nat} {D : FinD} {T : List (Pair × Int)} (h : FinAt w g b D T) (hb : Below w.heap.size w W) {p : Pair} (hp : okPair p) (n : Nat) :
    (Instr.lookup 57 (.map (some b)) (.agg #[.string p.f0.f0, .string p.f0.f1, .string p.f1]) false).run Tryz.prog (W.drewN n) = .ok (.int .i64 (rnd T p)) (W.drewN n) := by
  have hl := h.tbl.look pairKey Tryz.underlying57 zeroInt hp false (W.drewN n) (hb.block b h.tbl.lt); refine hl.trans ?_; rw [if_neg (by decide), rndT_get]
def belowF (T : List (Pair × Int)) (p : Pair) (n : Int) : Option Bool := if okPair p then some (decide (0 < rnd T p) && decide (rnd T p < n)) else none
set_option maxRecDepth 100000 in
set_option maxHeartbeats 2000000 in
theorem below_calls (w : World) (g b : Nat) (D : FinD) (T : List (Pair × Int)) (p : Pair) (n : Int) (r : Bool) (hF : FinAt w g b D T) (h : belowF T p n = some r) :
    Calls Tryz.prog 82 #[.pointer (some ⟨g, 0, none⟩), encPair p, .int .i64 n] w fun e w' => e = .returned (.bool r) ∧ Below w.heap.size w w' := by
  unfold belowF at h
  by_cases hp : okPair p
  · rw [if_pos hp] at h
    have hr := Option.some.inj h; unfold encPair; go_enter Tryz.func82, Tryz.ntmps82
    go_upto_region 1 with fail
    change Code.wp _ _ _ _ (w.alloc (pairObj p))
    generalize hW : w.alloc (pairObj p) = W
    obtain ⟨HB, BP⟩ := boxed1 hW; obtain ⟨p0, p1, p2⟩ := pairCells BP; have s2 := (hF.below HB).cells.2.2
    have L := fun m => hF.look HB hp m
    generalize rnd T p = k at hr L
    clear hW h BP
    go_quiet (fail)
    all_goals
      by_cases h1 : 0 < k
      · by_cases h2 : k < n
        · obtain rfl : true = r := by rw [← hr, decide_eq_true h1, decide_eq_true h2]; rfl
          have d1 : decide (0 < k) = true := decide_eq_true h1; have d2 : decide (k < n) = true := decide_eq_true h2; clear h1 h2 hr; go_wp2; go_ret; exact ⟨rfl, by repeat (first | exact HB | apply Qaz | apply Qan)⟩
        · obtain rfl : false = r := by rw [← hr, decide_eq_true h1, decide_eq_false h2]; rfl
          have d1 : decide (0 < k) = true := decide_eq_true h1; have d2 : decide (k < n) = false := decide_eq_false h2; clear h1 h2 hr; go_wp2; go_ret; exact ⟨rfl, by repeat (first | exact HB | apply Qaz | apply Qan)⟩
      · obtain rfl : false = r := by rw [← hr, decide_eq_false h1]; rfl
        have d1 : decide (0 < k) = false := decide_eq_false h1; clear h1 hr; go_wp2; go_ret; exact ⟨rfl, by repeat (first | exact HB | apply Qaz | apply Qan)⟩
  · rw [if_neg hp] at h
    cases h
def finMember (c : Cred) (p : Pair) : Option (List Pair × Bool) := some ([], decide (c.f3 = p.f1))
def Tried (w : World) (r : List Pair × Bool) (e : Ending) (w' : World) : Prop := ∃ v, e = .returned (.tuple #[v, .bool r.2]) ∧ Kd.R kPair 55 w' w.heap.size (fun _ => True) v r.1 ∧ Below w.heap.size w w'
def Tries (f : Nat) (w : World) (g : Nat) (c : Cred) (p : Pair) (n : Int) (r : List Pair × Bool) : Prop := Calls Tryz.prog f #[.pointer (some ⟨g, 0, none⟩), encCred c, encPair p, .int .i64 n] w (Tried w r)
set_option maxRecDepth 100000 in
set_option maxHeartbeats 2000000 in
theorem member_calls (w : World) (g : Nat) (c : Cred) (p : Pair) (n : Int) (r : List Pair × Bool) (h : finMember c p = some r) : Tries 59 w g c p n r := by
  have hr := Option.some.inj h; unfold Tries encPair encCred; go_enter Tryz.func59, Tryz.ntmps59
  go_upto_region 1 with fail
  change Code.wp _ _ _ _ ((w.alloc (credObj c)).alloc (pairObj p))
  generalize hW : (w.alloc (credObj c)).alloc (pairObj p) = W
  obtain ⟨HB, BC, BP, hsz⟩ := boxed2 hW; obtain ⟨c0, c1, c2, c3, c4, c5, c6, c7, c8⟩ := credCells BC; obtain ⟨p0, p1, p2⟩ := pairCells BP; clear hW hsz BC BP h
  by_cases e : c.f3 = p.f1
  · have d := str_t e
    obtain rfl : ([], true) = r := by rw [← hr, decide_eq_true e]
    clear e hr
    go_quiet (fail)
    all_goals
      go_wp2_with fail
      go_ret2
      exact ⟨_, rfl, Kd.R_nil _ _ _ _ _, by repeat (first | exact HB | apply Qaz | apply Qan)⟩
  · have d := str_f e
    obtain rfl : ([], false) = r := by rw [← hr, decide_eq_false e]
    clear e hr
    go_quiet (fail)
    all_goals
      go_wp2_with fail
      go_ret2
      exact ⟨_, rfl, Kd.R_nil _ _ _ _ _, by repeat (first | exact HB | apply Qaz | apply Qan)⟩
theorem R_pairs (W : World) (base : Nat) (hb : base ≤ W.heap.size) (xs : List Pair) (inner : List Value) (hi : inner = xs.flatMap encPairL) (hm : xs.length ≤ 1000000) :
    Kd.R kPair 55 (W.alloc (.cells inner.toArray 55)) base (fun _ => True) (.slice (some ⟨W.heap.size, 0, none⟩) xs.length xs.length) xs := by
  have hrep : Reps (kPair.M (W.alloc (.cells inner.toArray 55)) base (fun k => True ∧ some k ≠ (Value.slice (some ⟨W.heap.size, 0, none⟩) xs.length xs.length).ownBlock)) kPair.sz xs inner := by
    rw [hi]; exact flat_reps flatPair _ _ _ _
  have hlen : xs.length ≤ maxLen := Nat.le_trans hm (by decide); refine ⟨fun _ _ => trivial, inner, ?_, hrep⟩; have h2 := World.ownsRow_lit (base := base) (e := 55) (size := kPair.sz) W inner.toArray xs.length hb hlen (by simpa using hrep.1)
  simpa using h2
theorem R_one (W : World) (base : Nat) (hb : base ≤ W.heap.size) (a : Pair) : Kd.R kPair 55 (W.alloc (pairObj a)) base (fun _ => True) (.slice (some ⟨W.heap.size, 0, none⟩) 1 1) [a] :=
  R_pairs W base hb [a] [.string a.f0.f0, .string a.f0.f1, .string a.f1] rfl (by simp)
abbrev pairObj2 (a b : Pair) : Obj := .cells #[.string a.f0.f0, .string a.f0.f1, .string a.f1, .string b.f0.f0, .string b.f0.f1, .string b.f1] 55
theorem R_two (W : World) (base : Nat) (hb : base ≤ W.heap.size) (a b : Pair) : Kd.R kPair 55 (W.alloc (pairObj2 a b)) base (fun _ => True) (.slice (some ⟨W.heap.size, 0, none⟩) 2 2) [a, b] :=
  R_pairs W base hb [a, b] [.string a.f0.f0, .string a.f0.f1, .string a.f1, .string b.f0.f0, .string b.f0.f1, .string b.f1] rfl (by simp)
def finInclude (T : List (Pair × Int)) (c : Cred) (p : Pair) (n : Int) : Option (List Pair × Bool) := (belowF T ⟨c.f4, p.f1⟩ n).map fun b => ([⟨c.f4, p.f1⟩], b)
set_option maxRecDepth 100000 in
set_option maxHeartbeats 4000000 in
theorem finInclude_calls (w : World) (g b : Nat) (D : FinD) (T : List (Pair × Int)) (c : Cred) (p : Pair) (n : Int) (r : List Pair × Bool) (hF : FinAt w g b D T) (h : finInclude T c p n = some r) : Tries 60 w g c p n r := by
  obtain ⟨x, hx, rfl⟩ := Option.map_eq_some_iff.mp h; unfold Tries encPair encCred; go_enter Tryz.func60, Tryz.ntmps60
  go_upto_region 1 with fail
  change Code.wp _ _ _ _ ((w.alloc (credObj c)).alloc (pairObj p))
  generalize hW : (w.alloc (credObj c)).alloc (pairObj p) = W
  obtain ⟨HB, BC, BP, hsz⟩ := boxed2 hW; obtain ⟨c0, c1, c2, c3, c4, c5, c6, c7, c8⟩ := credCells BC; obtain ⟨p0, p1, p2⟩ := pairCells BP; clear hW hsz h
  go_upto_region 2 with fail
  change Code.wp _ _ _ _ (W.alloc (pairObj ⟨c.f4, p.f1⟩)); have HX := Qak HB (pairObj ⟨c.f4, p.f1⟩); have BA := Qbf W (pairObj ⟨c.f4, p.f1⟩)
  obtain ⟨a, ha⟩ : ∃ a : Pair, a = ⟨c.f4, p.f1⟩ := ⟨_, rfl⟩
  rw [← ha] at hx HX BA ⊢
  obtain ⟨ka, hka⟩ : ∃ ka, ka = W.heap.size := ⟨_, rfl⟩
  rw [← hka] at BA ⊢; have HA := Lib.hid ha; clear c0 c1 c2 c3 c4 c5 c6 c7 c8 p0 p1 p2 BC BP HB ha hka
  generalize W.alloc (pairObj a) = X at HX BA ⊢
  obtain ⟨a0, a1, a2⟩ := pairCells BA
  have HC := fun Y (hY : Below w.heap.size w Y) => below_calls Y g b D T a n x (hF.below hY) hx
  unfold encPair at HC; have HC := Lib.hid HC; clear hF hx BA; have b0 := Qcw a0 (pairObj a); have b1 := Qcw a1 (pairObj a); have b2 := Qcw a2 (pairObj a)
  go_region_with (go_at_call 82; refine (HC.out _ (by repeat (first | exact HX | apply Qaz | apply Qan | apply Qak))).mono ?_; rintro e w5 ⟨rfl, hB5⟩; (try (have z0 := Qbh hB5 a0; have z1 := Qbh hB5 a1; have z2 := Qbh hB5 a2)))
  all_goals
    go_wp2_with fail
    go_ret2
    obtain rfl := HA.out; have HY := Qad (by repeat (first | exact HX | apply Qaz | apply Qan | apply Qak)) hB5
    first
    | exact ⟨.slice (some ⟨X.heap.size, 0, none⟩) 1 1, rfl, Kd.Qau (Kd.QaE (R_one X w.heap.size HX.size _)) hB5, HY⟩
    | exact ⟨.slice (some ⟨w5.heap.size, 0, none⟩) 1 1, rfl, R_one w5 w.heap.size HY.size _, Qak HY _⟩
end
def PairAt (w : World) (k : Nat) (a : Pair) : Prop := w.cell? ⟨k, 0, none⟩ = some (.string a.f0.f0) ∧ w.cell? ⟨k, 1, none⟩ = some (.string a.f0.f1) ∧ w.cell? ⟨k, 2, none⟩ = some (.string a.f1)
theorem PairAt.below {w W : World} {k : Nat} {a : Pair} (h : PairAt w k a) (hb : Below w.heap.size w W) : PairAt W k a := ⟨Qbh hb h.1, Qbh hb h.2.1, Qbh hb h.2.2⟩
def finBoth (T : List (Pair × Int)) (c : Cred) (p : Pair) (n : Int) : Option (List Pair × Bool) :=
  (belowF T ⟨c.f4, p.f1⟩ n).bind fun x => if x = true then (belowF T ⟨c.f5, p.f1⟩ n).map fun y => ([⟨c.f4, p.f1⟩, ⟨c.f5, p.f1⟩], y) else some ([⟨c.f4, p.f1⟩, ⟨c.f5, p.f1⟩], false)
set_option maxRecDepth 100000 in
set_option maxHeartbeats 4000000 in
theorem finBoth_calls (w : World) (g b : Nat) (D : FinD) (T : List (Pair × Int)) (c : Cred) (p : Pair) (n : Int) (r : List Pair × Bool) (hF : FinAt w g b D T) (h : finBoth T c p n = some r) : Tries 62 w g c p n r := by
  unfold Tries encPair encCred; go_enter Tryz.func62, Tryz.ntmps62
  go_upto_region 1 with fail
  change Code.wp _ _ _ _ ((w.alloc (credObj c)).alloc (pairObj p))
  generalize hW : (w.alloc (credObj c)).alloc (pairObj p) = W
  obtain ⟨HB, BC, BP, hsz⟩ := boxed2 hW; obtain ⟨c0, c1, c2, c3, c4, c5, c6, c7, c8⟩ := credCells BC; obtain ⟨p0, p1, p2⟩ := pairCells BP; clear hW
  go_cut [10, 11] from 10 to 21 (fun v10 v11 wc => ∃ k10 k11, v10 = .pointer (some ⟨k10, 0, none⟩) ∧ v11 = .pointer (some ⟨k11, 0, none⟩) ∧ PairAt wc k10 ⟨c.f4, p.f1⟩ ∧ PairAt wc k11 ⟨c.f5, p.f1⟩ ∧ Below W.heap.size W wc)
  case first =>
    have hF := Lib.hid hF; have h := Lib.hid h
    have z1 : w.heap.size < W.heap.size := by omega
    have z2 : w.heap.size + 1 < W.heap.size := by omega
    have HBC := Lib.hid BC; have HBP := Lib.hid BP; have HBB := Lib.hid HB; clear hsz BC BP HB c0 c1 c2 c3 c4 p0 p1
    go_region_held3 (fun w' => w'.cell? ⟨w.heap.size, 5, none⟩ = some (.string c.f4.f0) ∧ w'.cell? ⟨w.heap.size, 6, none⟩ = some (.string c.f4.f1) ∧ w'.cell? ⟨w.heap.size, 7, none⟩ = some (.string c.f5.f0) ∧ w'.cell? ⟨w.heap.size, 8, none⟩ = some (.string c.f5.f1) ∧ w'.cell? ⟨w.heap.size + 1, 2, none⟩ = some (.string p.f1)) (go_keep) ((fail))
    all_goals
      go_wp2_with fail
      go_meet
      case rel => exact ⟨_, _, rfl, rfl, ⟨by simp, by simp, by simp⟩, ⟨by simp, by simp, by simp⟩, by repeat (first | exact Below.refl _ _ | apply Qan | apply Qak | (refine Below.setCell ?_ (by simp) _))⟩
  case rest =>
    obtain ⟨k10, k11, rfl, rfl, PA, PB, HBF⟩ := hcut
    go_upto_region 2 with fail
    have HX := Qad HB HBF; unfold finBoth at h; obtain ⟨x, hx, h⟩ := Option.bind_eq_some_iff.mp h
    obtain ⟨a, ha⟩ : ∃ a : Pair, a = ⟨c.f4, p.f1⟩ := ⟨_, rfl⟩
    obtain ⟨q, hq⟩ : ∃ q : Pair, q = ⟨c.f5, p.f1⟩ := ⟨_, rfl⟩
    rw [← ha] at hx PA h; rw [← hq] at PB h; clear ha hq c0 c1 c2 c3 c4 c5 c6 c7 c8 p0 p1 p2 BC BP HB hsz HBF; have HPA := Lib.hid PA; have HPB := Lib.hid PB; obtain ⟨a0, a1, a2⟩ := PA; obtain ⟨q0, q1, q2⟩ := PB
    have HC1 := fun Y (hY : Below w.heap.size w Y) => below_calls Y g b D T a n x (hF.below hY) hx
    unfold encPair at HC1; have HC1 := Lib.hid HC1; have L10 := Lib.hid (World.block_lt_of_cell? wc _ a0); have L11 := Lib.hid (World.block_lt_of_cell? wc _ q0); have l0 : k10 < wc.heap.size := L10.out; have l1 : k11 < wc.heap.size := L11.out; have HW := Below.refl wc.heap.size wc; have hF' := Lib.hid hF; clear hF; cases x
    · rw [if_neg (by decide)] at h
      obtain rfl := Option.some.inj h; clear hx h; have b0 := Qcw a0 (pairObj2 a q); have b1 := Qcw a1 (pairObj2 a q); have b2 := Qcw a2 (pairObj2 a q); have b3 := Qcw q0 (pairObj2 a q); have b4 := Qcw q1 (pairObj2 a q); have b5 := Qcw q2 (pairObj2 a q); refine Qby (n := 15) (S := fun w' => cg_sss w' k10 a.f0.f0 a.f0.f1 a.f1 (cgl_sss w' k11 q.f0.f0 q.f0.f1 q.f1)) (ds := []) #[ff,ff,ff,ff,ff,ff,ff,ff,ff,ff,ff,ff,ff,ff,ff] (by kernel_rfl) rfl rfl ⟨a0, a1, a2, q0, q1, q2⟩ (fun hHeld => ?_); have HXd := Qan HX; have HWd := Qan HW
      generalize wc.drew = wd at HXd HWd hHeld ⊢
      refine kk6 0 22 ?_; refine kk6 1 23 ?_; refine kz 3 25 ?_; refine kk6 4 26 ?_; refine kz 5 27 ?_; refine two_ (i := 2) (j := 6) (Ni := some 24) (Nj := some 28) #[tt,tt,tt,tt,tt,tt,ff,ff,ff,ff,ff,ff,ff,ff,ff] #[tt,tt,ff,tt,tt,tt,tt,ff,ff,ff,ff,ff,ff,ff,ff] rfl rfl rfl rfl (by kernel_rfl) (by decide) (by decide) (fun K hK => ?_) (fun K hK => ?_)
      · refine value_ (w1 := ?_) (v := ?_) (by rfl) rfl ?_ ?_
        rotate_left 2
        · go_simp
          constructor
          · rfl
          · rfl
        refine hK.out _ _ ⟨QaV hHeld.1 _, QaV hHeld.2.1 _, QaV hHeld.2.2.1 _, QaV hHeld.2.2.2.1 _, QaV hHeld.2.2.2.2.1 _, QaV hHeld.2.2.2.2.2 _⟩ (fun hHeld => ?_); clear hK K; refine QbF (a' := ?_) ?_ ?_; rotate_left
        · show Act.put _ (some 24) _ = _
          simp only [Act.put, put_]; rfl
        refine one_ (i := 6) (N := some 28) #[tt,tt,tt,tt,tt,tt,tt,ff,ff,ff,ff,ff,ff,ff,ff] rfl rfl (by kernel_rfl) (by decide) (fun K hK => ?_); refine Qcs Tryz.func82 (by kernel_rfl) rfl #[.pointer (some ⟨g, 0, none⟩), .agg #[.string a.f0.f0, .string a.f0.f1, .string a.f1], .int .i64 n] (by rfl) rfl rfl (by (try simp only [List.map_toArray, List.map_cons, List.map_nil]); first | done | rfl) ?_
        with_reducible refine (HC1.out _ (Qak HXd _)).mono ?_
        rintro e w5 ⟨rfl, hB5⟩; have HX5 := Qad (Qak HXd _) hB5; have HW5 := Qad (Qak HWd _) hB5; obtain ⟨a50, a51, a52⟩ := HPA.out.below HW5; obtain ⟨q50, q51, q52⟩ := HPB.out.below HW5; refine ⟨_, rfl, ?_⟩; refine hK.out _ _ ⟨a50, a51, a52, q50, q51, q52⟩ (fun hHeld => ?_); clear hK K; refine QbF (a' := ?_) ?_ ?_; rotate_left
        · show Act.put _ (some 28) _ = _
          simp only [Act.put, put_]; rfl
        refine kz 7 29 ?_; refine ku 8 30 ?_; refine ku 9 31 ?_; refine ku 10 32 ?_; refine ku 11 33 ?_; refine kz 12 34 ?_; refine kz 13 8 ?_; refine kz 14 9 ?_; refine QbW (by kernel_rfl) ?_
        go_wp2_with fail
        go_ret2
        exact ⟨.slice (some ⟨wd.heap.size, 0, none⟩) 2 2, rfl, Kd.Qau (R_two wd w.heap.size HXd.size _ _) hB5, HX5⟩
      · refine Qcs Tryz.func82 (by kernel_rfl) rfl #[.pointer (some ⟨g, 0, none⟩), .agg #[.string a.f0.f0, .string a.f0.f1, .string a.f1], .int .i64 n] (by rfl) rfl rfl (by (try simp only [List.map_toArray, List.map_cons, List.map_nil]); first | done | rfl) ?_
        with_reducible refine (HC1.out _ HXd).mono ?_
        rintro e w5 ⟨rfl, hB5⟩; have HX5 := Qad HXd hB5; have HW5 := Qad HWd hB5; obtain ⟨a50, a51, a52⟩ := HPA.out.below HW5; obtain ⟨q50, q51, q52⟩ := HPB.out.below HW5; refine ⟨_, rfl, ?_⟩; refine hK.out _ _ ⟨a50, a51, a52, q50, q51, q52⟩ (fun hHeld => ?_); clear hK K; refine QbF (a' := ?_) ?_ ?_; rotate_left
        · show Act.put _ (some 28) _ = _
          simp only [Act.put, put_]; rfl
        refine kz 7 29 ?_; refine ku 8 30 ?_; refine ku 9 31 ?_; refine ku 10 32 ?_; refine ku 11 33 ?_; refine kz 12 34 ?_; refine one_ (i := 2) (N := some 24) #[tt,tt,tt,tt,tt,tt,tt,tt,tt,tt,tt,tt,tt,ff,ff] rfl rfl (by kernel_rfl) (by decide) (fun K hK => ?_); refine value_ (w1 := ?_) (v := ?_) (by rfl) rfl ?_ ?_; rotate_left 2
        · go_simp
          constructor
          · rfl
          · rfl
        refine hK.out _ _ ⟨QaV hHeld.1 _, QaV hHeld.2.1 _, QaV hHeld.2.2.1 _, QaV hHeld.2.2.2.1 _, QaV hHeld.2.2.2.2.1 _, QaV hHeld.2.2.2.2.2 _⟩ (fun hHeld => ?_); clear hK K; refine QbF (a' := ?_) ?_ ?_; rotate_left
        · show Act.put _ (some 24) _ = _
          simp only [Act.put, put_]; rfl
        refine kz 13 8 ?_; refine kz 14 9 ?_; refine QbW (by kernel_rfl) ?_
        go_wp2_with fail
        go_ret2
        exact ⟨.slice (some ⟨w5.heap.size, 0, none⟩) 2 2, rfl, R_two w5 w.heap.size HX5.size _ _, Qak HX5 _⟩
    · rw [if_pos rfl] at h
      obtain ⟨y, hy, rfl⟩ := Option.map_eq_some_iff.mp h
      have HC2 := fun Y (hY : Below w.heap.size w Y) => below_calls Y g b D T q n y (hF'.out.below hY) hy
      unfold encPair at HC2; have HC2 := Lib.hid HC2; clear hx hy h
      go_region_held3 (fun w' => w'.cell? ⟨k10, 0, none⟩ = some (.string a.f0.f0) ∧ w'.cell? ⟨k10, 1, none⟩ = some (.string a.f0.f1) ∧ w'.cell? ⟨k10, 2, none⟩ = some (.string a.f1) ∧ w'.cell? ⟨k11, 0, none⟩ = some (.string q.f0.f0) ∧ w'.cell? ⟨k11, 1, none⟩ = some (.string q.f0.f1) ∧ w'.cell? ⟨k11, 2, none⟩ = some (.string q.f1)) (go_keep) ((first | (go_at_call 82; first | ((with_reducible refine (HC1.out _ (by repeat (first | exact HX | apply Qan | apply Qak))).mono ?_); rintro e w5 ⟨rfl, hB5⟩; have HX5 := Qad (by repeat (first | exact HX | apply Qan | apply Qak)) hB5; have HW5 := Qad (by repeat (first | exact HW | apply Qan | apply Qak)) hB5; obtain ⟨a50, a51, a52⟩ := HPA.out.below HW5; obtain ⟨q50, q51, q52⟩ := HPB.out.below HW5; have l50 := Nat.lt_of_lt_of_le L10.out HW5.size; have l51 := Nat.lt_of_lt_of_le L11.out HW5.size) | ((with_reducible refine (HC2.out _ (by repeat (first | exact HX5 | apply Qan | apply Qak))).mono ?_); rintro e w6 ⟨rfl, hB6⟩; have HX6 := Qad (by repeat (first | exact HX5 | apply Qan | apply Qak)) hB6; have HW6 := Qad (by repeat (first | exact HW5 | apply Qan | apply Qak)) hB6; obtain ⟨a60, a61, a62⟩ := HPA.out.below HW6; obtain ⟨q60, q61, q62⟩ := HPB.out.below HW6; have l60 := Nat.lt_of_lt_of_le L10.out HW6.size; have l61 := Nat.lt_of_lt_of_le L11.out HW6.size))))
      all_goals
        go_wp2_with fail
        go_ret2
        first
        | exact ⟨.slice (some ⟨wc.heap.size, 0, none⟩) 2 2, rfl, Kd.Qau (Kd.Qau (Kd.QaE (R_two wc w.heap.size HX.size _ _)) hB5) hB6, by repeat (first | exact HX6 | apply Qan | apply Qak)⟩
        | exact ⟨.slice (some ⟨wc.heap.size, 0, none⟩) 2 2, rfl, Kd.Qau (Kd.Qau (R_two wc w.heap.size HX.size _ _) hB5) hB6, by repeat (first | exact HX6 | apply Qan | apply Qak)⟩
        | exact ⟨.slice (some ⟨w5.heap.size, 0, none⟩) 2 2, rfl, Kd.Qau (R_two w5 w.heap.size HX5.size _ _) hB6, by repeat (first | exact HX6 | apply Qan | apply Qak)⟩
        | exact ⟨.slice (some ⟨w5.heap.size, 0, none⟩) 2 2, rfl, Kd.Qau (Kd.QaE (R_two w5 w.heap.size HX5.size _ _)) hB6, by repeat (first | exact HX6 | apply Qan | apply Qak)⟩
        | exact ⟨.slice (some ⟨w6.heap.size, 0, none⟩) 2 2, rfl, R_two w6 w.heap.size HX6.size _ _, by repeat (first | exact HX6 | apply Qan | apply Qak)⟩
        | exact ⟨.slice (some ⟨w6.heap.size, 0, none⟩) 2 2, rfl, Kd.QaE (R_two w6 w.heap.size HX6.size _ _), by repeat (first | exact HX6 | apply Qan | apply Qak)⟩
def finLinkL (T : List (Pair × Int)) (fr : Role) (c : Cred) (p : Pair) (n : Int) : Nat → Int → Option (List Pair × Bool)
  | 0, _ => some ([], false)
  | k + 1, d => (belowF T ⟨fr, domName d⟩ n).bind fun x => (if x = true then belowF T ⟨⟨domName d, c.f5.f1⟩, p.f1⟩ n else some false).bind fun z => if z = true then some ([⟨fr, domName d⟩, ⟨⟨domName d, c.f5.f1⟩, p.f1⟩], true) else finLinkL T fr c p n k (d + 1)
def finLink (T : List (Pair × Int)) (c : Cred) (p : Pair) (n : Int) : Option (List Pair × Bool) := finLinkL T (linkFirst c) c p n 16 1
set_option maxRecDepth 100000 in
set_option maxHeartbeats 4000000 in
theorem finLink_calls (w : World) (g b : Nat) (D : FinD) (T : List (Pair × Int)) (c : Cred) (p : Pair) (n : Int) (r : List Pair × Bool) (hF : FinAt w g b D T) (h : finLink T c p n = some r) : Tries 61 w g c p n r := by
  unfold Tries encPair encCred; unfold finLink at h; go_enter Tryz.func61, Tryz.ntmps61
  go_upto_region 1 with fail
  change Code.wp _ _ _ _ ((w.alloc (credObj c)).alloc (pairObj p))
  generalize hW : (w.alloc (credObj c)).alloc (pairObj p) = W
  obtain ⟨HB, BC, BP, hsz⟩ := boxed2 hW; clear hW
  go_cut [10] from 10 to 22 (fun v wc => ∃ k1, v = .pointer (some ⟨k1, 0, none⟩) ∧ wc.heap[k1]? = some (roleObj2 (linkFirst c)) ∧ Below W.heap.size W wc)
  case first =>
    obtain ⟨c0, c1, c2, c3, c4, c5, c6, c7, c8⟩ := credCells BC; have c0a := Qcw c0 (.cells #[.string ⟨#[]⟩, .string ⟨#[]⟩] 24); have c6a := Qcw c6 (.cells #[.string ⟨#[]⟩, .string ⟨#[]⟩] 24); have hF := Lib.hid hF; have h := Lib.hid h; clear hsz BP HB
    go_region_with (go_at_call 69; refine (Qb1 _ _).mono ?_; rintro e w' ⟨rfl, rfl⟩)
    all_goals
      go_wp2_with fail
      go_meet
      case rel => exact ⟨W.heap.size, rfl, Qah (Qbf W _), Qan (Qak (Below.refl _ _) _)⟩
  case rest =>
    obtain ⟨k1, rfl, BR, HBF⟩ := hcut; have HF := Lib.hid hF; have HBw := Lib.hid (Qad HB HBF); have HBC := Lib.hid (Qac BC HBF); have HBP := Lib.hid (Qac BP HBF); have HBR := Lib.hid BR; have HL := Lib.hid h; clear hF HB BC BP BR HBF hsz h; go_wp2
    go_loopg [11] 17 (fun kq v11 w' => ∃ d : Nat, v11 = .int .i64 d ∧ Hid (kq = 18 - d) ∧ Hid (1 ≤ d) ∧ Hid (d ≤ 17) ∧ Hid (finLinkL T (linkFirst c) c p n (17 - d) d = some r) ∧ Hid (w'.heap[k1]? = some (roleObj2 (linkFirst c))) ∧ Hid (w'.heap[w.heap.size]? = some (credObj c)) ∧ Hid (w'.heap[w.heap.size + 1]? = some (pairObj p)) ∧ Hid (Below w.heap.size w w'))
    case atStart => exact ⟨1, rfl, Lib.hid rfl, Lib.hid (Nat.le_refl _), Lib.hid (by omega), HL, HBR, HBC, HBP, HBw⟩
    case round =>
      clear HBw HBC HBP HBR HL; obtain ⟨d, rfl, HKq, HD0, HD1, HL, HBR, HBC, HBP, HBw⟩ := hrel
      by_cases hd : d < 17
      · have d1 : decide ((d : Int) ≤ 16) = true := decide_eq_true (by omega)
        have d2 : decide (d ≤ 16) = true := decide_eq_true (by omega)
        have wrapI : wrap64 ((d : Int) + 1) = ((d + 1 : Nat) : Int) := by unfold wrap64; omega
        obtain ⟨j, hj⟩ : ∃ j, 17 - d = j + 1 := ⟨16 - d, by omega⟩
        have hL := HL.out; rw [hj, finLinkL] at hL; obtain ⟨x, hx, hL⟩ := Option.bind_eq_some_iff.mp hL; obtain ⟨z, hz, hL⟩ := Option.bind_eq_some_iff.mp hL
        have hnext : z = false → finLinkL T (linkFirst c) c p n (17 - (d + 1)) ((d + 1 : Nat) : Int) = some r := fun e => by
          rw [e, if_neg (by decide)] at hL; rw [show 17 - (d + 1) = j by omega]; exact hL
        have hDm := fun V => Qb1 (d : Int) V
        obtain ⟨y, hy⟩ : ∃ y, y = domName (d : Int) := ⟨_, rfl⟩
        rw [← hy] at hx hz hL; simp only [← hy] at hDm; have HDm := Lib.hid hDm; have HZ := Lib.hid hz; have HXx := Lib.hid hx; have HLL := Lib.hid hL; have HNx := Lib.hid hnext; have HD2 := Lib.hid hd; clear hDm hz hx hL hnext hy hj hd HL; obtain ⟨c0, c1, c2, c3, c4, c5, c6, c7, c8⟩ := credCells HBC.out; obtain ⟨p0, p1, p2⟩ := pairCells HBP.out; obtain ⟨r0, r1⟩ := roleCells2 HBR.out; have l1 : k1 < wr.heap.size := World.block_lt_of_cell? wr _ r0; have l2 : w.heap.size < wr.heap.size := World.block_lt_of_cell? wr _ c0; have l3 : w.heap.size + 1 < wr.heap.size := World.block_lt_of_cell? wr _ p0; clear c0 c1 c2 c3 c4 c5 c6 c7 p0 p1
        go_upto_region 6 with (go_at_call 69; refine (HDm.out _).mono ?_; rintro e w' ⟨rfl, rfl⟩)
        go_cut [13, 14] from 29 to 39 (fun v13 v14 wc => ∃ k13 k14, v13 = .pointer (some ⟨k13, 0, none⟩) ∧ v14 = .pointer (some ⟨k14, 0, none⟩) ∧ PairAt wc k13 ⟨linkFirst c, y⟩ ∧ PairAt wc k14 ⟨⟨y, c.f5.f1⟩, p.f1⟩ ∧ Below wr.heap.size wr wc)
        case first =>
          go_region_held3 (fun w' => w'.cell? ⟨k1, 0, none⟩ = some (.string (linkFirst c).f0) ∧ w'.cell? ⟨k1, 1, none⟩ = some (.string (linkFirst c).f1) ∧ w'.cell? ⟨w.heap.size, 8, none⟩ = some (.string c.f5.f1) ∧ w'.cell? ⟨w.heap.size + 1, 2, none⟩ = some (.string p.f1)) (go_keep) ((fail))
          all_goals
            go_wp2_with fail
            go_meet
            case rel => exact ⟨_, _, rfl, rfl, ⟨by simp, by simp, by simp⟩, ⟨by simp, by simp, by simp⟩, by repeat (first | exact Below.refl _ _ | apply Qan | apply Qak | (refine Below.setCell ?_ (by simp) _))⟩
        case rest =>
          obtain ⟨k13, k14, rfl, rfl, PA, PB, HBF⟩ := hcut; have HX := Qad HBw.out HBF; have HWr := Lib.hid HBF; have HPA := Lib.hid PA; have HPB := Lib.hid PB; obtain ⟨a0, a1, a2⟩ := PA; obtain ⟨q0, q1, q2⟩ := PB; have HW := Below.refl wc.heap.size wc
          have HC1 := fun Y (hY : Below w.heap.size w Y) => below_calls Y g b D T ⟨linkFirst c, y⟩ n x (HF.out.below hY) HXx.out
          unfold encPair at HC1; have HC1 := Lib.hid HC1; clear r0 r1 c8 p2 l1 l2 l3 HBF; cases x
          · obtain rfl : z = false := by have := HZ.out; rw [if_neg (by decide)] at this; exact (Option.some.inj this).symm
            go_wp2_with (go_at_call 82; ((with_reducible refine (HC1.out _ (by repeat (first | exact HX | apply Qaz | apply Qan | apply Qak))).mono ?_); rintro e w5 ⟨rfl, hB5⟩; have HX5 := Qad (by repeat (first | exact HX | apply Qaz | apply Qan | apply Qak)) hB5; have HW5 := Qad (by repeat (first | exact HW | apply Qaz | apply Qan | apply Qak)) hB5; obtain ⟨a50, a51, a52⟩ := HPA.out.below HW5; obtain ⟨q50, q51, q52⟩ := HPB.out.below HW5))
            go_roundg (18 - (d + 1))
            case measure => have := HKq.out; have := HD2.out; omega
            case rel => exact ⟨d + 1, by first | rfl | exact congrArg _ wrapI, Lib.hid rfl, Lib.hid (by omega), Lib.hid HD2.out, Lib.hid (HNx.out (by first | rfl | trivial)), Lib.hid (Qac HBR.out (Qad HWr.out HW5)), Lib.hid (Qac HBC.out (Qad HWr.out HW5)), Lib.hid (Qac HBP.out (Qad HWr.out HW5)), Lib.hid HX5⟩
          · have hz := HZ.out
            rw [if_pos rfl] at hz
            have HC2 := fun Y (hY : Below w.heap.size w Y) => below_calls Y g b D T ⟨⟨y, c.f5.f1⟩, p.f1⟩ n z (HF.out.below hY) hz
            unfold encPair at HC2; have HC2 := Lib.hid HC2; clear hz; cases z
            · go_wp2_with (go_at_call 82; first | ((with_reducible refine (HC1.out _ (by repeat (first | exact HX | apply Qaz | apply Qan | apply Qak))).mono ?_); rintro e w5 ⟨rfl, hB5⟩; have HX5 := Qad (by repeat (first | exact HX | apply Qaz | apply Qan | apply Qak)) hB5; have HW5 := Qad (by repeat (first | exact HW | apply Qaz | apply Qan | apply Qak)) hB5; obtain ⟨a50, a51, a52⟩ := HPA.out.below HW5; obtain ⟨q50, q51, q52⟩ := HPB.out.below HW5) | ((with_reducible refine (HC2.out _ (by repeat (first | exact HX5 | apply Qaz | apply Qan | apply Qak))).mono ?_); rintro e w6 ⟨rfl, hB6⟩; have HX6 := Qad (by repeat (first | exact HX5 | apply Qaz | apply Qan | apply Qak)) hB6; have HW6 := Qad (by repeat (first | exact HW5 | apply Qaz | apply Qan | apply Qak)) hB6; obtain ⟨a60, a61, a62⟩ := HPA.out.below HW6; obtain ⟨q60, q61, q62⟩ := HPB.out.below HW6))
              go_roundg (18 - (d + 1))
              case measure => have := HKq.out; have := HD2.out; omega
              case rel => exact ⟨d + 1, by first | rfl | exact congrArg _ wrapI, Lib.hid rfl, Lib.hid (by omega), Lib.hid HD2.out, Lib.hid (HNx.out (by first | rfl | trivial)), Lib.hid (Qac HBR.out (Qad HWr.out HW6)), Lib.hid (Qac HBC.out (Qad HWr.out HW6)), Lib.hid (Qac HBP.out (Qad HWr.out HW6)), Lib.hid HX6⟩
            · have hL := HLL.out
              rw [if_pos rfl] at hL; obtain rfl := Option.some.inj hL; clear hL HLL HNx
              go_wp2_with (go_at_call 82; first | ((with_reducible refine (HC1.out _ (by repeat (first | exact HX | apply Qaz | apply Qan | apply Qak))).mono ?_); rintro e w5 ⟨rfl, hB5⟩; have HX5 := Qad (by repeat (first | exact HX | apply Qaz | apply Qan | apply Qak)) hB5; have HW5 := Qad (by repeat (first | exact HW | apply Qaz | apply Qan | apply Qak)) hB5; obtain ⟨a50, a51, a52⟩ := HPA.out.below HW5; obtain ⟨q50, q51, q52⟩ := HPB.out.below HW5) | ((with_reducible refine (HC2.out _ (by repeat (first | exact HX5 | apply Qaz | apply Qan | apply Qak))).mono ?_); rintro e w6 ⟨rfl, hB6⟩; have HX6 := Qad (by repeat (first | exact HX5 | apply Qaz | apply Qan | apply Qak)) hB6; have HW6 := Qad (by repeat (first | exact HW5 | apply Qaz | apply Qan | apply Qak)) hB6; obtain ⟨a60, a61, a62⟩ := HPA.out.below HW6; obtain ⟨q60, q61, q62⟩ := HPB.out.below HW6))
              go_ret2
              exact ⟨.slice (some ⟨w6.heap.size, 0, none⟩) 2 2, rfl, R_two w6 w.heap.size HX6.size _ _, Qak HX6 _⟩
      · have d1 : decide ((d : Int) ≤ 16) = false := decide_eq_false (by omega)
        have d2 : decide (d ≤ 16) = false := decide_eq_false (by omega); have hL := HL.out; rw [show 17 - d = 0 by omega, finLinkL] at hL; obtain rfl := Option.some.inj hL; clear hL HL hd; go_wp2
        go_ret2
        exact ⟨_, rfl, Kd.R_nil _ _ _ _ _, HBw.out⟩
section
attribute [local go_sem high] eqA24
def zCred : Cred := ⟨⟨0, 0⟩, ⟨#[]⟩, 0, ⟨#[]⟩, ⟨⟨#[]⟩, ⟨#[]⟩⟩, ⟨⟨#[]⟩, ⟨#[]⟩⟩⟩
theorem Qct {P : Program} {fn : Func} {p u v : Tmp} {ty : TypeId} (h : fn.results = #[.cell p ty, .tmp u, .tmp v]) (tmps : Array Value) (w : World) (g : Nat) (t : TypeId) (cs : Array Value) (fr : Nat × Nat) (d : TypeDesc)
    (hp : tmps.getD p undef = .pointer (some ⟨g, 0, none⟩)) (hg : w.heap[g]? = some (.cells cs t fr))
    (hu : P.underlying ty = some d) (hd : (match d with | .struct _ | .array _ _ => true | _ => false) = true) (hi : (P.info? ty).map (·.size) = some cs.size) :
    (results fn tmps).run P w = .ok (.tuple #[.agg cs, tmps.getD u undef, tmps.getD v undef]) w := by
  have hp' : tmps[p]?.getD undef = .pointer (some ⟨g, 0, none⟩) := by simpa using hp
  simp [results, h, hp', asAddr, run_loadVar_row w g t ty cs fr d hg hu hd hi]
abbrev credStore (W : World) (k : Nat) (x : Cred) : World := ((((((((W.setCell ⟨k, 0, none⟩ (.int .i64 x.f0.f0)).setCell ⟨k, 1, none⟩ (.int .i64 x.f0.f1)).setCell ⟨k, 2, none⟩ (.string x.f1)).setCell ⟨k, 3, none⟩ (.int .i64 x.f2)).setCell ⟨k, 4, none⟩ (.string x.f3)).setCell ⟨k, 5, none⟩ (.string x.f4.f0)).setCell ⟨k, 6, none⟩ (.string x.f4.f1)).setCell ⟨k, 7, none⟩ (.string x.f5.f0)).setCell ⟨k, 8, none⟩ (.string x.f5.f1)
theorem QbG {W : World} {k : Nat} {z : Cred} (h : W.heap[k]? = some (credObj z)) (x : Cred) : (credStore W k x).heap[k]? = some (credObj x) := by
  unfold credStore; have h0 := QaG (cs' := #[.int .i64 x.f0.f0, .int .i64 z.f0.f1, .string z.f1, .int .i64 z.f2, .string z.f3, .string z.f4.f0, .string z.f4.f1, .string z.f5.f0, .string z.f5.f1]) h 0 (.int .i64 x.f0.f0) (by simp); have h1 := QaG (cs' := #[.int .i64 x.f0.f0, .int .i64 x.f0.f1, .string z.f1, .int .i64 z.f2, .string z.f3, .string z.f4.f0, .string z.f4.f1, .string z.f5.f0, .string z.f5.f1]) h0 1 (.int .i64 x.f0.f1) (by simp); have h2 := QaG (cs' := #[.int .i64 x.f0.f0, .int .i64 x.f0.f1, .string x.f1, .int .i64 z.f2, .string z.f3, .string z.f4.f0, .string z.f4.f1, .string z.f5.f0, .string z.f5.f1]) h1 2 (.string x.f1) (by simp); have h3 := QaG (cs' := #[.int .i64 x.f0.f0, .int .i64 x.f0.f1, .string x.f1, .int .i64 x.f2, .string z.f3, .string z.f4.f0, .string z.f4.f1, .string z.f5.f0, .string z.f5.f1]) h2 3 (.int .i64 x.f2) (by simp); have h4 := QaG (cs' := #[.int .i64 x.f0.f0, .int .i64 x.f0.f1, .string x.f1, .int .i64 x.f2, .string x.f3, .string z.f4.f0, .string z.f4.f1, .string z.f5.f0, .string z.f5.f1]) h3 4 (.string x.f3) (by simp); have h5 := QaG (cs' := #[.int .i64 x.f0.f0, .int .i64 x.f0.f1, .string x.f1, .int .i64 x.f2, .string x.f3, .string x.f4.f0, .string z.f4.f1, .string z.f5.f0, .string z.f5.f1]) h4 5 (.string x.f4.f0) (by simp); have h6 := QaG (cs' := #[.int .i64 x.f0.f0, .int .i64 x.f0.f1, .string x.f1, .int .i64 x.f2, .string x.f3, .string x.f4.f0, .string x.f4.f1, .string z.f5.f0, .string z.f5.f1]) h5 6 (.string x.f4.f1) (by simp)
  have h7 := QaG (cs' := #[.int .i64 x.f0.f0, .int .i64 x.f0.f1, .string x.f1, .int .i64 x.f2, .string x.f3, .string x.f4.f0, .string x.f4.f1, .string x.f5.f0, .string z.f5.f1]) h6 7 (.string x.f5.f0) (by simp); have h8 := QaG (cs' := #[.int .i64 x.f0.f0, .int .i64 x.f0.f1, .string x.f1, .int .i64 x.f2, .string x.f3, .string x.f4.f0, .string x.f4.f1, .string x.f5.f0, .string x.f5.f1]) h7 8 (.string x.f5.f1) (by simp); exact h8
theorem credStore_other {W : World} {k i : Nat} (x : Cred) (h : i ≠ k) : (credStore W k x).heap[i]? = W.heap[i]? := by
  unfold credStore
  iterate 9 rw [Below.heap_setCell _ _ _ i h]
theorem Qbu {w W : World} {B k : Nat} (h : Below B w W) (hk : B ≤ k) (x : Cred) : Below B w (credStore W k x) := by
  unfold credStore
  iterate 9 refine Below.setCell ?_ hk _
  exact h
theorem R_credStore {α : Type} {d : Kd α} {e base k : Nat} {ok : Nat → Prop} {W : World} {v : Value} {xs : List α} (h : Kd.R d e W base ok v xs) (hk : k < base) (x : Cred) : Kd.R d e (credStore W k x) base ok v xs :=
  Kd.QaL (Kd.R_move (Kd.QbT h) (fun j hj => credStore_other x (by have := hj.2.1; omega))) (fun _ h => h.1)
def finTry (T : List (Pair × Int)) (c : Cred) (p : Pair) (n : Int) : Option (List Pair × Bool) :=
  if c.f2 = 2 then finInclude T c p n else if c.f2 = 3 then finLink T c p n else if c.f2 = 4 then finBoth T c p n else finMember c p
def finBy (T : List (Pair × Int)) : List Cred → Pair → Int → Option (Option (Cred × List Pair))
  | [], _, _ => some none
  | c :: cs, p, n => if credRole c = p.f0 then (finTry T c p n).bind fun r => if r.2 = true then some (some (c, r.1)) else finBy T cs p n else finBy T cs p n
def byCred (r : Option (Cred × List Pair)) : Cred := match r with | some x => x.1 | none => zCred
def byPairs (r : Option (Cred × List Pair)) : List Pair := match r with | some x => x.2 | none => []
def Byed (w : World) (r : Option (Cred × List Pair)) (e : Ending) (w' : World) : Prop :=
  ∃ v, e = .returned (.tuple #[encCred (byCred r), v, .bool r.isSome]) ∧ Kd.R kPair 55 w' w.heap.size (fun _ => True) v (byPairs r) ∧ Below w.heap.size w w'
set_option maxRecDepth 100000 in
set_option maxHeartbeats 8000000 in
theorem finBy_calls (w : World) (g b : Nat) (D : FinD) (T : List (Pair × Int)) (p : Pair) (n : Int) (r : Option (Cred × List Pair)) (hF : FinAt w g b D T) (hlen : D.creds.length ≤ 1000000) (h : finBy T D.creds p n = some r) :
    Calls Tryz.prog 40 #[.pointer (some ⟨g, 0, none⟩), encPair p, .int .i64 n] w (Byed w r) := by
  unfold encPair; go_enter Tryz.func40, Tryz.ntmps40
  go_upto_region 1 with fail
  change Code.wp _ _ _ _ ((w.alloc (pairObj p)).alloc (credObj zCred))
  generalize hW : (w.alloc (pairObj p)).alloc (credObj zCred) = W
  obtain ⟨HB, BP, BZ, hsz⟩ := boxed2 hW; clear hW; have s0 := (hF.below HB).cells.1
  obtain ⟨A0, hA0⟩ : ∃ A0, A0 = D.A0 := ⟨_, rfl⟩
  obtain ⟨cc, hcc⟩ : ∃ cc, cc = D.c0 := ⟨_, rfl⟩
  obtain ⟨cs, hcs⟩ : ∃ cs, cs = D.creds := ⟨_, rfl⟩
  rw [← hA0, ← hcc, ← hcs] at s0; rw [← hcs] at h hlen; have HCr := Lib.hid (show Kd.C kCred w A0 cs.length cs by rw [hA0, hcs]; exact hF.cr); have HF := Lib.hid hF; have HL := Lib.hid hlen; have HH := Lib.hid h; have HBh := Lib.hid HB; have HBP := Lib.hid BP; have HBZ := Lib.hid BZ; clear hF hlen h HB BP BZ hsz hA0 hcc hcs; go_wp2; clear s0
  go_loopg [19] (cs.length + 1) (fun kq v19 w' => ∃ i : Nat, v19 = .int .i64 i ∧ Hid (kq = cs.length + 1 - i) ∧ Hid (i ≤ cs.length) ∧ Hid (finBy T (cs.drop i) p n = some r) ∧ Hid (w'.heap[w.heap.size]? = some (pairObj p)) ∧ Hid (w'.heap[w.heap.size + 1]? = some (credObj zCred)) ∧ Hid (Below w.heap.size w w'))
  case atStart => exact ⟨0, rfl, Lib.hid rfl, Lib.hid (Nat.zero_le _), HH, HBP, HBZ, HBh⟩
  case round =>
    clear HH HBP HBZ HBh; obtain ⟨i, rfl, HKq, HI, HH, HBP, HBZ, HW⟩ := hrel
    by_cases hi : i < cs.length
    · have d1 : decide ((i : Int) < (cs.length : Int)) = true := decide_eq_true (by omega)
      have d2 : decide (i < cs.length) = true := decide_eq_true hi; obtain ⟨ad, e, hx0, hx1, hx2, hx3, hx4, hx5, hx6, hx7, hx8⟩ := Qcr (Kd.Qbc HCr.out HW.out) (i : Int) (by omega) (by omega); obtain rfl := e
      obtain ⟨x, hx⟩ : ∃ x, x = cs[i] := ⟨_, rfl⟩
      have erd : Qae cs (i : Int) = x := by
        unfold Qae; rw [hx, Int.toNat_natCast, List.getD_eq_getElem?_getD, List.getElem?_eq_getElem hi]; rfl
      rw [erd, Int.toNat_natCast] at hx0 hx1 hx2 hx3 hx4 hx5 hx6 hx7 hx8; have p101 : (0 ≤ (i : Int)) = True := eq_true (by omega); have q101 : ((i : Int) < (cs.length : Int)) = True := eq_true (by omega); have hH := HH.out; rw [List.drop_eq_getElem_cons hi, ← hx, finBy] at hH
      have wrapI : wrap64 ((i : Int) + 1) = ((i + 1 : Nat) : Int) := by unfold wrap64; have := HL.out; omega
      have HIL := Lib.hid hi; clear hx erd hi HH; have HH := Lib.hid hH; clear hH
      go_upto_region 4 with fail
      change Code.wp _ _ _ _ (wr.alloc (credObj x)); have HXa := Qak (Below.refl wr.heap.size wr) (credObj x); have B3 := Qbf wr (credObj x); have WX := Qad HW.out HXa; have BP := Qac HBP.out HXa; have BZ := Qac HBZ.out HXa
      obtain ⟨kx, hkx⟩ : ∃ kx, kx = wr.heap.size := ⟨_, rfl⟩
      rw [← hkx] at B3 ⊢; clear hx0 hx1 hx2 hx3 hx4 hx5 hx6 hx7 hx8 HXa HW HBP HBZ hkx
      generalize wr.alloc (credObj x) = X at B3 WX BP BZ ⊢
      obtain ⟨kc0, kc1, kc2, kc3, kc4, kc5, kc6, kc7, kc8⟩ := credCells B3; obtain ⟨p0, p1, p2⟩ := pairCells BP; have HBX := Lib.hid B3; have HBP := Lib.hid BP; have HBZ := Lib.hid BZ; have HWX := Lib.hid WX
      have HCR := fun V => Qcb x V
      unfold encCred at HCR; have HCR := Lib.hid HCR; have g0 := QaS kc0; have g1 := QaS kc1; have g2 := QaS kc2; have g3 := QaS kc3; have g4 := QaS kc4; have g5 := QaS kc5; have g6 := QaS kc6; have g7 := QaS kc7; have g8 := QaS kc8; have s0 := QaS p0; have s1 := QaS p1; clear B3 WX BP BZ kc0 kc1 kc2 kc3 kc4 kc5 kc6 kc7 kc8 p0 p1 p2
      by_cases e1 : credRole x = p.f0
      · have hH := HH.out
        rw [if_pos e1] at hH; have hb1 := neRole_f e1; clear e1 HH; obtain ⟨rr, hrr, hH⟩ := Option.bind_eq_some_iff.mp hH; have HH := Lib.hid hH; have HRR := Lib.hid hrr; clear hH hrr; refine Qbb (by kernel_rfl) (by kernel_rfl) ?_
        repeat (go_big_quiet_step (with_reducible refine QbY (HCR.out _)))
        refine wpQuiet_nil ?_; rintro _ ⟨u, rfl⟩; replace HWX := Lib.hid (Qad HWX.out u.ok); replace HBX := Lib.hid (Qac HBX.out u.ok); replace HBP := Lib.hid (Qac HBP.out u.ok); replace HBZ := Lib.hid (Qac HBZ.out u.ok); clear g0 g1 g2 g3 g4 g5 g6 g7 g8 s0 s1
        generalize u.now = Y at HWX HBX HBP HBZ ⊢
        clear u; obtain ⟨kc0, kc1, kc2, kc3, kc4, kc5, kc6, kc7, kc8⟩ := credCells HBX.out; obtain ⟨p0, p1, p2⟩ := pairCells HBP.out
        have key : ∀ f, (∀ V, FinAt V g b D T → Tries f V g x p n rr) → ∀ V, Below w.heap.size w V → Calls Tryz.prog f #[.pointer (some ⟨g, 0, none⟩), .agg #[.int .i64 x.f0.f0, .int .i64 x.f0.f1, .string x.f1, .int .i64 x.f2, .string x.f3, .string x.f4.f0, .string x.f4.f1, .string x.f5.f0, .string x.f5.f1], .agg #[.string p.f0.f0, .string p.f0.f1, .string p.f1], .int .i64 n] V (Tried V rr) := fun f hf V hV => hf V (HF.out.below hV)
        have hrr := HRR.out; unfold finTry at hrr
        by_cases k2 : x.f2 = 2
        · rw [if_pos k2] at hrr
          have HT := Lib.hid (key 60 fun V hV => finInclude_calls V g b D T x p n rr hV hrr); have e2 : (x.f2 == 2) = true := beq_iff_eq.mpr k2; have e3 : (x.f2 == 3) = false := beq_eq_false_iff_ne.mpr (by omega); have e4 : (x.f2 == 4) = false := beq_eq_false_iff_ne.mpr (by omega); clear k2 hrr key; obtain ⟨rl, rb⟩ := rr; cases rb
          · have hH := HH.out
            rw [if_neg (by simp)] at hH; replace HH := Lib.hid hH; clear hH HRR
            go_wp2_with (go_at_call 60; (with_reducible refine (HT.out _ HWX.out).mono ?_); rintro e w5 ⟨v5, rfl, hR5, hB5⟩)
            have HX5 := Lib.hid (Qad HWX.out hB5); have HP5 := Lib.hid (Qac HBP.out hB5); have HZ5 := Lib.hid (Qac HBZ.out hB5); clear hR5 hB5
            go_roundg (cs.length + 1 - (i + 1))
            case measure => have := HKq.out; have := HIL.out; omega
            case rel => exact ⟨i + 1, by first | rfl | exact congrArg _ wrapI, Lib.hid rfl, Lib.hid HIL.out, HH, HP5, HZ5, HX5⟩
          · have hH := HH.out
            rw [if_pos rfl] at hH; obtain rfl := Option.some.inj hH; clear hH HH HRR
            go_wp2_with (go_at_call 60; (with_reducible refine (HT.out _ HWX.out).mono ?_); rintro e w5 ⟨v5, rfl, hR5, hB5⟩; obtain ⟨kc0, kc1, kc2, kc3, kc4, kc5, kc6, kc7, kc8⟩ := credCells (Qac HBX.out hB5); obtain ⟨z0, z1, z2, z3, z4, z5, z6, z7, z8⟩ := credCells (Qac HBZ.out hB5); have f0 := Qaj (Qac HBZ.out hB5) 0; have f1 := Qaj (Qac HBZ.out hB5) 1; have f2 := Qaj (Qac HBZ.out hB5) 2; have f3 := Qaj (Qac HBZ.out hB5) 3; have f4 := Qaj (Qac HBZ.out hB5) 4; have f5 := Qaj (Qac HBZ.out hB5) 5; have f6 := Qaj (Qac HBZ.out hB5) 6; have f7 := Qaj (Qac HBZ.out hB5) 7; have f8 := Qaj (Qac HBZ.out hB5) 8)
            have HX5 := Qad HWX.out hB5; have HZ5 := Qac HBZ.out hB5
            have hlt : w.heap.size + 1 < Y.heap.size := by
              have := (Array.getElem?_eq_some_iff.mp HBZ.out).1; exact this
            (try simp only [Exit.inBlock, Exit.then])
            refine bodyPost_ret (Qct rfl _ _ (w.heap.size + 1) 46 #[.int .i64 x.f0.f0, .int .i64 x.f0.f1, .string x.f1, .int .i64 x.f2, .string x.f3, .string x.f4.f0, .string x.f4.f1, .string x.f5.f0, .string x.f5.f1] (0, 0) _ rfl (QbG HZ5 x) Tryz.underlying46 rfl (by kernel_rfl)) rfl ?_; exact ⟨_, rfl, Kd.Qa7 (R_credStore hR5 hlt x) HWX.out.size, Qbu HX5 (by omega) x⟩
        · rw [if_neg k2] at hrr
          have e2 : (x.f2 == 2) = false := beq_eq_false_iff_ne.mpr k2
          by_cases k3 : x.f2 = 3
          · rw [if_pos k3] at hrr
            have HT := Lib.hid (key 61 fun V hV => finLink_calls V g b D T x p n rr hV hrr); have e3 : (x.f2 == 3) = true := beq_iff_eq.mpr k3; have e4 : (x.f2 == 4) = false := beq_eq_false_iff_ne.mpr (by omega); clear k2 k3 hrr key; obtain ⟨rl, rb⟩ := rr; cases rb
            · have hH := HH.out
              rw [if_neg (by simp)] at hH; replace HH := Lib.hid hH; clear hH HRR
              go_wp2_with (go_at_call 61; (with_reducible refine (HT.out _ HWX.out).mono ?_); rintro e w5 ⟨v5, rfl, hR5, hB5⟩)
              have HX5 := Lib.hid (Qad HWX.out hB5); have HP5 := Lib.hid (Qac HBP.out hB5); have HZ5 := Lib.hid (Qac HBZ.out hB5); clear hR5 hB5
              go_roundg (cs.length + 1 - (i + 1))
              case measure => have := HKq.out; have := HIL.out; omega
              case rel => exact ⟨i + 1, by first | rfl | exact congrArg _ wrapI, Lib.hid rfl, Lib.hid HIL.out, HH, HP5, HZ5, HX5⟩
            · have hH := HH.out
              rw [if_pos rfl] at hH; obtain rfl := Option.some.inj hH; clear hH HH HRR
              go_wp2_with (go_at_call 61; (with_reducible refine (HT.out _ HWX.out).mono ?_); rintro e w5 ⟨v5, rfl, hR5, hB5⟩; obtain ⟨kc0, kc1, kc2, kc3, kc4, kc5, kc6, kc7, kc8⟩ := credCells (Qac HBX.out hB5); obtain ⟨z0, z1, z2, z3, z4, z5, z6, z7, z8⟩ := credCells (Qac HBZ.out hB5); have f0 := Qaj (Qac HBZ.out hB5) 0; have f1 := Qaj (Qac HBZ.out hB5) 1; have f2 := Qaj (Qac HBZ.out hB5) 2; have f3 := Qaj (Qac HBZ.out hB5) 3; have f4 := Qaj (Qac HBZ.out hB5) 4; have f5 := Qaj (Qac HBZ.out hB5) 5; have f6 := Qaj (Qac HBZ.out hB5) 6; have f7 := Qaj (Qac HBZ.out hB5) 7; have f8 := Qaj (Qac HBZ.out hB5) 8)
              have HX5 := Qad HWX.out hB5; have HZ5 := Qac HBZ.out hB5
              have hlt : w.heap.size + 1 < Y.heap.size := by
                have := (Array.getElem?_eq_some_iff.mp HBZ.out).1; exact this
              (try simp only [Exit.inBlock, Exit.then])
              refine bodyPost_ret (Qct rfl _ _ (w.heap.size + 1) 46 #[.int .i64 x.f0.f0, .int .i64 x.f0.f1, .string x.f1, .int .i64 x.f2, .string x.f3, .string x.f4.f0, .string x.f4.f1, .string x.f5.f0, .string x.f5.f1] (0, 0) _ rfl (QbG HZ5 x) Tryz.underlying46 rfl (by kernel_rfl)) rfl ?_; exact ⟨_, rfl, Kd.Qa7 (R_credStore hR5 hlt x) HWX.out.size, Qbu HX5 (by omega) x⟩
          · rw [if_neg k3] at hrr
            have e3 : (x.f2 == 3) = false := beq_eq_false_iff_ne.mpr k3
            by_cases k4 : x.f2 = 4
            · rw [if_pos k4] at hrr
              have HT := Lib.hid (key 62 fun V hV => finBoth_calls V g b D T x p n rr hV hrr); have e4 : (x.f2 == 4) = true := beq_iff_eq.mpr k4; clear k2 k3 k4 hrr key; obtain ⟨rl, rb⟩ := rr; cases rb
              · have hH := HH.out
                rw [if_neg (by simp)] at hH; replace HH := Lib.hid hH; clear hH HRR
                go_wp2_with (go_at_call 62; (with_reducible refine (HT.out _ HWX.out).mono ?_); rintro e w5 ⟨v5, rfl, hR5, hB5⟩)
                have HX5 := Lib.hid (Qad HWX.out hB5); have HP5 := Lib.hid (Qac HBP.out hB5); have HZ5 := Lib.hid (Qac HBZ.out hB5); clear hR5 hB5
                go_roundg (cs.length + 1 - (i + 1))
                case measure => have := HKq.out; have := HIL.out; omega
                case rel => exact ⟨i + 1, by first | rfl | exact congrArg _ wrapI, Lib.hid rfl, Lib.hid HIL.out, HH, HP5, HZ5, HX5⟩
              · have hH := HH.out
                rw [if_pos rfl] at hH; obtain rfl := Option.some.inj hH; clear hH HH HRR
                go_wp2_with (go_at_call 62; (with_reducible refine (HT.out _ HWX.out).mono ?_); rintro e w5 ⟨v5, rfl, hR5, hB5⟩; obtain ⟨kc0, kc1, kc2, kc3, kc4, kc5, kc6, kc7, kc8⟩ := credCells (Qac HBX.out hB5); obtain ⟨z0, z1, z2, z3, z4, z5, z6, z7, z8⟩ := credCells (Qac HBZ.out hB5); have f0 := Qaj (Qac HBZ.out hB5) 0; have f1 := Qaj (Qac HBZ.out hB5) 1; have f2 := Qaj (Qac HBZ.out hB5) 2; have f3 := Qaj (Qac HBZ.out hB5) 3; have f4 := Qaj (Qac HBZ.out hB5) 4; have f5 := Qaj (Qac HBZ.out hB5) 5; have f6 := Qaj (Qac HBZ.out hB5) 6; have f7 := Qaj (Qac HBZ.out hB5) 7; have f8 := Qaj (Qac HBZ.out hB5) 8)
                have HX5 := Qad HWX.out hB5; have HZ5 := Qac HBZ.out hB5
                have hlt : w.heap.size + 1 < Y.heap.size := by
                  have := (Array.getElem?_eq_some_iff.mp HBZ.out).1; exact this
                (try simp only [Exit.inBlock, Exit.then])
                refine bodyPost_ret (Qct rfl _ _ (w.heap.size + 1) 46 #[.int .i64 x.f0.f0, .int .i64 x.f0.f1, .string x.f1, .int .i64 x.f2, .string x.f3, .string x.f4.f0, .string x.f4.f1, .string x.f5.f0, .string x.f5.f1] (0, 0) _ rfl (QbG HZ5 x) Tryz.underlying46 rfl (by kernel_rfl)) rfl ?_; exact ⟨_, rfl, Kd.Qa7 (R_credStore hR5 hlt x) HWX.out.size, Qbu HX5 (by omega) x⟩
            · rw [if_neg k4] at hrr
              have HT := Lib.hid (key 59 fun V hV => member_calls V g x p n rr hrr); have e4 : (x.f2 == 4) = false := beq_eq_false_iff_ne.mpr k4; clear k2 k3 k4 hrr key; obtain ⟨rl, rb⟩ := rr; cases rb
              · have hH := HH.out
                rw [if_neg (by simp)] at hH; replace HH := Lib.hid hH; clear hH HRR
                go_wp2_with (go_at_call 59; (with_reducible refine (HT.out _ HWX.out).mono ?_); rintro e w5 ⟨v5, rfl, hR5, hB5⟩)
                have HX5 := Lib.hid (Qad HWX.out hB5); have HP5 := Lib.hid (Qac HBP.out hB5); have HZ5 := Lib.hid (Qac HBZ.out hB5); clear hR5 hB5
                go_roundg (cs.length + 1 - (i + 1))
                case measure => have := HKq.out; have := HIL.out; omega
                case rel => exact ⟨i + 1, by first | rfl | exact congrArg _ wrapI, Lib.hid rfl, Lib.hid HIL.out, HH, HP5, HZ5, HX5⟩
              · have hH := HH.out
                rw [if_pos rfl] at hH; obtain rfl := Option.some.inj hH; clear hH HH HRR
                go_wp2_with (go_at_call 59; (with_reducible refine (HT.out _ HWX.out).mono ?_); rintro e w5 ⟨v5, rfl, hR5, hB5⟩; obtain ⟨kc0, kc1, kc2, kc3, kc4, kc5, kc6, kc7, kc8⟩ := credCells (Qac HBX.out hB5); obtain ⟨z0, z1, z2, z3, z4, z5, z6, z7, z8⟩ := credCells (Qac HBZ.out hB5); have f0 := Qaj (Qac HBZ.out hB5) 0; have f1 := Qaj (Qac HBZ.out hB5) 1; have f2 := Qaj (Qac HBZ.out hB5) 2; have f3 := Qaj (Qac HBZ.out hB5) 3; have f4 := Qaj (Qac HBZ.out hB5) 4; have f5 := Qaj (Qac HBZ.out hB5) 5; have f6 := Qaj (Qac HBZ.out hB5) 6; have f7 := Qaj (Qac HBZ.out hB5) 7; have f8 := Qaj (Qac HBZ.out hB5) 8)
                have HX5 := Qad HWX.out hB5; have HZ5 := Qac HBZ.out hB5
                have hlt : w.heap.size + 1 < Y.heap.size := by
                  have := (Array.getElem?_eq_some_iff.mp HBZ.out).1; exact this
                (try simp only [Exit.inBlock, Exit.then])
                refine bodyPost_ret (Qct rfl _ _ (w.heap.size + 1) 46 #[.int .i64 x.f0.f0, .int .i64 x.f0.f1, .string x.f1, .int .i64 x.f2, .string x.f3, .string x.f4.f0, .string x.f4.f1, .string x.f5.f0, .string x.f5.f1] (0, 0) _ rfl (QbG HZ5 x) Tryz.underlying46 rfl (by kernel_rfl)) rfl ?_; exact ⟨_, rfl, Kd.Qa7 (R_credStore hR5 hlt x) HWX.out.size, Qbu HX5 (by omega) x⟩
      · have hH := HH.out
        rw [if_neg e1] at hH; have hb1 := neRole_t e1; clear e1 HH; have HH := Lib.hid hH; clear hH; refine Qbb (by kernel_rfl) (by kernel_rfl) ?_
        repeat (go_big_quiet_step (with_reducible refine QbY (HCR.out _)))
        refine wpQuiet_nil ?_; rintro _ ⟨u, rfl⟩; replace HWX := Lib.hid (Qad HWX.out u.ok); replace HBX := Lib.hid (Qac HBX.out u.ok); replace HBP := Lib.hid (Qac HBP.out u.ok); replace HBZ := Lib.hid (Qac HBZ.out u.ok); clear g0 g1 g2 g3 g4 g5 g6 g7 g8 s0 s1
        generalize u.now = Y at HWX HBX HBP HBZ ⊢
        clear u; go_wp2
        go_roundg (cs.length + 1 - (i + 1))
        case measure => have := HKq.out; have := HIL.out; omega
        case rel => exact ⟨i + 1, by first | rfl | exact congrArg _ wrapI, Lib.hid rfl, Lib.hid HIL.out, HH, HBP, HBZ, HWX⟩
    · have d1 : decide ((i : Int) < (cs.length : Int)) = false := decide_eq_false (by omega)
      have d2 : decide (i < cs.length) = false := decide_eq_false hi; have hH := HH.out; rw [List.drop_eq_nil_of_le (by omega), finBy] at hH; obtain rfl := Option.some.inj hH; clear hH HH hi; obtain ⟨z0, z1, z2, z3, z4, z5, z6, z7, z8⟩ := credCells HBZ.out; have f0 := Qaj HBZ.out 0; have f1 := Qaj HBZ.out 1; have f2 := Qaj HBZ.out 2; have f3 := Qaj HBZ.out 3; have f4 := Qaj HBZ.out 4; have f5 := Qaj HBZ.out 5; have f6 := Qaj HBZ.out 6; have f7 := Qaj HBZ.out 7; have f8 := Qaj HBZ.out 8; go_wp2
      (try simp only [Exit.inBlock, Exit.then])
      refine bodyPost_ret (Qct rfl _ _ (w.heap.size + 1) 46 #[.int .i64 0, .int .i64 0, .string ⟨#[]⟩, .int .i64 0, .string ⟨#[]⟩, .string ⟨#[]⟩, .string ⟨#[]⟩, .string ⟨#[]⟩, .string ⟨#[]⟩] (0, 0) _ rfl (QbG HBZ.out zCred) Tryz.underlying46 rfl (by kernel_rfl)) rfl ?_; exact ⟨_, rfl, Kd.R_nil _ _ _ _ _, Qbu HW.out (by omega) zCred⟩
end
def finFresh (T : List (Pair × Int)) (creds : List Cred) (n : Int) : List Pair → List Pair → Option (List Pair)
  | [], out => some out
  | p :: ps, out => if okPair p then (if 0 < rnd T p then finFresh T creds n ps out else (finBy T creds p n).bind fun r => if r.isSome = true then finFresh T creds n ps (out ++ [p]) else finFresh T creds n ps out) else none
set_option maxRecDepth 100000 in
set_option maxHeartbeats 8000000 in
theorem finFresh_calls (w : World) (g b : Nat) (D : FinD) (T : List (Pair × Int)) (n : Int) (out : List Pair) (hF : FinAt w g b D T) (hlen : D.creds.length ≤ 1000000) (hlp : D.pairs.length ≤ 1000000) (h : finFresh T D.creds n D.pairs [] = some out) :
    Calls Tryz.prog 39 #[.pointer (some ⟨g, 0, none⟩), .int .i64 n] w fun e w' => ∃ v, e = .returned v ∧ Kd.R kPair 55 w' w.heap.size (fun _ => True) v out ∧ Below w.heap.size w w' := by
  have s1 := hF.cells.2.1
  obtain ⟨A1, hA1⟩ : ∃ A1, A1 = D.A1 := ⟨_, rfl⟩
  obtain ⟨cc, hcc⟩ : ∃ cc, cc = D.c1 := ⟨_, rfl⟩
  obtain ⟨ps, hps⟩ : ∃ ps, ps = D.pairs := ⟨_, rfl⟩
  rw [← hA1, ← hcc, ← hps] at s1; rw [← hps] at h hlp; have HPr := Lib.hid (show Kd.C kPair w A1 ps.length ps by rw [hA1, hps]; exact hF.pr); have HF := Lib.hid hF; have HL := Lib.hid hlp; have HLc := Lib.hid hlen; have HH := Lib.hid h; clear hF hlen hlp h hA1 hcc hps; go_enter Tryz.func39, Tryz.ntmps39; go_wp2; clear s1
  go_loopg [5, 16] (ps.length + 1) (fun kq v5 v16 w' => ∃ (i : Nat) (acc : List Pair), v16 = .int .i64 i ∧ Hid (kq = ps.length + 1 - i) ∧ Hid (i ≤ ps.length) ∧ Hid (acc.length ≤ i) ∧ Hid (finFresh T D.creds n (ps.drop i) acc = some out) ∧ Hid (Kd.R kPair 55 w' w.heap.size (fun _ => True) v5 acc) ∧ Hid (Below w.heap.size w w'))
  case atStart => exact ⟨0, [], rfl, Lib.hid rfl, Lib.hid (Nat.zero_le _), Lib.hid (Nat.le_refl _), HH, Lib.hid (Kd.R_nil _ _ _ _ _), Lib.hid (Below.refl _ _)⟩
  case round =>
    clear HH; obtain ⟨i, acc, rfl, HKq, HI, HA, HH, HR, HW⟩ := hrel
    by_cases hi : i < ps.length
    · have d1 : decide ((i : Int) < (ps.length : Int)) = true := decide_eq_true (by omega)
      have d2 : decide (i < ps.length) = true := decide_eq_true hi; obtain ⟨ad, e, hx0, hx1, hx2⟩ := at_T55 (Kd.Qbc HPr.out HW.out) (i : Int) (by omega) (by omega); obtain rfl := e
      obtain ⟨x, hx⟩ : ∃ x, x = ps[i] := ⟨_, rfl⟩
      have erd : rd_T55 ps (i : Int) = x := by
        unfold rd_T55; rw [hx, Int.toNat_natCast, List.getD_eq_getElem?_getD, List.getElem?_eq_getElem hi]; rfl
      rw [erd, Int.toNat_natCast] at hx0 hx1 hx2; have p101 : (0 ≤ (i : Int)) = True := eq_true (by omega); have q101 : ((i : Int) < (ps.length : Int)) = True := eq_true (by omega); have hH := HH.out; rw [List.drop_eq_getElem_cons hi, ← hx, finFresh] at hH
      by_cases hok : okPair x
      · rw [if_pos hok] at hH
        have wrapI : wrap64 ((i : Int) + 1) = ((i + 1 : Nat) : Int) := by unfold wrap64; have := HL.out; omega
        have HIL := Lib.hid hi; clear hx erd hi HH; have HH := Lib.hid hH; clear hH
        go_upto_region 5 with fail
        change Code.wp _ _ _ _ (wr.alloc (pairObj x)); have HXa := Qak (Below.refl wr.heap.size wr) (pairObj x); have B3 := Qbf wr (pairObj x); have WX := Qad HW.out HXa; have RX := Kd.Qau HR.out HXa
        obtain ⟨kx, hkx⟩ : ∃ kx, kx = wr.heap.size := ⟨_, rfl⟩
        rw [← hkx] at B3 ⊢; clear hx0 hx1 hx2 HXa HW HR hkx
        generalize wr.alloc (pairObj x) = X at B3 WX RX ⊢
        have L := fun m => HF.out.look WX hok m
        have s2 := (HF.out.below WX).cells.2.2; obtain ⟨x0, x1, x2⟩ := pairCells B3; have HB3 := Lib.hid B3; have HWX := Lib.hid WX; have HRX := Lib.hid RX; have hH := HH.out
        generalize hk : rnd T x = k at L hH
        clear hk B3 WX RX HH
        by_cases e1 : 0 < k
        · rw [if_pos e1] at hH
          have HH := Lib.hid hH; have d3 : decide (0 < k) = true := decide_eq_true e1; clear hH e1
          go_quiet (fail)
          all_goals
            go_wp2_with fail
            go_roundg (ps.length + 1 - (i + 1))
            case measure => have := HKq.out; have := HIL.out; omega
            case rel => exact ⟨i + 1, acc, by first | rfl | exact congrArg _ wrapI, Lib.hid rfl, Lib.hid HIL.out, Lib.hid (Nat.le_succ_of_le HA.out), HH, Lib.hid (by repeat (first | exact HRX.out | refine Kd.Qay ?_ _ | refine Kd.QaE ?_)), Lib.hid (by repeat (first | exact HWX.out | apply Qaz | apply Qan))⟩
        · rw [if_neg e1] at hH
          obtain ⟨rr, hrr, hH⟩ := Option.bind_eq_some_iff.mp hH; have HH := Lib.hid hH; have d3 : decide (0 < k) = false := decide_eq_false e1
          have HC := fun V (hV : Below w.heap.size w V) => finBy_calls V g b D T x n rr (HF.out.below hV) HLc.out hrr
          unfold encPair at HC; have HC := Lib.hid HC; clear hH e1 hrr
          go_quiet (fail)
          all_goals
            go_upto_region 7 with (go_at_call 40; (with_reducible refine (HC.out _ (by repeat (first | exact HWX.out | apply Qaz | apply Qan))).mono ?_); rintro e w5 ⟨v5, rfl, hR5, hB5⟩; have HX5 := Qad (by repeat (first | exact HWX.out | apply Qaz | apply Qan)) hB5; have HB5 := Qac (by repeat (first | exact HB3.out | refine Qai ?_ _ | refine Qah ?_)) hB5; have HR5 := Kd.Qau (by repeat (first | exact HRX.out | refine Kd.Qay ?_ _ | refine Kd.QaE ?_)) hB5; unfold encCred)
            change Code.wp _ _ _ _ (w5.alloc (credObj (byCred rr))); have HWZ := Lib.hid (Qak HX5 (credObj (byCred rr))); have BZ := Qag HB5 (credObj (byCred rr)); have HRZ := Lib.hid (Kd.Qax HR5 (credObj (byCred rr))); clear HX5 HB5 HR5 hR5 hB5
            generalize w5.alloc (credObj (byCred rr)) = Z at HWZ BZ HRZ ⊢
            obtain ⟨x0, x1, x2⟩ := pairCells BZ; clear BZ
            generalize hb : rr.isSome = bb at *
            clear hb; cases bb
            · have hH := HH.out
              rw [if_neg (by decide)] at hH; have HH := Lib.hid hH; clear hH; go_wp2
              go_roundg (ps.length + 1 - (i + 1))
              case measure => have := HKq.out; have := HIL.out; omega
              case rel => exact ⟨i + 1, acc, by first | rfl | exact congrArg _ wrapI, Lib.hid rfl, Lib.hid HIL.out, Lib.hid (Nat.le_succ_of_le HA.out), HH, HRZ, HWZ⟩
            · have hH := HH.out
              rw [if_pos rfl] at hH; have HH := Lib.hid hH; clear hH
              go_wp2_with ((with_reducible refine Qa3 (b := .append) (xs := #[.tmp 36, .tmp 38]) rfl ?_); at_builtin; refine Kd.QbB kPair (w0 := w) w.heap.size rfl (.tmp 36) (.tmp 38) 56 55 (.agg #[.string ⟨#[]⟩, .string ⟨#[]⟩, .string ⟨#[]⟩]) 48 rfl Tryz.underlying56 infoPair rfl (by decide) (by omega) _ acc x [.string x.f0.f0, .string x.f0.f1, .string x.f1] (fun _ => True) (fun _ => False) rfl rfl ?aP (fun _ hk => hk.elim) (fun _ _ => trivial) ?aO ?aB ?aS ?aL ?_; (case aP => exact k55_mkM _ _ _ x); (case aB => exact HWZ.out); (case aO => exact HRZ.out); (case aS => exact QaD HWZ.out); (case aL => have := HA.out; have := HIL.out; have := HL.out; omega); intro v2 w2 ho hb hg hat)
              have HO := Lib.hid ho; have HBo := Lib.hid hb
              clear ho hb hg hat
              go_roundg (ps.length + 1 - (i + 1))
              case measure => have := HKq.out; have := HIL.out; omega
              case rel => exact ⟨i + 1, acc ++ [x], by first | rfl | exact congrArg _ wrapI, Lib.hid rfl, Lib.hid HIL.out, Lib.hid (by have := HA.out; simp; omega), HH, HO, HBo⟩
      · rw [if_neg hok] at hH
        cases hH
    · have d1 : decide ((i : Int) < (ps.length : Int)) = false := decide_eq_false (by omega)
      have d2 : decide (i < ps.length) = false := decide_eq_false hi; have hH := HH.out; rw [List.drop_eq_nil_of_le (by omega), finFresh] at hH; obtain rfl := Option.some.inj hH; clear hH HH hi; go_wp2; go_ret; exact ⟨_, rfl, HR.out, HW.out⟩
section
open Go.ChangeMaps (setBlock)
theorem map_turned {W Y : World} {b B : Nat} {O : Obj} (hb : b < W.heap.size) (hY : Y = setBlock W b O) (hB : B ≤ b) : Y.heap.size = W.heap.size ∧ (∀ i, i ≠ b → Y.heap[i]? = W.heap[i]?) ∧ Below B W Y := by
  have hother : ∀ i, i ≠ b → Y.heap[i]? = W.heap[i]? := fun i hi => by rw [hY]; simp [setBlock, Ne.symm hi]
  have hsz : Y.heap.size = W.heap.size := by rw [hY]; show (W.heap.setIfInBounds b O).size = _; simp
  exact ⟨hsz, hother, by rw [hY]; exact ⟨rfl, rfl, rfl, by show W.heap.size ≤ (W.heap.setIfInBounds b O).size; simp, fun i hi => by have := hother i (by omega); rw [hY] at this; exact this⟩⟩
theorem R_turned {α : Type} {d : Kd α} {e : Nat} {W Y : World} {b B : Nat} {v : Value} {xs : List α} {κ : Type} {enc : κ → Value} {ok : κ → Prop} {l : List (κ × Value)} (hR : Kd.R d e W B (fun _ => True) v xs) (hT : Tbl enc ok W b l) (hY : ∀ i, i ≠ b → Y.heap[i]? = W.heap[i]?) : Kd.R d e Y B (fun _ => True) v xs :=
  Kd.QaL (Kd.R_move (Kd.QbT hR) (fun k hk => hY k (fun e => by
    obtain ⟨_, _, _, q, _, cells, hc⟩ := hk; obtain ⟨es, clock, hb, _⟩ := hT; rw [e, hb] at hc
    cases hc))) (fun _ hk => hk.1)

def rput (T : List (Pair × Int)) (p : Pair) (n : Int) : List (Pair × Int) := if T.any (fun y => decide (y.1 = p)) then T.map (fun y => if y.1 = p then (p, n) else y) else T ++ [(p, n)]
theorem rndT_put (T : List (Pair × Int)) (p : Pair) (n : Int) : tput (rndT T) p (.int .i64 n) = rndT (rput T p n) := by
  unfold tput rput rndT; rw [List.any_map]
  by_cases h : (T.any fun y => decide (y.1 = p)) = true
  · have h' : (T.any ((fun y : Pair × Value => decide (y.1 = p)) ∘ fun x : Pair × Int => (x.1, Value.int .i64 x.2))) = true := h
    rw [if_pos h, if_pos h', List.map_map, List.map_map]
    apply List.map_congr_left
    intro y _
    by_cases e : y.1 = p
    · simp [e]
    · simp [e]
  · have h' : ¬ (T.any ((fun y : Pair × Value => decide (y.1 = p)) ∘ fun x : Pair × Int => (x.1, Value.int .i64 x.2))) = true := h
    rw [if_neg h, if_neg h']; simp
theorem rput_length (T : List (Pair × Int)) (p : Pair) (n : Int) : (rput T p n).length ≤ T.length + 1 := by
  unfold rput
  split <;> simp
def rputs (T : List (Pair × Int)) (fr : List Pair) (n : Int) : List (Pair × Int) := fr.foldl (fun T p => rput T p n) T
theorem rputs_length : ∀ (fr : List Pair) (T : List (Pair × Int)) (n : Int), (rputs T fr n).length ≤ T.length + fr.length
  | [], T, n => Nat.le_refl _
  | p :: fr, T, n => by
    have h1 := rputs_length fr (rput T p n) n; have h2 := rput_length T p n
    show (rputs (rput T p n) fr n).length ≤ _
    simp only [List.length_cons]; omega
theorem rputs_snoc {T : List (Pair × Int)} {fr : List Pair} {n : Int} {i : Nat} (h : i < fr.length) : rputs T (fr.take (i + 1)) n = rput (rputs T (fr.take i) n) fr[i] n := by
  rw [List.take_add_one, List.getElem?_eq_getElem h]; unfold rputs; rw [List.foldl_append]; rfl
theorem finFresh_le (T : List (Pair × Int)) (creds : List Cred) (n : Int) : ∀ (ps out r : List Pair), finFresh T creds n ps out = some r → r.length ≤ out.length + ps.length ∧ ((∀ p ∈ out, okPair p) → ∀ p ∈ r, okPair p)
  | [], out, r, h => by
    rw [finFresh] at h; obtain rfl := Option.some.inj h; exact ⟨by simp, fun h => h⟩
  | p :: ps, out, r, h => by
    rw [finFresh] at h
    by_cases hp : okPair p
    · rw [if_pos hp] at h
      by_cases hk : 0 < rnd T p
      · rw [if_pos hk] at h
        have := finFresh_le T creds n ps out r h; exact ⟨by simp; omega, this.2⟩
      · rw [if_neg hk] at h
        obtain ⟨x, hx, h⟩ := Option.bind_eq_some_iff.mp h
        by_cases hs : x.isSome = true
        · rw [if_pos hs] at h
          have := finFresh_le T creds n ps (out ++ [p]) r h; refine ⟨by have := this.1; simp at *; omega, fun ho => this.2 fun q hq => ?_⟩
          rcases List.mem_append.mp hq with hq | hq
          · exact ho q hq
          · rw [List.mem_singleton] at hq
            rw [hq]; exact hp
        · rw [if_neg hs] at h
          have := finFresh_le T creds n ps out r h; exact ⟨by simp; omega, this.2⟩
    · rw [if_neg hp] at h
      cases h
def finRounds (creds : List Cred) (ps : List Pair) : Nat → List (Pair × Int) → Int → Option (List (Pair × Int))
  | 0, _, _ => none
  | k + 1, T, n => if T.length < ps.length then (finFresh T creds n ps []).bind fun fr => finRounds creds ps k (rputs T fr n) (n + 1) else some T
structure FinR (w : World) (B g b : Nat) (D : FinD) (T : List (Pair × Int)) : Prop where
  blk : w.heap[g]? = some (finObj D.A0 D.creds.length D.c0 D.A1 D.pairs.length D.c1 b)
  cr : Kd.R kCred 46 w B (fun _ => True) (.slice D.A0 D.creds.length D.c0) D.creds
  pr : Kd.R kPair 55 w B (fun _ => True) (.slice D.A1 D.pairs.length D.c1) D.pairs
  tbl : Tbl encPair okPair w b (rndT T)
  ne : g ≠ b
theorem FinR.at {w : World} {B g b : Nat} {D : FinD} {T : List (Pair × Int)} (h : FinR w B g b D T) : FinAt w g b D T :=
  ⟨h.blk, (Kd.QaF h.cr).2.2, (Kd.QaF h.cr).2.1, (Kd.QaF h.pr).2.2, (Kd.QaF h.pr).2.1, h.tbl⟩
theorem FinR.below {w W : World} {B g b : Nat} {D : FinD} {T : List (Pair × Int)} (h : FinR w B g b D T) (hb : Below w.heap.size w W) : FinR W B g b D T :=
  ⟨Qac h.blk hb, Kd.Qau h.cr hb, Kd.Qau h.pr hb, h.tbl.below hb, h.ne⟩
theorem FinR.turned {w Y : World} {B g b : Nat} {D : FinD} {T T' : List (Pair × Int)} (h : FinR w B g b D T) (hY : ∀ i, i ≠ b → Y.heap[i]? = w.heap[i]?) (hT : Tbl encPair okPair Y b (rndT T')) : FinR Y B g b D T' :=
  ⟨(hY g h.ne).trans h.blk, R_turned h.cr h.tbl hY, R_turned h.pr h.tbl hY, hT, h.ne⟩
theorem fin_made {w w3 w5 : World} {A0 : Option Addr} {c0 : Nat} {cs : List Cred} {A1 : Option Addr} {c1 : Nat} {ps : List Pair} (h0 : Kd.R kCred 46 w3 w.heap.size (fun _ => True) (.slice A0 cs.length c0) cs) (hB3 : Below w.heap.size w w3)
    (h1 : Kd.R kPair 55 w5 w.heap.size (fun _ => True) (.slice A1 ps.length c1) ps) (hB5 : Below w3.heap.size w3 w5) :
    FinR ((w5.alloc (.map #[] 0)).alloc (finObj A0 cs.length c0 A1 ps.length c1 w5.heap.size)) w.heap.size (w5.heap.size + 1) w5.heap.size ⟨A0, c0, cs, A1, c1, ps⟩ [] := by
  have h2 := Qak (Qak (Below.refl w5.heap.size w5) (.map #[] 0)) (finObj A0 cs.length c0 A1 ps.length c1 w5.heap.size); refine ⟨?_, Kd.Qau (Kd.Qau h0 hB5) h2, Kd.Qau h1 h2, (Tbl.made encPair okPair w5).below (Qak (Below.refl _ _) _), by omega⟩; have := Qbf (w5.alloc (.map #[] 0)) (finObj A0 cs.length c0 A1 ps.length c1 w5.heap.size)
  simpa using this
def foundF (l : List Cred) : Option (List Cred × List Pair × List (Pair × Int)) :=
  (Qb3.f l).bind fun cs => (solve_All.f l).bind fun ps => if cs.length ≤ 1000000 ∧ ps.length ≤ 1000000 then (finRounds cs ps 1000 [] 1).map fun T => (cs, ps, T) else none
def Founded (w : World) (r : List Cred × List Pair × List (Pair × Int)) (e : Ending) (w' : World) : Prop :=
  ∃ g b D, e = .returned (.pointer (some ⟨g, 0, none⟩)) ∧ FinR w' w.heap.size g b D r.2.2 ∧ D.creds = r.1 ∧ D.pairs = r.2.1 ∧ D.creds.length ≤ 1000000 ∧ Below w.heap.size w w'
set_option maxRecDepth 100000 in
set_option maxHeartbeats 8000000 in
theorem found_calls (w : World) (A0 : Option Addr) (c0 : Nat) (l : List Cred) (r : List Cred × List Pair × List (Pair × Int)) (hr0 : Kd.C kCred w A0 l.length l) (hc0 : l.length ≤ c0) (h : foundF l = some r) :
    Calls Tryz.prog 24 #[.slice A0 l.length c0] w (Founded w r) := by
  unfold foundF at h; obtain ⟨cs, hcs, h⟩ := Option.bind_eq_some_iff.mp h; obtain ⟨ps, hps, h⟩ := Option.bind_eq_some_iff.mp h
  by_cases hl : cs.length ≤ 1000000 ∧ ps.length ≤ 1000000
  · rw [if_pos hl] at h
    obtain ⟨Tf, hT, rfl⟩ := Option.map_eq_some_iff.mp h; have hct := Qb3.calls A0 c0 l cs w hr0 hc0 hcs
    have hpt := fun V (hV : Below w.heap.size w V) => solve_All.calls A0 c0 l ps V (Kd.Qbc hr0 hV) hc0 hps
    have HT := Lib.hid hT; have HL := Lib.hid hl; have HP := Lib.hid hpt
    have hmk := fun W => run_makeMap (P := Tryz.prog) 57 W
    clear h hT hl hr0 hc0 hcs hps hpt; go_enter Tryz.func24, Tryz.ntmps24
    go_upto_region 2 with (first | (go_at_call 36; refine hct.mono ?_; rintro e w3 ⟨v3, rfl, hR3, hB3⟩; obtain ⟨A3, c3, rfl⟩ := Kd.Qa2 hR3) | (go_at_call 38; refine (HP.out _ hB3).mono ?_; rintro e w5 ⟨v5, rfl, hR5, hB5⟩; obtain ⟨A5, c5, rfl⟩ := Kd.Qa2 hR5))
    change Code.wp _ _ _ _ ((w5.alloc (.map #[] 0)).alloc (finObj A3 cs.length c3 A5 ps.length c5 w5.heap.size)); have hFR := fin_made (w := w) hR3 hB3 (Kd.Qa7 hR5 hB3.size) hB5; have hWX := Qak (Qak (Qad hB3 hB5) (.map #[] 0)) (finObj A3 cs.length c3 A5 ps.length c5 w5.heap.size); have hbB : w.heap.size ≤ w5.heap.size := (Qad hB3 hB5).size; clear hmk hct hR3 hB3 hR5 hB5 HP; have hgb : w5.heap.size + 1 = w5.heap.size + 1 := rfl
    generalize (w5.alloc (.map #[] 0)).alloc (finObj A3 cs.length c3 A5 ps.length c5 w5.heap.size) = X at hFR hWX ⊢
    clear hgb; have HD := Lib.hid (rfl : (⟨A3, c3, cs, A5, c5, ps⟩ : FinD).creds = cs)
    generalize hg : w5.heap.size + 1 = g at hFR ⊢
    generalize hb : w5.heap.size = b at hFR hbB
    clear hg hb; have HFR := Lib.hid hFR; have HWX := Lib.hid hWX; have HbB := Lib.hid hbB; clear hFR hWX hbB; go_wp2
    go_loopg [4] 1000 (fun kq v4 w' => ∃ (n : Int) (T : List (Pair × Int)), v4 = .int .i64 n ∧ Hid (0 ≤ n ∧ n + kq ≤ 1001) ∧ Hid (finRounds cs ps kq T n = some Tf) ∧ Hid (FinR w' w.heap.size g b ⟨A3, c3, cs, A5, c5, ps⟩ T) ∧ Hid (Below w.heap.size w w'))
    case atStart => exact ⟨1, [], rfl, Lib.hid (by omega), HT, HFR, HWX⟩
    case round =>
      clear HT HFR HWX; obtain ⟨n, T, rfl, HN, HT, HFR, HW⟩ := hrel
      obtain ⟨ko, hko⟩ : ∃ ko, ko = gk := ⟨_, rfl⟩
      rw [← hko] at HN HT
      cases ko with
      | zero => have := HT.out; rw [finRounds] at this; cases this
      | succ ko =>
        have hT := HT.out; rw [finRounds] at hT; obtain ⟨f0, f1, f2⟩ := HFR.out.at.cells
        have LC := fun m => HFR.out.tbl.count Tryz.underlying57 3 (wr.drewN m) rfl
        rw [show (rndT T).length = T.length by unfold rndT; rw [List.length_map]] at LC
        dsimp only at f0 f1
        by_cases hlt : T.length < ps.length
        · rw [if_pos hlt] at hT
          have d1 : decide ((T.length : Int) < (ps.length : Int)) = true := decide_eq_true (by omega); have d2 : decide (T.length < ps.length) = true := decide_eq_true hlt; obtain ⟨fr, hfr, hT⟩ := Option.bind_eq_some_iff.mp hT; obtain ⟨hfl, hfo⟩ := finFresh_le T cs n ps [] fr hfr; have hfo := hfo (fun p hp => by cases hp); have HT := Lib.hid hT; have HFl := Lib.hid hfl; have HFo := Lib.hid hfo; have HTl := Lib.hid hlt; have HC := Lib.hid (fun V (hV : Below wr.heap.size wr V) => finFresh_calls V g b ⟨A3, c3, cs, A5, c5, ps⟩ T n fr (HFR.out.below hV).at HL.out.1 HL.out.2 hfr)
          have wrapN : wrap64 (n + 1) = n + 1 := by unfold wrap64; have := HN.out; omega
          clear hT hfr hfl hfo hlt
          go_upto_region 3 with fail
          go_quiet (fail)
          all_goals
            clear f0 f1 f2 LC
            go_wp2_with (go_at_call 39; refine (HC.out _ (by repeat (first | exact Below.refl _ _ | apply Qaz | apply Qan))).mono ?_; rintro e w5 ⟨v5, rfl, hR5, hB5⟩; have hWW : Below wr.heap.size wr w5 := Qad (by repeat (first | exact Below.refl _ _ | apply Qaz | apply Qan)) hB5; have HR6 := HFR.out.below hWW; have HW6 := Qad (by repeat (first | exact HW.out | apply Qaz | apply Qan)) hB5; have hR6 := Kd.Qa7 hR5 (show w.heap.size ≤ _ from Nat.le_trans HW.out.size (Nat.le_refl _)); obtain ⟨A6, c6, rfl⟩ := Kd.Qa2 hR5)
            have HFR6 := Lib.hid HR6; have HW6h := Lib.hid HW6; have HR6h := Lib.hid hR6; clear hWW HR6 HW6 hR5 hR6 hB5
            go_loopg [31] (fr.length + 1) (fun kq2 v31 w' => ∃ j : Nat, v31 = .int .i64 j ∧ Hid (kq2 = fr.length + 1 - j) ∧ Hid (j ≤ fr.length) ∧ Hid (FinR w' w.heap.size g b ⟨A3, c3, cs, A5, c5, ps⟩ (rputs T (fr.take j) n)) ∧ Hid (Kd.R kPair 55 w' w.heap.size (fun _ => True) (.slice A6 fr.length c6) fr) ∧ Hid (Below w.heap.size w w'))
            case atStart => exact ⟨0, rfl, Lib.hid rfl, Lib.hid (Nat.zero_le _), HFR6, HR6h, HW6h⟩
            case round =>
              clear HFR6 HR6h HW6h; obtain ⟨j, rfl, HKq, HJ, HFj, HRj, HWj⟩ := hrel
              by_cases hj : j < fr.length
              · have d3 : decide ((j : Int) < (fr.length : Int)) = true := decide_eq_true (by omega)
                have d4 : decide (j < fr.length) = true := decide_eq_true hj; obtain ⟨ad, e, hx0, hx1, hx2⟩ := at_T55 (Kd.QaF HRj.out).2.2 (j : Int) (by omega) (by omega); obtain rfl := e
                obtain ⟨x, hx⟩ : ∃ x, x = fr[j] := ⟨_, rfl⟩
                have erd : rd_T55 fr (j : Int) = x := by
                  unfold rd_T55; rw [hx, Int.toNat_natCast, List.getD_eq_getElem?_getD, List.getElem?_eq_getElem hj]; rfl
                rw [erd, Int.toNat_natCast] at hx0 hx1 hx2; have p101 : (0 ≤ (j : Int)) = True := eq_true (by omega); have q101 : ((j : Int) < (fr.length : Int)) = True := eq_true (by omega); have hnext := rputs_snoc (T := T) (n := n) hj; rw [← hx] at hnext; have hokx : okPair x := HFo.out x (by rw [hx]; exact List.getElem_mem hj)
                have wrapJ : wrap64 ((j : Int) + 1) = ((j + 1 : Nat) : Int) := by unfold wrap64; have := HFl.out; have := HL.out.2; simp at *; omega
                have HNx := Lib.hid hnext; have HJl := Lib.hid hj; clear hx erd hnext hj
                go_upto_region 8 with fail
                change Code.wp _ _ _ _ (wr.alloc (pairObj x)); have HX := Qak (Below.refl wr.heap.size wr) (pairObj x); have B3 := Qbf wr (pairObj x); have FX := HFj.out.below HX; have RX := Kd.Qau HRj.out HX; have WX := Qad HWj.out HX; have hbX := HFj.out.tbl.lt
                obtain ⟨O, hu, hT'⟩ := FX.tbl.store pairKey Tryz.underlying57 hokx (.int .i64 n) (by
                  unfold rndT; rw [List.length_map]; have h1 := rputs_length (fr.take j) T n; have h2 := List.length_take_le j fr; have h3 := HJ.out; have h4 := HFl.out; have h5 := HTl.out; have h6 := HL.out.2
                  have : maxLen = 9223372036854775807 := by decide
                  simp only [List.length_nil] at h4
                  omega)
                clear hx0 hx1 hx2; have SZX := Lib.hid (show (wr.alloc (pairObj x)).heap.size = wr.heap.size + 1 by simp)
                generalize wr.alloc (pairObj x) = X at HX B3 FX RX WX hu hT' SZX ⊢
                have hu1 := hu X.drew rfl; unfold encPair at hu1; obtain ⟨f0, f1, f2⟩ := FX.at.cells; obtain ⟨x0, x1, x2⟩ := pairCells B3; have HFX := Lib.hid FX; have HRX := Lib.hid RX; have HWX := Lib.hid WX; have HO := Lib.hid hT'; have HBX := Lib.hid hbX; clear hu B3 FX RX WX hT' hbX HX
                go_still_tail 6, (by kernel_rfl)
                change wpList _ _ _ _ _ X.drew; go_wp2
                go_roundg (fr.length + 1 - (j + 1))
                case measure => have := HKq.out; have := HJl.out; omega
                case rel =>
                  have hlt : b < X.drew.heap.size := by have := HBX.out; have := SZX.out; show b < X.heap.size; omega
                  obtain ⟨hs, ho, hbw⟩ := map_turned (Y := setBlock X.drew b O) (B := w.heap.size) hlt rfl HbB.out; refine ⟨j + 1, by first | rfl | exact congrArg _ wrapJ, Lib.hid rfl, Lib.hid HJl.out, Lib.hid ?_, Lib.hid (R_turned HRX.out HFX.out.tbl ho), Lib.hid (((Qan HWX.out : Below w.heap.size w X.drew)).trans hbw)⟩; rw [HNx.out]; refine HFX.out.turned ho ?_; rw [← rndT_put]; exact HO.out X.drew hlt
              · have d3 : decide ((j : Int) < (fr.length : Int)) = false := decide_eq_false (by omega)
                have d4 : decide (j < fr.length) = false := decide_eq_false hj; have hFe := HFj.out; rw [List.take_of_length_le (by omega)] at hFe; have HFe := Lib.hid hFe; clear hj HFj hFe; go_wp2
                go_roundg ko
                case measure => omega
                case rel => exact ⟨n + 1, rputs T fr n, by first | rfl | exact congrArg _ wrapN, Lib.hid (by have := HN.out; omega), HT, HFe, HWj⟩
        · rw [if_neg hlt] at hT
          obtain rfl := Option.some.inj hT; have d1 : decide ((T.length : Int) < (ps.length : Int)) = false := decide_eq_false (by omega); have d2 : decide (T.length < ps.length) = false := decide_eq_false hlt; clear hT hlt
          go_upto_region 3 with fail
          go_quiet (fail)
          all_goals
            clear f0 f1 f2 LC; go_wp2; go_ret; exact ⟨g, b, ⟨A3, c3, cs, A5, c5, ps⟩, rfl, HFR.out.below (by repeat (first | exact Below.refl _ _ | apply Qaz | apply Qan)), rfl, rfl, HL.out.1, by repeat (first | exact HW.out | apply Qaz | apply Qan)⟩
  · rw [if_neg hl] at h
    cases h
end
section
attribute [local go_sem high] eqA24
abbrev Proof := S30
abbrev kProof := k30
abbrev encProof (p : Proof) (A : Option Addr) (c : Nat) : Value := .agg #[.string p.f0.f0, .string p.f0.f1, .string p.f1, .int .i64 p.f2.f0, .int .i64 p.f2.f1, .slice A p.f3.length c]
abbrev proofObj (p : Proof) (A : Option Addr) (c : Nat) : Obj := .cells #[.string p.f0.f0, .string p.f0.f1, .string p.f1, .int .i64 p.f2.f0, .int .i64 p.f2.f1, .slice A p.f3.length c] 30
theorem proofCells {W : World} {k : Nat} {p : Proof} {A : Option Addr} {c : Nat} (h : W.heap[k]? = some (proofObj p A c)) : W.cell? ⟨k, 0, none⟩ = some (.string p.f0.f0) ∧ W.cell? ⟨k, 1, none⟩ = some (.string p.f0.f1) ∧ W.cell? ⟨k, 2, none⟩ = some (.string p.f1) ∧ W.cell? ⟨k, 3, none⟩ = some (.int .i64 p.f2.f0) ∧ W.cell? ⟨k, 4, none⟩ = some (.int .i64 p.f2.f1) ∧ W.cell? ⟨k, 5, none⟩ = some (.slice A p.f3.length c) :=
  ⟨(Qam h 0).trans rfl, (Qam h 1).trans rfl, (Qam h 2).trans rfl, (Qam h 3).trans rfl, (Qam h 4).trans rfl, (Qam h 5).trans rfl⟩
def pt (p : Proof) (i : Int) : Proof := QbK p.f3 i
theorem part0 {W : World} {A : Option Addr} {p : Proof} (h : Kd.C kProof W A p.f3.length p.f3) (hl : 0 < p.f3.length) : ∃ ad A5 c5, A = some ad ∧ (W.cell? ad = some (.string (pt p 0).f0.f0) ∧ W.cell? ⟨ad.block, ad.off + 1, none⟩ = some (.string (pt p 0).f0.f1) ∧ W.cell? ⟨ad.block, ad.off + 2, none⟩ = some (.string (pt p 0).f1) ∧ W.cell? ⟨ad.block, ad.off + 3, none⟩ = some (.int .i64 (pt p 0).f2.f0) ∧ W.cell? ⟨ad.block, ad.off + 4, none⟩ = some (.int .i64 (pt p 0).f2.f1) ∧ W.cell? ⟨ad.block, ad.off + 5, none⟩ = some (.slice A5 (pt p 0).f3.length c5)) ∧ (pt p 0).f3.length ≤ c5 ∧ Kd.C kProof W A5 (pt p 0).f3.length (pt p 0).f3 := by
  obtain ⟨ad, A5, c5, e, h0, h1, h2, h3, h4, h5, hl5, hi5⟩ := at_T30 h 0 (by omega) (by omega); rw [show ((0 : Int)).toNat * 6 = 0 from rfl, Addr.add_zero'] at h0 h1 h2 h3 h4 h5; exact ⟨ad, A5, c5, e, ⟨h0, h1, h2, h3, h4, h5⟩, hl5, hi5⟩
theorem part1 {W : World} {ad : Addr} {p : Proof} (h : Kd.C kProof W (some ad) p.f3.length p.f3) (hl : 1 < p.f3.length) : ∃ A5 c5, (W.cell? ⟨ad.block, ad.off + 6, none⟩ = some (.string (pt p 1).f0.f0) ∧ W.cell? ⟨ad.block, ad.off + 6 + 1, none⟩ = some (.string (pt p 1).f0.f1) ∧ W.cell? ⟨ad.block, ad.off + 6 + 2, none⟩ = some (.string (pt p 1).f1) ∧ W.cell? ⟨ad.block, ad.off + 6 + 3, none⟩ = some (.int .i64 (pt p 1).f2.f0) ∧ W.cell? ⟨ad.block, ad.off + 6 + 4, none⟩ = some (.int .i64 (pt p 1).f2.f1) ∧ W.cell? ⟨ad.block, ad.off + 6 + 5, none⟩ = some (.slice A5 (pt p 1).f3.length c5)) ∧ (W.cell? ⟨ad.block, ad.off + 7, none⟩ = some (.string (pt p 1).f0.f1) ∧ W.cell? ⟨ad.block, ad.off + 8, none⟩ = some (.string (pt p 1).f1) ∧ W.cell? ⟨ad.block, ad.off + 9, none⟩ = some (.int .i64 (pt p 1).f2.f0) ∧ W.cell? ⟨ad.block, ad.off + 10, none⟩ = some (.int .i64 (pt p 1).f2.f1) ∧ W.cell? ⟨ad.block, ad.off + 11, none⟩ = some (.slice A5 (pt p 1).f3.length c5)) ∧ (pt p 1).f3.length ≤ c5 ∧ Kd.C kProof W A5 (pt p 1).f3.length (pt p 1).f3 := by
  obtain ⟨ad', A5, c5, e, h0, h1, h2, h3, h4, h5, hl5, hi5⟩ := at_T30 h 1 (by omega) (by omega); obtain rfl := Option.some.inj e; exact ⟨A5, c5, ⟨h0, h1, h2, h3, h4, h5⟩, ⟨h1, h2, h3, h4, h5⟩, hl5, hi5⟩
def chkFirst (c : Cred) : Role := ⟨domName c.f0.f0, c.f4.f1⟩
end
def finProofs (F : Pair → Option Proof) : List Pair → List Proof → Option (List Proof)
  | [], out => some out
  | q :: qs, out => (F q).bind fun x => finProofs F qs (out ++ [x])
def finProof (T : List (Pair × Int)) (creds : List Cred) : Nat → Pair → Option Proof
  | 0, _ => none
  | k + 1, p => if okPair p then (finBy T creds p (rnd T p)).bind fun r => if (byPairs r).length ≤ 2 then (finProofs (finProof T creds k) (byPairs r) []).map fun ps => ⟨p.f0, p.f1, (byCred r).f0, ps⟩ else none else none
def Proofed (w : World) (r : Proof) (e : Ending) (w' : World) : Prop :=
  ∃ v, e = .returned (.agg #[.string r.f0.f0, .string r.f0.f1, .string r.f1, .int .i64 r.f2.f0, .int .i64 r.f2.f1, v]) ∧ Kd.R kProof 30 w' w.heap.size (fun _ => True) v r.f3 ∧ Below w.heap.size w w'
theorem R_storeNew {α : Type} {d : Kd α} {e base : Nat} {ok : Nat → Prop} {W : World} {v : Value} {xs : List α} (h : Kd.R d e W base ok v xs) (x : Cred) : Kd.R d e (credStore (W.alloc (credObj zCred)) W.heap.size x) base ok v xs :=
  Kd.QaL (Kd.R_move (Kd.QbT h) (fun k hk => (credStore_other x (Nat.ne_of_lt hk.2.2.1)).trans ((Qak (Below.refl W.heap.size W) _).block k hk.2.2.1))) (fun _ h => h.1)
theorem FinAt.look0 {w W : World} {g b : Nat} {D : FinD} {T : List (Pair × Int)} (h : FinAt w g b D T) (hb : Below w.heap.size w W) {p : Pair} (hp : okPair p) :
    (Instr.lookup 57 (.map (some b)) (.agg #[.string p.f0.f0, .string p.f0.f1, .string p.f1]) false).run Tryz.prog W = .ok (.int .i64 (rnd T p)) W := h.look hb hp 0
theorem infoProof : (Tryz.prog.info? 30).map (fun i => (i.zero, i.size, i.bytes)) = some (some (.agg #[(.string ⟨#[]⟩), (.string ⟨#[]⟩), (.string ⟨#[]⟩), (.int .i64 0), (.int .i64 0), (.slice none 0 0)]), 6, 88) := by kernel_rfl
abbrev outObj (p : Pair) (i : S27) (u : Value) : Obj := .cells #[.string p.f0.f0, .string p.f0.f1, .string p.f1, .int .i64 i.f0, .int .i64 i.f1, u] 30
abbrev zProofObj : Obj := .cells #[.string ⟨#[]⟩, .string ⟨#[]⟩, .string ⟨#[]⟩, .int .i64 0, .int .i64 0, .slice none 0 0] 30
theorem R_zproof {w' : World} {B go kzv : Nat} {u : Value} {acc : List Proof} (h : Kd.R kProof 30 w' B (fun k => k ≠ go) u acc) (hz : kzv < B) (p : Pair) (i : S27) (v : Value) :
    Kd.R kProof 30 ((((((w'.setCell ⟨kzv, 0, none⟩ (.string p.f0.f0)).setCell ⟨kzv, 1, none⟩ (.string p.f0.f1)).setCell ⟨kzv, 2, none⟩ (.string p.f1)).setCell ⟨kzv, 3, none⟩ (.int .i64 i.f0)).setCell ⟨kzv, 4, none⟩ (.int .i64 i.f1)).setCell ⟨kzv, 5, none⟩ v) B (fun _ => True) u acc :=
  Kd.QaL (Kd.R_move (Kd.QbT h) (fun k hk => by
    have hne : k ≠ kzv := by have := hk.2.1; omega
    rw [Below.heap_setCell _ _ _ k hne, Below.heap_setCell _ _ _ k hne, Below.heap_setCell _ _ _ k hne, Below.heap_setCell _ _ _ k hne, Below.heap_setCell _ _ _ k hne, Below.heap_setCell _ _ _ k hne])) (fun _ _ => trivial)
set_option maxRecDepth 100000 in
set_option maxHeartbeats 8000000 in
theorem finProof_calls (g b : Nat) (D : FinD) (T : List (Pair × Int)) (hlen : D.creds.length ≤ 1000000) : ∀ (k : Nat) (w : World) (p : Pair) (r : Proof), FinAt w g b D T → finProof T D.creds k p = some r →
    Calls Tryz.prog 25 #[.pointer (some ⟨g, 0, none⟩), encPair p] w (Proofed w r)
  | 0, w, p, r, hF, h => by rw [finProof] at h; cases h
  | k + 1, w, p, r, hF, h => by
    have IH := Lib.hid (finProof_calls g b D T hlen k); rw [finProof] at h
    by_cases hp : okPair p
    · rw [if_pos hp] at h
      obtain ⟨rr, hrr, h⟩ := Option.bind_eq_some_iff.mp h
      by_cases hl2 : (byPairs rr).length ≤ 2
      case neg => rw [if_neg hl2] at h; cases h
      rw [if_pos hl2] at h; obtain ⟨ps, hps, rfl⟩ := Option.map_eq_some_iff.mp h; have HPS := Lib.hid hps; have HL2 := Lib.hid hl2; clear h hps hl2; unfold encPair; go_enter Tryz.func25, Tryz.ntmps25
      go_upto_region 1 with fail
      change Code.wp _ _ _ _ ((w.alloc (pairObj p)).alloc zProofObj)
      generalize hW : (w.alloc (pairObj p)).alloc zProofObj = V
      obtain ⟨HV, BP, BZ, hsz⟩ := boxed2 hW; obtain ⟨p0, p1, p2⟩ := pairCells BP; have s2 := (hF.below HV).cells.2.2; have HBP := Lib.hid BP; have HBZ := Lib.hid BZ; have HBV := Lib.hid HV; have HFV := Lib.hid (hF.below HV); have HLk := Lib.hid (fun W (h : Below V.heap.size V W) => HFV.out.look0 h hp)
      have HC := fun W (h : Below V.heap.size V W) => finBy_calls W g b D T p (rnd T p) rr (HFV.out.below h) hlen hrr
      unfold encPair at HC; have HC := Lib.hid HC; clear hF hrr hsz hW BP BZ HV
      go_cut [5, 6] from 7 to 23 (fun v5 v6 wc => ∃ kc v, v5 = .pointer (some ⟨kc, 0, none⟩) ∧ v6 = v ∧ wc.heap[kc]? = some (credObj (byCred rr)) ∧ Kd.R kPair 55 wc V.heap.size (fun _ => True) v (byPairs rr) ∧ wc.heap[w.heap.size]? = some (pairObj p) ∧ wc.heap[w.heap.size + 1]? = some zProofObj ∧ Below V.heap.size V wc)
      case first =>
        refine Qby (n := 17) (S := fun w' => w'.cell? ⟨w.heap.size, 0, none⟩ = some (.string p.f0.f0) ∧ w'.cell? ⟨w.heap.size, 1, none⟩ = some (.string p.f0.f1) ∧ w'.cell? ⟨w.heap.size, 2, none⟩ = some (.string p.f1) ∧ w'.cell? ⟨g, 2, none⟩ = some (.map (some b)) ∧ Below V.heap.size V w') (ds := []) #[ff,ff,ff,ff,ff,ff,ff,ff,ff,ff,ff,ff,ff,ff,ff,ff,ff] (by kernel_rfl) rfl rfl ⟨p0, p1, p2, s2, Qan (Below.refl _ _)⟩ (fun hHeld => ?_); clear p0 p1 p2 s2
        generalize V.drew = wd at hHeld ⊢
        refine kz 0 12 ?_; refine take_ (i := 1) (N := some 13) (v := ?_) (a' := ?_) #[tt,tt,ff,ff,ff,ff,ff,ff,ff,ff,ff,ff,ff,ff,ff,ff,ff] rfl rfl (by kernel_rfl) (fun _ _ _ h => h) (Or.inl ⟨by rfl, ?_⟩) hHeld ?_ ?_; rotate_left
        · rintro w' ⟨s0, s1, s2, s3, sB⟩
          go_simp; (with_reducible rfl)
        rotate_left
        · simp only [Act.put, put_]
          rfl
        refine kz 2 14 ?_; refine kz 3 15 ?_; refine kz 4 16 ?_; refine take_ (i := 5) (N := some 17) (v := ?_) (a' := ?_) #[tt,tt,tt,tt,tt,tt,ff,ff,ff,ff,ff,ff,ff,ff,ff,ff,ff] rfl rfl (by kernel_rfl) (fun _ _ _ h => h) (Or.inl ⟨by rfl, ?_⟩) hHeld ?_ ?_; rotate_left
        · rintro w' ⟨s0, s1, s2, s3, sB⟩
          go_simp; (with_reducible rfl)
        rotate_left
        · simp only [Act.put, put_]
          rfl
        refine take_ (i := 6) (N := some 18) (v := ?_) (a' := ?_) #[tt,tt,tt,tt,tt,tt,tt,ff,ff,ff,ff,ff,ff,ff,ff,ff,ff] rfl rfl (by kernel_rfl) (fun _ _ _ h => h) (Or.inl ⟨by rfl, ?_⟩) hHeld ?_ ?_; rotate_left
        · rintro w' ⟨s0, s1, s2, s3, sB⟩
          go_simp; (with_reducible rfl)
        rotate_left
        · simp only [Act.put, put_]
          rfl
        refine take_ (i := 7) (N := some 19) (v := ?_) (a' := ?_) #[tt,tt,tt,tt,tt,tt,tt,tt,ff,ff,ff,ff,ff,ff,ff,ff,ff] rfl rfl (by kernel_rfl) (fun _ _ _ h => h) (Or.inl ⟨by rfl, ?_⟩) hHeld ?_ ?_; rotate_left
        · rintro w' ⟨s0, s1, s2, s3, sB⟩
          have hl := HLk.out w' sB; go_simp; rfl
        rotate_left
        · simp only [Act.put, put_]
          rfl
        refine two_ (i := 8) (j := 13) (Ni := some 20) (Nj := some 5) #[tt,tt,tt,tt,tt,tt,tt,tt,tt,ff,ff,ff,ff,ff,ff,ff,ff] #[tt,tt,tt,tt,tt,tt,tt,tt,ff,ff,ff,ff,ff,tt,ff,ff,ff] rfl rfl rfl rfl (by kernel_rfl) (by decide) (by decide) (fun K hK => ?_) (fun K hK => ?_)
        · have hwd : V.heap.size ≤ wd.heap.size := hHeld.2.2.2.2.size
          refine Qcs Tryz.func40 (by kernel_rfl) rfl #[.pointer (some ⟨g, 0, none⟩), .agg #[.string p.f0.f0, .string p.f0.f1, .string p.f1], .int .i64 (rnd T p)] (by rfl) rfl rfl (by (try simp only [List.map_toArray, List.map_cons, List.map_nil]); first | done | rfl) ?_
          with_reducible refine (HC.out _ hHeld.2.2.2.2).mono ?_
          rintro e w5 ⟨v5, rfl, hR5, hB5⟩; have HV5 := Qad hHeld.2.2.2.2 hB5; obtain ⟨p0, p1, p2⟩ := pairCells (Qac HBP.out HV5); have s2 := (HFV.out.below HV5).cells.2.2; unfold encCred; refine ⟨_, rfl, ?_⟩; refine hK.out _ _ ⟨p0, p1, p2, s2, HV5⟩ (fun hHeld => ?_); clear hK K; refine QbF (a' := ?_) ?_ ?_; rotate_left
          · show Act.put _ (some 20) _ = _
            simp only [Act.put, put_]; rfl
          refine kz 9 11 ?_; refine kz 10 21 ?_; refine kz 11 22 ?_; refine kz 12 23 ?_; refine one_ (i := 13) (N := some 5) #[tt,tt,tt,tt,tt,tt,tt,tt,tt,tt,tt,tt,tt,tt,ff,ff,ff] rfl rfl (by kernel_rfl) (by decide) (fun K hK => ?_); refine value_ (w1 := ?_) (v := ?_) (by rfl) rfl ?_ ?_; rotate_left 2
          · go_simp
            constructor
            · rfl
            · rfl
          have HV6 := Qak HV5 (credObj zCred); refine hK.out _ _ ⟨QaV p0 _, QaV p1 _, QaV p2 _, QaV s2 _, HV6⟩ (fun hHeld => ?_); clear hK K; refine QbF (a' := ?_) ?_ ?_; rotate_left
          · show Act.put _ (some 5) _ = _
            simp only [Act.put, put_]; rfl
          change wpAnyLast _ _ _ _ _ _ _ _ _ (w5.alloc (credObj zCred)); have BC := Qbf w5 (credObj zCred); have hkc : V.heap.size ≤ w5.heap.size := HV5.size; have RX := Kd.Qa7 (R_storeNew hR5 (byCred rr)) hwd; clear hHeld
          generalize w5.alloc (credObj zCred) = Z at BC RX HV6 ⊢
          generalize w5.heap.size = kc at BC RX hkc ⊢
          obtain ⟨kc0, kc1, kc2, kc3, kc4, kc5, kc6, kc7, kc8⟩ := credCells BC; have kf0 := Qaj BC 0; have kf1 := Qaj BC 1; have kf2 := Qaj BC 2; have kf3 := Qaj BC 3; have kf4 := Qaj BC 4; have kf5 := Qaj BC 5; have kf6 := Qaj BC 6; have kf7 := Qaj BC 7; have kf8 := Qaj BC 8; have HVs := Qbu HV6 hkc (byCred rr); obtain ⟨p0, p1, p2⟩ := pairCells (Qac HBP.out HVs); have s2 := (HFV.out.below HVs).cells.2.2; refine one_ (i := 14) (N := none) #[tt,tt,tt,tt,tt,tt,tt,tt,tt,tt,tt,tt,tt,tt,tt,ff,ff] rfl rfl (by kernel_rfl) (by decide) (fun K hK => ?_); refine skip_ (w1 := credStore Z kc (byCred rr)) (by rfl) rfl ?_ ?_
          · go_simp
            try rfl
          refine hK.out _ _ ⟨p0, p1, p2, s2, HVs⟩ (fun hHeld => ?_); clear hK K; refine kz 15 6 ?_; refine kz 16 7 ?_; refine QbW (by kernel_rfl) ?_; have BS := QbG BC (byCred rr); have PS := Qac HBP.out HVs; have ZS := Qac HBZ.out HVs
          go_wp2_with fail
          go_meet
          case rel => exact ⟨kc, _, rfl, rfl, BS, RX, PS, ZS, HVs⟩
        · refine value_ (w1 := ?_) (v := ?_) (by rfl) rfl ?_ ?_
          rotate_left 2
          · go_simp
            constructor
            · rfl
            · rfl
          have HV4 := Qak hHeld.2.2.2.2 (credObj zCred); have BC4 := Qbf wd (credObj zCred); have hkc : V.heap.size ≤ wd.heap.size := hHeld.2.2.2.2.size; refine hK.out _ _ ⟨QaV hHeld.1 _, QaV hHeld.2.1 _, QaV hHeld.2.2.1 _, QaV hHeld.2.2.2.1 _, HV4⟩ (fun hHeld => ?_); clear hK K; refine QbF (a' := ?_) ?_ ?_; rotate_left
          · show Act.put _ (some 5) _ = _
            simp only [Act.put, put_]; rfl
          change wpAnyLast _ _ _ _ _ _ _ _ _ (wd.alloc (credObj zCred)); refine one_ (i := 8) (N := some 20) #[tt,tt,tt,tt,tt,tt,tt,tt,tt,ff,ff,ff,ff,tt,ff,ff,ff] rfl rfl (by kernel_rfl) (by decide) (fun K hK => ?_); refine Qcs Tryz.func40 (by kernel_rfl) rfl #[.pointer (some ⟨g, 0, none⟩), .agg #[.string p.f0.f0, .string p.f0.f1, .string p.f1], .int .i64 (rnd T p)] (by rfl) rfl rfl (by (try simp only [List.map_toArray, List.map_cons, List.map_nil]); first | done | rfl) ?_
          with_reducible refine (HC.out _ HV4).mono ?_
          rintro e w5 ⟨v5, rfl, hR5, hB5⟩; have HV5 := Qad HV4 hB5; obtain ⟨p0, p1, p2⟩ := pairCells (Qac HBP.out HV5); have s2 := (HFV.out.below HV5).cells.2.2; have BC := Qac BC4 hB5; unfold encCred; refine ⟨_, rfl, ?_⟩; refine hK.out _ _ ⟨p0, p1, p2, s2, HV5⟩ (fun hHeld => ?_); clear hK K; refine QbF (a' := ?_) ?_ ?_; rotate_left
          · show Act.put _ (some 20) _ = _
            simp only [Act.put, put_]; rfl
          refine kz 9 11 ?_; refine kz 10 21 ?_; refine kz 11 22 ?_; refine kz 12 23 ?_; have RX := R_credStore hR5 (show wd.heap.size < (wd.alloc (credObj zCred)).heap.size by simp) (byCred rr); replace RX := Kd.Qa7 RX HV4.size; have HV6 := Qad HV4 hB5; clear hHeld p0 p1 p2 s2 HV4 BC4 hR5
          generalize w5 = Z at BC RX HV6 ⊢
          generalize wd.heap.size = kc at BC RX hkc ⊢
          obtain ⟨kc0, kc1, kc2, kc3, kc4, kc5, kc6, kc7, kc8⟩ := credCells BC; have kf0 := Qaj BC 0; have kf1 := Qaj BC 1; have kf2 := Qaj BC 2; have kf3 := Qaj BC 3; have kf4 := Qaj BC 4; have kf5 := Qaj BC 5; have kf6 := Qaj BC 6; have kf7 := Qaj BC 7; have kf8 := Qaj BC 8; have HVs := Qbu HV6 hkc (byCred rr); obtain ⟨p0, p1, p2⟩ := pairCells (Qac HBP.out HVs); have s2 := (HFV.out.below HVs).cells.2.2; refine one_ (i := 14) (N := none) #[tt,tt,tt,tt,tt,tt,tt,tt,tt,tt,tt,tt,tt,tt,tt,ff,ff] rfl rfl (by kernel_rfl) (by decide) (fun K hK => ?_); refine skip_ (w1 := credStore Z kc (byCred rr)) (by rfl) rfl ?_ ?_
          · go_simp
            try rfl
          refine hK.out _ _ ⟨p0, p1, p2, s2, HVs⟩ (fun hHeld => ?_); clear hK K; refine kz 15 6 ?_; refine kz 16 7 ?_; refine QbW (by kernel_rfl) ?_; have BS := QbG BC (byCred rr); have PS := Qac HBP.out HVs; have ZS := Qac HBZ.out HVs
          go_wp2_with fail
          go_meet
          case rel => exact ⟨kc, _, rfl, rfl, BS, RX, PS, ZS, HVs⟩
      case rest =>
        obtain ⟨kc, v6, rfl, rfl, BC, HR6, BP, BZ, HVc⟩ := hcut; clear HC HLk; have HFW := Lib.hid (fun W (h : Below V.heap.size V W) => HFV.out.below h); clear HFV
        obtain ⟨qs, hqs⟩ : ∃ qs, qs = byPairs rr := ⟨_, rfl⟩
        rw [← hqs] at HPS HL2 HR6; obtain ⟨p0, p1, p2⟩ := pairCells BP; obtain ⟨c0, c1, c2, c3, c4, c5, c6, c7, c8⟩ := credCells BC; obtain ⟨A6, cc6, rfl⟩ := Kd.Qa2 HR6
        go_upto_region 3 with fail
        change Code.wp _ _ _ _ (wc.alloc (outObj p (byCred rr).f0 (.slice none 0 0))); have HX := Qak HVc (outObj p (byCred rr).f0 (.slice none 0 0)); have BO := Qbf wc (outObj p (byCred rr).f0 (.slice none 0 0)); have RX := Kd.Qax HR6 (outObj p (byCred rr).f0 (.slice none 0 0)); have BZX := Qac BZ (Qak (Below.refl wc.heap.size wc) (outObj p (byCred rr).f0 (.slice none 0 0))); have hgo := HVc.size; have hzV : w.heap.size + 1 < V.heap.size := Qb9 HBZ.out; clear HVc HR6 BZ BP BC p0 p1 p2 c0 c1 c2 c3 c4 c5 c6 c7 c8 hqs HBP HBZ
        generalize wc.alloc (outObj p (byCred rr).f0 (.slice none 0 0)) = X at HX BO RX BZX ⊢
        generalize wc.heap.size = go at BO hgo ⊢
        have HGO := Lib.hid hgo; have HZV := Lib.hid hzV; have HRX := Lib.hid RX; have HBO := Lib.hid BO; have HBX := Lib.hid BZX; have HWX := Lib.hid HX; clear hgo hzV RX BO BZX HX; go_wp2
        go_loopg [33] (qs.length + 1) (fun kq v33 w' => ∃ (j : Nat) (acc : List Proof) (u : Value), v33 = .int .i64 j ∧ Hid (kq = qs.length + 1 - j) ∧ Hid (j ≤ qs.length) ∧ Hid (acc.length = j) ∧ Hid (finProofs (finProof T D.creds k) (qs.drop j) acc = some ps) ∧ Hid (Kd.R kPair 55 w' V.heap.size (fun _ => True) (.slice A6 qs.length cc6) qs) ∧ Hid (Kd.R kProof 30 w' V.heap.size (fun k => k ≠ go) u acc) ∧ Hid (w'.heap[go]? = some (outObj p (byCred rr).f0 u)) ∧ Hid (w'.heap[w.heap.size + 1]? = some zProofObj) ∧ Hid (Below V.heap.size V w'))
        case atStart => exact ⟨0, [], .slice none 0 0, rfl, Lib.hid rfl, Lib.hid (Nat.zero_le _), Lib.hid rfl, HPS, HRX, Lib.hid (Kd.R_nil _ _ _ _ _), HBO, HBX, HWX⟩
        case round =>
          clear HPS HRX HBO HBX HWX; obtain ⟨j, acc, u, rfl, HKq, HJ, HA, HPS, HR, HO, HBO, HBX, HWX⟩ := hrel
          by_cases hj : j < qs.length
          · have d1 : decide ((j : Int) < (qs.length : Int)) = true := decide_eq_true (by omega)
            have d2 : decide (j < qs.length) = true := decide_eq_true hj; obtain ⟨ad, e, hx0, hx1, hx2⟩ := at_T55 (Kd.QaF HR.out).2.2 (j : Int) (by omega) (by omega); obtain rfl := e
            obtain ⟨x, hx⟩ : ∃ x, x = qs[j] := ⟨_, rfl⟩
            have erd : rd_T55 qs (j : Int) = x := by
              unfold rd_T55; rw [hx, Int.toNat_natCast, List.getD_eq_getElem?_getD, List.getElem?_eq_getElem hj]; rfl
            rw [erd, Int.toNat_natCast] at hx0 hx1 hx2; have p101 : (0 ≤ (j : Int)) = True := eq_true (by omega); have q101 : ((j : Int) < (qs.length : Int)) = True := eq_true (by omega); have hH := HPS.out; rw [List.drop_eq_getElem_cons hj, ← hx, finProofs] at hH; obtain ⟨y, hy, hH⟩ := Option.bind_eq_some_iff.mp hH; have HH := Lib.hid hH; have HJl := Lib.hid hj
            have wrapJ : wrap64 ((j : Int) + 1) = ((j + 1 : Nat) : Int) := by unfold wrap64; have := HL2.out; omega
            have HC := fun W (h : Below V.heap.size V W) => IH.out W x y (HFW.out W h) hy
            unfold encPair at HC; have HC := Lib.hid HC; clear hx erd hj hH hy HPS
            go_upto_region 6 with fail
            change Code.wp _ _ _ _ (wr.alloc (pairObj x)); have HY := Qak HWX.out (pairObj x); have HYr := Qak (Below.refl wr.heap.size wr) (pairObj x); have BY := Qbf wr (pairObj x); have RY := Kd.Qax HR.out (pairObj x); have OY := Kd.Qax HO.out (pairObj x); have BOY := Qac HBO.out HYr; have BXY := Qac HBX.out HYr; clear HYr hx0 hx1 hx2 HR HO HBO HBX HWX
            generalize wr.alloc (pairObj x) = Y at HY BY RY OY BOY BXY ⊢
            generalize wr.heap.size = kx at BY ⊢
            have HWY := Lib.hid (Qan HY); have HYx := Lib.hid (Qah BY); have HRY := Lib.hid (Kd.QaE RY); have HOY := Lib.hid (Kd.QaE OY); have HBOY := Lib.hid (Qah BOY); have HBXY := Lib.hid (Qah BXY); obtain ⟨x0, x1, x2⟩ := pairCells BY; have o5 : Y.cell? ⟨go, 5, none⟩ = some u := (Qam BOY 5).trans rfl; clear BY RY OY BOY BXY HY; refine Qby (n := 9) (S := fun w' => cg_sss w' kx x.f0.f0 x.f0.f1 x.f1 (w'.cell? ⟨go, 5, none⟩ = some (u))) (ds := [6, 8]) #[ff,ff,ff,ff,ff,ff,ff,ff,ff] (by kernel_rfl) rfl rfl ⟨x0, x1, x2, o5⟩ (fun hHeld => ?_); clear x0 x1 x2 o5
            generalize Y.drew = wd at hHeld HWY HYx HRY HOY HBOY HBXY ⊢
            refine kz 0 37 ?_; refine kk4 1 38 ?_; refine kz 2 39 ?_; refine kk4 3 40 ?_; refine one_ (i := 4) (N := some 41) #[tt,tt,tt,tt,tt,ff,ff,ff,ff] rfl rfl (by kernel_rfl) (by decide) (fun K hK => ?_); refine Qcs Tryz.func25 (by kernel_rfl) rfl #[.pointer (some ⟨g, 0, none⟩), .agg #[.string x.f0.f0, .string x.f0.f1, .string x.f1]] (by rfl) rfl rfl (by (try simp only [List.map_toArray, List.map_cons, List.map_nil]); first | done | rfl) ?_
            with_reducible refine (HC.out _ HWY.out).mono ?_
            rintro e w5 ⟨v5, rfl, ho0, hb⟩; have HX5 := Qac HYx.out hb; have HR5 := Lib.hid (Kd.Qau HRY.out hb); have HO5 := Lib.hid (Kd.Qch HOY.out (Kd.Qb0 ho0) hb); have HN5 := Lib.hid (Kd.Qa7 (Kd.R_newB (Kd.R_new' ho0 (Kd.R_lt HOY.out)) (g := go) (o := outObj p (byCred rr).f0 u) HBOY.out) HWY.out.size); have HBO5 := Lib.hid (Qac HBOY.out hb); have HBX5 := Lib.hid (Qac HBXY.out hb); have HW5 := Lib.hid (Qad HWY.out hb); obtain ⟨x0, x1, x2⟩ := pairCells HX5; obtain ⟨Ay, cy, rfl⟩ := Kd.Qa2 ho0; clear HC HWY HYx HRY HOY HBOY HBXY ho0 hb HX5 hHeld; refine ⟨_, rfl, ?_⟩; refine hK.out _ _ ⟨x0, x1, x2, (Qam HBO5.out 5).trans rfl⟩ (fun hHeld => ?_); clear hK K; refine QbF (a' := ?_) ?_ ?_; rotate_left
            · show Act.put _ (some 41) _ = _
              simp only [Act.put, put_]; rfl
            refine one_ (i := 5) (N := some 42) #[tt,tt,tt,tt,tt,tt,ff,ff,ff] rfl rfl (by kernel_rfl) (by decide) (fun K hK => ?_); refine value_ (w1 := ?_) (v := ?_) (by rfl) rfl ?_ ?_; rotate_left 2
            · go_simp
              constructor
              · rfl
              · rfl
            refine hK.out _ _ ⟨QaV hHeld.1 _, QaV hHeld.2.1 _, QaV hHeld.2.2.1 _, QaV hHeld.2.2.2 _⟩ (fun hHeld => ?_); clear hK K; refine QbF (a' := ?_) ?_ ?_; rotate_left
            · show Act.put _ (some 42) _ = _
              simp only [Act.put, put_]; rfl
            refine last_ (i := 6) (N := some 43) #[tt,tt,tt,tt,tt,tt,tt,ff,ff] rfl rfl (by kernel_rfl) (by decide) (fun K hK => ?_); refine Kd.R_append_step kProof (w0 := V) V.heap.size (by rfl) (.tmp 38) (.tmp 42) 28 30 (.agg #[(.string ⟨#[]⟩), (.string ⟨#[]⟩), (.string ⟨#[]⟩), (.int .i64 0), (.int .i64 0), (.slice none 0 0)]) 88 rfl Tryz.underlying28 infoProof rfl (by decide) (by omega) u acc y [.string y.f0.f0, .string y.f0.f1, .string y.f1, .int .i64 y.f2.f0, .int .i64 y.f2.f1, .slice Ay y.f3.length cy] (fun k => k ≠ go) (fun k => k ≠ go ∧ some k ≠ (u : Value).ownBlock) rfl rfl ?aP (fun _ hk => hk) ?aF ?aO ?aB ?aS ?aL ?_
            (case aP => exact k30_mkM _ _ _ y (Kd.QaL HN5.out (fun k hk => ⟨hk.2, hk.1.2⟩)))
            (case aF => exact Kd.freshB HBO5.out)
            (case aO => exact Kd.QaL HO5.out (fun _ hk => hk.1))
            (case aB => exact HW5.out)
            (case aS => exact QaD HW5.out)
            (case aL => have := HA.out; have := HJl.out; have := HL2.out; omega)
            intro v6 w6 ho hb hg hat
            have HR6 := Lib.hid (Kd.R_over' HR5.out (Kd.R_typed HO5.out) (by decide) hg); have BO6 := QbE HBO5.out hg (Kd.R_away HO5.out (fun _ hk => hk.1)); have BX6 := QbE HBX5.out hg (fun e => by have := Kd.Qb0 HO5.out _ e.symm; have := HZV.out; omega); obtain ⟨A7, c7, rfl⟩ := Kd.Qa2 ho; have HO6 := Lib.hid ho; have HW6 := Lib.hid hb; have HBO6 := Lib.hid BO6; have HBX6 := Lib.hid BX6; clear ho hb hg hat HR5 HO5 HN5 HBO5 HBX5 HW5 BX6 x0 x1 x2 hHeld; refine hK.out _ _ ?_; clear hK K; refine QbF (a' := ?_) ?_ ?_; rotate_left
            · show Act.put _ (some 43) _ = _
              simp only [Act.put, put_]; rfl
            refine kz 7 44 ?_; refine last_ (i := 8) (N := none) #[tt,tt,tt,tt,tt,tt,tt,tt,tt] rfl rfl (by kernel_rfl) (by decide) (fun K hK => ?_); have o5 : w6.cell? ⟨go, 5, none⟩ = some u := (Qam BO6 5).trans rfl; have of5 := Qaj BO6 5; refine skip_ (w1 := w6.setCell ⟨go, 5, none⟩ (.slice A7 (acc ++ [y]).length c7)) (by rfl) rfl ?_ ?_
            · go_simp
              try rfl
            refine hK.out _ _ ?_; clear hK K o5 of5; refine QbW (by kernel_rfl) ?_; go_wp2 
            go_roundg (qs.length + 1 - (j + 1))
            case measure => have := HKq.out; have := HJl.out; omega
            case rel => exact ⟨j + 1, acc ++ [y], .slice A7 (acc ++ [y]).length c7, by first | rfl | exact congrArg _ wrapJ, Lib.hid rfl, Lib.hid HJl.out, Lib.hid (by have := HA.out; simp; omega), HH, Lib.hid (Kd.QaL (Kd.QaH (p := ⟨go, 5, none⟩) (Kd.Qcc HR6.out HBO6.out (by decide)) (fun _ hk => hk.2) _) (fun _ hk => hk.1)), Lib.hid (Kd.QaH (p := ⟨go, 5, none⟩) HO6.out (fun _ hk => hk) _), Lib.hid (QaG HBO6.out 5 _ (by simp)), Lib.hid (blk_far HBX6.out (by have := HZV.out; have := HGO.out; show _ ≠ go; omega) _), Lib.hid (Qbr HW6.out HGO.out)⟩
          · have d1 : decide ((j : Int) < (qs.length : Int)) = false := decide_eq_false (by omega)
            have d2 : decide (j < qs.length) = false := decide_eq_false hj; have hH := HPS.out; rw [List.drop_eq_nil_of_le (by omega), finProofs] at hH; obtain rfl := Option.some.inj hH; have o0 : wr.cell? ⟨go, 0, none⟩ = some (.string p.f0.f0) := (Qam HBO.out 0).trans rfl; have o1 : wr.cell? ⟨go, 1, none⟩ = some (.string p.f0.f1) := (Qam HBO.out 1).trans rfl; have o2 : wr.cell? ⟨go, 2, none⟩ = some (.string p.f1) := (Qam HBO.out 2).trans rfl; have o3 : wr.cell? ⟨go, 3, none⟩ = some (.int .i64 (byCred rr).f0.f0) := (Qam HBO.out 3).trans rfl; have o4 : wr.cell? ⟨go, 4, none⟩ = some (.int .i64 (byCred rr).f0.f1) := (Qam HBO.out 4).trans rfl; have o5 : wr.cell? ⟨go, 5, none⟩ = some u := (Qam HBO.out 5).trans rfl; have z0 : wr.cell? ⟨w.heap.size + 1, 0, none⟩ = some (.string ⟨#[]⟩) := (Qam HBX.out 0).trans rfl; have z1 : wr.cell? ⟨w.heap.size + 1, 1, none⟩ = some (.string ⟨#[]⟩) := (Qam HBX.out 1).trans rfl; have z2 : wr.cell? ⟨w.heap.size + 1, 2, none⟩ = some (.string ⟨#[]⟩) := (Qam HBX.out 2).trans rfl; have z3 : wr.cell? ⟨w.heap.size + 1, 3, none⟩ = some (.int .i64 0) := (Qam HBX.out 3).trans rfl; have z4 : wr.cell? ⟨w.heap.size + 1, 4, none⟩ = some (.int .i64 0) := (Qam HBX.out 4).trans rfl; have z5 : wr.cell? ⟨w.heap.size + 1, 5, none⟩ = some (.slice none 0 0) := (Qam HBX.out 5).trans rfl; have zf0 := Qaj HBX.out 0; have zf1 := Qaj HBX.out 1; have zf2 := Qaj HBX.out 2; have zf3 := Qaj HBX.out 3
            have zf4 := Qaj HBX.out 4; have zf5 := Qaj HBX.out 5; obtain ⟨Au, cu, rfl⟩ := Kd.Qa2 HO.out; clear hH HPS hj; go_wp2; refine bodyPost_ret (results_cell_row rfl _ _ (w.heap.size + 1) 30 #[.string p.f0.f0, .string p.f0.f1, .string p.f1, .int .i64 (byCred rr).f0.f0, .int .i64 (byCred rr).f0.f1, .slice Au acc.length cu] (0, 0) _ rfl (QaG (cs' := #[.string p.f0.f0, .string p.f0.f1, .string p.f1, .int .i64 (byCred rr).f0.f0, .int .i64 (byCred rr).f0.f1, .slice Au acc.length cu]) (QaG (cs' := #[.string p.f0.f0, .string p.f0.f1, .string p.f1, .int .i64 (byCred rr).f0.f0, .int .i64 (byCred rr).f0.f1, .slice none 0 0]) (QaG (cs' := #[.string p.f0.f0, .string p.f0.f1, .string p.f1, .int .i64 (byCred rr).f0.f0, .int .i64 0, .slice none 0 0]) (QaG (cs' := #[.string p.f0.f0, .string p.f0.f1, .string p.f1, .int .i64 0, .int .i64 0, .slice none 0 0]) (QaG (cs' := #[.string p.f0.f0, .string p.f0.f1, .string ⟨#[]⟩, .int .i64 0, .int .i64 0, .slice none 0 0]) (QaG (cs' := #[.string p.f0.f0, .string ⟨#[]⟩, .string ⟨#[]⟩, .int .i64 0, .int .i64 0, .slice none 0 0]) HBX.out 0 (.string p.f0.f0) rfl) 1 (.string p.f0.f1) rfl) 2 (.string p.f1) rfl) 3 (.int .i64 (byCred rr).f0.f0) rfl) 4 (.int .i64 (byCred rr).f0.f1) rfl) 5 (.slice Au acc.length cu) rfl) Tryz.underlying30 rfl (by kernel_rfl)) rfl ?_; refine ⟨_, rfl, Kd.Qa7 (R_zproof HO.out HZV.out p (byCred rr).f0 _) HBV.out.size, ?_⟩; have := HBV.out.size; exact Qbr (Qbr (Qbr (Qbr (Qbr (Qbr (Qad HBV.out HWX.out) (by omega)) (by omega)) (by omega)) (by omega)) (by omega)) (by omega)
    · rw [if_neg hp] at h
      cases h
end Go.Proofs.YtbjjgaahdnfflaaGreatDoor.Pr
end
