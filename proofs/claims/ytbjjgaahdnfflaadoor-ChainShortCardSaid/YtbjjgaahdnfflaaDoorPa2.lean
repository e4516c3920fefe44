/- The proof's own texts, joined: part 2. No conditions. -/
import Derived.Shelf.SlicesG.Cmp
import Derived.WalkKit
import Derived.WalkSpells
import Derived.Lib.Hide
import Derived.StillTailTactics
import Derived.Sort.Grow
import Derived.KernelRfl
import Derived.Lib.SlicesS
import Derived.WalkLawsBesides
import Derived.Deep.QuietTactic
import Derived.Deep.RegionWith
import Derived.BigQuiet
import Derived.RegionTactic
import Derived.ChangeAlike
import Derived.Deep.RegionLaw
import Derived.Lib.SmallJoins
import Derived.Laws.StructEq
import Derived.Maps.OwnSet
import Derived.Maps.RangeRun
import Derived.Maps.Range
import Derived.Carry
import Derived.Below
import Derived.OrdersHeld
import Derived.Deep.RegionHeld3
import Derived.Laws.BitsLemmas
import Derived.RowKit
import Derived.Test.YtbjjgaahdnfflaaDoorProg
import Derived.Laws.RangeAny
import Derived.Laws.Closers25
import Derived.Outline
import Derived.Shelf.GgSortFunc.InsertionK
import Derived.Deep.Draws
import Derived.Deep.AppendLies
import Derived.Maps.AppendAt
import Derived.OwnWalk
import Derived.Laws.BytesArg
import Derived.Laws.MakeOwn
import Derived.Laws.OwnMore
import Derived.Deep.OwnRows
import Derived.Tactics
import Derived.Lib.ConvBytes
import Derived.Laws.Slices
import Derived.RowKit3
import Derived.Deep.LoopGhost
import Derived.WideLaws
import Derived.Deep.DeepCutAuto
import Derived.Deep.CutBlock
import Derived.Laws.Rows
import Derived.Lib.AppendStr
import Derived.ArgAppend
import Derived.Laws.IdiomCopy
import Derived.Ground.SlgcProg
import Derived.Shelf.SlSortCmp.WholeK
import Derived.Shelf.SlSortCmp.NoneTotal
import Derived.Shelf.SlicesE.Clone
import Derived.Ground.SlsfProg
import Derived.Ground.SlgnProg
import Derived.DeepKeys4
import Derived.Sort.Walk0
import Derived.Laws.Strings
import Derived.Deep.DrawnRows
import Derived.Test.YtbjjgaahdnfflaaDoorPa0
import Derived.Test.YtbjjgaahdnfflaaDoorPa1
section
namespace Go.Proofs.YtbjjgaahdnfflaaDoor.Pr
open Go.RowKit Go.Proofs.YtbjjgaahdnfflaaDoorW.PrintWords Go.Proofs.YtbjjgaahdnfflaaDoorW.PrintLast Go.Proofs.YtbjjgaahdnfflaaDoorW.PrintMore
attribute [local go_sem] max2_int min2_int max_two min_two max_three min_three max_four min_four
set_option linter.unusedVariables false
set_option linter.unusedSimpArgs false
def cred_May.f (a0_0 : Int) (a0_1 : Int) (a0_2 : ByteArray) (a0_3 : Int) (a0_4 : ByteArray) (a0_5 : ByteArray) (a0_6 : ByteArray) (a0_7 : ByteArray) (a0_8 : ByteArray) : Option Bool := mayF ⟨⟨a0_0, a0_1⟩, a0_2, a0_3, a0_4, ⟨a0_5, a0_6⟩, ⟨a0_7, a0_8⟩⟩
theorem cred_May.calls (a0_0 : Int) (a0_1 : Int) (a0_2 : ByteArray) (a0_3 : Int) (a0_4 : ByteArray) (a0_5 : ByteArray) (a0_6 : ByteArray) (a0_7 : ByteArray) (a0_8 : ByteArray) (r : Bool) (w : World) (h : cred_May.f a0_0 a0_1 a0_2 a0_3 a0_4 a0_5 a0_6 a0_7 a0_8 = some r) :
    Calls Tryd.prog 32 #[.agg #[.int .i64 a0_0, .int .i64 a0_1, .string a0_2, .int .i64 a0_3, .string a0_4, .string a0_5, .string a0_6, .string a0_7, .string a0_8]] w fun e w' => e = .returned (.bool r) ∧ Below w.heap.size w w' := by
  exact mayC_walk w ⟨⟨a0_0, a0_1⟩, a0_2, a0_3, a0_4, ⟨a0_5, a0_6⟩, ⟨a0_7, a0_8⟩⟩ r h
end Go.Proofs.YtbjjgaahdnfflaaDoor.Pr
end
section
namespace Go.Proofs.YtbjjgaahdnfflaaDoor.Pr
open Go.RowKit Go.Proofs.YtbjjgaahdnfflaaDoorW.PrintWords Go.Proofs.YtbjjgaahdnfflaaDoorW.PrintLast Go.Proofs.YtbjjgaahdnfflaaDoorW.PrintMore
set_option linter.unusedVariables false
set_option linter.unusedSimpArgs false
attribute [local go_sem high] eqA26
abbrev mayOf (c : Cred) : Option Bool := cred_May.f c.f0.f0 c.f0.f1 c.f1 c.f2 c.f3 c.f4.f0 c.f4.f1 c.f5.f0 c.f5.f1
def countsF : List Cred → List Cred → Option (List Cred)
  | [], out => some out
  | c :: S, out => (mayOf c).bind fun m => if m = true then (if (out.getLast?).map (·.f0) = some c.f0 then countsF S out else countsF S (out ++ [c])) else countsF S out
set_option maxRecDepth 100000 in
set_option maxHeartbeats 8000000 in
theorem countsW (w : World) (A0 : Option Addr) (c0 : Nat) (l S out : List Cred) (hr0 : Kd.C kCred w A0 l.length l) (hc0 : l.length ≤ c0) (hS : cred_Sorted.f l = some S) (hlen : S.length ≤ 1000000) (h : countsF S [] = some out) :
    Calls Tryd.prog 22 #[.slice A0 l.length c0] w fun e w' => ∃ v, e = .returned v ∧ Kd.R kCred 42 w' w.heap.size (fun _ => True) v out ∧ Below w.heap.size w w' := by
  have HS := Lib.hid hS; have HF := Lib.hid h; have HL := Lib.hid hlen; have HR0 := Lib.hid hr0; have HC0 := Lib.hid hc0; clear hS h hlen hr0 hc0; go_enter Tryd.func22, Tryd.ntmps22
  go_wp2_with (go_at_call 31; refine (cred_Sorted.calls A0 c0 l S w HR0.out HC0.out HS.out).mono ?_; rintro e w3 ⟨v3, rfl, hR3, hB3⟩; obtain ⟨A3, cc3, rfl⟩ := Kd.R_slice hR3)
  have HC3 := Lib.hid (Kd.R_reads' hR3).2.2; have HB3 := Lib.hid hB3; clear hR3 hB3
  go_loopg [3, 9] (S.length + 1) (fun kq v3 v9 w' => ∃ (i : Nat) (acc : List Cred), v9 = .int .i64 i ∧ Hid (kq = S.length + 1 - i) ∧ Hid (i ≤ S.length) ∧ Hid (acc.length ≤ i) ∧ Hid (countsF (S.drop i) acc = some out) ∧ Hid (Kd.R kCred 42 w' w3.heap.size (fun _ => True) v3 acc) ∧ Hid (Below w3.heap.size w3 w'))
  case atStart => exact ⟨0, [], rfl, Lib.hid rfl, Lib.hid (Nat.zero_le _), Lib.hid (Nat.le_refl _), HF, Lib.hid (Kd.R_nil _ _ _ _ _), Lib.hid (Below.refl _ _)⟩
  case round =>
    clear HF; obtain ⟨i, acc, rfl, HKq, HI, HA, HF, HR, HW⟩ := hrel; obtain ⟨A4, c4, hv⟩ := Kd.R_slice HR.out; subst hv
    by_cases hi : i < S.length
    · have d1 : decide ((i : Int) < (S.length : Int)) = true := decide_eq_true (by omega)
      have d2 : decide (i < S.length) = true := decide_eq_true hi; obtain ⟨ad, e, hx0, hx1, hx2, hx3, hx4, hx5, hx6, hx7, hx8⟩ := at_T42 (Kd.C_below HC3.out HW.out) (i : Int) (by omega) (by omega); obtain rfl := e
      obtain ⟨x, hx⟩ : ∃ x, x = S[i] := ⟨_, rfl⟩
      have erd : Qam S (i : Int) = x := by
        unfold Qam; rw [hx, Int.toNat_natCast, List.getD_eq_getElem?_getD, List.getElem?_eq_getElem hi]; rfl
      rw [erd, Int.toNat_natCast] at hx0 hx1 hx2 hx3 hx4 hx5 hx6 hx7 hx8; have p101 : (0 ≤ (i : Int)) = True := eq_true (by omega); have q101 : ((i : Int) < (S.length : Int)) = True := eq_true (by omega); have hF := HF.out; rw [List.drop_eq_getElem_cons hi, ← hx, countsF] at hF; obtain ⟨m, hm, hF⟩ := Option.bind_eq_some_iff.mp hF
      have wrapI : wrap64 ((i : Int) + 1) = ((i + 1 : Nat) : Int) := by unfold wrap64; have := HL.out; omega
      have HIL := Lib.hid hi; have HMy := Lib.hid hm; clear hx erd hi hm; replace HF := Lib.hid hF; clear hF
      go_upto_region 5 with fail
      change Code.wp _ _ _ _ (wr.alloc (credObj x)); have HXa := Qab (Below.refl wr.heap.size wr) (credObj x); have B3 := blk_new wr (credObj x); have WX := Qaf HW.out HXa; have RX := Kd.R_below HR.out HXa
      obtain ⟨kx, hkx⟩ : ∃ kx, kx = wr.heap.size := ⟨_, rfl⟩
      rw [← hkx] at B3 ⊢; clear hx0 hx1 hx2 hx3 hx4 hx5 hx6 hx7 hx8 HXa HW HR hkx
      generalize wr.alloc (credObj x) = X at B3 WX RX ⊢
      obtain ⟨kc0, kc1, kc2, kc3, kc4, kc5, kc6, kc7, kc8⟩ := credCells B3; have HBX := Lib.hid B3; have HWX := Lib.hid WX; have HRX := Lib.hid RX; clear B3 WX RX; have g0 := Qay kc0; have g1 := Qay kc1; have g2 := Qay kc2; have g3 := Qay kc3; have g4 := Qay kc4; have g5 := Qay kc5; have g6 := Qay kc6; have g7 := Qay kc7; have g8 := Qay kc8; clear kc0 kc1 kc2 kc3 kc4 kc5 kc6 kc7 kc8; have HMC := Lib.hid (fun W => cred_May.calls _ _ _ _ _ _ _ _ _ _ W HMy.out); cases m
      · have hF := HF.out
        rw [if_neg (by decide)] at hF; replace HF := Lib.hid hF; clear hF; refine wp_region_below (by kernel_rfl) (by kernel_rfl) ?_
        repeat (go_big_quiet_step (with_reducible refine bw_call (HMC.out _)))
        refine wpQuiet_nil ?_; rintro _ ⟨u, rfl⟩; have HWY := Lib.hid (Qaf HWX.out u.ok); have HRY := Lib.hid (Kd.R_below HRX.out u.ok); have BY := Qae HBX.out u.ok; clear g0 g1 g2 g3 g4 g5 g6 g7 g8 HWX HRX HBX
        generalize u.now = Y at HWY HRY BY ⊢
        clear u; go_wp2
        go_roundg (S.length + 1 - (i + 1))
        case measure => have := HKq.out; have := HIL.out; omega
        case rel => exact ⟨i + 1, acc, by first | rfl | exact congrArg _ wrapI, Lib.hid rfl, Lib.hid HIL.out, Lib.hid (Nat.le_succ_of_le HA.out), HF, HRY, HWY⟩
      · have hF := HF.out
        rw [if_pos rfl] at hF
        by_cases ha : acc.length = 0
        · have e0 : acc = [] := List.eq_nil_of_length_eq_zero ha
          rw [if_neg (by rw [e0]; simp)] at hF; replace HF := Lib.hid hF; have b1 : ((acc.length : Int) == 0) = true := beq_iff_eq.mpr (by omega); have b2 : (acc.length == 0) = true := beq_iff_eq.mpr ha; clear hF e0 ha; refine wp_region_below (by kernel_rfl) (by kernel_rfl) ?_
          repeat (go_big_quiet_step (with_reducible refine bw_call (HMC.out _)))
          refine wpQuiet_nil ?_; rintro _ ⟨u, rfl⟩; have HWY := Lib.hid (Qaf HWX.out u.ok); have HRY := Lib.hid (Kd.R_below HRX.out u.ok); have BY := Qae HBX.out u.ok; clear g0 g1 g2 g3 g4 g5 g6 g7 g8 HWX HRX HBX
          generalize u.now = Y at HWY HRY BY ⊢
          clear u; obtain ⟨kc0, kc1, kc2, kc3, kc4, kc5, kc6, kc7, kc8⟩ := credCells BY; clear BY
          go_wp2_with ((with_reducible refine gate_builtin (b := .append) (xs := #[.tmp 32, .tmp 34]) rfl ?_); at_builtin; refine Kd.R_append kCred (w0 := w3) w3.heap.size rfl (.tmp 32) (.tmp 34) 22 42 (.agg #[.int .i64 0, .int .i64 0, .string ⟨#[]⟩, .int .i64 0, .string ⟨#[]⟩, .string ⟨#[]⟩, .string ⟨#[]⟩, .string ⟨#[]⟩, .string ⟨#[]⟩]) 120 rfl Tryd.underlying22 infoCred rfl (by decide) (by omega) _ acc x [.int .i64 x.f0.f0, .int .i64 x.f0.f1, .string x.f1, .int .i64 x.f2, .string x.f3, .string x.f4.f0, .string x.f4.f1, .string x.f5.f0, .string x.f5.f1] (fun _ => True) (fun _ => False) rfl rfl ?aP (fun _ hk => hk.elim) (fun _ _ => trivial) ?aO ?aB ?aS ?aL ?_; (case aP => exact k42_mkM _ _ _ x); (case aB => exact HWY.out); (case aO => exact HRY.out); (case aS => exact Qav HWY.out); (case aL => have := HA.out; have := HIL.out; have := HL.out; omega); intro v2 w2 ho hb hg hat)
          have HO := Lib.hid ho; have HBo := Lib.hid hb
          clear ho hb hg hat
          go_roundg (S.length + 1 - (i + 1))
          case measure => have := HKq.out; have := HIL.out; omega
          case rel => exact ⟨i + 1, acc ++ [x], by first | rfl | exact congrArg _ wrapI, Lib.hid rfl, Lib.hid HIL.out, Lib.hid (by have := HA.out; simp; omega), HF, HO, HBo⟩
        · obtain ⟨j, hj⟩ : ∃ j, acc.length = j + 1 := ⟨acc.length - 1, by omega⟩
          have b1 : ((acc.length : Int) == 0) = false := beq_eq_false_iff_ne.mpr (by omega); have b2 : (acc.length == 0) = false := beq_eq_false_iff_ne.mpr ha
          have b3 : (acc.length : Int) - 1 = (j : Int) := by omega
          have b4 : wrap64 (j : Int) = (j : Int) := by unfold wrap64; have := HA.out; have := HIL.out; have := HL.out; omega
          have b5 : (0 ≤ (j : Int)) = True := eq_true (by omega); have b6 : ((j : Int) < (acc.length : Int)) = True := eq_true (by omega); have b7 : (j < acc.length) = True := eq_true (by omega); obtain ⟨al, e, hy0, hy1, _, _, _, _, _, _, _⟩ := at_T42 (Kd.R_reads' HRX.out).2.2 (j : Int) (by omega) (by omega); obtain rfl := e
          obtain ⟨y, hy⟩ : ∃ y, y = Qam acc (j : Int) := ⟨_, rfl⟩
          have hl : acc.getLast?.map (·.f0) = some y.f0 := by
            rw [List.getLast?_eq_getElem?, hj, Nat.add_sub_cancel, List.getElem?_eq_getElem (by omega), hy]; unfold Qam; rw [Int.toNat_natCast, List.getD_eq_getElem?_getD, List.getElem?_eq_getElem (by omega)]; rfl
          rw [← hy, Int.toNat_natCast] at hy0 hy1; rw [hl] at hF; have g9 := Qay hy0; have g10 := Qay hy1; clear hy hl hy0 hy1 ha; have HJ := Lib.hid hj; clear hj
          by_cases e1 : y.f0 = x.f0
          · rw [if_pos (by rw [e1])] at hF
            replace HF := Lib.hid hF; have b8 := neID_f e1; clear hF e1; refine wp_region_below (by kernel_rfl) (by kernel_rfl) ?_
            repeat (go_big_quiet_step (with_reducible refine bw_call (HMC.out _)))
            refine wpQuiet_nil ?_; rintro _ ⟨u, rfl⟩; have HWY := Lib.hid (Qaf HWX.out u.ok); have HRY := Lib.hid (Kd.R_below HRX.out u.ok); have BY := Qae HBX.out u.ok; clear g0 g1 g2 g3 g4 g5 g6 g7 g8 HWX HRX HBX
            generalize u.now = Y at HWY HRY BY ⊢
            clear u; go_wp2
            go_roundg (S.length + 1 - (i + 1))
            case measure => have := HKq.out; have := HIL.out; omega
            case rel => exact ⟨i + 1, acc, by first | rfl | exact congrArg _ wrapI, Lib.hid rfl, Lib.hid HIL.out, Lib.hid (Nat.le_succ_of_le HA.out), HF, HRY, HWY⟩
          · rw [if_neg (by simpa using e1)] at hF
            replace HF := Lib.hid hF; have b8 := neID_t e1; clear hF e1; refine wp_region_below (by kernel_rfl) (by kernel_rfl) ?_
            repeat (go_big_quiet_step (with_reducible refine bw_call (HMC.out _)))
            refine wpQuiet_nil ?_; rintro _ ⟨u, rfl⟩; have HWY := Lib.hid (Qaf HWX.out u.ok); have HRY := Lib.hid (Kd.R_below HRX.out u.ok); have BY := Qae HBX.out u.ok; clear g0 g1 g2 g3 g4 g5 g6 g7 g8 HWX HRX HBX
            generalize u.now = Y at HWY HRY BY ⊢
            clear u; clear g9 g10 b1 b2 b3 b4 b5 b6 b7 b8; obtain ⟨kc0, kc1, kc2, kc3, kc4, kc5, kc6, kc7, kc8⟩ := credCells BY; clear BY
            go_wp2_with ((with_reducible refine gate_builtin (b := .append) (xs := #[.tmp 32, .tmp 34]) rfl ?_); at_builtin; refine Kd.R_append kCred (w0 := w3) w3.heap.size rfl (.tmp 32) (.tmp 34) 22 42 (.agg #[.int .i64 0, .int .i64 0, .string ⟨#[]⟩, .int .i64 0, .string ⟨#[]⟩, .string ⟨#[]⟩, .string ⟨#[]⟩, .string ⟨#[]⟩, .string ⟨#[]⟩]) 120 rfl Tryd.underlying22 infoCred rfl (by decide) (by omega) _ acc x [.int .i64 x.f0.f0, .int .i64 x.f0.f1, .string x.f1, .int .i64 x.f2, .string x.f3, .string x.f4.f0, .string x.f4.f1, .string x.f5.f0, .string x.f5.f1] (fun _ => True) (fun _ => False) rfl rfl ?aP (fun _ hk => hk.elim) (fun _ _ => trivial) ?aO ?aB ?aS ?aL ?_; (case aP => exact k42_mkM _ _ _ x); (case aB => exact HWY.out); (case aO => exact HRY.out); (case aS => exact Qav HWY.out); (case aL => have := HA.out; have := HIL.out; have := HL.out; omega); intro v2 w2 ho hb hg hat)
            have HO := Lib.hid ho; have HBo := Lib.hid hb
            clear ho hb hg hat
            go_roundg (S.length + 1 - (i + 1))
            case measure => have := HKq.out; have := HIL.out; omega
            case rel => exact ⟨i + 1, acc ++ [x], by first | rfl | exact congrArg _ wrapI, Lib.hid rfl, Lib.hid HIL.out, Lib.hid (by have := HA.out; simp; omega), HF, HO, HBo⟩
    · have d1 : decide ((i : Int) < (S.length : Int)) = false := decide_eq_false (by omega)
      have d2 : decide (i < S.length) = false := decide_eq_false hi; have hF := HF.out; rw [List.drop_eq_nil_of_le (by omega), countsF] at hF; obtain rfl := Option.some.inj hF; clear hF HF hi; go_wp2; go_ret; exact ⟨_, rfl, Kd.R_lower HR.out HB3.out.size, Qaf HB3.out HW.out⟩
end Go.Proofs.YtbjjgaahdnfflaaDoor.Pr
end
section
namespace Go.Proofs.YtbjjgaahdnfflaaDoor.Pr
open Go.RowKit Go.Proofs.YtbjjgaahdnfflaaDoorW.PrintWords Go.Proofs.YtbjjgaahdnfflaaDoorW.PrintLast Go.Proofs.YtbjjgaahdnfflaaDoorW.PrintMore
attribute [local go_sem] max2_int min2_int max_two min_two max_three min_three max_four min_four
set_option linter.unusedVariables false
set_option linter.unusedSimpArgs false
def cred_Counts.f (l0 : List (S42)) : Option (List (S42)) := (cred_Sorted.f l0).bind fun S => if S.length ≤ 1000000 then countsF S [] else none
theorem cred_Counts.calls (A0 : Option Addr) (c0 : Nat) (l0 : List (S42)) (r : List (S42)) (w : World) (hr0 : Kd.C k42 w A0 l0.length l0) (hc0 : l0.length ≤ c0) (h : cred_Counts.f l0 = some r) :
    Calls Tryd.prog 22 #[.slice A0 l0.length c0] w fun e w' => ∃ v0_ : Value, e = .returned (v0_) ∧ Kd.R k42 42 w' w.heap.size (fun _ => True) v0_ r ∧ Below w.heap.size w w' := by
  unfold cred_Counts.f at h; obtain ⟨S, hS, h⟩ := Option.bind_eq_some_iff.mp h
  by_cases hl : S.length ≤ 1000000
  · rw [if_pos hl] at h
    exact countsW w A0 c0 l0 S r hr0 hc0 hS hl h
  · rw [if_neg hl] at h
    cases h
end Go.Proofs.YtbjjgaahdnfflaaDoor.Pr
end
section
namespace Go.Proofs.YtbjjgaahdnfflaaDoor.Pr
open Go.RowKit Go.Proofs.YtbjjgaahdnfflaaDoorW.PrintWords Go.Proofs.YtbjjgaahdnfflaaDoorW.PrintLast Go.Proofs.YtbjjgaahdnfflaaDoorW.PrintMore
attribute [local go_sem] max2_int min2_int max_two min_two max_three min_three max_four min_four
set_option linter.unusedVariables false
set_option linter.unusedSimpArgs false
open Go.Maps
open Go.ChangeMaps (setBlock)
abbrev Pair := S50
theorem pair_ext {a b : Pair} (h0 : a.f0 = b.f0) (h1 : a.f1 = b.f1) : a = b := by cases a; cases b; simp_all
instance pairDec : DecidableEq Pair := fun a b => decidable_of_iff (a.f0 = b.f0 ∧ a.f1 = b.f1) ⟨fun h => pair_ext h.1 h.2, fun h => by rw [h]; exact ⟨rfl, rfl⟩⟩
def encPair (p : Pair) : Value := .agg #[.string p.f0.f0, .string p.f0.f1, .string p.f1]
def okPair (p : Pair) : Prop := p.f0.f0.size ≤ maxLen ∧ p.f0.f1.size ≤ maxLen ∧ p.f1.size ≤ maxLen
theorem Tryd.laidOut : laidOutB Tryd.prog = true := by kernel_rfl
theorem Tryd.rowPair : 50 < Tryd.prog.types.size := of_decide_eq_true (by kernel_rfl)
theorem Tryd.keyPair : Tryd.prog.keyType 50 = true := by kernel_rfl
theorem Tryd.tsize : Tryd.prog.types.size = 2 + (Tryd.prog.types.size - 2) := by have := of_decide_eq_true (p := 2 ≤ Tryd.prog.types.size) (by kernel_rfl); omega
theorem pairLaw : WideMaps.KeyLaw Tryd.prog 50 := deep_law_laid Tryd.laidOut (m := 3) (by omega) Tryd.rowPair (by kernel_rfl) (by rw [Tryd.underlying50])
theorem Tryd.cellsPair : Tryd.prog.cellsOf 50 = 3 := by kernel_rfl
theorem lits_str (d : Nat) (s : ByteArray) (hs : s.size ≤ maxLen) : Tryd.prog.keyLits (d + 1) 9 [.string s] = some [.string s.data.toList] := by
  unfold Program.keyLits; rw [Tryd.underlying9]; simp [hs]
theorem lits_role (d : Nat) (a b : ByteArray) (ha : a.size ≤ maxLen) (hb : b.size ≤ maxLen) : Tryd.prog.keyLits (d + 2) 24 [.string a, .string b] = some [.string a.data.toList, .string b.data.toList] := by
  unfold Program.keyLits; rw [Tryd.underlying24]; simp [Tryd.cellsRole, Tryd.cellsStr, lits_str d a ha, lits_str d b hb]
theorem lits_pair (d : Nat) (p : Pair) (hp : okPair p) : Tryd.prog.keyLits (d + 3) 50 [.string p.f0.f0, .string p.f0.f1, .string p.f1] = some [.string p.f0.f0.data.toList, .string p.f0.f1.data.toList, .string p.f1.data.toList] := by
  unfold Program.keyLits; rw [Tryd.underlying50]; simp [Tryd.cellsPair, Tryd.cellsRole, Tryd.cellsStr, lits_role d _ _ hp.1 hp.2.1, lits_str (d + 1) _ hp.2.2]
theorem pairKey : KeyK Tryd.prog 50 encPair okPair where
  keyed := Keyed.of_law pairLaw
  lit p hp := by
    refine ⟨.string (keyBytes [.string p.f0.f0.data.toList, .string p.f0.f1.data.toList, .string p.f1.data.toList]), ?_⟩
    have hf : (encPair p).formed Tryd.prog 50 = true := by
      simp [encPair, Value.formed, Tryd.underlying50, Tryd.cellsPair]
    unfold keyOf; rw [Tryd.underlying50]; simp only [Tryd.keyPair, hf, Bool.and_self, if_true]
    have hc : (encPair p).cells.toList = [.string p.f0.f0, .string p.f0.f1, .string p.f1] := by simp [encPair, Value.cells]
    rw [hc, Tryd.tsize, show 2 + (Tryd.prog.types.size - 2) + 1 = (Tryd.prog.types.size - 2) + 3 from by omega, lits_pair _ p hp]; rfl
  inj p q _ _ h := by
    simp only [encPair, Value.agg.injEq, Array.mk.injEq, List.cons.injEq, Value.string.injEq, and_true] at h; exact pair_ext (role_ext h.1 h.2.1) h.2.2
abbrev kPair := k50
def knownT (known : List Pair) : List (Pair × Value) := known.map fun p => (p, .bool true)
def SolverAt (w : World) (B : Nat) (ok : Nat → Prop) (g b : Nat) (vc : Value) (creds : List Cred) (known waits : List Pair) : Prop :=
  ∃ vw, w.heap[g]? = some (.cells #[vc, .map (some b), vw] 72 (0, 0)) ∧ (B ≤ g ∧ ok g) ∧ (B ≤ b ∧ ok b) ∧ Kd.R kCred 42 w B (fun _ => True) vc creds ∧ Tbl encPair okPair w b (knownT known) ∧ Kd.Q kPair 50 w B ok vw waits
theorem SolverAt.below {w w' : World} {B g b : Nat} {ok : Nat → Prop} {vc : Value} {creds : List Cred} {known waits : List Pair} (h : SolverAt w B ok g b vc creds known waits) (hb : Below w.heap.size w w') : SolverAt w' B ok g b vc creds known waits := by
  obtain ⟨vw, hg, hBg, hBb, hvc, hT, hQ⟩ := h; exact ⟨vw, (hb.block g (blk_lt hg)).trans hg, hBg, hBb, Kd.R_below hvc hb, hT.below hb, Kd.Q_below hQ hb⟩
def Kept (w w' : World) (ok : Nat → Prop) : Prop := ∀ k, k < w.heap.size → ¬ ok k → w'.heap[k]? = w.heap[k]?
theorem Kept.of_below {w w' : World} (h : Below w.heap.size w w') (ok : Nat → Prop) : Kept w w' ok := fun k hk _ => h.block k hk
theorem Kept.trans {w w1 w2 : World} {ok ok' : Nat → Prop} (h : Kept w w1 ok) (h' : Kept w1 w2 ok') (hs : w.heap.size ≤ w1.heap.size) (hok : ∀ k, k < w.heap.size → ok' k → ok k) : Kept w w2 ok :=
  fun k hk hn => (h' k (by omega) (fun e => hn (hok k hk e))).trans (h k hk hn)
theorem SolverAt.mono {w : World} {B g b : Nat} {ok ok' : Nat → Prop} {vc : Value} {creds : List Cred} {known waits : List Pair} (h : SolverAt w B ok g b vc creds known waits) (hk : ∀ k, ok k → ok' k) : SolverAt w B ok' g b vc creds known waits := by
  obtain ⟨vw, hg, hBg, hBb, hvc, hT, hQ⟩ := h; exact ⟨vw, hg, ⟨hBg.1, hk _ hBg.2⟩, ⟨hBb.1, hk _ hBb.2⟩, hvc, hT, Kd.Q_mono hQ hk⟩
theorem knownT_get (known : List Pair) (p : Pair) : tget (knownT known) p = if p ∈ known then some (.bool true) else none := by
  unfold tget knownT
  induction known with
  | nil => rfl
  | cons q known ih =>
    rw [List.map_cons, List.find?_cons]
    by_cases h : q = p
    · subst h
      simp
    · rw [decide_eq_false h]
      simp only [List.mem_cons]; rw [ih]
      have : (p = q ∨ p ∈ known) ↔ p ∈ known := ⟨fun h' => h'.resolve_left (fun e => h e.symm), .inr⟩
      simp only [this]
theorem blk_thaw {w : World} {g : Nat} {cs : Array Value} {t : TypeId} (h : w.heap[g]? = some (.cells cs t (0, 0))) (i : Nat) : w.frozen? ⟨g, i, none⟩ = false := by simp [World.frozen?, h]
theorem cell_alloc {w : World} {a : Addr} {v : Value} (h : w.cell? a = some v) (o : Obj) : (w.alloc o).cell? a = some v := pw_cell_below (Qab (Below.refl _ _) o) h
theorem heap_alloc_old {w : World} {i : Nat} (h : i < w.heap.size) (o : Obj) : (w.alloc o).heap[i]? = w.heap[i]? := (MapKept.heap_alloc w o).2 i h
theorem infoPair : (Tryd.prog.info? 50).map (fun i => (i.zero, i.size, i.bytes)) = some (some (.agg #[.string ⟨#[]⟩, .string ⟨#[]⟩, .string ⟨#[]⟩]), 3, 48) := by kernel_rfl
theorem zeroBool (w : World) : (zeroValue 4).run Tryd.prog w = .ok (.bool false) w := by kernel_rfl
set_option maxRecDepth 100000 in
set_option maxHeartbeats 2000000 in
theorem learn_old (w : World) (B g b : Nat) (ok : Nat → Prop) (vc : Value) (creds : List Cred) (known waits : List Pair) (p : Pair) (hp : okPair p) (hS : SolverAt w B ok g b vc creds known waits) (hin : p ∈ known) :
    Calls Tryd.prog 49 #[.pointer (some ⟨g, 0, none⟩), encPair p] w fun e w' => e = .returned (.tuple #[]) ∧ SolverAt w' B ok g b vc creds known waits ∧ Below w.heap.size w w' := by
  obtain ⟨vw, hg, hBg, hBb, hvc, hT, hQ⟩ := hS
  have hl := fun n => hT.look pairKey Tryd.underlying59 zeroBool hp false ((w.alloc (.cells #[.string p.f0.f0, .string p.f0.f1, .string p.f1] 50)).drewN n) (heap_alloc_old hT.lt _)
  rw [knownT_get, if_pos hin] at hl; simp only [Option.getD_some, Bool.false_eq_true, if_false, encPair] at hl; have hc1 := cell_alloc (show w.cell? ⟨g, 1, none⟩ = some (.map (some b)) from (Qai hg 1).trans rfl) (.cells #[.string p.f0.f0, .string p.f0.f1, .string p.f1] 50); unfold encPair; go_enter Tryd.func49, Tryd.ntmps49; go_wp2
  go_quiet (fail)
  go_wp2; go_end0; have hb := Qaa (Qab (Below.refl w.heap.size w) (.cells #[.string p.f0.f0, .string p.f0.f1, .string p.f1] 50)) nq; exact ⟨rfl, SolverAt.below ⟨vw, hg, hBg, hBb, hvc, hT, hQ⟩ hb, hb⟩
theorem learn_mid (w : World) (B g b : Nat) (O : Obj) (vc vw : Value) (known : List Pair) (p : Pair) (nq : Nat) (Y : World) (hBb : B ≤ b) (hg : w.heap[g]? = some (.cells #[vc, .map (some b), vw] 72 (0, 0))) (hT : Tbl encPair okPair w b (knownT known))
    (hT' : ∀ W : World, b < W.heap.size → Tbl encPair okPair (setBlock W b O) b (tput (knownT known) p (.bool true))) (hY : Y = setBlock ((w.alloc (.cells #[.string p.f0.f0, .string p.f0.f1, .string p.f1] 50)).drewN (nq + 1)) b O) :
    (Y.heap[g]? = some (.cells #[vc, .map (some b), vw] 72 (0, 0)) ∧ Y.heap[w.heap.size]? = some (.cells #[.string p.f0.f0, .string p.f0.f1, .string p.f1] 50 (0, 0)) ∧ Tbl encPair okPair Y b (tput (knownT known) p (.bool true))) ∧ Y.heap.size = w.heap.size + 1 ∧ (∀ i, i < w.heap.size → i ≠ b → Y.heap[i]? = w.heap[i]?) ∧ Below B w Y := by
  have hlt := hT.lt; have hgl := blk_lt hg
  have hgb : g ≠ b := by
    rintro rfl; obtain ⟨es, clock, hb, _⟩ := hT; rw [hg] at hb; cases hb
  have hother : ∀ (W : World) (i : Nat), i ≠ b → (setBlock W b O).heap[i]? = W.heap[i]? := fun W i hi => by simp [setBlock, Ne.symm hi]
  have hsz : ((w.alloc (.cells #[.string p.f0.f0, .string p.f0.f1, .string p.f1] 50)).drewN (nq + 1)).heap.size = w.heap.size + 1 := by simp
  have hold : ∀ i, i < w.heap.size → i ≠ b → Y.heap[i]? = w.heap[i]? := fun i hi hne => by
    rw [hY, hother _ _ hne]; exact heap_alloc_old hi _
  refine ⟨⟨(hold g hgl hgb).trans hg, ?_, ?_⟩, ?_, hold, ?_⟩
  · rw [hY, hother _ _ (by omega)]
    exact heap_alloc_new w _
  · rw [hY]
    exact hT' _ (by rw [hsz]; omega)
  · rw [hY]
    show ((w.alloc _).heap.setIfInBounds b O).size = _
    simp
  · rw [hY]
    exact ⟨rfl, rfl, rfl, by show w.heap.size ≤ ((w.alloc _).heap.setIfInBounds b O).size; simp, fun i hi => by rw [hother _ _ (by omega)]; exact heap_alloc_old (by omega) _⟩
theorem knownT_put (known : List Pair) (p : Pair) (h : ¬ p ∈ known) : tput (knownT known) p (.bool true) = knownT (known ++ [p]) := by
  unfold tput; rw [if_neg]
  · unfold knownT
    simp
  · unfold knownT
    simp only [List.any_map, List.any_eq_true, not_exists, not_and]; intro q hq hqp; simp at hqp; exact h (hqp ▸ hq)
theorem learn_end (Y w1 : World) (B g b : Nat) (ok : Nat → Prop) (vc vw v1 : Value) (creds : List Cred) (known waits : List Pair) (p : Pair) (hin : ¬ p ∈ known) (hgY : Y.heap[g]? = some (.cells #[vc, .map (some b), vw] 72 (0, 0))) (TY : Tbl encPair okPair Y b (tput (knownT known) p (.bool true)))
    (RY : Kd.R kCred 42 Y B (fun _ => True) vc creds) (QY : Kd.Q kPair 50 Y B ok vw waits) (hBg : B ≤ g ∧ ok g) (hBb : B ≤ b ∧ ok b) (hq1 : Kd.Q kPair 50 w1 B ok v1 (waits ++ [p])) (hg1 : (Y.drew).grownBy w1 vw.ownBlock) :
    SolverAt (w1.setCell ⟨g, 2, none⟩ v1) B ok g b vc creds (known ++ [p]) (waits ++ [p]) := by
  have hg1' : Y.grownBy w1 vw.ownBlock := ⟨hg1.os, hg1.tape, hg1.output, hg1.size, hg1.block⟩
  have hgg := (hg1'.block g (blk_lt hgY) (Kd.Q_ne QY hgY (by decide))).trans hgY
  have hbg : b ≠ g := by
    rintro rfl; obtain ⟨es, clock, hb, _⟩ := TY; rw [hgY] at hb; cases hb
  have hbv : some b ≠ vw.ownBlock := by
    intro e; obtain ⟨cells, hc⟩ := Kd.Q_typed QY b e.symm; obtain ⟨es, clock, hb, _⟩ := TY; rw [hc] at hb; cases hb
  refine ⟨v1, by simpa using blk_set hgg 2 v1, hBg, hBb, ?_, ?_, Kd.Q_set hq1 hgg (by decide) 2 v1⟩
  · refine Kd.R_set (Kd.R_over' RY (fun k hk => Kd.Q_typed QY k hk) (by decide) hg1') hgg (by decide) 2 v1
  · rw [knownT_put known p hin] at TY
    exact (TY.grown hg1' hbv).set hbg v1
set_option maxRecDepth 100000 in
set_option maxHeartbeats 2000000 in
theorem learn_new (w : World) (B g b : Nat) (ok : Nat → Prop) (vc : Value) (creds : List Cred) (known waits : List Pair) (p : Pair) (hp : okPair p) (hS : SolverAt w B ok g b vc creds known waits) (hin : ¬ p ∈ known) (hroom : known.length < 1000000) (hroom2 : waits.length < 1000000) :
    Calls Tryd.prog 49 #[.pointer (some ⟨g, 0, none⟩), encPair p] w fun e w' => e = .returned (.tuple #[]) ∧ SolverAt w' B (fun k => ok k ∨ w.heap.size ≤ k) g b vc creds (known ++ [p]) (waits ++ [p]) ∧ Below B w w' ∧ Kept w w' ok := by
  obtain ⟨vw, hg, hBg, hBb, hvc, hT, hQ⟩ := hS
  have hl := fun n => hT.look pairKey Tryd.underlying59 zeroBool hp false ((w.alloc (.cells #[.string p.f0.f0, .string p.f0.f1, .string p.f1] 50)).drewN n) (heap_alloc_old hT.lt _)
  rw [knownT_get, if_neg hin] at hl; simp only [Option.getD_none, Bool.false_eq_true, if_false, encPair] at hl
  have hT0 : B ≤ w.heap.size := by have := hT.lt; omega
  obtain ⟨O, hu, hT'⟩ := hT.store pairKey Tryd.underlying59 hp (.bool true) (by unfold knownT maxLen; rw [List.length_map]; omega)
  have hu1 := fun n => hu ((w.alloc (.cells #[.string p.f0.f0, .string p.f0.f1, .string p.f1] 50)).drewN n) (heap_alloc_old hT.lt _)
  simp only [encPair] at hu1; have hc1 := cell_alloc (show w.cell? ⟨g, 1, none⟩ = some (.map (some b)) from (Qai hg 1).trans rfl) (.cells #[.string p.f0.f0, .string p.f0.f1, .string p.f1] 50); unfold encPair; clear hu; go_enter Tryd.func49, Tryd.ntmps49; go_wp2
  go_quiet (fail)
  go_wp2
  go_region
  all_goals
    obtain ⟨Y, hY⟩ : ∃ Y, Y = setBlock ((w.alloc (.cells #[.string p.f0.f0, .string p.f0.f1, .string p.f1] 50)).drewN (nq + 1)) b O := ⟨_, rfl⟩
    rw [← hY]; have HY := Lib.hid hY; clear hY hu1 hl hc1; obtain ⟨⟨hgY, boxY, TY⟩, sizeY, oldY, belowY⟩ := learn_mid w B g b O vc vw known p nq Y hBb.1 hg hT hT' HY.out
    have QYo : Kd.Q kPair 50 Y B ok vw waits := Kd.Q_mono (Kd.Q_move (Kd.Q_bound hQ) (fun k hk => oldY k hk.2.2.1 (fun e => by
      obtain ⟨_, _, _, q, _, cells, hc⟩ := hk; obtain ⟨es, clock, hb, _⟩ := hT; rw [e, hb] at hc
      cases hc))) (fun _ hk => hk.1)
    have QY : Kd.Q kPair 50 Y B (fun k => ok k ∨ w.heap.size ≤ k) vw waits := Kd.Q_mono QYo (fun _ h => .inl h)
    have RY : Kd.R kCred 42 Y B (fun _ => True) vc creds := Kd.R_mono (Kd.R_move (Kd.R_bound hvc) (fun k hk => oldY k hk.2.2.1 (fun e => by
      obtain ⟨_, _, _, q, _, cells, hc⟩ := hk; obtain ⟨es, clock, hb, _⟩ := hT; rw [e, hb] at hc
      cases hc))) (fun _ hk => hk.1)
    have c2 : Y.cell? ⟨g, 2, none⟩ = some vw := (Qai hgY 2).trans rfl; have c2a := cell_alloc c2 (.cells #[.string p.f0.f0, .string p.f0.f1, .string p.f1] 50); have b0 : Y.cell? ⟨w.heap.size, 0, none⟩ = some (.string p.f0.f0) := (Qai boxY 0).trans rfl; have b1 : Y.cell? ⟨w.heap.size, 1, none⟩ = some (.string p.f0.f1) := (Qai boxY 1).trans rfl; have b2 : Y.cell? ⟨w.heap.size, 2, none⟩ = some (.string p.f1) := (Qai boxY 2).trans rfl; have SZ := Lib.hid sizeY; clear sizeY hT hT' HY; go_wp2
    go_region_law ((refine Kd.Q_append_step kPair (w0 := w) (W := Y.drew) B (by rfl) (.tmp 20) (.tmp 22) 51 50 _ 48 (by rfl) Tryd.underlying51 infoPair rfl (by decide) (by decide) vw waits p [.string p.f0.f0, .string p.f0.f1, .string p.f1] (fun k => ok k ∨ w.heap.size ≤ k) (fun _ => False) (by rfl) (by rfl) (k50_mkM _ _ _ p) (fun _ h => h.elim) (fun k hk => .inr (by have := SZ.out; have hk' : Y.heap.size ≤ k := hk; omega)) (Kd.Q_drew QY) (below_drew belowY) (by have := SZ.out; have := hT0; simp; omega) (by omega) ?_; intro v1 w1 hq1 hb1 hg1 hat; obtain ⟨A1, c1, rfl, hl1⟩ := Kd.Q_slice hq1; have hg2 := (hg1.block g (blk_lt hgY) (Kd.Q_ne QY hgY (by decide))).trans hgY; have c2' : w1.cell? ⟨g, 2, none⟩ = some vw := (Qai hg2 2).trans rfl; have f2' : w1.frozen? ⟨g, 2, none⟩ = false := blk_thaw hg2 2))
    all_goals
      go_wp2; go_end0; refine ⟨rfl, learn_end Y w1 B g b (fun k => ok k ∨ w.heap.size ≤ k) vc vw _ creds known waits p hin hgY TY RY QY ⟨hBg.1, .inl hBg.2⟩ ⟨hBb.1, .inl hBb.2⟩ (by simpa using hq1) hg1, hb1.setCell hBg.1 _, fun k hk hn => ?_⟩; have e1 : (w1.setCell ⟨g, 2, none⟩ (.slice A1 (waits.length + 1) c1)).heap[k]? = w1.heap[k]? := Below.heap_setCell w1 ⟨g, 2, none⟩ _ k (fun e => hn (e ▸ hBg.2)); have e2 : w1.heap[k]? = Y.heap[k]? := hg1.block k (by have := SZ.out; show k < Y.heap.size; omega) (fun e => hn (QYo.1 k e.symm)); have e3 := oldY k hk (fun e => hn (e ▸ hBb.2)); have e4 := (e1.trans e2).trans e3
      simpa using e4
structure St where
  known : List Pair
  waits : List Pair
instance okPairDec (p : Pair) : Decidable (okPair p) := by unfold okPair; infer_instance
def St.learn (s : St) (p : Pair) : Option St := if p ∈ s.known then some s else if s.known.length < 1000000 ∧ s.waits.length < 1000000 ∧ okPair p then some ⟨s.known ++ [p], s.waits ++ [p]⟩ else none
theorem SolverAt.oks {w : World} {B g b : Nat} {ok : Nat → Prop} {vc : Value} {creds : List Cred} {known waits : List Pair} (h : SolverAt w B ok g b vc creds known waits) : ∀ p ∈ known, okPair p := by
  obtain ⟨vw, hg, hBg, hBb, hvc, hT, hQ⟩ := h; intro p hp; exact hT.oks (p, .bool true) (List.mem_map.mpr ⟨p, hp, rfl⟩)
theorem SolverAt.base {w : World} {B g b : Nat} {ok : Nat → Prop} {vc : Value} {creds : List Cred} {known waits : List Pair} (h : SolverAt w B ok g b vc creds known waits) : B ≤ w.heap.size := by
  obtain ⟨vw, hg, hBg, hBb, hvc, hT, hQ⟩ := h; have := blk_lt hg; omega
theorem learn_calls (w : World) (B g b : Nat) (ok : Nat → Prop) (vc : Value) (creds : List Cred) (s s' : St) (p : Pair) (hS : SolverAt w B ok g b vc creds s.known s.waits) (h : s.learn p = some s') :
    Calls Tryd.prog 49 #[.pointer (some ⟨g, 0, none⟩), encPair p] w fun e w' => e = .returned (.tuple #[]) ∧ SolverAt w' B (fun k => ok k ∨ w.heap.size ≤ k) g b vc creds s'.known s'.waits ∧ Below B w w' ∧ Kept w w' ok := by
  unfold St.learn at h
  by_cases hin : p ∈ s.known
  · rw [if_pos hin] at h
    obtain rfl := Option.some.inj h; refine (learn_old w B g b ok vc creds s.known s.waits p (hS.oks p hin) hS hin).mono ?_; rintro e w' ⟨h1, h2, h3⟩; exact ⟨h1, h2.mono (fun _ h => .inl h), h3.mono hS.base, Kept.of_below h3 ok⟩
  · rw [if_neg hin] at h
    by_cases hr : s.known.length < 1000000 ∧ s.waits.length < 1000000 ∧ okPair p
    · rw [if_pos hr] at h
      obtain rfl := Option.some.inj h; exact learn_new w B g b ok vc creds s.known s.waits p hr.2.2 hS hin hr.1 hr.2.1
    · rw [if_neg hr] at h
      cases h
end Go.Proofs.YtbjjgaahdnfflaaDoor.Pr
end
section
namespace Go.Proofs.YtbjjgaahdnfflaaDoor.Pr
open Go.RowKit Go.Proofs.YtbjjgaahdnfflaaDoorW.PrintWords Go.Proofs.YtbjjgaahdnfflaaDoorW.PrintLast Go.Proofs.YtbjjgaahdnfflaaDoorW.PrintMore
attribute [local go_sem] max2_int min2_int max_two min_two max_three min_three max_four min_four
set_option linter.unusedVariables false
set_option linter.unusedSimpArgs false
attribute [local go_sem high] eqA24
abbrev pairObj (p : Pair) : Obj := .cells #[.string p.f0.f0, .string p.f0.f1, .string p.f1] 50
theorem boxed {w W : World} {c : Cred} {p : Pair} (h : (w.alloc (credObj c)).alloc (pairObj p) = W) : Below w.heap.size w W ∧ W.heap[w.heap.size]? = some (credObj c) ∧ W.heap[w.heap.size + 1]? = some (pairObj p) := by
  subst h; refine ⟨Qab (Qab (Below.refl w.heap.size w) _) _, Qag (blk_new w _) _, ?_⟩; have := blk_new (w.alloc (credObj c)) (pairObj p)
  simpa using this
theorem pairCells {W : World} {k : Nat} {p : Pair} (h : W.heap[k]? = some (pairObj p)) : W.cell? ⟨k, 0, none⟩ = some (.string p.f0.f0) ∧ W.cell? ⟨k, 1, none⟩ = some (.string p.f0.f1) ∧ W.cell? ⟨k, 2, none⟩ = some (.string p.f1) :=
  ⟨(Qai h 0).trans rfl, (Qai h 1).trans rfl, (Qai h 2).trans rfl⟩
def includeF (c : Cred) (p : Pair) (s : St) : Option St := if p.f0 = c.f4 then s.learn ⟨credRole c, p.f1⟩ else some s
set_option maxRecDepth 100000 in
set_option maxHeartbeats 2000000 in
theorem include_calls (w : World) (B g b : Nat) (ok : Nat → Prop) (vc : Value) (creds : List Cred) (s s' : St) (c : Cred) (p : Pair) (hS : SolverAt w B ok g b vc creds s.known s.waits) (h : includeF c p s = some s') :
    Calls Tryd.prog 50 #[.pointer (some ⟨g, 0, none⟩), encCred c, encPair p] w fun e w' => e = .returned (.tuple #[]) ∧ SolverAt w' B (fun k => ok k ∨ w.heap.size ≤ k) g b vc creds s'.known s'.waits ∧ Below B w w' ∧ Kept w w' ok := by
  unfold includeF at h
  by_cases he : p.f0 = c.f4
  · rw [if_pos he] at h
    have hb := eqRole_t he; clear he; unfold encPair encCred; go_enter Tryd.func50, Tryd.ntmps50; go_wp2; change Code.wp _ _ _ _ ((w.alloc (credObj c)).alloc (pairObj p))
    generalize hW : (w.alloc (credObj c)).alloc (pairObj p) = W
    obtain ⟨HB, BC, BP⟩ := boxed hW; obtain ⟨c0, c1, c2, c3, c4, c5, c6, c7, c8⟩ := credCells BC; obtain ⟨p0, p1, p2⟩ := pairCells BP; clear hW
    go_region_with (first | (go_at_call 35; refine (credRole_calls c _).mono ?_; rintro e w3 ⟨rfl, hB3⟩; have HB3 : Below w.heap.size w w3 := Qaf (by repeat (first | exact HB | apply Qaa | apply Qac)) hB3; have p23 := pw_cell_below hB3 p2) | (go_at_call 49; refine (learn_calls _ B g b ok vc creds s s' ⟨credRole c, p.f1⟩ ?_ h).mono ?_; exact hS.below HB3; rintro e w5 ⟨rfl, hS5, hB5, hK5⟩))
    all_goals
      go_wp2; go_end0; exact ⟨rfl, hS5.mono (fun k h => h.imp_right (fun h => Nat.le_trans HB3.size h)), (HB3.mono hS.base).trans hB5, (Kept.of_below HB3 ok).trans hK5 HB3.size (fun _ _ h => h)⟩
  · rw [if_neg he] at h
    obtain rfl := Option.some.inj h; have hb := eqRole_f he; clear he; unfold encPair encCred; go_enter Tryd.func50, Tryd.ntmps50; go_wp2; go_end0; have hb := Qab (Qab (Below.refl w.heap.size w) (credObj c)) (pairObj p); exact ⟨rfl, (hS.below hb).mono (fun _ h => .inl h), hb.mono hS.base, Kept.of_below hb ok⟩
def roleLess (a b : Role) : Bool := if a = b then false else Op.bytesLess a.f0.toList b.f0.toList || (a.f0.toList == b.f0.toList && Op.bytesLess a.f1.toList b.f1.toList)
def encRole (a : Role) : Value := .agg #[.string a.f0, .string a.f1]
set_option maxHeartbeats 1000000 in
theorem less_calls (a b : Role) (W : World) : Calls Tryd.prog 55 #[encRole a, encRole b] W fun e w' => e = .returned (.bool (roleLess a b)) ∧ ∃ q os', w' = Sort.grow (W.drewN q) os' := by
  unfold roleLess encRole
  by_cases h : a = b
  · rw [if_pos h]
    have hb := eqRole_t h; clear h; go_enter Tryd.func55, Tryd.ntmps55; go_wp2; go_ret; exact ⟨rfl, 0, _, by rw [Sort.alloc_eq_grow, Sort.alloc_eq_grow, Sort.grow_grow]; rfl⟩
  · rw [if_neg h]
    have hb := eqRole_f h; clear h
    generalize h1 : Op.bytesLess a.f0.toList b.f0.toList = b1
    generalize h2 : (a.f0.toList == b.f0.toList) = b2 at hb
    generalize h3 : Op.bytesLess a.f1.toList b.f1.toList = b3
    cases b1 <;> cases b2 <;> cases b3 <;> (
      go_enter Tryd.func55, Tryd.ntmps55; go_wp2; go_ret
      exact ⟨rfl, 0, _, by rw [Sort.alloc_eq_grow, Sort.alloc_eq_grow, Sort.grow_grow]; rfl⟩)
end Go.Proofs.YtbjjgaahdnfflaaDoor.Pr
end
section
namespace Go.Proofs.YtbjjgaahdnfflaaDoor.Pr
open Go.RowKit Go.Proofs.YtbjjgaahdnfflaaDoorW.PrintWords Go.Proofs.YtbjjgaahdnfflaaDoorW.PrintLast Go.Proofs.YtbjjgaahdnfflaaDoorW.PrintMore
theorem eqP_pair (d : Nat) (w : World) (x0 y0 : ByteArray) (x1 y1 : ByteArray) (x2 y2 : ByteArray) :
    (Op.equalIn (d + 3) 50 (.agg #[.string x0, .string x1, .string x2]) (.agg #[.string y0, .string y1, .string y2])).run Tryd.prog w = .ok ((x0.toList == y0.toList && (x1.toList == y1.toList)) && (x2.toList == y2.toList)) w := by
  refine eqA_of Tryd.underlying50 (by kernel_rfl) ?_; refine eqf_cons (by rfl) (by go_simp) (by go_simp) (eqA24 (d + 0) w _ _ _ _) ?_; exact eqf_last (by rfl) (by go_simp; rfl) (by go_simp; rfl) (by go_simp)
end Go.Proofs.YtbjjgaahdnfflaaDoor.Pr
end
section
namespace Go.Proofs.YtbjjgaahdnfflaaDoor.Pr
open Go.RowKit Go.Proofs.YtbjjgaahdnfflaaDoorW.PrintWords Go.Proofs.YtbjjgaahdnfflaaDoorW.PrintLast Go.Proofs.YtbjjgaahdnfflaaDoorW.PrintMore
attribute [local go_sem] max2_int min2_int max_two min_two max_three min_three max_four min_four
set_option linter.unusedVariables false
set_option linter.unusedSimpArgs false
attribute [local go_sem high] eqA24
attribute [local go_sem high] eqP_pair
def pairLess (a b : Pair) : Bool := roleLess a.f0 b.f0 || (decide (a.f0 = b.f0) && Op.bytesLess a.f1.toList b.f1.toList)
def pairCmp (x y : Pair) : Int := if x = y then 0 else if pairLess x y = true then -1 else 1
theorem eqPair_t {a b : Pair} (h : a = b) : ((a.f0.f0.toList == b.f0.f0.toList && (a.f0.f1.toList == b.f0.f1.toList)) && (a.f1.toList == b.f1.toList)) = true := by subst h; simp
theorem eqPair_f {a b : Pair} (h : ¬ a = b) : ((a.f0.f0.toList == b.f0.f0.toList && (a.f0.f1.toList == b.f0.f1.toList)) && (a.f1.toList == b.f1.toList)) = false := by
  rw [Bool.eq_false_iff]; intro e; rw [Bool.and_eq_true] at e; refine h (pair_ext ?_ ((Lib.bytes_beq_iff _ _).mp e.2))
  apply Decidable.byContradiction
  intro hr; rw [eqRole_f hr] at e; exact absurd e.1 (by decide)
theorem boxed_grow {W w3 : World} {x y : Pair} {q : Nat} {os : Array Obj} (h : w3 = Sort.grow (((W.alloc (pairObj x)).alloc (pairObj y)).drewN q) os) : w3.heap[W.heap.size]? = some (pairObj x) ∧ w3.heap[W.heap.size + 1]? = some (pairObj y) ∧ ∃ q os', w3 = Sort.grow (W.drewN q) os' := by
  have hs : ((W.alloc (pairObj x)).alloc (pairObj y)).heap.size = W.heap.size + 2 := by simp
  have hb : ∀ k, k < W.heap.size + 2 → w3.heap[k]? = ((W.alloc (pairObj x)).alloc (pairObj y)).heap[k]? := fun k hk => by
    rw [h]
    show (((W.alloc (pairObj x)).alloc (pairObj y)).heap ++ os)[k]? = _
    rw [Array.getElem?_append_left (by rw [hs]; exact hk)]
  refine ⟨(hb _ (by omega)).trans (Qag (blk_new W _) _), (hb _ (by omega)).trans ?_, q, #[pairObj x] ++ #[pairObj y] ++ os, ?_⟩
  · have := blk_new (W.alloc (pairObj x)) (pairObj y)
    simpa using this
  · rw [h, Sort.alloc_eq_grow, Sort.alloc_eq_grow, Sort.grow_grow]
    exact Sort.grow_grow (W.drewN q) _ os
set_option maxHeartbeats 2000000 in
theorem pairs1_calls (x y : Pair) (W : World) : Calls Tryd.prog 54 #[encPair x, encPair y] W fun e w' => e = .returned (.int .i64 (pairCmp x y)) ∧ ∃ q os', w' = Sort.grow (W.drewN q) os' := by
  unfold pairCmp pairLess encPair
  by_cases h : x = y
  · rw [if_pos h]
    have hb := eqPair_t h; clear h; go_enter Tryd.func54, Tryd.ntmps54; go_wp2; go_ret; exact ⟨rfl, 0, _, by rw [Sort.alloc_eq_grow, Sort.alloc_eq_grow, Sort.grow_grow]; rfl⟩
  · rw [if_neg h]
    have hb := eqPair_f h; clear h
    have HL := fun W' => less_calls x.f0 y.f0 W'
    obtain ⟨b2, h2, hr⟩ : ∃ b2 : Bool, (x.f0.f0.toList == y.f0.f0.toList && (x.f0.f1.toList == y.f0.f1.toList)) = b2 ∧ decide (x.f0 = y.f0) = b2 := by
      by_cases hr : x.f0 = y.f0
      · exact ⟨true, eqRole_t hr, decide_eq_true hr⟩
      · exact ⟨false, eqRole_f hr, decide_eq_false hr⟩
    rw [hr]; clear hr; unfold encRole at HL
    generalize roleLess x.f0 y.f0 = b1 at HL ⊢
    generalize h3 : Op.bytesLess x.f1.toList y.f1.toList = b3
    rw [h2] at hb
    cases b1 <;> cases b2 <;> cases b3 <;> simp only [Bool.true_and, Bool.false_and] at hb <;> (
      go_enter Tryd.func54, Tryd.ntmps54
      go_upto_region 1 with fail
      change Code.wp _ _ _ _ ((W.alloc (pairObj x)).alloc (pairObj y))
      go_wp2_with (go_at_call 55; refine (HL _).mono ?_; rintro e w3 ⟨rfl, q, os, hw3⟩; obtain ⟨BX, BY, hos⟩ := boxed_grow hw3; clear hw3; obtain ⟨x0, x1, x2⟩ := pairCells BX; obtain ⟨y0, y1, y2⟩ := pairCells BY; clear BX BY)
      go_ret
      exact ⟨rfl, hos⟩)
end Go.Proofs.YtbjjgaahdnfflaaDoor.Pr
end
section
namespace Go.Proofs.YtbjjgaahdnfflaaDoor.Pr
open Go.RowKit Go.Proofs.YtbjjgaahdnfflaaDoorW.PrintWords Go.Proofs.YtbjjgaahdnfflaaDoorW.PrintLast Go.Proofs.YtbjjgaahdnfflaaDoorW.PrintMore
attribute [local go_sem] max2_int min2_int max_two min_two max_three min_three max_four min_four
set_option linter.unusedVariables false
set_option linter.unusedSimpArgs false
attribute [local go_sem high] eqA24
theorem look_known {w W : World} {B g b : Nat} {ok : Nat → Prop} {vc : Value} {creds : List Cred} {known waits : List Pair} (hS : SolverAt w B ok g b vc creds known waits) (hB : Below w.heap.size w W) (r : Role) (u : ByteArray) (hq : okPair ⟨r, u⟩) (n : Nat) :
    (Instr.lookup 59 (.map (some b)) (.agg #[.string r.f0, .string r.f1, .string u]) false).run Tryd.prog (W.drewN n) = .ok (.bool (decide ((⟨r, u⟩ : Pair) ∈ known))) (W.drewN n) := by
  obtain ⟨vw, hg, hBg, hBb, hvc, hT, hQ⟩ := hS; have hl := hT.look pairKey Tryd.underlying59 zeroBool hq false (W.drewN n) (hB.block b hT.lt); rw [knownT_get] at hl; refine hl.trans ?_
  by_cases hin : (⟨r, u⟩ : Pair) ∈ known
  · simp [hin]
  · simp [hin]
theorem SolverAt.cells {w : World} {B g b : Nat} {ok : Nat → Prop} {vc : Value} {creds : List Cred} {known waits : List Pair} (hS : SolverAt w B ok g b vc creds known waits) : w.cell? ⟨g, 0, none⟩ = some vc ∧ w.cell? ⟨g, 1, none⟩ = some (.map (some b)) := by
  obtain ⟨vw, hg, hBg, hBb, hvc, hT, hQ⟩ := hS; exact ⟨(Qai hg 0).trans rfl, (Qai hg 1).trans rfl⟩
def bothSecond (c : Cred) (p : Pair) (s : St) : Option St := if p.f0 = c.f5 then (if okPair ⟨c.f4, p.f1⟩ then (if (⟨c.f4, p.f1⟩ : Pair) ∈ s.known then s.learn ⟨credRole c, p.f1⟩ else some s) else none) else some s
def bothF (c : Cred) (p : Pair) (s : St) : Option St := if p.f0 = c.f4 then (if okPair ⟨c.f5, p.f1⟩ then (if (⟨c.f5, p.f1⟩ : Pair) ∈ s.known then s.learn ⟨credRole c, p.f1⟩ else bothSecond c p s) else none) else bothSecond c p s
set_option maxRecDepth 100000 in
set_option maxHeartbeats 2000000 in
theorem both_calls (w : World) (B g b : Nat) (ok : Nat → Prop) (vc : Value) (creds : List Cred) (s s' : St) (c : Cred) (p : Pair) (hS : SolverAt w B ok g b vc creds s.known s.waits) (h : bothF c p s = some s') :
    Calls Tryd.prog 52 #[.pointer (some ⟨g, 0, none⟩), encCred c, encPair p] w fun e w' => e = .returned (.tuple #[]) ∧ SolverAt w' B (fun k => ok k ∨ w.heap.size ≤ k) g b vc creds s'.known s'.waits ∧ Below B w w' ∧ Kept w w' ok := by
  unfold encPair encCred; go_enter Tryd.func52, Tryd.ntmps52
  go_upto_region 1 with fail
  change Code.wp _ _ _ _ ((w.alloc (credObj c)).alloc (pairObj p))
  generalize hW : (w.alloc (credObj c)).alloc (pairObj p) = W
  obtain ⟨HB, BC, BP⟩ := boxed hW; obtain ⟨c0, c1, c2, c3, c4, c5, c6, c7, c8⟩ := credCells BC; obtain ⟨p0, p1, p2⟩ := pairCells BP; have s1 := (hS.below HB).cells.2; have L := look_known hS HB; clear hW
  go_cut [41] from 6 to 48 (fun v wc => ∃ t : Bool, v = .bool t ∧ (∃ n, wc = W.drewN n) ∧ (if t then s.learn ⟨credRole c, p.f1⟩ else some s) = some s')
  case first =>
    unfold bothF bothSecond at h
    by_cases e1 : p.f0 = c.f4
    · rw [if_pos e1] at h
      have hb1 := eqRole_t e1; clear e1
      by_cases k1 : okPair ⟨c.f5, p.f1⟩
      · rw [if_pos k1] at h
        have l1 := fun n => L c.f5 p.f1 k1 n
        by_cases i1 : (⟨c.f5, p.f1⟩ : Pair) ∈ s.known
        · rw [if_pos i1] at h
          simp only [decide_eq_true i1] at l1
          go_quiet (fail)
          all_goals
            go_wp2_with fail
            go_meet
            case rel => exact ⟨true, rfl, ⟨_, rfl⟩, h⟩
        · rw [if_neg i1] at h
          simp only [decide_eq_false i1] at l1
          by_cases e2 : p.f0 = c.f5
          · rw [if_pos e2] at h
            have hb2 := eqRole_t e2; clear e2
            by_cases k2 : okPair ⟨c.f4, p.f1⟩
            · rw [if_pos k2] at h
              have l2 := fun n => L c.f4 p.f1 k2 n
              clear L k1 k2
              by_cases i2 : (⟨c.f4, p.f1⟩ : Pair) ∈ s.known
              · rw [if_pos i2] at h
                simp only [decide_eq_true i2] at l2
                go_quiet (fail)
                all_goals
                  go_wp2_with fail
                  go_meet
                  case rel => exact ⟨true, rfl, ⟨_, rfl⟩, h⟩
              · rw [if_neg i2] at h
                simp only [decide_eq_false i2] at l2
                go_quiet (fail)
                all_goals
                  go_wp2_with fail
                  go_meet
                  case rel => exact ⟨false, rfl, ⟨_, rfl⟩, h⟩
            · rw [if_neg k2] at h
              cases h
          · rw [if_neg e2] at h
            have hb2 := eqRole_f e2; clear e2
            go_quiet (fail)
            all_goals
              go_wp2_with fail
              go_meet
              case rel => exact ⟨false, rfl, ⟨_, rfl⟩, h⟩
      · rw [if_neg k1] at h
        cases h
    · rw [if_neg e1] at h
      have hb1 := eqRole_f e1; clear e1
      by_cases e2 : p.f0 = c.f5
      · rw [if_pos e2] at h
        have hb2 := eqRole_t e2; clear e2
        by_cases k2 : okPair ⟨c.f4, p.f1⟩
        · rw [if_pos k2] at h
          have l2 := fun n => L c.f4 p.f1 k2 n
          clear L k2
          by_cases i2 : (⟨c.f4, p.f1⟩ : Pair) ∈ s.known
          · rw [if_pos i2] at h
            simp only [decide_eq_true i2] at l2
            go_quiet (fail)
            all_goals
              go_wp2_with fail
              go_meet
              case rel => exact ⟨true, rfl, ⟨_, rfl⟩, h⟩
          · rw [if_neg i2] at h
            simp only [decide_eq_false i2] at l2
            go_quiet (fail)
            all_goals
              go_wp2_with fail
              go_meet
              case rel => exact ⟨false, rfl, ⟨_, rfl⟩, h⟩
        · rw [if_neg k2] at h
          cases h
      · rw [if_neg e2] at h
        have hb2 := eqRole_f e2; clear e2
        go_quiet (fail)
        all_goals
          go_wp2_with fail
          go_meet
          case rel => exact ⟨false, rfl, ⟨_, rfl⟩, h⟩
  case rest =>
    obtain ⟨t, rfl, ⟨n, rfl⟩, hh⟩ := hcut; clear L h s1; have HBn := Qaa HB n; have BCn := Qah BC n; have BPn := Qah BP n
    generalize W.drewN n = V at HBn BCn BPn ⊢
    clear c0 c1 c2 c3 c4 c5 c6 c7 c8 p0 p1 p2 BC BP HB; obtain ⟨c0, c1, c2, c3, c4, c5, c6, c7, c8⟩ := credCells BCn; obtain ⟨p0, p1, p2⟩ := pairCells BPn
    cases t with
    | true =>
      go_wp2
      go_region_with (first | (go_at_call 35; refine (credRole_calls c _).mono ?_; rintro e w3 ⟨rfl, hB3⟩; have HB3 : Below w.heap.size w w3 := Qaf (by repeat (first | exact HBn | apply Qaa | apply Qac)) hB3; have p23 := pw_cell_below hB3 p2) | (go_at_call 49; refine (learn_calls _ B g b ok vc creds s s' ⟨credRole c, p.f1⟩ ?_ hh).mono ?_; exact hS.below HB3; rintro e w5 ⟨rfl, hS5, hB5, hK5⟩))
      all_goals
        go_wp2; go_end0; exact ⟨rfl, hS5.mono (fun k h => h.imp_right (fun h => Nat.le_trans HB3.size h)), (HB3.mono hS.base).trans hB5, (Kept.of_below HB3 ok).trans hK5 HB3.size (fun _ _ h => h)⟩
    | false =>
      obtain rfl := Option.some.inj hh; go_wp2; go_end0; exact ⟨rfl, (hS.below HBn).mono (fun _ h => .inl h), HBn.mono hS.base, Kept.of_below HBn ok⟩
end Go.Proofs.YtbjjgaahdnfflaaDoor.Pr
end
section
namespace Go.Proofs.YtbjjgaahdnfflaaDoor
theorem bl_irrefl : ∀ x : List UInt8, Op.bytesLess x x = false
  | [] => rfl
  | a :: x => by
    unfold Op.bytesLess; simp [bl_irrefl x]
theorem bl_trans : ∀ x y z : List UInt8, Op.bytesLess x y = true → Op.bytesLess y z = true → Op.bytesLess x z = true
  | [], [], z => fun h _ => by simp [Op.bytesLess] at h
  | [], b :: y, [] => fun _ h => by simp [Op.bytesLess] at h
  | [], b :: y, c :: z => fun _ _ => by simp [Op.bytesLess]
  | a :: x, [], z => fun h _ => by simp [Op.bytesLess] at h
  | a :: x, b :: y, [] => fun _ h => by simp [Op.bytesLess] at h
  | a :: x, b :: y, c :: z => fun h1 h2 => by
    have ih := bl_trans x y z; simp only [Op.bytesLess] at *; simp only [UInt8.lt_iff_toNat_lt, Bool.or_eq_true, decide_eq_true_eq, Bool.and_eq_true, beq_iff_eq] at *
    rcases h1 with h1 | ⟨rfl, h1⟩
    · rcases h2 with h2 | ⟨rfl, h2⟩
      · exact .inl (Nat.lt_trans h1 h2)
      · exact .inl h1
    · rcases h2 with h2 | ⟨rfl, h2⟩
      · exact .inl h2
      · exact .inr ⟨rfl, ih h1 h2⟩
theorem bl_total : ∀ x y : List UInt8, Op.bytesLess x y = false → Op.bytesLess y x = false → x = y
  | [], [] => fun _ _ => rfl
  | [], b :: y => fun h _ => by simp [Op.bytesLess] at h
  | a :: x, [] => fun _ h => by simp [Op.bytesLess] at h
  | a :: x, b :: y => fun h1 h2 => by
    have ih := bl_total x y; simp only [Op.bytesLess] at *; simp only [UInt8.lt_iff_toNat_lt, Bool.or_eq_false_iff, decide_eq_false_iff_not, Bool.and_eq_false_iff, beq_eq_false_iff_ne] at *; have e : a = b := UInt8.toNat_inj.mp (by omega); subst e; rw [ih (h1.2.resolve_left (fun h => h rfl)) (h2.2.resolve_left (fun h => h rfl))]
def sLess (a b : ByteArray) : Bool := Op.bytesLess a.toList b.toList
theorem sLess_irrefl (a : ByteArray) : sLess a a = false := bl_irrefl _
theorem sLess_trans {a b c : ByteArray} (h : sLess a b = true) (h' : sLess b c = true) : sLess a c = true := bl_trans _ _ _ h h'
theorem sLess_total {a b : ByteArray} (h : sLess a b = false) (h' : sLess b a = false) : a = b := by
  have := bl_total _ _ h h'; exact (Lib.bytes_beq_iff a b).mp (by rw [beq_iff_eq]; exact this)
end Go.Proofs.YtbjjgaahdnfflaaDoor
end
section
namespace Go.Proofs.YtbjjgaahdnfflaaDoor.Pr
open Go.RowKit Go.Proofs.YtbjjgaahdnfflaaDoorW.PrintWords Go.Proofs.YtbjjgaahdnfflaaDoorW.PrintLast Go.Proofs.YtbjjgaahdnfflaaDoorW.PrintMore
attribute [local go_sem] max2_int min2_int max_two min_two max_three min_three max_four min_four
set_option linter.unusedVariables false
set_option linter.unusedSimpArgs false
theorem roleLess_iff (a b : Role) : roleLess a b = true ↔ sLess a.f0 b.f0 = true ∨ (a.f0 = b.f0 ∧ sLess a.f1 b.f1 = true) := by
  unfold roleLess
  by_cases h : a = b
  · subst h
    rw [if_pos rfl, sLess_irrefl, sLess_irrefl]; simp
  · rw [if_neg h]
    show (sLess _ _ || (_ && sLess _ _)) = true ↔ _
    rw [Bool.or_eq_true, Bool.and_eq_true, Lib.bytes_beq_iff]
theorem pairLess_iff (a b : Pair) : pairLess a b = true ↔ roleLess a.f0 b.f0 = true ∨ (a.f0 = b.f0 ∧ sLess a.f1 b.f1 = true) := by
  unfold pairLess
  show (roleLess _ _ || (_ && sLess _ _)) = true ↔ _
  rw [Bool.or_eq_true, Bool.and_eq_true, decide_eq_true_eq]
theorem roleLess_irrefl (a : Role) : ¬ roleLess a a = true := by unfold roleLess; simp
theorem roleLess_trans {a b c : Role} (h1 : roleLess a b = true) (h2 : roleLess b c = true) : roleLess a c = true := by
  rw [roleLess_iff] at *
  rcases h1 with h1 | ⟨e1, h1⟩
  · rcases h2 with h2 | ⟨e2, h2⟩
    · exact .inl (sLess_trans h1 h2)
    · exact .inl (e2 ▸ h1)
  · rcases h2 with h2 | ⟨e2, h2⟩
    · exact .inl (e1 ▸ h2)
    · exact .inr ⟨e1.trans e2, sLess_trans h1 h2⟩
theorem roleLess_total {a b : Role} (h1 : ¬ roleLess a b = true) (h2 : ¬ roleLess b a = true) : a = b := by
  rw [roleLess_iff, not_or, not_and, Bool.not_eq_true, Bool.not_eq_true] at *; have e := sLess_total h1.1 h2.1; exact role_ext e (sLess_total (h1.2 e) (h2.2 e.symm))
theorem pairLess_irrefl (a : Pair) : ¬ pairLess a a = true := by
  rw [pairLess_iff, sLess_irrefl]; simp [roleLess_irrefl]
theorem pairLess_trans {a b c : Pair} (h1 : pairLess a b = true) (h2 : pairLess b c = true) : pairLess a c = true := by
  rw [pairLess_iff] at *
  rcases h1 with h1 | ⟨e1, h1⟩
  · rcases h2 with h2 | ⟨e2, h2⟩
    · exact .inl (roleLess_trans h1 h2)
    · exact .inl (e2 ▸ h1)
  · rcases h2 with h2 | ⟨e2, h2⟩
    · exact .inl (e1 ▸ h2)
    · exact .inr ⟨e1.trans e2, sLess_trans h1 h2⟩
theorem pairLess_total {a b : Pair} (h1 : ¬ pairLess a b = true) (h2 : ¬ pairLess b a = true) : a = b := by
  rw [pairLess_iff, not_or, not_and, Bool.not_eq_true] at *; have e := roleLess_total (by simpa using h1.1) (by simpa using h2.1); exact pair_ext e (sLess_total (by simpa using h1.2 e) (by simpa using h2.2 e.symm))
theorem pairCmp_lt (x y : Pair) : Go.Proofs.ltOf pairCmp x y = pairLess x y := by
  unfold Go.Proofs.ltOf pairCmp
  by_cases h : x = y
  · subst h
    rw [if_pos rfl]; have := pairLess_irrefl x
    simp_all
  · rw [if_neg h]
    by_cases h2 : pairLess x y = true
    · rw [if_pos h2, h2]
      rfl
    · rw [if_neg h2]
      simp_all
theorem pairSWO : Go.Sort.SWO (Go.Proofs.ltOf pairCmp) where
  irrefl x := by rw [pairCmp_lt]; have := pairLess_irrefl x; simp_all
  trans x y z h1 h2 := by rw [pairCmp_lt] at *; exact pairLess_trans h1 h2
  ntrans x y z h1 h2 := by
    rw [pairCmp_lt] at *; rw [Bool.eq_false_iff] at *; intro h3
    by_cases h4 : pairLess y x = true
    · exact h2 (pairLess_trans h4 h3)
    · rw [pairLess_total h1 h4] at h3
      exact h2 h3
def sortPairs (l : List Pair) : List Pair := l.mergeSort fun x y => !(Go.Proofs.ltOf pairCmp) y x
def encPairL (p : Pair) : List Value := [.string p.f0.f0, .string p.f0.f1, .string p.f1]
instance : Inhabited Pair := ⟨⟨⟨⟨#[]⟩, ⟨#[]⟩⟩, ⟨#[]⟩⟩⟩
theorem flatPair : Flat kPair encPairL where
  opens h := k50_openM h
  shuts w base ok x := k50_mkM w base ok x
  len _ := rfl
theorem isAggPair (w : World) : (isAgg 50).run Tryd.prog w = .ok true w := by kernel_rfl
theorem sizeOfPair (w : World) : (Go.sizeOf 50).run Tryd.prog w = .ok 3 w := by kernel_rfl
theorem sort_calls (w : World) (B : Nat) (v : Value) (l : List Pair) (hR : Kd.R kPair 50 w B (fun _ => True) v l) (hB : B ≤ w.heap.size) (hl : l.length < 4611686018427387904) : Calls Tryd.prog 53 #[v, .func (.func 54) #[] #[]] w fun e w' =>
    e = .returned (.tuple #[]) ∧ Kd.R kPair 50 w' B (fun _ => True) v (sortPairs l) ∧ Below B w w' := by
  obtain ⟨A, c, rfl⟩ := Kd.R_slice hR
  cases A with
  | none =>
    have hl : l = [] := by
      obtain ⟨_, inner, ⟨_, ho⟩, hr⟩ := hR
      rcases ho with ⟨_, h0⟩ | ⟨g', cap', cur, hv, _⟩
      · exact List.eq_nil_of_length_eq_zero h0
      · cases hv
    subst hl; refine (AnyF.slices_SortFunc_none Tryd.sortPair none c (.func (.func 54) #[] #[]) w).mono ?_; rintro e w' ⟨rfl, rfl⟩; exact ⟨rfl, by simpa [sortPairs] using hR, Below.refl _ _⟩
  | some a =>
    obtain ⟨g, off, fr⟩ := a
    have hfr : fr = none := by
      obtain ⟨_, inner, ⟨_, ho⟩, hr⟩ := hR
      rcases ho with ⟨h0, _⟩ | ⟨g', cap', cur, hv, _⟩
      · cases h0
      · simp only [Value.slice.injEq, Option.some.injEq, Addr.mk.injEq] at hv
        exact hv.1.2.2
    subst hfr; obtain ⟨rfl, _, hg, hH, hlt, hmax⟩ := holds_of_R flatPair hR; have eg : ∀ args w, (callFunc 54 args).run Tryd.prog w = .ok (.enter 54 args) w := enters_of Tryd.func54 (by kernel_rfl) rfl
    have hc : CmpLays Tryd.prog 54 #[] encPairL 3 pairCmp g 0 l.toArray.size w := fun _ _ _ _ x y => pairs1_calls x y _
    have hT : ∀ x y, (ltOf pairCmp) x y = false → (ltOf pairCmp) y x = false → x = y := fun x y h1 h2 => by
      rw [pairCmp_lt] at *; exact pairLess_total (by simp_all) (by simp_all)
    have hsz : l.toArray.size < 4611686018427387904 := by simpa using hl
    refine (AnyQ.slices_SortFunc_total Tryd.sortPair 3 isAggPair sizeOfPair encPairL (fun _ => rfl) (fun x v hv => by simp [encPairL] at hv; rcases hv with rfl | rfl | rfl <;> rfl) pairCmp pairSWO 54 #[] g 0 c l.toArray w eg hc hH hlt hsz hT).mono ?_; rintro e w' ⟨rfl, n, os, rfl⟩; exact ⟨rfl, R_of_sorted flatPair hR n (sortPairs l) os (List.length_mergeSort _), sorted_below encPairL w g 3 n (sortPairs l) os hB hg⟩
theorem sortPairs_length (l : List Pair) : (sortPairs l).length = l.length := List.length_mergeSort _
theorem R_keep {α : Type} {d : Kd α} {e : Nat} {w w1 : World} {base : Nat} {ok : Nat → Prop} {v : Value} {xs : List α} (h : Kd.R d e w base ok v xs) {row : Nat} (hg : w.grownBy w1 (some row)) (hrow : ∀ c t, w.heap[row]? ≠ some (.cells c t (0, 0))) : Kd.R d e w1 base ok v xs := by
  refine Kd.R_mono (Kd.R_move (Kd.R_bound h) (fun k hk => ?_)) (fun _ hk => hk.1); obtain ⟨_, _, hlt, q, _, cells, hc⟩ := hk; refine hg.block k hlt (fun e => ?_)
  injection e with e
  subst e; exact hrow _ _ hc
theorem rng_cells {w : World} {b r : Nat} {l left : List (Pair × Value)} (h : Rng encPair okPair w b r l left) : (∀ c t, w.heap[r]? ≠ some (.cells c t (0, 0))) ∧ (∀ c t, w.heap[b]? ≠ some (.cells c t (0, 0))) := by
  obtain ⟨es, clock, since, seen, c0, hb, hl, ho, hs, hm, hr, _⟩ := h; exact ⟨fun c t e => by (rw [hr] at e; cases e), fun c t e => by (rw [hb] at e; cases e)⟩
theorem knownT_split {left : List Pair} {a c : List (Pair × Value)} {x : Pair × Value} (h : knownT left = a ++ x :: c) : ∃ l1 p l2, left = l1 ++ p :: l2 ∧ a = knownT l1 ∧ c = knownT l2 ∧ x = (p, .bool true) := by
  unfold knownT at *; obtain ⟨l1, l2', rfl, h1, h2⟩ := List.map_eq_append_iff.mp h; obtain ⟨p, l2, rfl, h3, h4⟩ := List.map_eq_cons_iff.mp h2; exact ⟨l1, p, l2, rfl, h1.symm, h4.symm, h3.symm⟩
theorem sortPairs_perm {l l' : List Pair} (h : l.Perm l') : sortPairs l = sortPairs l' := by
  have hsort : ∀ x : List Pair, (sortPairs x).Pairwise (fun a b => (!(ltOf pairCmp) b a) = true) := fun x => by
    unfold sortPairs; refine List.pairwise_mergeSort (le := fun x y => !(ltOf pairCmp) y x) ?_ ?_ x
    · intro a b c h1 h2
      simp only [Bool.not_eq_true'] at *; exact pairSWO.ntrans _ _ _ h2 h1
    · intro a b
      rw [pairCmp_lt, pairCmp_lt]
      by_cases h1 : pairLess b a = true
      · have : ¬ pairLess a b = true := fun h2 => pairLess_irrefl _ (pairLess_trans h1 h2)
        simp_all
      · simp_all
  refine List.Perm.eq_of_pairwise (le := fun a b => (!(ltOf pairCmp) b a) = true) ?_ (hsort l) (hsort l') (((List.mergeSort_perm l _).trans h).trans (List.mergeSort_perm l' _).symm); intro a b _ _ h1 h2; simp only [pairCmp_lt] at h1 h2; exact pairLess_total (by simp_all) (by simp_all)
set_option maxRecDepth 100000 in
set_option maxHeartbeats 4000000 in
theorem pairs_calls (w : World) (B g b : Nat) (ok : Nat → Prop) (vc : Value) (creds : List Cred) (s : St) (hS : SolverAt w B ok g b vc creds s.known s.waits) (hroom : s.known.length ≤ 1000000) :
    Calls Tryd.prog 34 #[.pointer (some ⟨g, 0, none⟩)] w fun e w' => ∃ v, e = .returned v ∧ Kd.R kPair 50 w' w.heap.size (fun _ => True) v (sortPairs s.known) ∧ Below w.heap.size w w' := by
  have s1 := (SolverAt.cells hS).2; have _ := @look_known; obtain ⟨vw, hg, hBg, hBb, hvc, hT, hQ⟩ := hS; obtain ⟨O, hrun, hrng⟩ := hT.range (P := Tryd.prog) Tryd.underlying59; have hrun1 := hrun w rfl; have HR0 := Lib.hid (hrng w rfl); clear hrun hrng hT; clear hg hBg hBb hvc hQ; go_enter Tryd.func34, Tryd.ntmps34; go_wp2
  go_loopg [3, 4] (s.known.length + 1) (fun kq v3 _ w' => ∃ dn left : List Pair, Hid (kq = left.length + 1) ∧ Hid (Kd.R kPair 50 w' w.heap.size (fun _ => True) v3 dn) ∧ Hid (Rng encPair okPair w' b w.heap.size (knownT s.known) (knownT left)) ∧ Hid ((dn ++ left).Perm s.known) ∧ Hid (Below w.heap.size w w'))
  case atStart => exact ⟨[], s.known, Lib.hid rfl, Lib.hid (Kd.R_nil _ _ _ _ _), Lib.hid HR0.out, Lib.hid (List.Perm.refl _), Lib.hid (Qab (Below.refl _ _) _)⟩
  case round =>
    clear hrun1 HR0; obtain ⟨dn, left, HK, HO, HRng, HP, HB⟩ := hrel
    rcases HRng.out.next (P := Tryd.prog) 0 with ⟨hl, hnx⟩ | ⟨a, x, c, w1, hsp, hok, hnx, hrng1, hgr, hsz, hent⟩
    · have hl' : left = [] := by simpa [knownT] using hl
      have HE := Lib.hid hl'; clear hl hl'
      go_wp2_with (go_at_call 53; refine (sort_calls _ w.heap.size _ dn HO.out HB.out.size (by have := HP.out.length_eq; simp at this; omega)).mono ?_; rintro e w3 ⟨rfl, hR3, hB3⟩)
      go_ret; have hp := HP.out; rw [HE.out, List.append_nil] at hp; rw [sortPairs_perm hp] at hR3; exact ⟨_, rfl, hR3, HB.out.trans hB3⟩
    · obtain ⟨l1, p, l2, e0, rfl, rfl, rfl⟩ := knownT_split hsp
      have HE := Lib.hid e0; have HC := rng_cells HRng.out; have R1 := Lib.hid (R_keep HO.out hgr HC.1); have B1 := Lib.hid (HB.out.grown hgr HB.out.size (fun k hk => by injection hk with hk; omega)); have N1 := Lib.hid hrng1; have hent1 := hent w1 rfl rfl; have LM := Lib.hid (show dn.length < 1000001 by have := HP.out.length_eq; simp at this; omega); unfold encPair at hnx hent1; clear hsp e0 hok hrng1 hgr hsz hent HC HO HRng HB
      go_wp2_with ((with_reducible refine gate_builtin (b := .append) (xs := #[.tmp 14, .tmp 16]) rfl ?_); at_builtin; refine Kd.R_append kPair (w0 := w) w.heap.size rfl (.tmp 14) (.tmp 16) 51 50 (.agg #[(.string ⟨#[]⟩), (.string ⟨#[]⟩), (.string ⟨#[]⟩)]) 48 rfl Tryd.underlying51 infoPair rfl (by decide) (by omega) _ dn p [.string p.f0.f0, .string p.f0.f1, .string p.f1] (fun _ => True) (fun _ => False) rfl ?aX ?aP (fun _ hk => hk.elim) (fun _ _ => trivial) ?aO ?aB ?aS ?aL ?_; (case aX => (show Value.slice (some ⟨w1.heap.size + 1, 0, none⟩) 1 1 = _; simp)); (case aP => exact k50_mkM _ _ _ p); (case aB => exact (Qab B1.out _)); (case aO => exact (Kd.R_alloc R1.out _)); (case aS => exact (Qav (Qab B1.out _))); (case aL => have := LM.out; omega); intro v2 w2 ho hb hg hat)
      have hne := rng_cells N1.out
      have hrow : ∀ i, (∀ c t, w1.heap[i]? ≠ some (.cells c t (0, 0))) → some i ≠ u3.ownBlock := fun i hi e => by
        obtain ⟨cells, hc⟩ := Kd.R_typed R1.out i e.symm; exact hi _ _ hc
      have hnew := (N1.out.below (Qab (Below.refl w1.heap.size w1) _)).grown hg (hrow b hne.2) (hrow _ hne.1); have HG := Lib.hid hnew; clear hnew hnx hent1
      go_roundg ((l1 ++ l2).length + 1)
      case measure =>
        have e1 := HK.out; rw [HE.out] at e1; simp at e1 ⊢; omega
      case rel =>
        refine ⟨dn ++ [p], l1 ++ l2, Lib.hid rfl, Lib.hid ho, Lib.hid ?_, Lib.hid ?_, Lib.hid hb⟩
        · have := HG.out
          rw [show knownT (l1 ++ l2) = knownT l1 ++ knownT l2 from List.map_append]; exact this
        · have hp := HP.out
          rw [HE.out] at hp; refine List.Perm.trans ?_ hp; rw [List.append_assoc]; exact List.Perm.append_left dn (show (p :: (l1 ++ l2)).Perm (l1 ++ p :: l2) from List.perm_middle.symm)
end Go.Proofs.YtbjjgaahdnfflaaDoor.Pr
end
section
namespace Go.Proofs.YtbjjgaahdnfflaaDoor.Pr
open Go.RowKit Go.Proofs.YtbjjgaahdnfflaaDoorW.PrintWords Go.Proofs.YtbjjgaahdnfflaaDoorW.PrintLast Go.Proofs.YtbjjgaahdnfflaaDoorW.PrintMore
attribute [local go_sem] max2_int min2_int max_two min_two max_three min_three max_four min_four
set_option linter.unusedVariables false
set_option linter.unusedSimpArgs false
attribute [local go_sem high] eqA24
def linkFirst (c : Cred) : Role := ⟨domName c.f0.f0, c.f4.f1⟩
def learnMany (c : Cred) (second : Role) : List Pair → St → Option St
  | [], s => some s
  | q :: l, s => if q.f0 = second then (s.learn ⟨credRole c, q.f1⟩).bind (learnMany c second l) else learnMany c second l s
def linkA (c : Cred) (p : Pair) (s : St) : Option St :=
  if p.f0 = linkFirst c then (names_Number.f 20 p.f1).bind fun n => if n > 0 then (if s.known.length ≤ 1000000 then learnMany c ⟨p.f1, c.f5.f1⟩ (sortPairs s.known) s else none) else some s else some s
def linkB (c : Cred) (p : Pair) (s : St) : Option St :=
  if p.f0.f1 = c.f5.f1 then (if okPair ⟨linkFirst c, p.f0.f0⟩ then (if (⟨linkFirst c, p.f0.f0⟩ : Pair) ∈ s.known then s.learn ⟨credRole c, p.f1⟩ else some s) else none) else some s
def linkF (c : Cred) (p : Pair) (s : St) : Option St := (linkA c p s).bind (linkB c p)
abbrev roleObj (r : Role) : Obj := .cells #[.string r.f0, .string r.f1] 24
theorem roleCells {W : World} {k : Nat} {r : Role} (h : W.heap[k]? = some (roleObj r)) : W.cell? ⟨k, 0, none⟩ = some (.string r.f0) ∧ W.cell? ⟨k, 1, none⟩ = some (.string r.f1) :=
  ⟨(Qai h 0).trans rfl, (Qai h 1).trans rfl⟩
theorem wrap_id {n : Int} (h0 : -9223372036854775808 ≤ n) (h1 : n ≤ 9223372036854775807) : wrap64 n = n := by
  unfold wrap64; omega
set_option maxRecDepth 100000 in
set_option maxHeartbeats 4000000 in
theorem link_calls (w : World) (B g b : Nat) (ok : Nat → Prop) (vc : Value) (creds : List Cred) (s s' : St) (c : Cred) (p : Pair) (hS : SolverAt w B ok g b vc creds s.known s.waits) (hok : ∀ k, ok k → k < w.heap.size) (h : linkF c p s = some s') :
    Calls Tryd.prog 51 #[.pointer (some ⟨g, 0, none⟩), encCred c, encPair p] w fun e w' => e = .returned (.tuple #[]) ∧ SolverAt w' B (fun k => ok k ∨ w.heap.size ≤ k) g b vc creds s'.known s'.waits ∧ Below B w w' ∧ Kept w w' ok := by
  unfold encPair encCred; go_enter Tryd.func51, Tryd.ntmps51
  go_upto_region 1 with fail
  change Code.wp _ _ _ _ ((w.alloc (credObj c)).alloc (pairObj p))
  generalize hW : (w.alloc (credObj c)).alloc (pairObj p) = W
  obtain ⟨HB, BC, BP⟩ := boxed hW; obtain ⟨c0, c1, c2, c3, c4, c5, c6, c7, c8⟩ := credCells BC; obtain ⟨p0, p1, p2⟩ := pairCells BP; clear hW
  go_cut [6] from 6 to 78 (fun v wc => ∃ k1, v = .pointer (some ⟨k1, 0, none⟩) ∧ w.heap.size ≤ k1 ∧ wc.heap[k1]? = some (roleObj (linkFirst c)) ∧ Below W.heap.size W wc)
  case first =>
    have c0a := cell_alloc c0 (.cells #[.string ⟨#[]⟩, .string ⟨#[]⟩] 24); have c6a := cell_alloc c6 (.cells #[.string ⟨#[]⟩, .string ⟨#[]⟩] 24)
    --FIRST
    go_region_with (go_at_call 45; refine (domain_walk _ _).mono ?_; rintro e w' ⟨rfl, rfl⟩)
    all_goals
      go_wp2_with fail
      go_meet
      case rel => exact ⟨W.heap.size, rfl, HB.size, Qak (blk_new W _), Qac (Qab (Below.refl _ _) _)⟩
    --END
  case rest =>
    obtain ⟨k1, rfl, hk1, BF, HB1⟩ := hcut; have HBc := Qaf HB HB1; have BCc := Qae BC HB1; have BPc := Qae BP HB1; clear c0 c1 c2 c3 c4 c5 c6 c7 c8 p0 p1 p2 BC BP HB HB1; obtain ⟨s1, hA, hB⟩ := Option.bind_eq_some_iff.mp h; clear h; have K1 := Lib.hid hk1; clear hk1
    go_upto_region 2 with fail
    have KA := Lib.hid hA; clear hA
    go_cut [27] from 10 to 78 (fun v w2 => ∃ t : Bool, v = .bool t ∧ (∃ n, w2 = wc.drewN n) ∧ (if t then (s.known.length ≤ 1000000 ∧ learnMany c ⟨p.f1, c.f5.f1⟩ (sortPairs s.known) s = some s1) else s = s1))
    case first =>
      clear hB; obtain ⟨c0, c1, c2, c3, c4, c5, c6, c7, c8⟩ := credCells BCc; obtain ⟨p0, p1, p2⟩ := pairCells BPc; obtain ⟨f0, f1⟩ := roleCells BF; have hA := KA.out; unfold linkA at hA
      by_cases e1 : p.f0 = linkFirst c
      · rw [if_pos e1] at hA
        obtain ⟨n, hn, hA⟩ := Option.bind_eq_some_iff.mp hA; have hb1 := eqRole_t e1; clear e1 KA; have HN := Lib.hid hn; clear hn
        by_cases hn0 : n > 0
        · rw [if_pos hn0] at hA
          have d1 : decide (0 < n) = true := decide_eq_true hn0; clear hn0
          by_cases hl : s.known.length ≤ 1000000
          · rw [if_pos hl] at hA
            have HA := Lib.hid hA; have HL := Lib.hid hl; clear hA hl
            go_wp2_with (go_at_call 60; refine (names_Number.calls 20 _ _ _ HN.out).mono ?_; rintro e w' ⟨rfl, ⟨nd, rfl⟩⟩)
            go_meet
            case rel => exact ⟨true, rfl, ⟨_, rfl⟩, HL.out, HA.out⟩
          · rw [if_neg hl] at hA
            cases hA
        · rw [if_neg hn0] at hA
          have HA := Lib.hid (Option.some.inj hA); have d1 : decide (0 < n) = false := decide_eq_false hn0; clear hn0 hA
          go_wp2_with (go_at_call 60; refine (names_Number.calls 20 _ _ _ HN.out).mono ?_; rintro e w' ⟨rfl, ⟨nd, rfl⟩⟩)
          go_meet
          case rel => exact ⟨false, rfl, ⟨_, rfl⟩, HA.out⟩
      · rw [if_neg e1] at hA
        have HA := Lib.hid (Option.some.inj hA); have hb1 := eqRole_f e1; clear e1 hA KA; go_wp2
        go_meet
        case rel => exact ⟨false, rfl, ⟨0, rfl⟩, HA.out⟩
    case rest =>
      obtain ⟨t, rfl, ⟨nd, rfl⟩, ht⟩ := hcut; have HBd := Qaa HBc nd; have BCd := Qah BCc nd; have BPd := Qah BPc nd; have BFd := Qah BF nd; clear HBc BCc BPc BF
      generalize wc.drewN nd = V at HBd BCd BPd BFd ⊢
      have HT := Lib.hid ht; clear ht KA
      go_upto_if 27 with fail
      go_cut [] from 7 to 78 (fun w2 => SolverAt w2 B (fun k => ok k ∨ w.heap.size ≤ k) g b vc creds s1.known s1.waits ∧ Below B w w2 ∧ Kept w w2 ok ∧ w2.heap[w.heap.size]? = some (credObj c) ∧ w2.heap[w.heap.size + 1]? = some (pairObj p) ∧ w2.heap[k1]? = some (roleObj (linkFirst c)))
      case first =>
        cases t with
        | false =>
          go_wp2
          go_meet
          case rel =>
            obtain rfl : s = s1 := HT.out; exact ⟨(hS.below HBd).mono (fun _ h => .inl h), HBd.mono hS.base, Kept.of_below HBd ok, BCd, BPd, BFd⟩
        | true =>
          obtain ⟨hl, hm⟩ : s.known.length ≤ 1000000 ∧ learnMany c ⟨p.f1, c.f5.f1⟩ (sortPairs s.known) s = some s1 := HT.out; obtain ⟨c0, c1, c2, c3, c4, c5, c6, c7, c8⟩ := credCells BCd; obtain ⟨p0, p1, p2⟩ := pairCells BPd; have HM := Lib.hid hm; have HL := Lib.hid hl; clear hm hl HT
          go_upto_region 4 with fail
          change Code.wp _ _ _ _ (V.alloc (.cells #[.string p.f1, .string c.f5.f1] 24)); have HB2 := Qab HBd (roleObj ⟨p.f1, c.f5.f1⟩); have BC2 := Qag BCd (roleObj ⟨p.f1, c.f5.f1⟩); have BP2 := Qag BPd (roleObj ⟨p.f1, c.f5.f1⟩); have BF2 := Qag BFd (roleObj ⟨p.f1, c.f5.f1⟩); have BS2 := blk_new V (roleObj ⟨p.f1, c.f5.f1⟩); have HV := Lib.hid (HBd.size); clear c0 c1 c2 c3 c4 c5 c6 c7 c8 p0 p1 p2 HBd BCd BPd BFd; change Code.wp _ _ _ _ (V.alloc (roleObj ⟨p.f1, c.f5.f1⟩))
          generalize hU : V.alloc (roleObj ⟨p.f1, c.f5.f1⟩) = U at HB2 BC2 BP2 BF2 BS2 ⊢
          clear hU
          go_wp2_with (go_at_call 34; refine (pairs_calls _ B g b ok vc creds s (hS.below HB2) HL.out).mono ?_; rintro e w5 ⟨v5, rfl, hR5, hB5⟩; obtain ⟨A5, cc5, rfl⟩ := Kd.R_slice hR5; have HB5 := Qaf HB2 hB5; have BC5 := Qae BC2 hB5; have BP5 := Qae BP2 hB5; have BF5 := Qae BF2 hB5; have BS5 := Qae BS2 hB5)
          have HU := Lib.hid HB2.size; have hS5 := hS.below HB5; have HS5 := Lib.hid hS5; have HB5' := Lib.hid HB5; have HR5 := Lib.hid hR5; have HC5 := Lib.hid BC5; have HP5 := Lib.hid BP5; have HF5 := Lib.hid BF5; have HT5 := Lib.hid BS5; have VLE := Lib.hid (show V.heap.size < w5.heap.size from blk_lt BS5); clear hR5 hB5 hS5 HB5 BC5 BP5 BF5 BS5 HB2 BC2 BP2 BF2 BS2; have HLL := Lib.hid (show (sortPairs s.known).length ≤ 1000000 by rw [sortPairs_length]; exact HL.out)
          generalize sortPairs s.known = L at HM HR5 HLL ⊢
          go_loopg [37, 9] (L.length + 1) (fun kq v37 _ w' => ∃ (i : Nat) (st : St), v37 = .int .i64 i ∧ Hid (kq = L.length + 1 - i) ∧ Hid (i ≤ L.length) ∧ Hid (learnMany c ⟨p.f1, c.f5.f1⟩ (L.drop i) st = some s1) ∧ Hid (SolverAt w' B (fun k => ok k ∨ w5.heap.size ≤ k) g b vc creds st.known st.waits) ∧ Hid (Below B w w') ∧ Hid (Kept w5 w' ok) ∧ Hid (w5.heap.size ≤ w'.heap.size))
          case atStart => exact ⟨0, s, rfl, Lib.hid rfl, Lib.hid (Nat.zero_le _), Lib.hid HM.out, Lib.hid (HS5.out.mono (fun _ h => .inl h)), Lib.hid (HB5'.out.mono hS.base), Lib.hid (fun _ _ _ => rfl), Lib.hid (Nat.le_refl _)⟩
          case round =>
            obtain ⟨i, st, rfl, HK, HI, HLM, HSt, HBt, HKt, HSz⟩ := hrel
            have box : ∀ {k : Nat} {o : Obj}, w5.heap[k]? = some o → w.heap.size ≤ k → ∀ w', Kept w5 w' ok → w'.heap[k]? = some o := fun hb hk w' hK => (hK _ (blk_lt hb) (fun e => by have := hok _ e; omega)).trans hb
            by_cases hi : i < L.length
            · have d1 : decide ((i : Int) < (L.length : Int)) = true := decide_eq_true (by omega)
              have d2 : decide (i < L.length) = true := decide_eq_true hi; have B4 := box HC5.out (Nat.le_refl _) _ HKt.out; have B5 := box HP5.out (by omega) _ HKt.out; have B7 := box HT5.out HV.out _ HKt.out
              have HKU : ∀ k, U.heap.size ≤ k → ¬ ok k := fun k hk e => by have := hok k e; have := HU.out; omega
              have R9 : Kd.R kPair 50 wr U.heap.size (fun _ => True) (.slice A5 L.length cc5) L := Kd.R_mono (Kd.R_move (Kd.R_bound HR5.out) (fun k hk => HKt.out k hk.2.2.1 (HKU k hk.2.1))) (fun _ h => h.1); obtain ⟨ad, e, hx0, hx1, hx2⟩ := at_T50 (Kd.R_reads' R9).2.2 (i : Int) (by omega) (by omega); cases e
              obtain ⟨q, hq⟩ : ∃ q, q = L[i] := ⟨_, rfl⟩
              have erd : rd_T50 L (i : Int) = q := by
                unfold rd_T50; rw [hq, Int.toNat_natCast, List.getD_eq_getElem?_getD, List.getElem?_eq_getElem hi]; rfl
              rw [erd, Int.toNat_natCast] at hx0 hx1 hx2; have hm := HLM.out; rw [List.drop_eq_getElem_cons hi, ← hq] at hm; unfold learnMany at hm
              have p101 : 0 ≤ (i : Int) := by omega
              have q101 : (i : Int) < (L.length : Int) := by omega
              replace p101 := eq_true p101; replace q101 := eq_true q101; have HIL := Lib.hid hi; clear box hi hq erd R9
              go_upto_region 7 with fail
              change Code.wp _ _ _ _ (wr.alloc (pairObj q)); have HX := Qab (Below.refl wr.heap.size wr) (pairObj q); have B9 := blk_new wr (pairObj q); have B4x := Qae B4 HX; have B7x := Qae B7 HX; clear B4 B5 B7 hx0 hx1 hx2
              generalize wr.alloc (pairObj q) = X at HX B9 B4x B7x ⊢
              obtain ⟨c0, c1, c2, c3, c4, c5, c6, c7, c8⟩ := credCells B4x; obtain ⟨s0, s1'⟩ := roleCells B7x; obtain ⟨q0, q1, q2⟩ := pairCells B9
              have wrapI : wrap64 ((i : Int) + 1) = ((i + 1 : Nat) : Int) := by rw [wrap_id (by omega) (by have := HLL.out; have := HIL.out; omega)]; rfl
              by_cases e1 : q.f0 = ⟨p.f1, c.f5.f1⟩
              · rw [if_pos e1] at hm
                obtain ⟨st2, h1, h2⟩ := Option.bind_eq_some_iff.mp hm; have H1 := Lib.hid h1; have H2 := Lib.hid h2; have hb1 : (q.f0.f0.toList == p.f1.toList && (q.f0.f1.toList == c.f5.f1.toList)) = true := eqRole_t e1; clear e1 hm h1 h2; go_wp2
                go_region_with (first | (go_at_call 35; refine (credRole_calls c _).mono ?_; rintro e w3 ⟨rfl, hB3⟩; have HB3 : Below X.heap.size X w3 := Qaf (by repeat (first | exact Below.refl _ _ | apply Qaa | apply Qac)) hB3; have p23 := pw_cell_below hB3 q2) | (go_at_call 49; refine (learn_calls _ B g b (fun k => ok k ∨ w5.heap.size ≤ k) vc creds st st2 ⟨credRole c, q.f1⟩ ?_ H1.out).mono ?_; exact (HSt.out.below HX).below HB3; rintro e w8 ⟨rfl, hS8, hB8, hK8⟩))
                all_goals
                  go_wp2
                  go_roundg (L.length + 1 - (i + 1))
                  case measure => have := HK.out; have := HI.out; omega
                  case rel => exact ⟨i + 1, st2, by first | rfl | exact congrArg _ wrapI, Lib.hid rfl, Lib.hid (by have := HIL.out; omega), Lib.hid H2.out, Lib.hid (hS8.mono (fun k h => h.elim id (fun h => .inr (by have := HSz.out; have := HX.size; have := HB3.size; omega)))), Lib.hid ((HBt.out.trans (HX.mono (by have := HSt.out.base; omega))).trans ((HB3.mono (by have := HSt.out.base; have := HX.size; omega)).trans hB8)), Lib.hid (fun k hk hn => (hK8 k (by have := HSz.out; have := HX.size; have := HB3.size; omega) (fun e => e.elim hn (by omega))).trans ((HB3.block k (by have := HSz.out; have := HX.size; omega)).trans ((HX.block k (by have := HSz.out; omega)).trans (HKt.out k hk hn)))), Lib.hid (by have := HSz.out; have := HX.size; have := HB3.size; have := hB8.size; omega)⟩
              · rw [if_neg e1] at hm
                have H2 := Lib.hid hm; have hb1 : (q.f0.f0.toList == p.f1.toList && (q.f0.f1.toList == c.f5.f1.toList)) = false := eqRole_f e1; clear e1 hm; go_wp2
                go_roundg (L.length + 1 - (i + 1))
                case measure => have := HK.out; have := HI.out; omega
                case rel => exact ⟨i + 1, st, by first | rfl | exact congrArg _ wrapI, Lib.hid rfl, Lib.hid (by have := HIL.out; omega), Lib.hid H2.out, Lib.hid (HSt.out.below HX), Lib.hid (HBt.out.trans (HX.mono (by have := HSt.out.base; omega))), Lib.hid (fun k hk hn => (HX.block k (by have := HSz.out; omega)).trans (HKt.out k hk hn)), Lib.hid (by have := HSz.out; have := HX.size; omega)⟩
            · have d1 : decide ((i : Int) < (L.length : Int)) = false := decide_eq_false (by omega)
              have d2 : decide (i < L.length) = false := decide_eq_false hi; have HE := Lib.hid (show i = L.length by have := HI.out; omega); clear hi; go_wp2
              go_meet
              case rel =>
                have hm := HLM.out; rw [HE.out, List.drop_length] at hm; obtain rfl : st = s1 := Option.some.inj hm; exact ⟨HSt.out.mono (fun k h => h.imp_right (fun h => Nat.le_trans HB5'.out.size h)), HBt.out, (Kept.of_below HB5'.out ok).trans HKt.out HB5'.out.size (fun _ _ h => h), box HC5.out (Nat.le_refl _) _ HKt.out, box HP5.out (by omega) _ HKt.out, box HF5.out K1.out _ HKt.out⟩
      case rest =>
        obtain ⟨hS2, hB2, hK2, BC2, BP2, BF2⟩ := hcut; obtain ⟨c0, c1, c2, c3, c4, c5, c6, c7, c8⟩ := credCells BC2; obtain ⟨p0, p1, p2⟩ := pairCells BP2; obtain ⟨f0, f1⟩ := roleCells BF2; have s1c := (SolverAt.cells hS2).2; have HWc := Lib.hid (show w.heap.size ≤ wc.heap.size from Nat.le_of_lt (blk_lt BC2)); clear HT HBd BCd BPd BFd; have hBw := Below.refl wc.heap.size wc
        go_upto_region 10 with fail
        go_cut [71] from 53 to 78 (fun v w3 => ∃ t : Bool, v = .bool t ∧ (∃ n, w3 = wc.drewN n) ∧ (if t then s1.learn ⟨credRole c, p.f1⟩ else some s1) = some s')
        case first =>
          unfold linkB at hB
          by_cases e1 : p.f0.f1 = c.f5.f1
          · rw [if_pos e1] at hB
            have hb1 : (p.f0.f1.toList == c.f5.f1.toList) = true := by rw [e1]; simp
            clear e1
            by_cases k1' : okPair ⟨linkFirst c, p.f0.f0⟩
            · rw [if_pos k1'] at hB
              have l1 := fun n => look_known hS2 hBw (linkFirst c) p.f0.f0 k1' n
              by_cases i1 : (⟨linkFirst c, p.f0.f0⟩ : Pair) ∈ s1.known
              · rw [if_pos i1] at hB
                simp only [decide_eq_true i1] at l1; have HH := Lib.hid hB; clear hB k1'
                go_quiet (fail)
                all_goals
                  go_wp2_with fail
                  go_meet
                  case rel => exact ⟨true, rfl, ⟨_, rfl⟩, HH.out⟩
              · rw [if_neg i1] at hB
                simp only [decide_eq_false i1] at l1; have HH := Lib.hid hB; clear hB k1'
                go_quiet (fail)
                all_goals
                  go_wp2_with fail
                  go_meet
                  case rel => exact ⟨false, rfl, ⟨_, rfl⟩, HH.out⟩
            · rw [if_neg k1'] at hB
              cases hB
          · rw [if_neg e1] at hB
            have hb1 : (p.f0.f1.toList == c.f5.f1.toList) = false := (Lib.bytes_beq_false_iff _ _).mpr e1; have HH := Lib.hid hB; clear hB e1
            go_quiet (fail)
            all_goals
              go_wp2_with fail
              go_meet
              case rel => exact ⟨false, rfl, ⟨_, rfl⟩, HH.out⟩
        case rest =>
          obtain ⟨t, rfl, ⟨n3, rfl⟩, ht⟩ := hcut; have HBn := Qaa hBw n3; have BCn := Qah BC2 n3; have BPn := Qah BP2 n3; clear c0 c1 c2 c3 c4 c5 c6 c7 c8 p0 p1 p2 f0 f1 BC2 BP2 BF2; have HH := Lib.hid ht
          generalize wc.drewN n3 = Y at HBn BCn BPn ⊢
          obtain ⟨c0, c1, c2, c3, c4, c5, c6, c7, c8⟩ := credCells BCn; obtain ⟨p0, p1, p2⟩ := pairCells BPn; have HSY := Lib.hid (hS2.below HBn); have HBY := Lib.hid (hB2.trans (HBn.mono hS2.base)); have HKY := Lib.hid (show Kept w Y ok from hK2.trans (Kept.of_below HBn ok) HWc.out (fun _ _ h => h)); have HSZ := Lib.hid (show w.heap.size ≤ Y.heap.size by have := HWc.out; have := HBn.size; omega); clear HBn BCn BPn hS2 hB2 hK2 hBw s1c ht
          cases t with
          | false =>
            obtain rfl : s1 = s' := Option.some.inj HH.out; go_wp2; go_end0; exact ⟨rfl, HSY.out, HBY.out, HKY.out⟩
          | true =>
            go_wp2
            go_region_with (first | (go_at_call 35; refine (credRole_calls c _).mono ?_; rintro e w3 ⟨rfl, hB3⟩; have HB3 : Below Y.heap.size Y w3 := Qaf (by repeat (first | exact Below.refl _ _ | apply Qaa | apply Qac)) hB3; have p23 := pw_cell_below hB3 p2) | (go_at_call 49; refine (learn_calls _ B g b (fun k => ok k ∨ w.heap.size ≤ k) vc creds s1 s' ⟨credRole c, p.f1⟩ ?_ HH.out).mono ?_; exact HSY.out.below HB3; rintro e w8 ⟨rfl, hS8, hB8, hK8⟩))
            all_goals
              go_wp2; go_end0; exact ⟨rfl, hS8.mono (fun k h => h.elim id (fun h => .inr (by have := HSZ.out; have := HB3.size; omega))), (HBY.out.trans (HB3.mono HSY.out.base)).trans hB8, fun k hk hn => (hK8 k (by have := HSZ.out; have := HB3.size; omega) (fun e => e.elim hn (by omega))).trans ((HB3.block k (by have := HSZ.out; omega)).trans (HKY.out k hk hn))⟩
end Go.Proofs.YtbjjgaahdnfflaaDoor.Pr
end
section
namespace Go.Proofs.YtbjjgaahdnfflaaDoor.Pr
open Go.RowKit Go.Proofs.YtbjjgaahdnfflaaDoorW.PrintWords Go.Proofs.YtbjjgaahdnfflaaDoorW.PrintLast Go.Proofs.YtbjjgaahdnfflaaDoorW.PrintMore
attribute [local go_sem] max2_int min2_int max_two min_two max_three min_three max_four min_four
set_option linter.unusedVariables false
set_option linter.unusedSimpArgs false
def membersF : List Cred → St → Option St
  | [], s => some s
  | c :: l, s => if c.f2 = 1 then (s.learn ⟨credRole c, c.f3⟩).bind (membersF l) else membersF l s
def stepF (p : Pair) (c : Cred) (s : St) : Option St := if c.f2 = 1 then some s else if c.f2 = 3 then linkF c p s else if c.f2 = 4 then bothF c p s else includeF c p s
def stepsF (p : Pair) : List Cred → St → Option St
  | [], s => some s
  | c :: l, s => (stepF p c s).bind (stepsF p l)
def loopF (creds : List Cred) : Nat → St → Option St
  | 0, _ => none
  | k + 1, s => match s.waits with
    | [] => some s
    | p :: ws => (stepsF p creds ⟨s.known, ws⟩).bind (loopF creds k)
def runF (k : Nat) (creds : List Cred) : Option St := (membersF creds ⟨[], []⟩).bind (loopF creds k)
theorem addr_zero (ad : Addr) : ad.add 0 = ad := by
  obtain ⟨b, o, f⟩ := ad; unfold Addr.add
  split <;> simp_all
theorem SolverAt.bound {w : World} {B g b : Nat} {ok : Nat → Prop} {vc : Value} {creds : List Cred} {known waits : List Pair} (h : SolverAt w B ok g b vc creds known waits) : SolverAt w B (fun k => ok k ∧ k < w.heap.size) g b vc creds known waits := by
  obtain ⟨vw, hg, hBg, hBb, hvc, hT, hQ⟩ := h; exact ⟨vw, hg, ⟨hBg.1, hBg.2, blk_lt hg⟩, ⟨hBb.1, hBb.2, hT.lt⟩, hvc, hT, Kd.Q_mono (Kd.Q_bound hQ) (fun k hk => ⟨hk.1, hk.2.2.1⟩)⟩
theorem SolverAt.waits' {w : World} {B g b : Nat} {ok : Nat → Prop} {vc : Value} {creds : List Cred} {known waits : List Pair} (h : SolverAt w B ok g b vc creds known waits) : ∃ A c, waits.length ≤ c ∧ w.heap[g]? = some (.cells #[vc, .map (some b), .slice A waits.length c] 72 (0, 0)) ∧ Kd.C kPair w A waits.length waits := by
  obtain ⟨vw, hg, hBg, hBb, hvc, hT, hQ⟩ := h; obtain ⟨A, c, rfl, hl, hC⟩ := Kd.Q_reads hQ; exact ⟨A, c, hl, hg, hC⟩
theorem SolverAt.creds' {w : World} {B g b : Nat} {ok : Nat → Prop} {A : Option Addr} {n c : Nat} {creds : List Cred} {known waits : List Pair} (h : SolverAt w B ok g b (.slice A n c) creds known waits) : n = creds.length ∧ Kd.C kCred w A creds.length creds := by
  obtain ⟨vw, hg, hBg, hBb, hvc, hT, hQ⟩ := h; have := Kd.R_reads' hvc; exact ⟨this.1, this.2.2⟩
theorem SolverAt.pop {w W : World} {B g b : Nat} {ok : Nat → Prop} {vc : Value} {creds : List Cred} {known ws : List Pair} {p : Pair} {A : Option Addr} {c : Nat} (h : SolverAt w B ok g b vc creds known (p :: ws)) (hg : w.heap[g]? = some (.cells #[vc, .map (some b), .slice A (ws.length + 1) c] 72 (0, 0)))
    (hb : Below w.heap.size w W) : SolverAt (W.setCell ⟨g, 2, none⟩ (.slice (if c = 1 then A else A.map (·.add 3)) ws.length (c - 1))) B ok g b vc creds known ws := by
  have hgW := (hb.block g (blk_lt hg)).trans hg; obtain ⟨vw, hg', hBg, hBb, hvc, hT, hQ⟩ := h; rw [hg] at hg'
  injection hg' with hg'
  injection hg' with hg'
  have e : vw = .slice A (ws.length + 1) c := by
    injection hg' with hg'
    injection hg' with _ hg'
    injection hg' with _ hg'
    injection hg' with hg' _
    exact hg'.symm
  subst e; have hQ2 := Kd.Q_drop (k := 1) (Kd.Q_below hQ hb) (by simp); simp only [Nat.one_mul, List.drop_succ_cons, List.drop_zero, Nat.add_sub_cancel] at hQ2
  have hbg : b ≠ g := by
    rintro rfl; obtain ⟨es, clock, hb, _⟩ := hT; rw [hg] at hb; cases hb
  exact ⟨.slice (if c = 1 then A else A.map (·.add 3)) ws.length (c - 1), by simpa using blk_set hgW 2 _, hBg, hBb, Kd.R_set (Kd.R_below hvc hb) hgW (by decide) 2 _, (hT.below hb).set hbg _, Kd.Q_set hQ2 hgW (by decide) 2 _⟩
set_option maxRecDepth 100000 in
set_option maxHeartbeats 4000000 in
theorem run_calls (w : World) (B g b : Nat) (ok : Nat → Prop) (vc : Value) (creds : List Cred) (fuel : Nat) (s' : St) (hS : SolverAt w B ok g b vc creds [] []) (hcl : creds.length ≤ 1000000) (h : runF fuel creds = some s') :
    Calls Tryd.prog 33 #[.pointer (some ⟨g, 0, none⟩)] w fun e w' => e = .returned (.tuple #[]) ∧ SolverAt w' B (fun k => ok k ∨ w.heap.size ≤ k) g b vc creds s'.known s'.waits ∧ Below B w w' := by
  obtain ⟨s1, hM, hL⟩ := Option.bind_eq_some_iff.mp h; clear h
  obtain ⟨A0, cc0, rfl⟩ : ∃ A c, vc = .slice A creds.length c := by
    obtain ⟨vw, hg, hBg, hBb, hvc, hT, hQ⟩ := hS; exact Kd.R_slice hvc
  have g0 := (SolverAt.cells hS).1; have HS := Lib.hid hS; have HM := Lib.hid hM; have HL := Lib.hid hL; have HC := Lib.hid hcl; clear hS hM hL hcl; go_enter Tryd.func33, Tryd.ntmps33; go_wp2
  go_loopg [3, 13] (creds.length + 1) (fun kq _ v13 w' => ∃ (i : Nat) (st : St), v13 = .int .i64 i ∧ Hid (kq = creds.length + 1 - i) ∧ Hid (i ≤ creds.length) ∧ Hid (membersF (creds.drop i) st = some s1) ∧ Hid (SolverAt w' B (fun k => ok k ∨ w.heap.size ≤ k) g b (.slice A0 creds.length cc0) creds st.known st.waits) ∧ Hid (Below B w w') ∧ Hid (w.heap.size ≤ w'.heap.size))
  case atStart => exact ⟨0, ⟨[], []⟩, rfl, Lib.hid rfl, Lib.hid (Nat.zero_le _), Lib.hid HM.out, Lib.hid (HS.out.mono (fun _ h => .inl h)), Lib.hid (Below.refl _ _), Lib.hid (Nat.le_refl _)⟩
  case round =>
    obtain ⟨i, st, rfl, HK, HI, HMs, HSt, HBt, HSz⟩ := hrel
    by_cases hi : i < creds.length
    · have d1 : decide ((i : Int) < (creds.length : Int)) = true := decide_eq_true (by omega)
      have d2 : decide (i < creds.length) = true := decide_eq_true hi; obtain ⟨ad, e, hx0, hx1, hx2, hx3, hx4, hx5, hx6, hx7, hx8⟩ := at_T42 (SolverAt.creds' HSt.out).2 (i : Int) (by omega) (by omega); cases e
      obtain ⟨c, hc⟩ : ∃ c, c = creds[i] := ⟨_, rfl⟩
      have erd : Qam creds (i : Int) = c := by
        unfold Qam; rw [hc, Int.toNat_natCast, List.getD_eq_getElem?_getD, List.getElem?_eq_getElem hi]; rfl
      rw [erd, Int.toNat_natCast] at hx0 hx1 hx2 hx3 hx4 hx5 hx6 hx7 hx8; have hm := HMs.out; rw [List.drop_eq_getElem_cons hi, ← hc] at hm; unfold membersF at hm; have p101 : (0 ≤ (i : Int)) = True := eq_true (by omega); have q101 : ((i : Int) < (creds.length : Int)) = True := eq_true (by omega); have HIL := Lib.hid hi; clear hi hc erd
      have wrapI : wrap64 ((i : Int) + 1) = ((i + 1 : Nat) : Int) := by rw [wrap_id (by omega) (by have := HC.out; have := HIL.out; omega)]; rfl
      go_upto_region 3 with fail
      change Code.wp _ _ _ _ (wr.alloc (credObj c)); have HX := Qab (Below.refl wr.heap.size wr) (credObj c); have B3 := blk_new wr (credObj c); clear hx0 hx1 hx2 hx3 hx4 hx5 hx6 hx7 hx8
      generalize wr.alloc (credObj c) = X at HX B3 ⊢
      obtain ⟨c0, c1, c2, c3, c4, c5, c6, c7, c8⟩ := credCells B3
      by_cases e1 : c.f2 = 1
      · rw [if_pos e1] at hm
        obtain ⟨st2, h1, h2⟩ := Option.bind_eq_some_iff.mp hm; have H1 := Lib.hid h1; have H2 := Lib.hid h2; have hb1 : (c.f2 == 1) = true := beq_iff_eq.mpr e1; clear e1 hm h1 h2
        --FIRST
        go_wp2
        go_region_with (first | (go_at_call 35; refine (credRole_calls c _).mono ?_; rintro e w3 ⟨rfl, hB3⟩; have HB3 : Below X.heap.size X w3 := Qaf (by repeat (first | exact Below.refl _ _ | apply Qaa | apply Qac)) hB3; have p23 := pw_cell_below hB3 c4) | (go_at_call 49; refine (learn_calls _ B g b (fun k => ok k ∨ w.heap.size ≤ k) (.slice (some ad) creds.length cc0) creds st st2 ⟨credRole c, c.f3⟩ ?_ H1.out).mono ?_; exact (HSt.out.below HX).below HB3; rintro e w8 ⟨rfl, hS8, hB8, hK8⟩))
        all_goals
          go_wp2
          go_roundg (creds.length + 1 - (i + 1))
          case measure => have := HK.out; have := HI.out; omega
          case rel => exact ⟨i + 1, st2, by first | rfl | exact congrArg _ wrapI, Lib.hid rfl, Lib.hid (by have := HIL.out; omega), Lib.hid H2.out, Lib.hid (hS8.mono (fun k h => h.elim id (fun h => .inr (by have := HSz.out; have := HX.size; have := HB3.size; omega)))), Lib.hid ((HBt.out.trans (HX.mono (by have := HSt.out.base; omega))).trans ((HB3.mono (by have := HSt.out.base; have := HX.size; omega)).trans hB8)), Lib.hid (by have := HSz.out; have := HX.size; have := HB3.size; have := hB8.size; omega)⟩
        --END
      · rw [if_neg e1] at hm
        have H2 := Lib.hid hm; have hb1 : (c.f2 == 1) = false := beq_eq_false_iff_ne.mpr e1; clear e1 hm; go_wp2
        go_roundg (creds.length + 1 - (i + 1))
        case measure => have := HK.out; have := HI.out; omega
        case rel => exact ⟨i + 1, st, by first | rfl | exact congrArg _ wrapI, Lib.hid rfl, Lib.hid (by have := HIL.out; omega), Lib.hid H2.out, Lib.hid (HSt.out.below HX), Lib.hid (HBt.out.trans (HX.mono (by have := HSt.out.base; omega))), Lib.hid (by have := HSz.out; have := HX.size; omega)⟩
    · have d1 : decide ((i : Int) < (creds.length : Int)) = false := decide_eq_false (by omega)
      have d2 : decide (i < creds.length) = false := decide_eq_false hi; have HE := Lib.hid (show i = creds.length by have := HI.out; omega); clear hi; go_wp2; have hm := HMs.out; rw [HE.out, List.drop_length] at hm; obtain rfl : st = s1 := Option.some.inj hm; have HS1 := Lib.hid HSt.out; have HB1 := Lib.hid HBt.out; have HZ1 := Lib.hid HSz.out; clear HSt HBt HSz hm HM HMs HK HI HE d1 d2
      go_loopg [4, 6, 7, 53] fuel (fun kq _ _ _ _ w' => ∃ st : St, Hid (loopF creds kq st = some s') ∧ Hid (SolverAt w' B (fun k => ok k ∨ w.heap.size ≤ k) g b (.slice A0 creds.length cc0) creds st.known st.waits) ∧ Hid (Below B w w') ∧ Hid (w.heap.size ≤ w'.heap.size))
      case atStart => exact ⟨st, Lib.hid HL.out, Lib.hid HS1.out, Lib.hid HB1.out, Lib.hid HZ1.out⟩
      case round =>
        clear HS1 HB1 HZ1 HL; obtain ⟨st, HLo, HSt, HBt, HSz⟩ := hrel; have hl := HLo.out; clear HLo
        cases gk with
        | zero => cases hl
        | succ k1 =>
          unfold loopF at hl; obtain ⟨kn, wts⟩ := st; obtain ⟨A, cc, hcc, hgw, hC⟩ := SolverAt.waits' HSt.out
          cases wts with
          | nil =>
            obtain rfl := Option.some.inj hl; clear hl; have g2 := (Qai hgw 2).trans (rfl : _ = some (Value.slice A 0 cc)); clear hgw hC; go_wp2; go_end0; exact ⟨rfl, HSt.out, HBt.out⟩
          | cons p ws =>
            simp only at hl; obtain ⟨st2, h1, h2⟩ := Option.bind_eq_some_iff.mp hl; have H1 := Lib.hid h1; have H2 := Lib.hid h2; clear hl h1 h2
            obtain ⟨n, hn⟩ : ∃ n, n = ws.length + 1 := ⟨_, rfl⟩
            have HN := Lib.hid hn; have d1 : decide ((0 : Int) < (n : Int)) = true := decide_eq_true (by omega); have d2 : decide (0 < n) = true := decide_eq_true (by omega); have g2 := (Qai hgw 2).trans (show _ = some (Value.slice A n cc) by rw [hn]; rfl); obtain ⟨ad, e, hx0, hx1, hx2⟩ := at_T50 hC (0 : Int) (by omega) (by simp); cases e; have p101 : ((0 : Int) ≤ 0) = True := eq_true (by omega); have q101 : ((0 : Int) < (n : Int)) = True := eq_true (by omega); have erd : rd_T50 (p :: ws) (0 : Int) = p := rfl; have had : ad.add ((0 : Int).toNat * 3) = ad := addr_zero ad; have r101 : (0 < n) = True := eq_true (by omega); rw [erd, had] at hx0 hx1 hx2; have HGW := Lib.hid hgw; clear hgw hC hn erd
            go_upto_region 8 with fail
            change Code.wp _ _ _ _ (wr.alloc (pairObj p)); have HX := Qab (Below.refl wr.heap.size wr) (pairObj p); have B4 := blk_new wr (pairObj p); have gX := (HX.block g (blk_lt HGW.out)).trans HGW.out; have HPop := Lib.hid (SolverAt.pop (SolverAt.bound HSt.out) HGW.out HX)
            have HXs : (wr.alloc (pairObj p)).heap.size = wr.heap.size + 1 := by simp
            clear hx0 hx1 hx2 g2 had
            generalize wr.alloc (pairObj p) = X at HX B4 gX HPop HXs ⊢
            have g2 := (Qai gX 2).trans (show _ = some (Value.slice (some ad) n cc) by rw [HN.out]; rfl); have f2 := blk_thaw gX 2; obtain ⟨i04, hi04, _, hsz4, _⟩ := info_parts infoPair; have hcut := cut_from (P := Tryd.prog) 51 50 .i64 Tryd.underlying51 hi04 3 hsz4 (some ad) n cc 1 (by omega) (by have := HN.out; omega); simp only [Int.toNat_one, Nat.one_mul] at hcut
            obtain ⟨A2, hA2⟩ : ∃ A2, A2 = (if cc = 1 then some ad else (some ad).map (·.add 3)) := ⟨_, rfl⟩
            obtain ⟨n2, hn2⟩ : ∃ n2, n2 = n - 1 := ⟨_, rfl⟩
            obtain ⟨cc2, hc2⟩ : ∃ cc2, cc2 = cc - 1 := ⟨_, rfl⟩
            rw [← hA2, ← hn2, ← hc2] at hcut; have HPop2 := Lib.hid (show SolverAt (X.setCell ⟨g, 2, none⟩ (.slice A2 n2 cc2)) B (fun k => (ok k ∨ w.heap.size ≤ k) ∧ k < wr.heap.size) g b (.slice A0 creds.length cc0) creds kn ws by rw [hn2, HN.out, Nat.add_sub_cancel, hA2, hc2]; exact HPop.out); clear hA2 hn2 hc2 HPop hi04 hsz4
            have hne4 : wr.heap.size ≠ g := by have := blk_lt HGW.out; omega
            have B4z : (X.setCell ⟨g, 2, none⟩ (.slice A2 n2 cc2)).heap[wr.heap.size]? = some (pairObj p) := (Below.heap_setCell X ⟨g, 2, none⟩ (.slice A2 n2 cc2) _ hne4).trans B4
            have SZz : (X.setCell ⟨g, 2, none⟩ (.slice A2 n2 cc2)).heap.size = X.heap.size := by simp
            have hBg : B ≤ g := by obtain ⟨_, _, hh, _⟩ := HSt.out; exact hh.1
            have BZz := (HX.mono (by have := HSt.out.base; omega)).setCell (p := ⟨g, 2, none⟩) hBg (.slice A2 n2 cc2); have H4z := Lib.hid B4z; have HSZz := Lib.hid SZz; have HBZz := Lib.hid BZz; have HX2 := Lib.hid (show X.heap.size = wr.heap.size + 1 from HXs); clear hne4 B4z SZz hBg BZz
            go_upto_region 9 with fail
            change Code.wp _ _ _ _ (X.setCell ⟨g, 2, none⟩ (.slice A2 n2 cc2))
            generalize X.setCell ⟨g, 2, none⟩ (.slice A2 n2 cc2) = Z at H4z HSZz HBZz HPop2 ⊢
            have z0 := (SolverAt.cells HPop2.out).1; have HB' := Lib.hid (HX.size); clear B4 gX g2 f2 hcut HX HGW; go_wp2; have HSZ2 := Lib.hid (show Z.heap.size = wr.heap.size + 1 by have := HSZz.out; have := HX2.out; omega)
            obtain ⟨wO, hwO⟩ : ∃ x, x = wr := ⟨_, rfl⟩
            subst hwO
            go_loopg [6, 7, 53] (creds.length + 1) (fun kq _ _ v53 w' => ∃ (j : Nat) (st3 : St), v53 = .int .i64 j ∧ Hid (kq = creds.length + 1 - j) ∧ Hid (j ≤ creds.length) ∧ Hid (stepsF p (creds.drop j) st3 = some st2) ∧ Hid (SolverAt w' B (fun k => ((ok k ∨ w.heap.size ≤ k) ∧ k < wO.heap.size) ∨ Z.heap.size ≤ k) g b (.slice A0 creds.length cc0) creds st3.known st3.waits) ∧ Hid (Below B wO w') ∧ Hid (w'.heap[wO.heap.size]? = some (pairObj p)) ∧ Hid (Z.heap.size ≤ w'.heap.size))
            case atStart => exact ⟨0, ⟨kn, ws⟩, rfl, Lib.hid rfl, Lib.hid (Nat.zero_le _), Lib.hid H1.out, Lib.hid (HPop2.out.mono (fun _ h => .inl h)), Lib.hid HBZz.out, Lib.hid H4z.out, Lib.hid (Nat.le_refl _)⟩
            case round =>
              clear z0 HPop2 H4z HBZz; obtain ⟨j, st3, rfl, HK3, HJ, HM3, HS3, HB3, HP3, HZ3⟩ := hrel
              by_cases hj : j < creds.length
              · have d1 : decide ((j : Int) < (creds.length : Int)) = true := decide_eq_true (by omega)
                have d2 : decide (j < creds.length) = true := decide_eq_true hj; obtain ⟨ad3, e, hx0, hx1, hx2, hx3, hx4, hx5, hx6, hx7, hx8⟩ := at_T42 (SolverAt.creds' HS3.out).2 (j : Int) (by omega) (by omega); cases e
                obtain ⟨c, hc⟩ : ∃ c, c = creds[j] := ⟨_, rfl⟩
                have erd : Qam creds (j : Int) = c := by
                  unfold Qam; rw [hc, Int.toNat_natCast, List.getD_eq_getElem?_getD, List.getElem?_eq_getElem hj]; rfl
                rw [erd, Int.toNat_natCast] at hx0 hx1 hx2 hx3 hx4 hx5 hx6 hx7 hx8; have hm := HM3.out; rw [List.drop_eq_getElem_cons hj, ← hc] at hm; unfold stepsF at hm; obtain ⟨st4, h1j, h2j⟩ := Option.bind_eq_some_iff.mp hm; have H2j := Lib.hid h2j; have p101 : (0 ≤ (j : Int)) = True := eq_true (by omega); have q101 : ((j : Int) < (creds.length : Int)) = True := eq_true (by omega); have HJL := Lib.hid hj
                have wrapJ : wrap64 ((j : Int) + 1) = ((j + 1 : Nat) : Int) := by rw [wrap_id (by omega) (by have := HC.out; have := HJL.out; omega)]; rfl
                clear hj hc erd hm h2j
                go_upto_region 12 with fail
                change Code.wp _ _ _ _ (wr.alloc (credObj c)); have HX3 := Qab (Below.refl wr.heap.size wr) (credObj c); have B3 := blk_new wr (credObj c); have B4x := Qag HP3.out (credObj c); clear hx0 hx1 hx2 hx3 hx4 hx5 hx6 hx7 hx8
                generalize wr.alloc (credObj c) = X3 at HX3 B3 B4x ⊢
                obtain ⟨c0, c1, c2, c3, c4, c5, c6, c7, c8⟩ := credCells B3; obtain ⟨p0, p1, p2⟩ := pairCells B4x; unfold stepF at h1j
                by_cases e1 : c.f2 = 1
                · rw [if_pos e1] at h1j
                  have b1 : (c.f2 == 1) = true := beq_iff_eq.mpr e1; obtain rfl := Option.some.inj h1j; clear e1 h1j; go_wp2
                  go_roundg (creds.length + 1 - (j + 1))
                  case measure => have := HK3.out; have := HJ.out; omega
                  case rel => exact ⟨j + 1, st3, by first | rfl | exact congrArg _ wrapJ, Lib.hid rfl, Lib.hid (by have := HJL.out; omega), Lib.hid H2j.out, Lib.hid (HS3.out.below HX3), Lib.hid (HB3.out.trans (HX3.mono (by have := HS3.out.base; omega))), Lib.hid B4x, Lib.hid (by have := HZ3.out; have := HX3.size; omega)⟩
                · rw [if_neg e1] at h1j
                  have b1 : (c.f2 == 1) = false := beq_eq_false_iff_ne.mpr e1
                  by_cases e3 : c.f2 = 3
                  · rw [if_pos e3] at h1j
                    have b3 : (c.f2 == 3) = true := beq_iff_eq.mpr e3; have H1j := Lib.hid h1j; clear e1 e3 h1j; have hS3 := SolverAt.bound (HS3.out.below HX3)
                    go_wp2_with (go_at_call 51; refine (link_calls X3 B g b _ _ creds st3 st4 c p hS3 (fun k h => h.2) H1j.out).mono ?_; rintro e w8 ⟨rfl, hS8, hB8, hK8⟩)
                    go_roundg (creds.length + 1 - (j + 1))
                    case measure => have := HK3.out; have := HJ.out; omega
                    case rel => exact ⟨j + 1, st4, by first | rfl | exact congrArg _ wrapJ, Lib.hid rfl, Lib.hid (by have := HJL.out; omega), Lib.hid H2j.out, Lib.hid (hS8.mono (fun k h => h.elim (fun h => h.1) (fun h => .inr (by have := HZ3.out; have := HX3.size; omega)))), Lib.hid ((HB3.out.trans (HX3.mono (by have := HS3.out.base; omega))).trans hB8), Lib.hid ((hK8 _ (blk_lt B4x) (fun h => by have := HSZ2.out; rcases h.1 with h | h; (exact absurd h.2 (by omega)); omega)).trans B4x), Lib.hid (by have := HZ3.out; have := HX3.size; have := hB8.size; omega)⟩
                  · rw [if_neg e3] at h1j
                    have b3 : (c.f2 == 3) = false := beq_eq_false_iff_ne.mpr e3
                    by_cases e4 : c.f2 = 4
                    · rw [if_pos e4] at h1j
                      have b4 : (c.f2 == 4) = true := beq_iff_eq.mpr e4; have H1j := Lib.hid h1j; clear e1 e3 e4 h1j; have hS3 := SolverAt.bound (HS3.out.below HX3)
                      go_wp2_with (go_at_call 52; refine (both_calls X3 B g b _ _ creds st3 st4 c p hS3 H1j.out).mono ?_; rintro e w8 ⟨rfl, hS8, hB8, hK8⟩)
                      go_roundg (creds.length + 1 - (j + 1))
                      case measure => have := HK3.out; have := HJ.out; omega
                      case rel => exact ⟨j + 1, st4, by first | rfl | exact congrArg _ wrapJ, Lib.hid rfl, Lib.hid (by have := HJL.out; omega), Lib.hid H2j.out, Lib.hid (hS8.mono (fun k h => h.elim (fun h => h.1) (fun h => .inr (by have := HZ3.out; have := HX3.size; omega)))), Lib.hid ((HB3.out.trans (HX3.mono (by have := HS3.out.base; omega))).trans hB8), Lib.hid ((hK8 _ (blk_lt B4x) (fun h => by have := HSZ2.out; rcases h.1 with h | h; (exact absurd h.2 (by omega)); omega)).trans B4x), Lib.hid (by have := HZ3.out; have := HX3.size; have := hB8.size; omega)⟩
                    · rw [if_neg e4] at h1j
                      have b4 : (c.f2 == 4) = false := beq_eq_false_iff_ne.mpr e4; have H1j := Lib.hid h1j; clear e1 e3 e4 h1j; have hS3 := SolverAt.bound (HS3.out.below HX3)
                      go_wp2_with (go_at_call 50; refine (include_calls X3 B g b _ _ creds st3 st4 c p hS3 H1j.out).mono ?_; rintro e w8 ⟨rfl, hS8, hB8, hK8⟩)
                      go_roundg (creds.length + 1 - (j + 1))
                      case measure => have := HK3.out; have := HJ.out; omega
                      case rel => exact ⟨j + 1, st4, by first | rfl | exact congrArg _ wrapJ, Lib.hid rfl, Lib.hid (by have := HJL.out; omega), Lib.hid H2j.out, Lib.hid (hS8.mono (fun k h => h.elim (fun h => h.1) (fun h => .inr (by have := HZ3.out; have := HX3.size; omega)))), Lib.hid ((HB3.out.trans (HX3.mono (by have := HS3.out.base; omega))).trans hB8), Lib.hid ((hK8 _ (blk_lt B4x) (fun h => by have := HSZ2.out; rcases h.1 with h | h; (exact absurd h.2 (by omega)); omega)).trans B4x), Lib.hid (by have := HZ3.out; have := HX3.size; have := hB8.size; omega)⟩
              · have d1 : decide ((j : Int) < (creds.length : Int)) = false := decide_eq_false (by omega)
                have d2 : decide (j < creds.length) = false := decide_eq_false hj; have HE := Lib.hid (show j = creds.length by have := HJ.out; omega); clear hj; go_wp2; have hm := HM3.out; rw [HE.out, List.drop_length] at hm; obtain rfl : st3 = st2 := Option.some.inj hm
                go_roundg k1
                case measure => omega
                case rel => exact ⟨st3, Lib.hid H2.out, Lib.hid (HS3.out.mono (fun k h => h.elim (fun h => h.1) (fun h => .inr (by have := HSz.out; have := HSZ2.out; omega)))), Lib.hid (HBt.out.trans HB3.out), Lib.hid (by have := HSz.out; have := HSZ2.out; have := HZ3.out; omega)⟩
def solve_All.f (l0 : List (S42)) : Option (List (S50)) := (cred_Counts.f l0).bind fun cs => if cs.length ≤ 1000000 then (runF 2000 cs).bind fun s => (if s.known.length ≤ 1000000 then some (sortPairs s.known) else none) else none
theorem solver_made {w w3 : World} {v : Value} {cs : List Cred} (hR : Kd.R kCred 42 w3 w.heap.size (fun _ => True) v cs) (hB : Below w.heap.size w w3) :
    SolverAt ((w3.alloc (.map #[] 0)).alloc (.cells #[v, .map (some w3.heap.size), .slice none 0 0] 72)) w.heap.size (fun _ => True) (w3.heap.size + 1) w3.heap.size v cs [] [] := by
  have h1 := Qab (Below.refl w3.heap.size w3) (.map #[] 0); have h2 := Qab h1 (.cells #[v, .map (some w3.heap.size), .slice none 0 0] 72); refine ⟨.slice none 0 0, ?_, ⟨by have := hB.size; omega, trivial⟩, ⟨hB.size, trivial⟩, Kd.R_below hR h2, ?_, Kd.Q_nil _ _ _ _ _⟩
  · have := blk_new (w3.alloc (.map #[] 0)) (.cells #[v, .map (some w3.heap.size), .slice none 0 0] 72)
    simpa using this
  · exact (Tbl.made encPair okPair w3).below (Qab (Below.refl _ _) _)
set_option maxRecDepth 100000 in
set_option maxHeartbeats 4000000 in
theorem solve_All.calls (A0 : Option Addr) (c0 : Nat) (l0 : List (S42)) (r : List (S50)) (w : World) (hr0 : Kd.C k42 w A0 l0.length l0) (hc0 : l0.length ≤ c0) (h : solve_All.f l0 = some r) :
    Calls Tryd.prog 23 #[.slice A0 l0.length c0] w fun e w' => ∃ v0_ : Value, e = .returned (v0_) ∧ Kd.R k50 50 w' w.heap.size (fun _ => True) v0_ r ∧ Below w.heap.size w w' := by
  unfold solve_All.f at h; obtain ⟨cs, hcs, h⟩ := Option.bind_eq_some_iff.mp h
  by_cases hl : cs.length ≤ 1000000
  · rw [if_pos hl] at h
    obtain ⟨s, hs, h⟩ := Option.bind_eq_some_iff.mp h
    by_cases hk : s.known.length ≤ 1000000
    · rw [if_pos hk] at h
      obtain rfl := Option.some.inj h; have hct := cred_Counts.calls A0 c0 l0 cs w hr0 hc0 hcs; have HC := Lib.hid hl; have HS := Lib.hid hs; have HK := Lib.hid hk
      have hmk := fun W => run_makeMap (P := Tryd.prog) 59 W
      clear hr0 hc0 h hl hs hk hcs; go_enter Tryd.func23, Tryd.ntmps23
      go_wp2_with (first | (go_at_call 22; refine hct.mono ?_; rintro e w3 ⟨v3, rfl, hR3, hB3⟩; obtain ⟨A3, c3, rfl⟩ := Kd.R_slice hR3) | (go_at_call 33; refine (run_calls _ w.heap.size (w3.heap.size + 1) w3.heap.size (fun _ => True) _ cs 2000 s (solver_made hR3 hB3) HC.out HS.out).mono ?_; rintro e w5 ⟨rfl, hS5, hB5⟩) | (go_at_call 34; refine (pairs_calls w5 w.heap.size (w3.heap.size + 1) w3.heap.size _ _ cs s hS5 HK.out).mono ?_; rintro e w6 ⟨v6, rfl, hR6, hB6⟩))
      go_ret; have hT := (hB3.trans ((Qab (Qab (Below.refl w3.heap.size w3) _) _).mono hB3.size)).trans hB5; exact ⟨v6, rfl, Kd.R_lower hR6 hT.size, hT.trans (hB6.mono hT.size)⟩
    · rw [if_neg hk] at h
      cases h
  · rw [if_neg hl] at h
    cases h
end Go.Proofs.YtbjjgaahdnfflaaDoor.Pr
end
section
namespace Go.Proofs.YtbjjgaahdnfflaaDoor.Pr
open Go.RowKit Go.Proofs.YtbjjgaahdnfflaaDoorW.PrintWords Go.Proofs.YtbjjgaahdnfflaaDoorW.PrintLast Go.Proofs.YtbjjgaahdnfflaaDoorW.PrintMore
open Go.Maps
set_option linter.unusedVariables false
set_option linter.unusedSimpArgs false
attribute [local go_sem high] eqA24
def rndT (T : List (Pair × Int)) : List (Pair × Value) := T.map fun x => (x.1, .int .i64 x.2)
def rnd (T : List (Pair × Int)) (p : Pair) : Int := ((T.find? fun y => decide (y.1 = p)).map (·.2)).getD 0
theorem zeroInt (w : World) : (zeroValue 3).run Tryd.prog w = .ok (.int .i64 0) w := by kernel_rfl
theorem rndT_get (T : List (Pair × Int)) (p : Pair) : (tget (rndT T) p).getD (.int .i64 0) = .int .i64 (rnd T p) := by
  unfold tget rndT rnd
  induction T with
  | nil => rfl
  | cons y T ih =>
    rw [List.map_cons, List.find?_cons, List.find?_cons]; cases decide (y.1 = p)
    · exact ih
    · rfl
abbrev finObj (A0 : Option Addr) (n0 c0 : Nat) (A1 : Option Addr) (n1 c1 b : Nat) : Obj := .cells #[.slice A0 n0 c0, .slice A1 n1 c1, .map (some b)] 54
structure FinD where
  A0 : Option Addr
  c0 : Nat
  creds : List Cred
  A1 : Option Addr
  c1 : Nat
  pairs : List Pair
structure FinAt (w : World) (g b : Nat) (D : FinD) (T : List (Pair × Int)) : Prop where
  blk : w.heap[g]? = some (finObj D.A0 D.creds.length D.c0 D.A1 D.pairs.length D.c1 b)
  cr : Kd.C kCred w D.A0 D.creds.length D.creds
  crc : D.creds.length ≤ D.c0
  pr : Kd.C kPair w D.A1 D.pairs.length D.pairs
  prc : D.pairs.length ≤ D.c1
  tbl : Tbl encPair okPair w b (rndT T)
theorem FinAt.below {w W : World} {g b : Nat} {D : FinD} {T : List (Pair × Int)} (h : FinAt w g b D T) (hb : Below w.heap.size w W) : FinAt W g b D T :=
  ⟨Qae h.blk hb, Kd.C_below h.cr hb, h.crc, Kd.C_below h.pr hb, h.prc, h.tbl.below hb⟩
theorem FinAt.cells {w : World} {g b : Nat} {D : FinD} {T : List (Pair × Int)} (h : FinAt w g b D T) : w.cell? ⟨g, 0, none⟩ = some (.slice D.A0 D.creds.length D.c0) ∧ w.cell? ⟨g, 1, none⟩ = some (.slice D.A1 D.pairs.length D.c1) ∧ w.cell? ⟨g, 2, none⟩ = some (.map (some b)) :=
  ⟨(Qai h.blk 0).trans rfl, (Qai h.blk 1).trans rfl, (Qai h.blk 2).trans rfl⟩
theorem FinAt.look {w W : World} {g b : Nat} {D : FinD} {T : List (Pair × Int)} (h : FinAt w g b D T) (hb : Below w.heap.size w W) {p : Pair} (hp : okPair p) (n : Nat) :
    (Instr.lookup 52 (.map (some b)) (.agg #[.string p.f0.f0, .string p.f0.f1, .string p.f1]) false).run Tryd.prog (W.drewN n) = .ok (.int .i64 (rnd T p)) (W.drewN n) := by
  have hl := h.tbl.look pairKey Tryd.underlying52 zeroInt hp false (W.drewN n) (hb.block b h.tbl.lt); refine hl.trans ?_; rw [if_neg (by decide), rndT_get]
def belowF (T : List (Pair × Int)) (p : Pair) (n : Int) : Option Bool := if okPair p then some (decide (0 < rnd T p) && decide (rnd T p < n)) else none
set_option maxRecDepth 100000 in
set_option maxHeartbeats 2000000 in
theorem below_calls (w : World) (g b : Nat) (D : FinD) (T : List (Pair × Int)) (p : Pair) (n : Int) (r : Bool) (hF : FinAt w g b D T) (h : belowF T p n = some r) :
    Calls Tryd.prog 56 #[.pointer (some ⟨g, 0, none⟩), encPair p, .int .i64 n] w fun e w' => e = .returned (.bool r) ∧ Below w.heap.size w w' := by
  unfold belowF at h
  by_cases hp : okPair p
  · rw [if_pos hp] at h
    have hr := Option.some.inj h; unfold encPair; go_enter Tryd.func56, Tryd.ntmps56
    go_upto_region 1 with fail
    change Code.wp _ _ _ _ (w.alloc (pairObj p))
    generalize hW : w.alloc (pairObj p) = W
    obtain ⟨HB, BP⟩ := boxed1 hW; obtain ⟨p0, p1, p2⟩ := pairCells BP; have s2 := (hF.below HB).cells.2.2
    have L := fun m => hF.look HB hp m
    generalize rnd T p = k at hr L
    clear hW h BP
    go_quiet (fail)
    all_goals
      by_cases h1 : 0 < k
      · by_cases h2 : k < n
        · obtain rfl : true = r := by rw [← hr, decide_eq_true h1, decide_eq_true h2]; rfl
          have d1 : decide (0 < k) = true := decide_eq_true h1; have d2 : decide (k < n) = true := decide_eq_true h2; clear h1 h2 hr; go_wp2; go_ret; exact ⟨rfl, by repeat (first | exact HB | apply Qaa | apply Qac)⟩
        · obtain rfl : false = r := by rw [← hr, decide_eq_true h1, decide_eq_false h2]; rfl
          have d1 : decide (0 < k) = true := decide_eq_true h1; have d2 : decide (k < n) = false := decide_eq_false h2; clear h1 h2 hr; go_wp2; go_ret; exact ⟨rfl, by repeat (first | exact HB | apply Qaa | apply Qac)⟩
      · obtain rfl : false = r := by rw [← hr, decide_eq_false h1]; rfl
        have d1 : decide (0 < k) = false := decide_eq_false h1; clear h1 hr; go_wp2; go_ret; exact ⟨rfl, by repeat (first | exact HB | apply Qaa | apply Qac)⟩
  · rw [if_neg hp] at h
    cases h
def finMember (c : Cred) (p : Pair) : Option (List Pair × Bool) := some ([], decide (c.f3 = p.f1))
def Tried (w : World) (r : List Pair × Bool) (e : Ending) (w' : World) : Prop := ∃ v, e = .returned (.tuple #[v, .bool r.2]) ∧ Kd.R kPair 50 w' w.heap.size (fun _ => True) v r.1 ∧ Below w.heap.size w w'
def Tries (f : Nat) (w : World) (g : Nat) (c : Cred) (p : Pair) (n : Int) (r : List Pair × Bool) : Prop := Calls Tryd.prog f #[.pointer (some ⟨g, 0, none⟩), encCred c, encPair p, .int .i64 n] w (Tried w r)
set_option maxRecDepth 100000 in
set_option maxHeartbeats 2000000 in
theorem member_calls (w : World) (g : Nat) (c : Cred) (p : Pair) (n : Int) (r : List Pair × Bool) (h : finMember c p = some r) : Tries 36 w g c p n r := by
  have hr := Option.some.inj h; unfold Tries encPair encCred; go_enter Tryd.func36, Tryd.ntmps36
  go_upto_region 1 with fail
  change Code.wp _ _ _ _ ((w.alloc (credObj c)).alloc (pairObj p))
  generalize hW : (w.alloc (credObj c)).alloc (pairObj p) = W
  obtain ⟨HB, BC, BP, hsz⟩ := boxed2 hW; obtain ⟨c0, c1, c2, c3, c4, c5, c6, c7, c8⟩ := credCells BC; obtain ⟨p0, p1, p2⟩ := pairCells BP; clear hW hsz BC BP h
  by_cases e : c.f3 = p.f1
  · have d := str_t e
    obtain rfl : ([], true) = r := by rw [← hr, decide_eq_true e]
    clear e hr
    go_quiet (fail)
    all_goals
      go_wp2_with fail
      go_ret2
      exact ⟨_, rfl, Kd.R_nil _ _ _ _ _, by repeat (first | exact HB | apply Qaa | apply Qac)⟩
  · have d := str_f e
    obtain rfl : ([], false) = r := by rw [← hr, decide_eq_false e]
    clear e hr
    go_quiet (fail)
    all_goals
      go_wp2_with fail
      go_ret2
      exact ⟨_, rfl, Kd.R_nil _ _ _ _ _, by repeat (first | exact HB | apply Qaa | apply Qac)⟩
theorem R_pairs (W : World) (base : Nat) (hb : base ≤ W.heap.size) (xs : List Pair) (inner : List Value) (hi : inner = xs.flatMap encPairL) (hm : xs.length ≤ 1000000) :
    Kd.R kPair 50 (W.alloc (.cells inner.toArray 50)) base (fun _ => True) (.slice (some ⟨W.heap.size, 0, none⟩) xs.length xs.length) xs := by
  have hrep : Reps (kPair.M (W.alloc (.cells inner.toArray 50)) base (fun k => True ∧ some k ≠ (Value.slice (some ⟨W.heap.size, 0, none⟩) xs.length xs.length).ownBlock)) kPair.sz xs inner := by
    rw [hi]; exact flat_reps flatPair _ _ _ _
  have hlen : xs.length ≤ maxLen := Nat.le_trans hm (by decide); refine ⟨fun _ _ => trivial, inner, ?_, hrep⟩; have h2 := World.ownsRow_lit (base := base) (e := 50) (size := kPair.sz) W inner.toArray xs.length hb hlen (by simpa using hrep.1)
  simpa using h2
theorem R_one (W : World) (base : Nat) (hb : base ≤ W.heap.size) (a : Pair) : Kd.R kPair 50 (W.alloc (pairObj a)) base (fun _ => True) (.slice (some ⟨W.heap.size, 0, none⟩) 1 1) [a] :=
  R_pairs W base hb [a] [.string a.f0.f0, .string a.f0.f1, .string a.f1] rfl (by simp)
abbrev pairObj2 (a b : Pair) : Obj := .cells #[.string a.f0.f0, .string a.f0.f1, .string a.f1, .string b.f0.f0, .string b.f0.f1, .string b.f1] 50
theorem R_two (W : World) (base : Nat) (hb : base ≤ W.heap.size) (a b : Pair) : Kd.R kPair 50 (W.alloc (pairObj2 a b)) base (fun _ => True) (.slice (some ⟨W.heap.size, 0, none⟩) 2 2) [a, b] :=
  R_pairs W base hb [a, b] [.string a.f0.f0, .string a.f0.f1, .string a.f1, .string b.f0.f0, .string b.f0.f1, .string b.f1] rfl (by simp)
def finInclude (T : List (Pair × Int)) (c : Cred) (p : Pair) (n : Int) : Option (List Pair × Bool) := (belowF T ⟨c.f4, p.f1⟩ n).map fun b => ([⟨c.f4, p.f1⟩], b)
set_option maxRecDepth 100000 in
set_option maxHeartbeats 4000000 in
theorem finInclude_calls (w : World) (g b : Nat) (D : FinD) (T : List (Pair × Int)) (c : Cred) (p : Pair) (n : Int) (r : List Pair × Bool) (hF : FinAt w g b D T) (h : finInclude T c p n = some r) : Tries 37 w g c p n r := by
  obtain ⟨x, hx, rfl⟩ := Option.map_eq_some_iff.mp h; unfold Tries encPair encCred; go_enter Tryd.func37, Tryd.ntmps37
  go_upto_region 1 with fail
  change Code.wp _ _ _ _ ((w.alloc (credObj c)).alloc (pairObj p))
  generalize hW : (w.alloc (credObj c)).alloc (pairObj p) = W
  obtain ⟨HB, BC, BP, hsz⟩ := boxed2 hW; obtain ⟨c0, c1, c2, c3, c4, c5, c6, c7, c8⟩ := credCells BC; obtain ⟨p0, p1, p2⟩ := pairCells BP; clear hW hsz h
  go_upto_region 2 with fail
  change Code.wp _ _ _ _ (W.alloc (pairObj ⟨c.f4, p.f1⟩)); have HX := Qab HB (pairObj ⟨c.f4, p.f1⟩); have BA := blk_new W (pairObj ⟨c.f4, p.f1⟩)
  obtain ⟨a, ha⟩ : ∃ a : Pair, a = ⟨c.f4, p.f1⟩ := ⟨_, rfl⟩
  rw [← ha] at hx HX BA ⊢
  obtain ⟨ka, hka⟩ : ∃ ka, ka = W.heap.size := ⟨_, rfl⟩
  rw [← hka] at BA ⊢; have HA := Lib.hid ha; clear c0 c1 c2 c3 c4 c5 c6 c7 c8 p0 p1 p2 BC BP HB ha hka
  generalize W.alloc (pairObj a) = X at HX BA ⊢
  obtain ⟨a0, a1, a2⟩ := pairCells BA
  have HC := fun Y (hY : Below w.heap.size w Y) => below_calls Y g b D T a n x (hF.below hY) hx
  unfold encPair at HC; have HC := Lib.hid HC; clear hF hx BA; have b0 := bw_alloc a0 (pairObj a); have b1 := bw_alloc a1 (pairObj a); have b2 := bw_alloc a2 (pairObj a)
  go_region_with (go_at_call 56; refine (HC.out _ (by repeat (first | exact HX | apply Qaa | apply Qac | apply Qab))).mono ?_; rintro e w5 ⟨rfl, hB5⟩; (try (have z0 := pw_cell_below hB5 a0; have z1 := pw_cell_below hB5 a1; have z2 := pw_cell_below hB5 a2)))
  all_goals
    go_wp2_with fail
    go_ret2
    obtain rfl := HA.out; have HY := Qaf (by repeat (first | exact HX | apply Qaa | apply Qac | apply Qab)) hB5
    first
    | exact ⟨.slice (some ⟨X.heap.size, 0, none⟩) 1 1, rfl, Kd.R_below (Kd.R_drew (R_one X w.heap.size HX.size _)) hB5, HY⟩
    | exact ⟨.slice (some ⟨w5.heap.size, 0, none⟩) 1 1, rfl, R_one w5 w.heap.size HY.size _, Qab HY _⟩
end Go.Proofs.YtbjjgaahdnfflaaDoor.Pr
end
section
namespace Go.Proofs.YtbjjgaahdnfflaaDoor.Pr
open Go.RowKit Go.Proofs.YtbjjgaahdnfflaaDoorW.PrintWords Go.Proofs.YtbjjgaahdnfflaaDoorW.PrintLast Go.Proofs.YtbjjgaahdnfflaaDoorW.PrintMore
set_option linter.unusedVariables false
set_option linter.unusedSimpArgs false
def PairAt (w : World) (k : Nat) (a : Pair) : Prop := w.cell? ⟨k, 0, none⟩ = some (.string a.f0.f0) ∧ w.cell? ⟨k, 1, none⟩ = some (.string a.f0.f1) ∧ w.cell? ⟨k, 2, none⟩ = some (.string a.f1)
theorem PairAt.below {w W : World} {k : Nat} {a : Pair} (h : PairAt w k a) (hb : Below w.heap.size w W) : PairAt W k a := ⟨pw_cell_below hb h.1, pw_cell_below hb h.2.1, pw_cell_below hb h.2.2⟩
def finBoth (T : List (Pair × Int)) (c : Cred) (p : Pair) (n : Int) : Option (List Pair × Bool) :=
  (belowF T ⟨c.f4, p.f1⟩ n).bind fun x => if x = true then (belowF T ⟨c.f5, p.f1⟩ n).map fun y => ([⟨c.f4, p.f1⟩, ⟨c.f5, p.f1⟩], y) else some ([⟨c.f4, p.f1⟩, ⟨c.f5, p.f1⟩], false)
set_option maxRecDepth 100000 in
set_option maxHeartbeats 4000000 in
theorem finBoth_calls (w : World) (g b : Nat) (D : FinD) (T : List (Pair × Int)) (c : Cred) (p : Pair) (n : Int) (r : List Pair × Bool) (hF : FinAt w g b D T) (h : finBoth T c p n = some r) : Tries 39 w g c p n r := by
  unfold Tries encPair encCred; go_enter Tryd.func39, Tryd.ntmps39
  go_upto_region 1 with fail
  change Code.wp _ _ _ _ ((w.alloc (credObj c)).alloc (pairObj p))
  generalize hW : (w.alloc (credObj c)).alloc (pairObj p) = W
  obtain ⟨HB, BC, BP, hsz⟩ := boxed2 hW; obtain ⟨c0, c1, c2, c3, c4, c5, c6, c7, c8⟩ := credCells BC; obtain ⟨p0, p1, p2⟩ := pairCells BP; clear hW
  go_cut [10, 11] from 10 to 21 (fun v10 v11 wc => ∃ k10 k11, v10 = .pointer (some ⟨k10, 0, none⟩) ∧ v11 = .pointer (some ⟨k11, 0, none⟩) ∧ PairAt wc k10 ⟨c.f4, p.f1⟩ ∧ PairAt wc k11 ⟨c.f5, p.f1⟩ ∧ Below W.heap.size W wc)
  case first =>
    have hF := Lib.hid hF; have h := Lib.hid h
    have z1 : w.heap.size < W.heap.size := by omega
    have z2 : w.heap.size + 1 < W.heap.size := by omega
    have HBC := Lib.hid BC; have HBP := Lib.hid BP; have HBB := Lib.hid HB; clear hsz BC BP HB c0 c1 c2 c3 c4 p0 p1
    go_region_held3 (fun w' => w'.cell? ⟨w.heap.size, 5, none⟩ = some (.string c.f4.f0) ∧ w'.cell? ⟨w.heap.size, 6, none⟩ = some (.string c.f4.f1) ∧ w'.cell? ⟨w.heap.size, 7, none⟩ = some (.string c.f5.f0) ∧ w'.cell? ⟨w.heap.size, 8, none⟩ = some (.string c.f5.f1) ∧ w'.cell? ⟨w.heap.size + 1, 2, none⟩ = some (.string p.f1)) (go_keep) ((fail))
    all_goals
      go_wp2_with fail
      go_meet
      case rel => exact ⟨_, _, rfl, rfl, ⟨by simp, by simp, by simp⟩, ⟨by simp, by simp, by simp⟩, by repeat (first | exact Below.refl _ _ | apply Qac | apply Qab | (refine Below.setCell ?_ (by simp) _))⟩
  case rest =>
    obtain ⟨k10, k11, rfl, rfl, PA, PB, HBF⟩ := hcut
    go_upto_region 2 with fail
    have HX := Qaf HB HBF; unfold finBoth at h; obtain ⟨x, hx, h⟩ := Option.bind_eq_some_iff.mp h
    obtain ⟨a, ha⟩ : ∃ a : Pair, a = ⟨c.f4, p.f1⟩ := ⟨_, rfl⟩
    obtain ⟨q, hq⟩ : ∃ q : Pair, q = ⟨c.f5, p.f1⟩ := ⟨_, rfl⟩
    rw [← ha] at hx PA h; rw [← hq] at PB h; clear ha hq c0 c1 c2 c3 c4 c5 c6 c7 c8 p0 p1 p2 BC BP HB hsz HBF; have HPA := Lib.hid PA; have HPB := Lib.hid PB; obtain ⟨a0, a1, a2⟩ := PA; obtain ⟨q0, q1, q2⟩ := PB
    have HC1 := fun Y (hY : Below w.heap.size w Y) => below_calls Y g b D T a n x (hF.below hY) hx
    unfold encPair at HC1; have HC1 := Lib.hid HC1; have L10 := Lib.hid (World.block_lt_of_cell? wc _ a0); have L11 := Lib.hid (World.block_lt_of_cell? wc _ q0); have l0 : k10 < wc.heap.size := L10.out; have l1 : k11 < wc.heap.size := L11.out; have HW := Below.refl wc.heap.size wc; have hF' := Lib.hid hF; clear hF; cases x
    · rw [if_neg (by decide)] at h
      obtain rfl := Option.some.inj h; clear hx h; have b0 := bw_alloc a0 (pairObj2 a q); have b1 := bw_alloc a1 (pairObj2 a q); have b2 := bw_alloc a2 (pairObj2 a q); have b3 := bw_alloc q0 (pairObj2 a q); have b4 := bw_alloc q1 (pairObj2 a q); have b5 := bw_alloc q2 (pairObj2 a q); refine start_ (n := 15) (S := fun w' => w'.cell? ⟨k10, 0, none⟩ = some (.string a.f0.f0) ∧ w'.cell? ⟨k10, 1, none⟩ = some (.string a.f0.f1) ∧ w'.cell? ⟨k10, 2, none⟩ = some (.string a.f1) ∧ w'.cell? ⟨k11, 0, none⟩ = some (.string q.f0.f0) ∧ w'.cell? ⟨k11, 1, none⟩ = some (.string q.f0.f1) ∧ w'.cell? ⟨k11, 2, none⟩ = some (.string q.f1)) (ds := []) #[ff,ff,ff,ff,ff,ff,ff,ff,ff,ff,ff,ff,ff,ff,ff] (by kernel_rfl) rfl rfl ⟨a0, a1, a2, q0, q1, q2⟩ (fun hHeld => ?_); have HXd := Qac HX; have HWd := Qac HW
      generalize wc.drew = wd at HXd HWd hHeld ⊢
      refine take_ (i := 0) (N := some 22) (v := ?_) (a' := ?_) #[tt,ff,ff,ff,ff,ff,ff,ff,ff,ff,ff,ff,ff,ff,ff] rfl rfl (by kernel_rfl) (fun _ _ _ h => h) (Or.inl ⟨by rfl, ?_⟩) hHeld ?_ ?_; rotate_left
      · rintro w' ⟨s0, s1, s2, s3, s4, s5⟩
        go_simp; (with_reducible rfl)
      rotate_left
      · simp only [Act.put, put_]
        rfl
      refine take_ (i := 1) (N := some 23) (v := ?_) (a' := ?_) #[tt,tt,ff,ff,ff,ff,ff,ff,ff,ff,ff,ff,ff,ff,ff] rfl rfl (by kernel_rfl) (fun _ _ _ h => h) (Or.inl ⟨by rfl, ?_⟩) hHeld ?_ ?_; rotate_left
      · rintro w' ⟨s0, s1, s2, s3, s4, s5⟩
        go_simp; (with_reducible rfl)
      rotate_left
      · simp only [Act.put, put_]
        rfl
      refine pure_ (i := 3) (N := some 25) (v := ?_) (a' := ?_) #[tt,tt,ff,tt,ff,ff,ff,ff,ff,ff,ff,ff,ff,ff,ff] rfl rfl (by kernel_rfl) (fun _ _ _ h => h) (Or.inl ⟨by rfl, ?_⟩) ?_ ?_; rotate_left
      · intro w'
        go_simp; (with_reducible rfl)
      rotate_left
      · simp only [Act.put, put_]
        rfl
      refine take_ (i := 4) (N := some 26) (v := ?_) (a' := ?_) #[tt,tt,ff,tt,tt,ff,ff,ff,ff,ff,ff,ff,ff,ff,ff] rfl rfl (by kernel_rfl) (fun _ _ _ h => h) (Or.inl ⟨by rfl, ?_⟩) hHeld ?_ ?_; rotate_left
      · rintro w' ⟨s0, s1, s2, s3, s4, s5⟩
        go_simp; (with_reducible rfl)
      rotate_left
      · simp only [Act.put, put_]
        rfl
      refine pure_ (i := 5) (N := some 27) (v := ?_) (a' := ?_) #[tt,tt,ff,tt,tt,tt,ff,ff,ff,ff,ff,ff,ff,ff,ff] rfl rfl (by kernel_rfl) (fun _ _ _ h => h) (Or.inl ⟨by rfl, ?_⟩) ?_ ?_; rotate_left
      · intro w'
        go_simp; (with_reducible rfl)
      rotate_left
      · simp only [Act.put, put_]
        rfl
      refine two_ (i := 2) (j := 6) (Ni := some 24) (Nj := some 28) #[tt,tt,tt,tt,tt,tt,ff,ff,ff,ff,ff,ff,ff,ff,ff] #[tt,tt,ff,tt,tt,tt,tt,ff,ff,ff,ff,ff,ff,ff,ff] rfl rfl rfl rfl (by kernel_rfl) (by decide) (by decide) (fun K hK => ?_) (fun K hK => ?_)
      · refine value_ (w1 := ?_) (v := ?_) (by rfl) rfl ?_ ?_
        rotate_left 2
        · go_simp
          constructor
          · rfl
          · rfl
        refine hK.out _ _ ⟨cell_alloc hHeld.1 _, cell_alloc hHeld.2.1 _, cell_alloc hHeld.2.2.1 _, cell_alloc hHeld.2.2.2.1 _, cell_alloc hHeld.2.2.2.2.1 _, cell_alloc hHeld.2.2.2.2.2 _⟩ (fun hHeld => ?_); clear hK K; refine norm_ (a' := ?_) ?_ ?_; rotate_left
        · show Act.put _ (some 24) _ = _
          simp only [Act.put, put_]; rfl
        refine one_ (i := 6) (N := some 28) #[tt,tt,tt,tt,tt,tt,tt,ff,ff,ff,ff,ff,ff,ff,ff] rfl rfl (by kernel_rfl) (by decide) (fun K hK => ?_); refine goes_ Tryd.func56 (by kernel_rfl) rfl #[.pointer (some ⟨g, 0, none⟩), .agg #[.string a.f0.f0, .string a.f0.f1, .string a.f1], .int .i64 n] (by rfl) rfl rfl (by (try simp only [List.map_toArray, List.map_cons, List.map_nil]); first | done | rfl) ?_
        with_reducible refine (HC1.out _ (Qab HXd _)).mono ?_
        rintro e w5 ⟨rfl, hB5⟩; have HX5 := Qaf (Qab HXd _) hB5; have HW5 := Qaf (Qab HWd _) hB5; obtain ⟨a50, a51, a52⟩ := HPA.out.below HW5; obtain ⟨q50, q51, q52⟩ := HPB.out.below HW5; refine ⟨_, rfl, ?_⟩; refine hK.out _ _ ⟨a50, a51, a52, q50, q51, q52⟩ (fun hHeld => ?_); clear hK K; refine norm_ (a' := ?_) ?_ ?_; rotate_left
        · show Act.put _ (some 28) _ = _
          simp only [Act.put, put_]; rfl
        refine pure_ (i := 7) (N := some 29) (v := ?_) (a' := ?_) #[tt,tt,tt,tt,tt,tt,tt,tt,ff,ff,ff,ff,ff,ff,ff] rfl rfl (by kernel_rfl) (fun _ _ _ h => h) (Or.inl ⟨by rfl, ?_⟩) ?_ ?_; rotate_left
        · intro w'
          go_simp; (with_reducible rfl)
        rotate_left
        · simp only [Act.put, put_]
          rfl
        refine pure_ (i := 8) (N := some 30) (v := undef) (a' := ?_) #[tt,tt,tt,tt,tt,tt,tt,tt,tt,ff,ff,ff,ff,ff,ff] rfl rfl (by kernel_rfl) (fun _ _ _ h => h) (Or.inr ⟨by rfl, rfl⟩) ?_ ?_; rotate_left
        · simp only [Act.put, put_]
          rfl
        refine pure_ (i := 9) (N := some 31) (v := undef) (a' := ?_) #[tt,tt,tt,tt,tt,tt,tt,tt,tt,tt,ff,ff,ff,ff,ff] rfl rfl (by kernel_rfl) (fun _ _ _ h => h) (Or.inr ⟨by rfl, rfl⟩) ?_ ?_; rotate_left
        · simp only [Act.put, put_]
          rfl
        refine pure_ (i := 10) (N := some 32) (v := undef) (a' := ?_) #[tt,tt,tt,tt,tt,tt,tt,tt,tt,tt,tt,ff,ff,ff,ff] rfl rfl (by kernel_rfl) (fun _ _ _ h => h) (Or.inr ⟨by rfl, rfl⟩) ?_ ?_; rotate_left
        · simp only [Act.put, put_]
          rfl
        refine pure_ (i := 11) (N := some 33) (v := undef) (a' := ?_) #[tt,tt,tt,tt,tt,tt,tt,tt,tt,tt,tt,tt,ff,ff,ff] rfl rfl (by kernel_rfl) (fun _ _ _ h => h) (Or.inr ⟨by rfl, rfl⟩) ?_ ?_; rotate_left
        · simp only [Act.put, put_]
          rfl
        refine pure_ (i := 12) (N := some 34) (v := ?_) (a' := ?_) #[tt,tt,tt,tt,tt,tt,tt,tt,tt,tt,tt,tt,tt,ff,ff] rfl rfl (by kernel_rfl) (fun _ _ _ h => h) (Or.inl ⟨by rfl, ?_⟩) ?_ ?_; rotate_left
        · intro w'
          go_simp; (with_reducible rfl)
        rotate_left
        · simp only [Act.put, put_]
          rfl
        refine pure_ (i := 13) (N := some 8) (v := ?_) (a' := ?_) #[tt,tt,tt,tt,tt,tt,tt,tt,tt,tt,tt,tt,tt,tt,ff] rfl rfl (by kernel_rfl) (fun _ _ _ h => h) (Or.inl ⟨by rfl, ?_⟩) ?_ ?_; rotate_left
        · intro w'
          go_simp; (with_reducible rfl)
        rotate_left
        · simp only [Act.put, put_]
          rfl
        refine pure_ (i := 14) (N := some 9) (v := ?_) (a' := ?_) #[tt,tt,tt,tt,tt,tt,tt,tt,tt,tt,tt,tt,tt,tt,tt] rfl rfl (by kernel_rfl) (fun _ _ _ h => h) (Or.inl ⟨by rfl, ?_⟩) ?_ ?_; rotate_left
        · intro w'
          go_simp; (with_reducible rfl)
        rotate_left
        · simp only [Act.put, put_]
          rfl
        refine done_ (by kernel_rfl) ?_
        go_wp2_with fail
        go_ret2
        exact ⟨.slice (some ⟨wd.heap.size, 0, none⟩) 2 2, rfl, Kd.R_below (R_two wd w.heap.size HXd.size _ _) hB5, HX5⟩
      · refine goes_ Tryd.func56 (by kernel_rfl) rfl #[.pointer (some ⟨g, 0, none⟩), .agg #[.string a.f0.f0, .string a.f0.f1, .string a.f1], .int .i64 n] (by rfl) rfl rfl (by (try simp only [List.map_toArray, List.map_cons, List.map_nil]); first | done | rfl) ?_
        with_reducible refine (HC1.out _ HXd).mono ?_
        rintro e w5 ⟨rfl, hB5⟩; have HX5 := Qaf HXd hB5; have HW5 := Qaf HWd hB5; obtain ⟨a50, a51, a52⟩ := HPA.out.below HW5; obtain ⟨q50, q51, q52⟩ := HPB.out.below HW5; refine ⟨_, rfl, ?_⟩; refine hK.out _ _ ⟨a50, a51, a52, q50, q51, q52⟩ (fun hHeld => ?_); clear hK K; refine norm_ (a' := ?_) ?_ ?_; rotate_left
        · show Act.put _ (some 28) _ = _
          simp only [Act.put, put_]; rfl
        refine pure_ (i := 7) (N := some 29) (v := ?_) (a' := ?_) #[tt,tt,ff,tt,tt,tt,tt,tt,ff,ff,ff,ff,ff,ff,ff] rfl rfl (by kernel_rfl) (fun _ _ _ h => h) (Or.inl ⟨by rfl, ?_⟩) ?_ ?_; rotate_left
        · intro w'
          go_simp; (with_reducible rfl)
        rotate_left
        · simp only [Act.put, put_]
          rfl
        refine pure_ (i := 8) (N := some 30) (v := undef) (a' := ?_) #[tt,tt,ff,tt,tt,tt,tt,tt,tt,ff,ff,ff,ff,ff,ff] rfl rfl (by kernel_rfl) (fun _ _ _ h => h) (Or.inr ⟨by rfl, rfl⟩) ?_ ?_; rotate_left
        · simp only [Act.put, put_]
          rfl
        refine pure_ (i := 9) (N := some 31) (v := undef) (a' := ?_) #[tt,tt,ff,tt,tt,tt,tt,tt,tt,tt,ff,ff,ff,ff,ff] rfl rfl (by kernel_rfl) (fun _ _ _ h => h) (Or.inr ⟨by rfl, rfl⟩) ?_ ?_; rotate_left
        · simp only [Act.put, put_]
          rfl
        refine pure_ (i := 10) (N := some 32) (v := undef) (a' := ?_) #[tt,tt,ff,tt,tt,tt,tt,tt,tt,tt,tt,ff,ff,ff,ff] rfl rfl (by kernel_rfl) (fun _ _ _ h => h) (Or.inr ⟨by rfl, rfl⟩) ?_ ?_; rotate_left
        · simp only [Act.put, put_]
          rfl
        refine pure_ (i := 11) (N := some 33) (v := undef) (a' := ?_) #[tt,tt,ff,tt,tt,tt,tt,tt,tt,tt,tt,tt,ff,ff,ff] rfl rfl (by kernel_rfl) (fun _ _ _ h => h) (Or.inr ⟨by rfl, rfl⟩) ?_ ?_; rotate_left
        · simp only [Act.put, put_]
          rfl
        refine pure_ (i := 12) (N := some 34) (v := ?_) (a' := ?_) #[tt,tt,ff,tt,tt,tt,tt,tt,tt,tt,tt,tt,tt,ff,ff] rfl rfl (by kernel_rfl) (fun _ _ _ h => h) (Or.inl ⟨by rfl, ?_⟩) ?_ ?_; rotate_left
        · intro w'
          go_simp; (with_reducible rfl)
        rotate_left
        · simp only [Act.put, put_]
          rfl
        refine one_ (i := 2) (N := some 24) #[tt,tt,tt,tt,tt,tt,tt,tt,tt,tt,tt,tt,tt,ff,ff] rfl rfl (by kernel_rfl) (by decide) (fun K hK => ?_); refine value_ (w1 := ?_) (v := ?_) (by rfl) rfl ?_ ?_; rotate_left 2
        · go_simp
          constructor
          · rfl
          · rfl
        refine hK.out _ _ ⟨cell_alloc hHeld.1 _, cell_alloc hHeld.2.1 _, cell_alloc hHeld.2.2.1 _, cell_alloc hHeld.2.2.2.1 _, cell_alloc hHeld.2.2.2.2.1 _, cell_alloc hHeld.2.2.2.2.2 _⟩ (fun hHeld => ?_); clear hK K; refine norm_ (a' := ?_) ?_ ?_; rotate_left
        · show Act.put _ (some 24) _ = _
          simp only [Act.put, put_]; rfl
        refine pure_ (i := 13) (N := some 8) (v := ?_) (a' := ?_) #[tt,tt,tt,tt,tt,tt,tt,tt,tt,tt,tt,tt,tt,tt,ff] rfl rfl (by kernel_rfl) (fun _ _ _ h => h) (Or.inl ⟨by rfl, ?_⟩) ?_ ?_; rotate_left
        · intro w'
          go_simp; (with_reducible rfl)
        rotate_left
        · simp only [Act.put, put_]
          rfl
        refine pure_ (i := 14) (N := some 9) (v := ?_) (a' := ?_) #[tt,tt,tt,tt,tt,tt,tt,tt,tt,tt,tt,tt,tt,tt,tt] rfl rfl (by kernel_rfl) (fun _ _ _ h => h) (Or.inl ⟨by rfl, ?_⟩) ?_ ?_; rotate_left
        · intro w'
          go_simp; (with_reducible rfl)
        rotate_left
        · simp only [Act.put, put_]
          rfl
        refine done_ (by kernel_rfl) ?_
        go_wp2_with fail
        go_ret2
        exact ⟨.slice (some ⟨w5.heap.size, 0, none⟩) 2 2, rfl, R_two w5 w.heap.size HX5.size _ _, Qab HX5 _⟩
    · rw [if_pos rfl] at h
      obtain ⟨y, hy, rfl⟩ := Option.map_eq_some_iff.mp h
      have HC2 := fun Y (hY : Below w.heap.size w Y) => below_calls Y g b D T q n y (hF'.out.below hY) hy
      unfold encPair at HC2; have HC2 := Lib.hid HC2; clear hx hy h
      go_region_held3 (fun w' => w'.cell? ⟨k10, 0, none⟩ = some (.string a.f0.f0) ∧ w'.cell? ⟨k10, 1, none⟩ = some (.string a.f0.f1) ∧ w'.cell? ⟨k10, 2, none⟩ = some (.string a.f1) ∧ w'.cell? ⟨k11, 0, none⟩ = some (.string q.f0.f0) ∧ w'.cell? ⟨k11, 1, none⟩ = some (.string q.f0.f1) ∧ w'.cell? ⟨k11, 2, none⟩ = some (.string q.f1)) (go_keep) ((first | (go_at_call 56; first | ((with_reducible refine (HC1.out _ (by repeat (first | exact HX | apply Qac | apply Qab))).mono ?_); rintro e w5 ⟨rfl, hB5⟩; have HX5 := Qaf (by repeat (first | exact HX | apply Qac | apply Qab)) hB5; have HW5 := Qaf (by repeat (first | exact HW | apply Qac | apply Qab)) hB5; obtain ⟨a50, a51, a52⟩ := HPA.out.below HW5; obtain ⟨q50, q51, q52⟩ := HPB.out.below HW5; have l50 := Nat.lt_of_lt_of_le L10.out HW5.size; have l51 := Nat.lt_of_lt_of_le L11.out HW5.size) | ((with_reducible refine (HC2.out _ (by repeat (first | exact HX5 | apply Qac | apply Qab))).mono ?_); rintro e w6 ⟨rfl, hB6⟩; have HX6 := Qaf (by repeat (first | exact HX5 | apply Qac | apply Qab)) hB6; have HW6 := Qaf (by repeat (first | exact HW5 | apply Qac | apply Qab)) hB6; obtain ⟨a60, a61, a62⟩ := HPA.out.below HW6; obtain ⟨q60, q61, q62⟩ := HPB.out.below HW6; have l60 := Nat.lt_of_lt_of_le L10.out HW6.size; have l61 := Nat.lt_of_lt_of_le L11.out HW6.size))))
      all_goals
        go_wp2_with fail
        go_ret2
        first
        | exact ⟨.slice (some ⟨wc.heap.size, 0, none⟩) 2 2, rfl, Kd.R_below (Kd.R_below (Kd.R_drew (R_two wc w.heap.size HX.size _ _)) hB5) hB6, by repeat (first | exact HX6 | apply Qac | apply Qab)⟩
        | exact ⟨.slice (some ⟨wc.heap.size, 0, none⟩) 2 2, rfl, Kd.R_below (Kd.R_below (R_two wc w.heap.size HX.size _ _) hB5) hB6, by repeat (first | exact HX6 | apply Qac | apply Qab)⟩
        | exact ⟨.slice (some ⟨w5.heap.size, 0, none⟩) 2 2, rfl, Kd.R_below (R_two w5 w.heap.size HX5.size _ _) hB6, by repeat (first | exact HX6 | apply Qac | apply Qab)⟩
        | exact ⟨.slice (some ⟨w5.heap.size, 0, none⟩) 2 2, rfl, Kd.R_below (Kd.R_drew (R_two w5 w.heap.size HX5.size _ _)) hB6, by repeat (first | exact HX6 | apply Qac | apply Qab)⟩
        | exact ⟨.slice (some ⟨w6.heap.size, 0, none⟩) 2 2, rfl, R_two w6 w.heap.size HX6.size _ _, by repeat (first | exact HX6 | apply Qac | apply Qab)⟩
        | exact ⟨.slice (some ⟨w6.heap.size, 0, none⟩) 2 2, rfl, Kd.R_drew (R_two w6 w.heap.size HX6.size _ _), by repeat (first | exact HX6 | apply Qac | apply Qab)⟩
def finLinkL (T : List (Pair × Int)) (fr : Role) (c : Cred) (p : Pair) (n : Int) : Nat → Int → Option (List Pair × Bool)
  | 0, _ => some ([], false)
  | k + 1, d => (belowF T ⟨fr, domName d⟩ n).bind fun x => (if x = true then belowF T ⟨⟨domName d, c.f5.f1⟩, p.f1⟩ n else some false).bind fun z => if z = true then some ([⟨fr, domName d⟩, ⟨⟨domName d, c.f5.f1⟩, p.f1⟩], true) else finLinkL T fr c p n k (d + 1)
def finLink (T : List (Pair × Int)) (c : Cred) (p : Pair) (n : Int) : Option (List Pair × Bool) := finLinkL T (linkFirst c) c p n 16 1
set_option maxRecDepth 100000 in
set_option maxHeartbeats 4000000 in
theorem finLink_calls (w : World) (g b : Nat) (D : FinD) (T : List (Pair × Int)) (c : Cred) (p : Pair) (n : Int) (r : List Pair × Bool) (hF : FinAt w g b D T) (h : finLink T c p n = some r) : Tries 38 w g c p n r := by
  unfold Tries encPair encCred; unfold finLink at h; go_enter Tryd.func38, Tryd.ntmps38
  go_upto_region 1 with fail
  change Code.wp _ _ _ _ ((w.alloc (credObj c)).alloc (pairObj p))
  generalize hW : (w.alloc (credObj c)).alloc (pairObj p) = W
  obtain ⟨HB, BC, BP, hsz⟩ := boxed2 hW; clear hW
  go_cut [10] from 10 to 22 (fun v wc => ∃ k1, v = .pointer (some ⟨k1, 0, none⟩) ∧ wc.heap[k1]? = some (roleObj2 (linkFirst c)) ∧ Below W.heap.size W wc)
  case first =>
    obtain ⟨c0, c1, c2, c3, c4, c5, c6, c7, c8⟩ := credCells BC; have c0a := bw_alloc c0 (.cells #[.string ⟨#[]⟩, .string ⟨#[]⟩] 24); have c6a := bw_alloc c6 (.cells #[.string ⟨#[]⟩, .string ⟨#[]⟩] 24); have hF := Lib.hid hF; have h := Lib.hid h; clear hsz BP HB
    go_region_with (go_at_call 45; refine (domain_walk _ _).mono ?_; rintro e w' ⟨rfl, rfl⟩)
    all_goals
      go_wp2_with fail
      go_meet
      case rel => exact ⟨W.heap.size, rfl, Qak (blk_new W _), Qac (Qab (Below.refl _ _) _)⟩
  case rest =>
    obtain ⟨k1, rfl, BR, HBF⟩ := hcut; have HF := Lib.hid hF; have HBw := Lib.hid (Qaf HB HBF); have HBC := Lib.hid (Qae BC HBF); have HBP := Lib.hid (Qae BP HBF); have HBR := Lib.hid BR; have HL := Lib.hid h; clear hF HB BC BP BR HBF hsz h; go_wp2
    go_loopg [11] 17 (fun kq v11 w' => ∃ d : Nat, v11 = .int .i64 d ∧ Hid (kq = 18 - d) ∧ Hid (1 ≤ d) ∧ Hid (d ≤ 17) ∧ Hid (finLinkL T (linkFirst c) c p n (17 - d) d = some r) ∧ Hid (w'.heap[k1]? = some (roleObj2 (linkFirst c))) ∧ Hid (w'.heap[w.heap.size]? = some (credObj c)) ∧ Hid (w'.heap[w.heap.size + 1]? = some (pairObj p)) ∧ Hid (Below w.heap.size w w'))
    case atStart => exact ⟨1, rfl, Lib.hid rfl, Lib.hid (Nat.le_refl _), Lib.hid (by omega), HL, HBR, HBC, HBP, HBw⟩
    case round =>
      clear HBw HBC HBP HBR HL; obtain ⟨d, rfl, HKq, HD0, HD1, HL, HBR, HBC, HBP, HBw⟩ := hrel
      by_cases hd : d < 17
      · have d1 : decide ((d : Int) ≤ 16) = true := decide_eq_true (by omega)
        have d2 : decide (d ≤ 16) = true := decide_eq_true (by omega)
        have wrapI : wrap64 ((d : Int) + 1) = ((d + 1 : Nat) : Int) := by unfold wrap64; omega
        obtain ⟨j, hj⟩ : ∃ j, 17 - d = j + 1 := ⟨16 - d, by omega⟩
        have hL := HL.out; rw [hj, finLinkL] at hL; obtain ⟨x, hx, hL⟩ := Option.bind_eq_some_iff.mp hL; obtain ⟨z, hz, hL⟩ := Option.bind_eq_some_iff.mp hL
        have hnext : z = false → finLinkL T (linkFirst c) c p n (17 - (d + 1)) ((d + 1 : Nat) : Int) = some r := fun e => by
          rw [e, if_neg (by decide)] at hL; rw [show 17 - (d + 1) = j by omega]; exact hL
        have hDm := fun V => domain_walk (d : Int) V
        obtain ⟨y, hy⟩ : ∃ y, y = domName (d : Int) := ⟨_, rfl⟩
        rw [← hy] at hx hz hL; simp only [← hy] at hDm; have HDm := Lib.hid hDm; have HZ := Lib.hid hz; have HXx := Lib.hid hx; have HLL := Lib.hid hL; have HNx := Lib.hid hnext; have HD2 := Lib.hid hd; clear hDm hz hx hL hnext hy hj hd HL; obtain ⟨c0, c1, c2, c3, c4, c5, c6, c7, c8⟩ := credCells HBC.out; obtain ⟨p0, p1, p2⟩ := pairCells HBP.out; obtain ⟨r0, r1⟩ := roleCells2 HBR.out; have l1 : k1 < wr.heap.size := World.block_lt_of_cell? wr _ r0; have l2 : w.heap.size < wr.heap.size := World.block_lt_of_cell? wr _ c0; have l3 : w.heap.size + 1 < wr.heap.size := World.block_lt_of_cell? wr _ p0; clear c0 c1 c2 c3 c4 c5 c6 c7 p0 p1
        go_upto_region 6 with (go_at_call 45; refine (HDm.out _).mono ?_; rintro e w' ⟨rfl, rfl⟩)
        go_cut [13, 14] from 29 to 39 (fun v13 v14 wc => ∃ k13 k14, v13 = .pointer (some ⟨k13, 0, none⟩) ∧ v14 = .pointer (some ⟨k14, 0, none⟩) ∧ PairAt wc k13 ⟨linkFirst c, y⟩ ∧ PairAt wc k14 ⟨⟨y, c.f5.f1⟩, p.f1⟩ ∧ Below wr.heap.size wr wc)
        case first =>
          go_region_held3 (fun w' => w'.cell? ⟨k1, 0, none⟩ = some (.string (linkFirst c).f0) ∧ w'.cell? ⟨k1, 1, none⟩ = some (.string (linkFirst c).f1) ∧ w'.cell? ⟨w.heap.size, 8, none⟩ = some (.string c.f5.f1) ∧ w'.cell? ⟨w.heap.size + 1, 2, none⟩ = some (.string p.f1)) (go_keep) ((fail))
          all_goals
            go_wp2_with fail
            go_meet
            case rel => exact ⟨_, _, rfl, rfl, ⟨by simp, by simp, by simp⟩, ⟨by simp, by simp, by simp⟩, by repeat (first | exact Below.refl _ _ | apply Qac | apply Qab | (refine Below.setCell ?_ (by simp) _))⟩
        case rest =>
          obtain ⟨k13, k14, rfl, rfl, PA, PB, HBF⟩ := hcut; have HX := Qaf HBw.out HBF; have HWr := Lib.hid HBF; have HPA := Lib.hid PA; have HPB := Lib.hid PB; obtain ⟨a0, a1, a2⟩ := PA; obtain ⟨q0, q1, q2⟩ := PB; have HW := Below.refl wc.heap.size wc
          have HC1 := fun Y (hY : Below w.heap.size w Y) => below_calls Y g b D T ⟨linkFirst c, y⟩ n x (HF.out.below hY) HXx.out
          unfold encPair at HC1; have HC1 := Lib.hid HC1; clear r0 r1 c8 p2 l1 l2 l3 HBF; cases x
          · obtain rfl : z = false := by have := HZ.out; rw [if_neg (by decide)] at this; exact (Option.some.inj this).symm
            go_wp2_with (go_at_call 56; ((with_reducible refine (HC1.out _ (by repeat (first | exact HX | apply Qaa | apply Qac | apply Qab))).mono ?_); rintro e w5 ⟨rfl, hB5⟩; have HX5 := Qaf (by repeat (first | exact HX | apply Qaa | apply Qac | apply Qab)) hB5; have HW5 := Qaf (by repeat (first | exact HW | apply Qaa | apply Qac | apply Qab)) hB5; obtain ⟨a50, a51, a52⟩ := HPA.out.below HW5; obtain ⟨q50, q51, q52⟩ := HPB.out.below HW5))
            go_roundg (18 - (d + 1))
            case measure => have := HKq.out; have := HD2.out; omega
            case rel => exact ⟨d + 1, by first | rfl | exact congrArg _ wrapI, Lib.hid rfl, Lib.hid (by omega), Lib.hid HD2.out, Lib.hid (HNx.out (by first | rfl | trivial)), Lib.hid (Qae HBR.out (Qaf HWr.out HW5)), Lib.hid (Qae HBC.out (Qaf HWr.out HW5)), Lib.hid (Qae HBP.out (Qaf HWr.out HW5)), Lib.hid HX5⟩
          · have hz := HZ.out
            rw [if_pos rfl] at hz
            have HC2 := fun Y (hY : Below w.heap.size w Y) => below_calls Y g b D T ⟨⟨y, c.f5.f1⟩, p.f1⟩ n z (HF.out.below hY) hz
            unfold encPair at HC2; have HC2 := Lib.hid HC2; clear hz; cases z
            · go_wp2_with (go_at_call 56; first | ((with_reducible refine (HC1.out _ (by repeat (first | exact HX | apply Qaa | apply Qac | apply Qab))).mono ?_); rintro e w5 ⟨rfl, hB5⟩; have HX5 := Qaf (by repeat (first | exact HX | apply Qaa | apply Qac | apply Qab)) hB5; have HW5 := Qaf (by repeat (first | exact HW | apply Qaa | apply Qac | apply Qab)) hB5; obtain ⟨a50, a51, a52⟩ := HPA.out.below HW5; obtain ⟨q50, q51, q52⟩ := HPB.out.below HW5) | ((with_reducible refine (HC2.out _ (by repeat (first | exact HX5 | apply Qaa | apply Qac | apply Qab))).mono ?_); rintro e w6 ⟨rfl, hB6⟩; have HX6 := Qaf (by repeat (first | exact HX5 | apply Qaa | apply Qac | apply Qab)) hB6; have HW6 := Qaf (by repeat (first | exact HW5 | apply Qaa | apply Qac | apply Qab)) hB6; obtain ⟨a60, a61, a62⟩ := HPA.out.below HW6; obtain ⟨q60, q61, q62⟩ := HPB.out.below HW6))
              go_roundg (18 - (d + 1))
              case measure => have := HKq.out; have := HD2.out; omega
              case rel => exact ⟨d + 1, by first | rfl | exact congrArg _ wrapI, Lib.hid rfl, Lib.hid (by omega), Lib.hid HD2.out, Lib.hid (HNx.out (by first | rfl | trivial)), Lib.hid (Qae HBR.out (Qaf HWr.out HW6)), Lib.hid (Qae HBC.out (Qaf HWr.out HW6)), Lib.hid (Qae HBP.out (Qaf HWr.out HW6)), Lib.hid HX6⟩
            · have hL := HLL.out
              rw [if_pos rfl] at hL; obtain rfl := Option.some.inj hL; clear hL HLL HNx
              go_wp2_with (go_at_call 56; first | ((with_reducible refine (HC1.out _ (by repeat (first | exact HX | apply Qaa | apply Qac | apply Qab))).mono ?_); rintro e w5 ⟨rfl, hB5⟩; have HX5 := Qaf (by repeat (first | exact HX | apply Qaa | apply Qac | apply Qab)) hB5; have HW5 := Qaf (by repeat (first | exact HW | apply Qaa | apply Qac | apply Qab)) hB5; obtain ⟨a50, a51, a52⟩ := HPA.out.below HW5; obtain ⟨q50, q51, q52⟩ := HPB.out.below HW5) | ((with_reducible refine (HC2.out _ (by repeat (first | exact HX5 | apply Qaa | apply Qac | apply Qab))).mono ?_); rintro e w6 ⟨rfl, hB6⟩; have HX6 := Qaf (by repeat (first | exact HX5 | apply Qaa | apply Qac | apply Qab)) hB6; have HW6 := Qaf (by repeat (first | exact HW5 | apply Qaa | apply Qac | apply Qab)) hB6; obtain ⟨a60, a61, a62⟩ := HPA.out.below HW6; obtain ⟨q60, q61, q62⟩ := HPB.out.below HW6))
              go_ret2
              exact ⟨.slice (some ⟨w6.heap.size, 0, none⟩) 2 2, rfl, R_two w6 w.heap.size HX6.size _ _, Qab HX6 _⟩
      · have d1 : decide ((d : Int) ≤ 16) = false := decide_eq_false (by omega)
        have d2 : decide (d ≤ 16) = false := decide_eq_false (by omega); have hL := HL.out; rw [show 17 - d = 0 by omega, finLinkL] at hL; obtain rfl := Option.some.inj hL; clear hL HL hd; go_wp2
        go_ret2
        exact ⟨_, rfl, Kd.R_nil _ _ _ _ _, HBw.out⟩
end Go.Proofs.YtbjjgaahdnfflaaDoor.Pr
end
section
namespace Go.Proofs.YtbjjgaahdnfflaaDoor.Pr
open Go.RowKit Go.Proofs.YtbjjgaahdnfflaaDoorW.PrintWords Go.Proofs.YtbjjgaahdnfflaaDoorW.PrintLast Go.Proofs.YtbjjgaahdnfflaaDoorW.PrintMore
set_option linter.unusedVariables false
set_option linter.unusedSimpArgs false
attribute [local go_sem high] eqA24
def zCred : Cred := ⟨⟨0, 0⟩, ⟨#[]⟩, 0, ⟨#[]⟩, ⟨⟨#[]⟩, ⟨#[]⟩⟩, ⟨⟨#[]⟩, ⟨#[]⟩⟩⟩
theorem results_cell3 {P : Program} {fn : Func} {p u v : Tmp} {ty : TypeId} (h : fn.results = #[.cell p ty, .tmp u, .tmp v]) (tmps : Array Value) (w : World) (g : Nat) (t : TypeId) (cs : Array Value) (fr : Nat × Nat) (d : TypeDesc)
    (hp : tmps.getD p undef = .pointer (some ⟨g, 0, none⟩)) (hg : w.heap[g]? = some (.cells cs t fr))
    (hu : P.underlying ty = some d) (hd : (match d with | .struct _ | .array _ _ => true | _ => false) = true) (hi : (P.info? ty).map (·.size) = some cs.size) :
    (results fn tmps).run P w = .ok (.tuple #[.agg cs, tmps.getD u undef, tmps.getD v undef]) w := by
  have hp' : tmps[p]?.getD undef = .pointer (some ⟨g, 0, none⟩) := by simpa using hp
  simp [results, h, hp', asAddr, run_loadVar_row w g t ty cs fr d hg hu hd hi]
abbrev credStore (W : World) (k : Nat) (x : Cred) : World := ((((((((W.setCell ⟨k, 0, none⟩ (.int .i64 x.f0.f0)).setCell ⟨k, 1, none⟩ (.int .i64 x.f0.f1)).setCell ⟨k, 2, none⟩ (.string x.f1)).setCell ⟨k, 3, none⟩ (.int .i64 x.f2)).setCell ⟨k, 4, none⟩ (.string x.f3)).setCell ⟨k, 5, none⟩ (.string x.f4.f0)).setCell ⟨k, 6, none⟩ (.string x.f4.f1)).setCell ⟨k, 7, none⟩ (.string x.f5.f0)).setCell ⟨k, 8, none⟩ (.string x.f5.f1)
theorem credStore_blk {W : World} {k : Nat} {z : Cred} (h : W.heap[k]? = some (credObj z)) (x : Cred) : (credStore W k x).heap[k]? = some (credObj x) := by
  unfold credStore; have h0 := blk_put (cs' := #[.int .i64 x.f0.f0, .int .i64 z.f0.f1, .string z.f1, .int .i64 z.f2, .string z.f3, .string z.f4.f0, .string z.f4.f1, .string z.f5.f0, .string z.f5.f1]) h 0 (.int .i64 x.f0.f0) (by simp); have h1 := blk_put (cs' := #[.int .i64 x.f0.f0, .int .i64 x.f0.f1, .string z.f1, .int .i64 z.f2, .string z.f3, .string z.f4.f0, .string z.f4.f1, .string z.f5.f0, .string z.f5.f1]) h0 1 (.int .i64 x.f0.f1) (by simp); have h2 := blk_put (cs' := #[.int .i64 x.f0.f0, .int .i64 x.f0.f1, .string x.f1, .int .i64 z.f2, .string z.f3, .string z.f4.f0, .string z.f4.f1, .string z.f5.f0, .string z.f5.f1]) h1 2 (.string x.f1) (by simp); have h3 := blk_put (cs' := #[.int .i64 x.f0.f0, .int .i64 x.f0.f1, .string x.f1, .int .i64 x.f2, .string z.f3, .string z.f4.f0, .string z.f4.f1, .string z.f5.f0, .string z.f5.f1]) h2 3 (.int .i64 x.f2) (by simp); have h4 := blk_put (cs' := #[.int .i64 x.f0.f0, .int .i64 x.f0.f1, .string x.f1, .int .i64 x.f2, .string x.f3, .string z.f4.f0, .string z.f4.f1, .string z.f5.f0, .string z.f5.f1]) h3 4 (.string x.f3) (by simp); have h5 := blk_put (cs' := #[.int .i64 x.f0.f0, .int .i64 x.f0.f1, .string x.f1, .int .i64 x.f2, .string x.f3, .string x.f4.f0, .string z.f4.f1, .string z.f5.f0, .string z.f5.f1]) h4 5 (.string x.f4.f0) (by simp); have h6 := blk_put (cs' := #[.int .i64 x.f0.f0, .int .i64 x.f0.f1, .string x.f1, .int .i64 x.f2, .string x.f3, .string x.f4.f0, .string x.f4.f1, .string z.f5.f0, .string z.f5.f1]) h5 6 (.string x.f4.f1) (by simp)
  have h7 := blk_put (cs' := #[.int .i64 x.f0.f0, .int .i64 x.f0.f1, .string x.f1, .int .i64 x.f2, .string x.f3, .string x.f4.f0, .string x.f4.f1, .string x.f5.f0, .string z.f5.f1]) h6 7 (.string x.f5.f0) (by simp); have h8 := blk_put (cs' := #[.int .i64 x.f0.f0, .int .i64 x.f0.f1, .string x.f1, .int .i64 x.f2, .string x.f3, .string x.f4.f0, .string x.f4.f1, .string x.f5.f0, .string x.f5.f1]) h7 8 (.string x.f5.f1) (by simp); exact h8
theorem credStore_other {W : World} {k i : Nat} (x : Cred) (h : i ≠ k) : (credStore W k x).heap[i]? = W.heap[i]? := by
  unfold credStore
  iterate 9 rw [Below.heap_setCell _ _ _ i h]
theorem credStore_below {w W : World} {B k : Nat} (h : Below B w W) (hk : B ≤ k) (x : Cred) : Below B w (credStore W k x) := by
  unfold credStore
  iterate 9 refine Below.setCell ?_ hk _
  exact h
theorem R_credStore {α : Type} {d : Kd α} {e base k : Nat} {ok : Nat → Prop} {W : World} {v : Value} {xs : List α} (h : Kd.R d e W base ok v xs) (hk : k < base) (x : Cred) : Kd.R d e (credStore W k x) base ok v xs :=
  Kd.R_mono (Kd.R_move (Kd.R_bound h) (fun j hj => credStore_other x (by have := hj.2.1; omega))) (fun _ h => h.1)
def finTry (T : List (Pair × Int)) (c : Cred) (p : Pair) (n : Int) : Option (List Pair × Bool) :=
  if c.f2 = 2 then finInclude T c p n else if c.f2 = 3 then finLink T c p n else if c.f2 = 4 then finBoth T c p n else finMember c p
def finBy (T : List (Pair × Int)) : List Cred → Pair → Int → Option (Option (Cred × List Pair))
  | [], _, _ => some none
  | c :: cs, p, n => if credRole c = p.f0 then (finTry T c p n).bind fun r => if r.2 = true then some (some (c, r.1)) else finBy T cs p n else finBy T cs p n
def byCred (r : Option (Cred × List Pair)) : Cred := match r with | some x => x.1 | none => zCred
def byPairs (r : Option (Cred × List Pair)) : List Pair := match r with | some x => x.2 | none => []
def Byed (w : World) (r : Option (Cred × List Pair)) (e : Ending) (w' : World) : Prop :=
  ∃ v, e = .returned (.tuple #[encCred (byCred r), v, .bool r.isSome]) ∧ Kd.R kPair 50 w' w.heap.size (fun _ => True) v (byPairs r) ∧ Below w.heap.size w w'
set_option maxRecDepth 100000 in
set_option maxHeartbeats 8000000 in
theorem finBy_calls (w : World) (g b : Nat) (D : FinD) (T : List (Pair × Int)) (p : Pair) (n : Int) (r : Option (Cred × List Pair)) (hF : FinAt w g b D T) (hlen : D.creds.length ≤ 1000000) (h : finBy T D.creds p n = some r) :
    Calls Tryd.prog 25 #[.pointer (some ⟨g, 0, none⟩), encPair p, .int .i64 n] w (Byed w r) := by
  unfold encPair; go_enter Tryd.func25, Tryd.ntmps25
  go_upto_region 1 with fail
  change Code.wp _ _ _ _ ((w.alloc (pairObj p)).alloc (credObj zCred))
  generalize hW : (w.alloc (pairObj p)).alloc (credObj zCred) = W
  obtain ⟨HB, BP, BZ, hsz⟩ := boxed2 hW; clear hW; have s0 := (hF.below HB).cells.1
  obtain ⟨A0, hA0⟩ : ∃ A0, A0 = D.A0 := ⟨_, rfl⟩
  obtain ⟨cc, hcc⟩ : ∃ cc, cc = D.c0 := ⟨_, rfl⟩
  obtain ⟨cs, hcs⟩ : ∃ cs, cs = D.creds := ⟨_, rfl⟩
  rw [← hA0, ← hcc, ← hcs] at s0; rw [← hcs] at h hlen; have HCr := Lib.hid (show Kd.C kCred w A0 cs.length cs by rw [hA0, hcs]; exact hF.cr); have HF := Lib.hid hF; have HL := Lib.hid hlen; have HH := Lib.hid h; have HBh := Lib.hid HB; have HBP := Lib.hid BP; have HBZ := Lib.hid BZ; clear hF hlen h HB BP BZ hsz hA0 hcc hcs; go_wp2; clear s0
  go_loopg [19] (cs.length + 1) (fun kq v19 w' => ∃ i : Nat, v19 = .int .i64 i ∧ Hid (kq = cs.length + 1 - i) ∧ Hid (i ≤ cs.length) ∧ Hid (finBy T (cs.drop i) p n = some r) ∧ Hid (w'.heap[w.heap.size]? = some (pairObj p)) ∧ Hid (w'.heap[w.heap.size + 1]? = some (credObj zCred)) ∧ Hid (Below w.heap.size w w'))
  case atStart => exact ⟨0, rfl, Lib.hid rfl, Lib.hid (Nat.zero_le _), HH, HBP, HBZ, HBh⟩
  case round =>
    clear HH HBP HBZ HBh; obtain ⟨i, rfl, HKq, HI, HH, HBP, HBZ, HW⟩ := hrel
    by_cases hi : i < cs.length
    · have d1 : decide ((i : Int) < (cs.length : Int)) = true := decide_eq_true (by omega)
      have d2 : decide (i < cs.length) = true := decide_eq_true hi; obtain ⟨ad, e, hx0, hx1, hx2, hx3, hx4, hx5, hx6, hx7, hx8⟩ := at_T42 (Kd.C_below HCr.out HW.out) (i : Int) (by omega) (by omega); obtain rfl := e
      obtain ⟨x, hx⟩ : ∃ x, x = cs[i] := ⟨_, rfl⟩
      have erd : Qam cs (i : Int) = x := by
        unfold Qam; rw [hx, Int.toNat_natCast, List.getD_eq_getElem?_getD, List.getElem?_eq_getElem hi]; rfl
      rw [erd, Int.toNat_natCast] at hx0 hx1 hx2 hx3 hx4 hx5 hx6 hx7 hx8; have p101 : (0 ≤ (i : Int)) = True := eq_true (by omega); have q101 : ((i : Int) < (cs.length : Int)) = True := eq_true (by omega); have hH := HH.out; rw [List.drop_eq_getElem_cons hi, ← hx, finBy] at hH
      have wrapI : wrap64 ((i : Int) + 1) = ((i + 1 : Nat) : Int) := by unfold wrap64; have := HL.out; omega
      have HIL := Lib.hid hi; clear hx erd hi HH; have HH := Lib.hid hH; clear hH
      go_upto_region 4 with fail
      change Code.wp _ _ _ _ (wr.alloc (credObj x)); have HXa := Qab (Below.refl wr.heap.size wr) (credObj x); have B3 := blk_new wr (credObj x); have WX := Qaf HW.out HXa; have BP := Qae HBP.out HXa; have BZ := Qae HBZ.out HXa
      obtain ⟨kx, hkx⟩ : ∃ kx, kx = wr.heap.size := ⟨_, rfl⟩
      rw [← hkx] at B3 ⊢; clear hx0 hx1 hx2 hx3 hx4 hx5 hx6 hx7 hx8 HXa HW HBP HBZ hkx
      generalize wr.alloc (credObj x) = X at B3 WX BP BZ ⊢
      obtain ⟨kc0, kc1, kc2, kc3, kc4, kc5, kc6, kc7, kc8⟩ := credCells B3; obtain ⟨p0, p1, p2⟩ := pairCells BP; have HBX := Lib.hid B3; have HBP := Lib.hid BP; have HBZ := Lib.hid BZ; have HWX := Lib.hid WX
      have HCR := fun V => credRole_calls x V
      unfold encCred at HCR; have HCR := Lib.hid HCR; have g0 := Qay kc0; have g1 := Qay kc1; have g2 := Qay kc2; have g3 := Qay kc3; have g4 := Qay kc4; have g5 := Qay kc5; have g6 := Qay kc6; have g7 := Qay kc7; have g8 := Qay kc8; have s0 := Qay p0; have s1 := Qay p1; clear B3 WX BP BZ kc0 kc1 kc2 kc3 kc4 kc5 kc6 kc7 kc8 p0 p1 p2
      by_cases e1 : credRole x = p.f0
      · have hH := HH.out
        rw [if_pos e1] at hH; have hb1 := neRole_f e1; clear e1 HH; obtain ⟨rr, hrr, hH⟩ := Option.bind_eq_some_iff.mp hH; have HH := Lib.hid hH; have HRR := Lib.hid hrr; clear hH hrr; refine wp_region_below (by kernel_rfl) (by kernel_rfl) ?_
        repeat (go_big_quiet_step (with_reducible refine bw_call (HCR.out _)))
        refine wpQuiet_nil ?_; rintro _ ⟨u, rfl⟩; replace HWX := Lib.hid (Qaf HWX.out u.ok); replace HBX := Lib.hid (Qae HBX.out u.ok); replace HBP := Lib.hid (Qae HBP.out u.ok); replace HBZ := Lib.hid (Qae HBZ.out u.ok); clear g0 g1 g2 g3 g4 g5 g6 g7 g8 s0 s1
        generalize u.now = Y at HWX HBX HBP HBZ ⊢
        clear u; obtain ⟨kc0, kc1, kc2, kc3, kc4, kc5, kc6, kc7, kc8⟩ := credCells HBX.out; obtain ⟨p0, p1, p2⟩ := pairCells HBP.out
        have key : ∀ f, (∀ V, FinAt V g b D T → Tries f V g x p n rr) → ∀ V, Below w.heap.size w V → Calls Tryd.prog f #[.pointer (some ⟨g, 0, none⟩), .agg #[.int .i64 x.f0.f0, .int .i64 x.f0.f1, .string x.f1, .int .i64 x.f2, .string x.f3, .string x.f4.f0, .string x.f4.f1, .string x.f5.f0, .string x.f5.f1], .agg #[.string p.f0.f0, .string p.f0.f1, .string p.f1], .int .i64 n] V (Tried V rr) := fun f hf V hV => hf V (HF.out.below hV)
        have hrr := HRR.out; unfold finTry at hrr
        by_cases k2 : x.f2 = 2
        · rw [if_pos k2] at hrr
          have HT := Lib.hid (key 37 fun V hV => finInclude_calls V g b D T x p n rr hV hrr); have e2 : (x.f2 == 2) = true := beq_iff_eq.mpr k2; have e3 : (x.f2 == 3) = false := beq_eq_false_iff_ne.mpr (by omega); have e4 : (x.f2 == 4) = false := beq_eq_false_iff_ne.mpr (by omega); clear k2 hrr key; obtain ⟨rl, rb⟩ := rr; cases rb
          · have hH := HH.out
            rw [if_neg (by simp)] at hH; replace HH := Lib.hid hH; clear hH HRR
            go_wp2_with (go_at_call 37; (with_reducible refine (HT.out _ HWX.out).mono ?_); rintro e w5 ⟨v5, rfl, hR5, hB5⟩)
            have HX5 := Lib.hid (Qaf HWX.out hB5); have HP5 := Lib.hid (Qae HBP.out hB5); have HZ5 := Lib.hid (Qae HBZ.out hB5); clear hR5 hB5
            go_roundg (cs.length + 1 - (i + 1))
            case measure => have := HKq.out; have := HIL.out; omega
            case rel => exact ⟨i + 1, by first | rfl | exact congrArg _ wrapI, Lib.hid rfl, Lib.hid HIL.out, HH, HP5, HZ5, HX5⟩
          · have hH := HH.out
            rw [if_pos rfl] at hH; obtain rfl := Option.some.inj hH; clear hH HH HRR
            go_wp2_with (go_at_call 37; (with_reducible refine (HT.out _ HWX.out).mono ?_); rintro e w5 ⟨v5, rfl, hR5, hB5⟩; obtain ⟨kc0, kc1, kc2, kc3, kc4, kc5, kc6, kc7, kc8⟩ := credCells (Qae HBX.out hB5); obtain ⟨z0, z1, z2, z3, z4, z5, z6, z7, z8⟩ := credCells (Qae HBZ.out hB5); have f0 := Qal (Qae HBZ.out hB5) 0; have f1 := Qal (Qae HBZ.out hB5) 1; have f2 := Qal (Qae HBZ.out hB5) 2; have f3 := Qal (Qae HBZ.out hB5) 3; have f4 := Qal (Qae HBZ.out hB5) 4; have f5 := Qal (Qae HBZ.out hB5) 5; have f6 := Qal (Qae HBZ.out hB5) 6; have f7 := Qal (Qae HBZ.out hB5) 7; have f8 := Qal (Qae HBZ.out hB5) 8)
            have HX5 := Qaf HWX.out hB5; have HZ5 := Qae HBZ.out hB5
            have hlt : w.heap.size + 1 < Y.heap.size := by
              have := (Array.getElem?_eq_some_iff.mp HBZ.out).1; exact this
            (try simp only [Exit.inBlock, Exit.then])
            refine bodyPost_ret (results_cell3 rfl _ _ (w.heap.size + 1) 42 #[.int .i64 x.f0.f0, .int .i64 x.f0.f1, .string x.f1, .int .i64 x.f2, .string x.f3, .string x.f4.f0, .string x.f4.f1, .string x.f5.f0, .string x.f5.f1] (0, 0) _ rfl (credStore_blk HZ5 x) Tryd.underlying42 rfl (by kernel_rfl)) rfl ?_; exact ⟨_, rfl, Kd.R_lower (R_credStore hR5 hlt x) HWX.out.size, credStore_below HX5 (by omega) x⟩
        · rw [if_neg k2] at hrr
          have e2 : (x.f2 == 2) = false := beq_eq_false_iff_ne.mpr k2
          by_cases k3 : x.f2 = 3
          · rw [if_pos k3] at hrr
            have HT := Lib.hid (key 38 fun V hV => finLink_calls V g b D T x p n rr hV hrr); have e3 : (x.f2 == 3) = true := beq_iff_eq.mpr k3; have e4 : (x.f2 == 4) = false := beq_eq_false_iff_ne.mpr (by omega); clear k2 k3 hrr key; obtain ⟨rl, rb⟩ := rr; cases rb
            · have hH := HH.out
              rw [if_neg (by simp)] at hH; replace HH := Lib.hid hH; clear hH HRR
              go_wp2_with (go_at_call 38; (with_reducible refine (HT.out _ HWX.out).mono ?_); rintro e w5 ⟨v5, rfl, hR5, hB5⟩)
              have HX5 := Lib.hid (Qaf HWX.out hB5); have HP5 := Lib.hid (Qae HBP.out hB5); have HZ5 := Lib.hid (Qae HBZ.out hB5); clear hR5 hB5
              go_roundg (cs.length + 1 - (i + 1))
              case measure => have := HKq.out; have := HIL.out; omega
              case rel => exact ⟨i + 1, by first | rfl | exact congrArg _ wrapI, Lib.hid rfl, Lib.hid HIL.out, HH, HP5, HZ5, HX5⟩
            · have hH := HH.out
              rw [if_pos rfl] at hH; obtain rfl := Option.some.inj hH; clear hH HH HRR
              go_wp2_with (go_at_call 38; (with_reducible refine (HT.out _ HWX.out).mono ?_); rintro e w5 ⟨v5, rfl, hR5, hB5⟩; obtain ⟨kc0, kc1, kc2, kc3, kc4, kc5, kc6, kc7, kc8⟩ := credCells (Qae HBX.out hB5); obtain ⟨z0, z1, z2, z3, z4, z5, z6, z7, z8⟩ := credCells (Qae HBZ.out hB5); have f0 := Qal (Qae HBZ.out hB5) 0; have f1 := Qal (Qae HBZ.out hB5) 1; have f2 := Qal (Qae HBZ.out hB5) 2; have f3 := Qal (Qae HBZ.out hB5) 3; have f4 := Qal (Qae HBZ.out hB5) 4; have f5 := Qal (Qae HBZ.out hB5) 5; have f6 := Qal (Qae HBZ.out hB5) 6; have f7 := Qal (Qae HBZ.out hB5) 7; have f8 := Qal (Qae HBZ.out hB5) 8)
              have HX5 := Qaf HWX.out hB5; have HZ5 := Qae HBZ.out hB5
              have hlt : w.heap.size + 1 < Y.heap.size := by
                have := (Array.getElem?_eq_some_iff.mp HBZ.out).1; exact this
              (try simp only [Exit.inBlock, Exit.then])
              refine bodyPost_ret (results_cell3 rfl _ _ (w.heap.size + 1) 42 #[.int .i64 x.f0.f0, .int .i64 x.f0.f1, .string x.f1, .int .i64 x.f2, .string x.f3, .string x.f4.f0, .string x.f4.f1, .string x.f5.f0, .string x.f5.f1] (0, 0) _ rfl (credStore_blk HZ5 x) Tryd.underlying42 rfl (by kernel_rfl)) rfl ?_; exact ⟨_, rfl, Kd.R_lower (R_credStore hR5 hlt x) HWX.out.size, credStore_below HX5 (by omega) x⟩
          · rw [if_neg k3] at hrr
            have e3 : (x.f2 == 3) = false := beq_eq_false_iff_ne.mpr k3
            by_cases k4 : x.f2 = 4
            · rw [if_pos k4] at hrr
              have HT := Lib.hid (key 39 fun V hV => finBoth_calls V g b D T x p n rr hV hrr); have e4 : (x.f2 == 4) = true := beq_iff_eq.mpr k4; clear k2 k3 k4 hrr key; obtain ⟨rl, rb⟩ := rr; cases rb
              · have hH := HH.out
                rw [if_neg (by simp)] at hH; replace HH := Lib.hid hH; clear hH HRR
                go_wp2_with (go_at_call 39; (with_reducible refine (HT.out _ HWX.out).mono ?_); rintro e w5 ⟨v5, rfl, hR5, hB5⟩)
                have HX5 := Lib.hid (Qaf HWX.out hB5); have HP5 := Lib.hid (Qae HBP.out hB5); have HZ5 := Lib.hid (Qae HBZ.out hB5); clear hR5 hB5
                go_roundg (cs.length + 1 - (i + 1))
                case measure => have := HKq.out; have := HIL.out; omega
                case rel => exact ⟨i + 1, by first | rfl | exact congrArg _ wrapI, Lib.hid rfl, Lib.hid HIL.out, HH, HP5, HZ5, HX5⟩
              · have hH := HH.out
                rw [if_pos rfl] at hH; obtain rfl := Option.some.inj hH; clear hH HH HRR
                go_wp2_with (go_at_call 39; (with_reducible refine (HT.out _ HWX.out).mono ?_); rintro e w5 ⟨v5, rfl, hR5, hB5⟩; obtain ⟨kc0, kc1, kc2, kc3, kc4, kc5, kc6, kc7, kc8⟩ := credCells (Qae HBX.out hB5); obtain ⟨z0, z1, z2, z3, z4, z5, z6, z7, z8⟩ := credCells (Qae HBZ.out hB5); have f0 := Qal (Qae HBZ.out hB5) 0; have f1 := Qal (Qae HBZ.out hB5) 1; have f2 := Qal (Qae HBZ.out hB5) 2; have f3 := Qal (Qae HBZ.out hB5) 3; have f4 := Qal (Qae HBZ.out hB5) 4; have f5 := Qal (Qae HBZ.out hB5) 5; have f6 := Qal (Qae HBZ.out hB5) 6; have f7 := Qal (Qae HBZ.out hB5) 7; have f8 := Qal (Qae HBZ.out hB5) 8)
                have HX5 := Qaf HWX.out hB5; have HZ5 := Qae HBZ.out hB5
                have hlt : w.heap.size + 1 < Y.heap.size := by
                  have := (Array.getElem?_eq_some_iff.mp HBZ.out).1; exact this
                (try simp only [Exit.inBlock, Exit.then])
                refine bodyPost_ret (results_cell3 rfl _ _ (w.heap.size + 1) 42 #[.int .i64 x.f0.f0, .int .i64 x.f0.f1, .string x.f1, .int .i64 x.f2, .string x.f3, .string x.f4.f0, .string x.f4.f1, .string x.f5.f0, .string x.f5.f1] (0, 0) _ rfl (credStore_blk HZ5 x) Tryd.underlying42 rfl (by kernel_rfl)) rfl ?_; exact ⟨_, rfl, Kd.R_lower (R_credStore hR5 hlt x) HWX.out.size, credStore_below HX5 (by omega) x⟩
            · rw [if_neg k4] at hrr
              have HT := Lib.hid (key 36 fun V hV => member_calls V g x p n rr hrr); have e4 : (x.f2 == 4) = false := beq_eq_false_iff_ne.mpr k4; clear k2 k3 k4 hrr key; obtain ⟨rl, rb⟩ := rr; cases rb
              · have hH := HH.out
                rw [if_neg (by simp)] at hH; replace HH := Lib.hid hH; clear hH HRR
                go_wp2_with (go_at_call 36; (with_reducible refine (HT.out _ HWX.out).mono ?_); rintro e w5 ⟨v5, rfl, hR5, hB5⟩)
                have HX5 := Lib.hid (Qaf HWX.out hB5); have HP5 := Lib.hid (Qae HBP.out hB5); have HZ5 := Lib.hid (Qae HBZ.out hB5); clear hR5 hB5
                go_roundg (cs.length + 1 - (i + 1))
                case measure => have := HKq.out; have := HIL.out; omega
                case rel => exact ⟨i + 1, by first | rfl | exact congrArg _ wrapI, Lib.hid rfl, Lib.hid HIL.out, HH, HP5, HZ5, HX5⟩
              · have hH := HH.out
                rw [if_pos rfl] at hH; obtain rfl := Option.some.inj hH; clear hH HH HRR
                go_wp2_with (go_at_call 36; (with_reducible refine (HT.out _ HWX.out).mono ?_); rintro e w5 ⟨v5, rfl, hR5, hB5⟩; obtain ⟨kc0, kc1, kc2, kc3, kc4, kc5, kc6, kc7, kc8⟩ := credCells (Qae HBX.out hB5); obtain ⟨z0, z1, z2, z3, z4, z5, z6, z7, z8⟩ := credCells (Qae HBZ.out hB5); have f0 := Qal (Qae HBZ.out hB5) 0; have f1 := Qal (Qae HBZ.out hB5) 1; have f2 := Qal (Qae HBZ.out hB5) 2; have f3 := Qal (Qae HBZ.out hB5) 3; have f4 := Qal (Qae HBZ.out hB5) 4; have f5 := Qal (Qae HBZ.out hB5) 5; have f6 := Qal (Qae HBZ.out hB5) 6; have f7 := Qal (Qae HBZ.out hB5) 7; have f8 := Qal (Qae HBZ.out hB5) 8)
                have HX5 := Qaf HWX.out hB5; have HZ5 := Qae HBZ.out hB5
                have hlt : w.heap.size + 1 < Y.heap.size := by
                  have := (Array.getElem?_eq_some_iff.mp HBZ.out).1; exact this
                (try simp only [Exit.inBlock, Exit.then])
                refine bodyPost_ret (results_cell3 rfl _ _ (w.heap.size + 1) 42 #[.int .i64 x.f0.f0, .int .i64 x.f0.f1, .string x.f1, .int .i64 x.f2, .string x.f3, .string x.f4.f0, .string x.f4.f1, .string x.f5.f0, .string x.f5.f1] (0, 0) _ rfl (credStore_blk HZ5 x) Tryd.underlying42 rfl (by kernel_rfl)) rfl ?_; exact ⟨_, rfl, Kd.R_lower (R_credStore hR5 hlt x) HWX.out.size, credStore_below HX5 (by omega) x⟩
      · have hH := HH.out
        rw [if_neg e1] at hH; have hb1 := neRole_t e1; clear e1 HH; have HH := Lib.hid hH; clear hH; refine wp_region_below (by kernel_rfl) (by kernel_rfl) ?_
        repeat (go_big_quiet_step (with_reducible refine bw_call (HCR.out _)))
        refine wpQuiet_nil ?_; rintro _ ⟨u, rfl⟩; replace HWX := Lib.hid (Qaf HWX.out u.ok); replace HBX := Lib.hid (Qae HBX.out u.ok); replace HBP := Lib.hid (Qae HBP.out u.ok); replace HBZ := Lib.hid (Qae HBZ.out u.ok); clear g0 g1 g2 g3 g4 g5 g6 g7 g8 s0 s1
        generalize u.now = Y at HWX HBX HBP HBZ ⊢
        clear u; go_wp2
        go_roundg (cs.length + 1 - (i + 1))
        case measure => have := HKq.out; have := HIL.out; omega
        case rel => exact ⟨i + 1, by first | rfl | exact congrArg _ wrapI, Lib.hid rfl, Lib.hid HIL.out, HH, HBP, HBZ, HWX⟩
    · have d1 : decide ((i : Int) < (cs.length : Int)) = false := decide_eq_false (by omega)
      have d2 : decide (i < cs.length) = false := decide_eq_false hi; have hH := HH.out; rw [List.drop_eq_nil_of_le (by omega), finBy] at hH; obtain rfl := Option.some.inj hH; clear hH HH hi; obtain ⟨z0, z1, z2, z3, z4, z5, z6, z7, z8⟩ := credCells HBZ.out; have f0 := Qal HBZ.out 0; have f1 := Qal HBZ.out 1; have f2 := Qal HBZ.out 2; have f3 := Qal HBZ.out 3; have f4 := Qal HBZ.out 4; have f5 := Qal HBZ.out 5; have f6 := Qal HBZ.out 6; have f7 := Qal HBZ.out 7; have f8 := Qal HBZ.out 8; go_wp2
      (try simp only [Exit.inBlock, Exit.then])
      refine bodyPost_ret (results_cell3 rfl _ _ (w.heap.size + 1) 42 #[.int .i64 0, .int .i64 0, .string ⟨#[]⟩, .int .i64 0, .string ⟨#[]⟩, .string ⟨#[]⟩, .string ⟨#[]⟩, .string ⟨#[]⟩, .string ⟨#[]⟩] (0, 0) _ rfl (credStore_blk HBZ.out zCred) Tryd.underlying42 rfl (by kernel_rfl)) rfl ?_; exact ⟨_, rfl, Kd.R_nil _ _ _ _ _, credStore_below HW.out (by omega) zCred⟩
end Go.Proofs.YtbjjgaahdnfflaaDoor.Pr
end
section
namespace Go.Proofs.YtbjjgaahdnfflaaDoor.Pr
open Go.RowKit Go.Proofs.YtbjjgaahdnfflaaDoorW.PrintWords Go.Proofs.YtbjjgaahdnfflaaDoorW.PrintLast Go.Proofs.YtbjjgaahdnfflaaDoorW.PrintMore
set_option linter.unusedVariables false
set_option linter.unusedSimpArgs false
def finFresh (T : List (Pair × Int)) (creds : List Cred) (n : Int) : List Pair → List Pair → Option (List Pair)
  | [], out => some out
  | p :: ps, out => if okPair p then (if 0 < rnd T p then finFresh T creds n ps out else (finBy T creds p n).bind fun r => if r.isSome = true then finFresh T creds n ps (out ++ [p]) else finFresh T creds n ps out) else none
set_option maxRecDepth 100000 in
set_option maxHeartbeats 8000000 in
theorem finFresh_calls (w : World) (g b : Nat) (D : FinD) (T : List (Pair × Int)) (n : Int) (out : List Pair) (hF : FinAt w g b D T) (hlen : D.creds.length ≤ 1000000) (hlp : D.pairs.length ≤ 1000000) (h : finFresh T D.creds n D.pairs [] = some out) :
    Calls Tryd.prog 24 #[.pointer (some ⟨g, 0, none⟩), .int .i64 n] w fun e w' => ∃ v, e = .returned v ∧ Kd.R kPair 50 w' w.heap.size (fun _ => True) v out ∧ Below w.heap.size w w' := by
  have s1 := hF.cells.2.1
  obtain ⟨A1, hA1⟩ : ∃ A1, A1 = D.A1 := ⟨_, rfl⟩
  obtain ⟨cc, hcc⟩ : ∃ cc, cc = D.c1 := ⟨_, rfl⟩
  obtain ⟨ps, hps⟩ : ∃ ps, ps = D.pairs := ⟨_, rfl⟩
  rw [← hA1, ← hcc, ← hps] at s1; rw [← hps] at h hlp; have HPr := Lib.hid (show Kd.C kPair w A1 ps.length ps by rw [hA1, hps]; exact hF.pr); have HF := Lib.hid hF; have HL := Lib.hid hlp; have HLc := Lib.hid hlen; have HH := Lib.hid h; clear hF hlen hlp h hA1 hcc hps; go_enter Tryd.func24, Tryd.ntmps24; go_wp2; clear s1
  go_loopg [5, 16] (ps.length + 1) (fun kq v5 v16 w' => ∃ (i : Nat) (acc : List Pair), v16 = .int .i64 i ∧ Hid (kq = ps.length + 1 - i) ∧ Hid (i ≤ ps.length) ∧ Hid (acc.length ≤ i) ∧ Hid (finFresh T D.creds n (ps.drop i) acc = some out) ∧ Hid (Kd.R kPair 50 w' w.heap.size (fun _ => True) v5 acc) ∧ Hid (Below w.heap.size w w'))
  case atStart => exact ⟨0, [], rfl, Lib.hid rfl, Lib.hid (Nat.zero_le _), Lib.hid (Nat.le_refl _), HH, Lib.hid (Kd.R_nil _ _ _ _ _), Lib.hid (Below.refl _ _)⟩
  case round =>
    clear HH; obtain ⟨i, acc, rfl, HKq, HI, HA, HH, HR, HW⟩ := hrel
    by_cases hi : i < ps.length
    · have d1 : decide ((i : Int) < (ps.length : Int)) = true := decide_eq_true (by omega)
      have d2 : decide (i < ps.length) = true := decide_eq_true hi; obtain ⟨ad, e, hx0, hx1, hx2⟩ := at_T50 (Kd.C_below HPr.out HW.out) (i : Int) (by omega) (by omega); obtain rfl := e
      obtain ⟨x, hx⟩ : ∃ x, x = ps[i] := ⟨_, rfl⟩
      have erd : rd_T50 ps (i : Int) = x := by
        unfold rd_T50; rw [hx, Int.toNat_natCast, List.getD_eq_getElem?_getD, List.getElem?_eq_getElem hi]; rfl
      rw [erd, Int.toNat_natCast] at hx0 hx1 hx2; have p101 : (0 ≤ (i : Int)) = True := eq_true (by omega); have q101 : ((i : Int) < (ps.length : Int)) = True := eq_true (by omega); have hH := HH.out; rw [List.drop_eq_getElem_cons hi, ← hx, finFresh] at hH
      by_cases hok : okPair x
      · rw [if_pos hok] at hH
        have wrapI : wrap64 ((i : Int) + 1) = ((i + 1 : Nat) : Int) := by unfold wrap64; have := HL.out; omega
        have HIL := Lib.hid hi; clear hx erd hi HH; have HH := Lib.hid hH; clear hH
        go_upto_region 5 with fail
        change Code.wp _ _ _ _ (wr.alloc (pairObj x)); have HXa := Qab (Below.refl wr.heap.size wr) (pairObj x); have B3 := blk_new wr (pairObj x); have WX := Qaf HW.out HXa; have RX := Kd.R_below HR.out HXa
        obtain ⟨kx, hkx⟩ : ∃ kx, kx = wr.heap.size := ⟨_, rfl⟩
        rw [← hkx] at B3 ⊢; clear hx0 hx1 hx2 HXa HW HR hkx
        generalize wr.alloc (pairObj x) = X at B3 WX RX ⊢
        have L := fun m => HF.out.look WX hok m
        have s2 := (HF.out.below WX).cells.2.2; obtain ⟨x0, x1, x2⟩ := pairCells B3; have HB3 := Lib.hid B3; have HWX := Lib.hid WX; have HRX := Lib.hid RX; have hH := HH.out
        generalize hk : rnd T x = k at L hH
        clear hk B3 WX RX HH
        by_cases e1 : 0 < k
        · rw [if_pos e1] at hH
          have HH := Lib.hid hH; have d3 : decide (0 < k) = true := decide_eq_true e1; clear hH e1
          go_quiet (fail)
          all_goals
            go_wp2_with fail
            go_roundg (ps.length + 1 - (i + 1))
            case measure => have := HKq.out; have := HIL.out; omega
            case rel => exact ⟨i + 1, acc, by first | rfl | exact congrArg _ wrapI, Lib.hid rfl, Lib.hid HIL.out, Lib.hid (Nat.le_succ_of_le HA.out), HH, Lib.hid (by repeat (first | exact HRX.out | refine Kd.R_drewN ?_ _ | refine Kd.R_drew ?_)), Lib.hid (by repeat (first | exact HWX.out | apply Qaa | apply Qac))⟩
        · rw [if_neg e1] at hH
          obtain ⟨rr, hrr, hH⟩ := Option.bind_eq_some_iff.mp hH; have HH := Lib.hid hH; have d3 : decide (0 < k) = false := decide_eq_false e1
          have HC := fun V (hV : Below w.heap.size w V) => finBy_calls V g b D T x n rr (HF.out.below hV) HLc.out hrr
          unfold encPair at HC; have HC := Lib.hid HC; clear hH e1 hrr
          go_quiet (fail)
          all_goals
            go_upto_region 7 with (go_at_call 25; (with_reducible refine (HC.out _ (by repeat (first | exact HWX.out | apply Qaa | apply Qac))).mono ?_); rintro e w5 ⟨v5, rfl, hR5, hB5⟩; have HX5 := Qaf (by repeat (first | exact HWX.out | apply Qaa | apply Qac)) hB5; have HB5 := Qae (by repeat (first | exact HB3.out | refine Qah ?_ _ | refine Qak ?_)) hB5; have HR5 := Kd.R_below (by repeat (first | exact HRX.out | refine Kd.R_drewN ?_ _ | refine Kd.R_drew ?_)) hB5; unfold encCred)
            change Code.wp _ _ _ _ (w5.alloc (credObj (byCred rr))); have HWZ := Lib.hid (Qab HX5 (credObj (byCred rr))); have BZ := Qag HB5 (credObj (byCred rr)); have HRZ := Lib.hid (Kd.R_alloc HR5 (credObj (byCred rr))); clear HX5 HB5 HR5 hR5 hB5
            generalize w5.alloc (credObj (byCred rr)) = Z at HWZ BZ HRZ ⊢
            obtain ⟨x0, x1, x2⟩ := pairCells BZ; clear BZ
            generalize hb : rr.isSome = bb at *
            clear hb; cases bb
            · have hH := HH.out
              rw [if_neg (by decide)] at hH; have HH := Lib.hid hH; clear hH; go_wp2
              go_roundg (ps.length + 1 - (i + 1))
              case measure => have := HKq.out; have := HIL.out; omega
              case rel => exact ⟨i + 1, acc, by first | rfl | exact congrArg _ wrapI, Lib.hid rfl, Lib.hid HIL.out, Lib.hid (Nat.le_succ_of_le HA.out), HH, HRZ, HWZ⟩
            · have hH := HH.out
              rw [if_pos rfl] at hH; have HH := Lib.hid hH; clear hH
              go_wp2_with ((with_reducible refine gate_builtin (b := .append) (xs := #[.tmp 36, .tmp 38]) rfl ?_); at_builtin; refine Kd.R_append kPair (w0 := w) w.heap.size rfl (.tmp 36) (.tmp 38) 51 50 (.agg #[.string ⟨#[]⟩, .string ⟨#[]⟩, .string ⟨#[]⟩]) 48 rfl Tryd.underlying51 infoPair rfl (by decide) (by omega) _ acc x [.string x.f0.f0, .string x.f0.f1, .string x.f1] (fun _ => True) (fun _ => False) rfl rfl ?aP (fun _ hk => hk.elim) (fun _ _ => trivial) ?aO ?aB ?aS ?aL ?_; (case aP => exact k50_mkM _ _ _ x); (case aB => exact HWZ.out); (case aO => exact HRZ.out); (case aS => exact Qav HWZ.out); (case aL => have := HA.out; have := HIL.out; have := HL.out; omega); intro v2 w2 ho hb hg hat)
              have HO := Lib.hid ho; have HBo := Lib.hid hb
              clear ho hb hg hat
              go_roundg (ps.length + 1 - (i + 1))
              case measure => have := HKq.out; have := HIL.out; omega
              case rel => exact ⟨i + 1, acc ++ [x], by first | rfl | exact congrArg _ wrapI, Lib.hid rfl, Lib.hid HIL.out, Lib.hid (by have := HA.out; simp; omega), HH, HO, HBo⟩
      · rw [if_neg hok] at hH
        cases hH
    · have d1 : decide ((i : Int) < (ps.length : Int)) = false := decide_eq_false (by omega)
      have d2 : decide (i < ps.length) = false := decide_eq_false hi; have hH := HH.out; rw [List.drop_eq_nil_of_le (by omega), finFresh] at hH; obtain rfl := Option.some.inj hH; clear hH HH hi; go_wp2; go_ret; exact ⟨_, rfl, HR.out, HW.out⟩
end Go.Proofs.YtbjjgaahdnfflaaDoor.Pr
end
section
namespace Go.Proofs.YtbjjgaahdnfflaaDoor.Pr
open Go.RowKit Go.Proofs.YtbjjgaahdnfflaaDoorW.PrintWords Go.Proofs.YtbjjgaahdnfflaaDoorW.PrintLast Go.Proofs.YtbjjgaahdnfflaaDoorW.PrintMore
open Go.ChangeMaps (setBlock)
set_option linter.unusedVariables false
theorem map_turned {W Y : World} {b B : Nat} {O : Obj} (hb : b < W.heap.size) (hY : Y = setBlock W b O) (hB : B ≤ b) : Y.heap.size = W.heap.size ∧ (∀ i, i ≠ b → Y.heap[i]? = W.heap[i]?) ∧ Below B W Y := by
  have hother : ∀ i, i ≠ b → Y.heap[i]? = W.heap[i]? := fun i hi => by rw [hY]; simp [setBlock, Ne.symm hi]
  have hsz : Y.heap.size = W.heap.size := by rw [hY]; show (W.heap.setIfInBounds b O).size = _; simp
  exact ⟨hsz, hother, by rw [hY]; exact ⟨rfl, rfl, rfl, by show W.heap.size ≤ (W.heap.setIfInBounds b O).size; simp, fun i hi => by have := hother i (by omega); rw [hY] at this; exact this⟩⟩
theorem R_turned {α : Type} {d : Kd α} {e : Nat} {W Y : World} {b B : Nat} {v : Value} {xs : List α} {κ : Type} {enc : κ → Value} {ok : κ → Prop} {l : List (κ × Value)} (hR : Kd.R d e W B (fun _ => True) v xs) (hT : Tbl enc ok W b l) (hY : ∀ i, i ≠ b → Y.heap[i]? = W.heap[i]?) : Kd.R d e Y B (fun _ => True) v xs :=
  Kd.R_mono (Kd.R_move (Kd.R_bound hR) (fun k hk => hY k (fun e => by
    obtain ⟨_, _, _, q, _, cells, hc⟩ := hk; obtain ⟨es, clock, hb, _⟩ := hT; rw [e, hb] at hc
    cases hc))) (fun _ hk => hk.1)
end Go.Proofs.YtbjjgaahdnfflaaDoor.Pr
end
section
namespace Go.Proofs.YtbjjgaahdnfflaaDoor.Pr
open Go.RowKit Go.Proofs.YtbjjgaahdnfflaaDoorW.PrintWords Go.Proofs.YtbjjgaahdnfflaaDoorW.PrintLast Go.Proofs.YtbjjgaahdnfflaaDoorW.PrintMore
open Go.ChangeMaps (setBlock)
set_option linter.unusedVariables false
set_option linter.unusedSimpArgs false
def rput (T : List (Pair × Int)) (p : Pair) (n : Int) : List (Pair × Int) := if T.any (fun y => decide (y.1 = p)) then T.map (fun y => if y.1 = p then (p, n) else y) else T ++ [(p, n)]
theorem rndT_put (T : List (Pair × Int)) (p : Pair) (n : Int) : tput (rndT T) p (.int .i64 n) = rndT (rput T p n) := by
  unfold tput rput rndT; rw [List.any_map]
  by_cases h : (T.any fun y => decide (y.1 = p)) = true
  · have h' : (T.any ((fun y : Pair × Value => decide (y.1 = p)) ∘ fun x : Pair × Int => (x.1, Value.int .i64 x.2))) = true := h
    rw [if_pos h, if_pos h', List.map_map, List.map_map]
    apply List.map_congr_left
    intro y _
    by_cases e : y.1 = p
    · simp [e]
    · simp [e]
  · have h' : ¬ (T.any ((fun y : Pair × Value => decide (y.1 = p)) ∘ fun x : Pair × Int => (x.1, Value.int .i64 x.2))) = true := h
    rw [if_neg h, if_neg h']; simp
theorem rput_length (T : List (Pair × Int)) (p : Pair) (n : Int) : (rput T p n).length ≤ T.length + 1 := by
  unfold rput
  split <;> simp
def rputs (T : List (Pair × Int)) (fr : List Pair) (n : Int) : List (Pair × Int) := fr.foldl (fun T p => rput T p n) T
theorem rputs_length : ∀ (fr : List Pair) (T : List (Pair × Int)) (n : Int), (rputs T fr n).length ≤ T.length + fr.length
  | [], T, n => Nat.le_refl _
  | p :: fr, T, n => by
    have h1 := rputs_length fr (rput T p n) n; have h2 := rput_length T p n
    show (rputs (rput T p n) fr n).length ≤ _
    simp only [List.length_cons]; omega
theorem rputs_snoc {T : List (Pair × Int)} {fr : List Pair} {n : Int} {i : Nat} (h : i < fr.length) : rputs T (fr.take (i + 1)) n = rput (rputs T (fr.take i) n) fr[i] n := by
  rw [List.take_add_one, List.getElem?_eq_getElem h]; unfold rputs; rw [List.foldl_append]; rfl
theorem finFresh_le (T : List (Pair × Int)) (creds : List Cred) (n : Int) : ∀ (ps out r : List Pair), finFresh T creds n ps out = some r → r.length ≤ out.length + ps.length ∧ ((∀ p ∈ out, okPair p) → ∀ p ∈ r, okPair p)
  | [], out, r, h => by
    rw [finFresh] at h; obtain rfl := Option.some.inj h; exact ⟨by simp, fun h => h⟩
  | p :: ps, out, r, h => by
    rw [finFresh] at h
    by_cases hp : okPair p
    · rw [if_pos hp] at h
      by_cases hk : 0 < rnd T p
      · rw [if_pos hk] at h
        have := finFresh_le T creds n ps out r h; exact ⟨by simp; omega, this.2⟩
      · rw [if_neg hk] at h
        obtain ⟨x, hx, h⟩ := Option.bind_eq_some_iff.mp h
        by_cases hs : x.isSome = true
        · rw [if_pos hs] at h
          have := finFresh_le T creds n ps (out ++ [p]) r h; refine ⟨by have := this.1; simp at *; omega, fun ho => this.2 fun q hq => ?_⟩
          rcases List.mem_append.mp hq with hq | hq
          · exact ho q hq
          · rw [List.mem_singleton] at hq
            rw [hq]; exact hp
        · rw [if_neg hs] at h
          have := finFresh_le T creds n ps out r h; exact ⟨by simp; omega, this.2⟩
    · rw [if_neg hp] at h
      cases h
def finRounds (creds : List Cred) (ps : List Pair) : Nat → List (Pair × Int) → Int → Option (List (Pair × Int))
  | 0, _, _ => none
  | k + 1, T, n => if T.length < ps.length then (finFresh T creds n ps []).bind fun fr => finRounds creds ps k (rputs T fr n) (n + 1) else some T
structure FinR (w : World) (B g b : Nat) (D : FinD) (T : List (Pair × Int)) : Prop where
  blk : w.heap[g]? = some (finObj D.A0 D.creds.length D.c0 D.A1 D.pairs.length D.c1 b)
  cr : Kd.R kCred 42 w B (fun _ => True) (.slice D.A0 D.creds.length D.c0) D.creds
  pr : Kd.R kPair 50 w B (fun _ => True) (.slice D.A1 D.pairs.length D.c1) D.pairs
  tbl : Tbl encPair okPair w b (rndT T)
  ne : g ≠ b
theorem FinR.at {w : World} {B g b : Nat} {D : FinD} {T : List (Pair × Int)} (h : FinR w B g b D T) : FinAt w g b D T :=
  ⟨h.blk, (Kd.R_reads' h.cr).2.2, (Kd.R_reads' h.cr).2.1, (Kd.R_reads' h.pr).2.2, (Kd.R_reads' h.pr).2.1, h.tbl⟩
theorem FinR.below {w W : World} {B g b : Nat} {D : FinD} {T : List (Pair × Int)} (h : FinR w B g b D T) (hb : Below w.heap.size w W) : FinR W B g b D T :=
  ⟨Qae h.blk hb, Kd.R_below h.cr hb, Kd.R_below h.pr hb, h.tbl.below hb, h.ne⟩
theorem FinR.turned {w Y : World} {B g b : Nat} {D : FinD} {T T' : List (Pair × Int)} (h : FinR w B g b D T) (hY : ∀ i, i ≠ b → Y.heap[i]? = w.heap[i]?) (hT : Tbl encPair okPair Y b (rndT T')) : FinR Y B g b D T' :=
  ⟨(hY g h.ne).trans h.blk, R_turned h.cr h.tbl hY, R_turned h.pr h.tbl hY, hT, h.ne⟩
theorem fin_made {w w3 w5 : World} {A0 : Option Addr} {c0 : Nat} {cs : List Cred} {A1 : Option Addr} {c1 : Nat} {ps : List Pair} (h0 : Kd.R kCred 42 w3 w.heap.size (fun _ => True) (.slice A0 cs.length c0) cs) (hB3 : Below w.heap.size w w3)
    (h1 : Kd.R kPair 50 w5 w.heap.size (fun _ => True) (.slice A1 ps.length c1) ps) (hB5 : Below w3.heap.size w3 w5) :
    FinR ((w5.alloc (.map #[] 0)).alloc (finObj A0 cs.length c0 A1 ps.length c1 w5.heap.size)) w.heap.size (w5.heap.size + 1) w5.heap.size ⟨A0, c0, cs, A1, c1, ps⟩ [] := by
  have h2 := Qab (Qab (Below.refl w5.heap.size w5) (.map #[] 0)) (finObj A0 cs.length c0 A1 ps.length c1 w5.heap.size); refine ⟨?_, Kd.R_below (Kd.R_below h0 hB5) h2, Kd.R_below h1 h2, (Tbl.made encPair okPair w5).below (Qab (Below.refl _ _) _), by omega⟩; have := blk_new (w5.alloc (.map #[] 0)) (finObj A0 cs.length c0 A1 ps.length c1 w5.heap.size)
  simpa using this
def foundF (l : List Cred) : Option (List Cred × List Pair × List (Pair × Int)) :=
  (cred_Counts.f l).bind fun cs => (solve_All.f l).bind fun ps => if cs.length ≤ 1000000 ∧ ps.length ≤ 1000000 then (finRounds cs ps 1000 [] 1).map fun T => (cs, ps, T) else none
def Founded (w : World) (r : List Cred × List Pair × List (Pair × Int)) (e : Ending) (w' : World) : Prop :=
  ∃ g b D, e = .returned (.pointer (some ⟨g, 0, none⟩)) ∧ FinR w' w.heap.size g b D r.2.2 ∧ D.creds = r.1 ∧ D.pairs = r.2.1 ∧ D.creds.length ≤ 1000000 ∧ Below w.heap.size w w'
set_option maxRecDepth 100000 in
set_option maxHeartbeats 8000000 in
theorem found_calls (w : World) (A0 : Option Addr) (c0 : Nat) (l : List Cred) (r : List Cred × List Pair × List (Pair × Int)) (hr0 : Kd.C kCred w A0 l.length l) (hc0 : l.length ≤ c0) (h : foundF l = some r) :
    Calls Tryd.prog 14 #[.slice A0 l.length c0] w (Founded w r) := by
  unfold foundF at h; obtain ⟨cs, hcs, h⟩ := Option.bind_eq_some_iff.mp h; obtain ⟨ps, hps, h⟩ := Option.bind_eq_some_iff.mp h
  by_cases hl : cs.length ≤ 1000000 ∧ ps.length ≤ 1000000
  · rw [if_pos hl] at h
    obtain ⟨Tf, hT, rfl⟩ := Option.map_eq_some_iff.mp h; have hct := cred_Counts.calls A0 c0 l cs w hr0 hc0 hcs
    have hpt := fun V (hV : Below w.heap.size w V) => solve_All.calls A0 c0 l ps V (Kd.C_below hr0 hV) hc0 hps
    have HT := Lib.hid hT; have HL := Lib.hid hl; have HP := Lib.hid hpt
    have hmk := fun W => run_makeMap (P := Tryd.prog) 52 W
    clear h hT hl hr0 hc0 hcs hps hpt; go_enter Tryd.func14, Tryd.ntmps14
    go_upto_region 2 with (first | (go_at_call 22; refine hct.mono ?_; rintro e w3 ⟨v3, rfl, hR3, hB3⟩; obtain ⟨A3, c3, rfl⟩ := Kd.R_slice hR3) | (go_at_call 23; refine (HP.out _ hB3).mono ?_; rintro e w5 ⟨v5, rfl, hR5, hB5⟩; obtain ⟨A5, c5, rfl⟩ := Kd.R_slice hR5))
    change Code.wp _ _ _ _ ((w5.alloc (.map #[] 0)).alloc (finObj A3 cs.length c3 A5 ps.length c5 w5.heap.size)); have hFR := fin_made (w := w) hR3 hB3 (Kd.R_lower hR5 hB3.size) hB5; have hWX := Qab (Qab (Qaf hB3 hB5) (.map #[] 0)) (finObj A3 cs.length c3 A5 ps.length c5 w5.heap.size); have hbB : w.heap.size ≤ w5.heap.size := (Qaf hB3 hB5).size; clear hmk hct hR3 hB3 hR5 hB5 HP; have hgb : w5.heap.size + 1 = w5.heap.size + 1 := rfl
    generalize (w5.alloc (.map #[] 0)).alloc (finObj A3 cs.length c3 A5 ps.length c5 w5.heap.size) = X at hFR hWX ⊢
    clear hgb; have HD := Lib.hid (rfl : (⟨A3, c3, cs, A5, c5, ps⟩ : FinD).creds = cs)
    generalize hg : w5.heap.size + 1 = g at hFR ⊢
    generalize hb : w5.heap.size = b at hFR hbB
    clear hg hb; have HFR := Lib.hid hFR; have HWX := Lib.hid hWX; have HbB := Lib.hid hbB; clear hFR hWX hbB; go_wp2
    go_loopg [4] 1000 (fun kq v4 w' => ∃ (n : Int) (T : List (Pair × Int)), v4 = .int .i64 n ∧ Hid (0 ≤ n ∧ n + kq ≤ 1001) ∧ Hid (finRounds cs ps kq T n = some Tf) ∧ Hid (FinR w' w.heap.size g b ⟨A3, c3, cs, A5, c5, ps⟩ T) ∧ Hid (Below w.heap.size w w'))
    case atStart => exact ⟨1, [], rfl, Lib.hid (by omega), HT, HFR, HWX⟩
    case round =>
      clear HT HFR HWX; obtain ⟨n, T, rfl, HN, HT, HFR, HW⟩ := hrel
      obtain ⟨ko, hko⟩ : ∃ ko, ko = gk := ⟨_, rfl⟩
      rw [← hko] at HN HT
      cases ko with
      | zero => have := HT.out; rw [finRounds] at this; cases this
      | succ ko =>
        have hT := HT.out; rw [finRounds] at hT; obtain ⟨f0, f1, f2⟩ := HFR.out.at.cells
        have LC := fun m => HFR.out.tbl.count Tryd.underlying52 3 (wr.drewN m) rfl
        rw [show (rndT T).length = T.length by unfold rndT; rw [List.length_map]] at LC
        dsimp only at f0 f1
        by_cases hlt : T.length < ps.length
        · rw [if_pos hlt] at hT
          have d1 : decide ((T.length : Int) < (ps.length : Int)) = true := decide_eq_true (by omega); have d2 : decide (T.length < ps.length) = true := decide_eq_true hlt; obtain ⟨fr, hfr, hT⟩ := Option.bind_eq_some_iff.mp hT; obtain ⟨hfl, hfo⟩ := finFresh_le T cs n ps [] fr hfr; have hfo := hfo (fun p hp => by cases hp); have HT := Lib.hid hT; have HFl := Lib.hid hfl; have HFo := Lib.hid hfo; have HTl := Lib.hid hlt; have HC := Lib.hid (fun V (hV : Below wr.heap.size wr V) => finFresh_calls V g b ⟨A3, c3, cs, A5, c5, ps⟩ T n fr (HFR.out.below hV).at HL.out.1 HL.out.2 hfr)
          have wrapN : wrap64 (n + 1) = n + 1 := by unfold wrap64; have := HN.out; omega
          clear hT hfr hfl hfo hlt
          go_upto_region 3 with fail
          go_quiet (fail)
          all_goals
            clear f0 f1 f2 LC
            go_wp2_with (go_at_call 24; refine (HC.out _ (by repeat (first | exact Below.refl _ _ | apply Qaa | apply Qac))).mono ?_; rintro e w5 ⟨v5, rfl, hR5, hB5⟩; have hWW : Below wr.heap.size wr w5 := Qaf (by repeat (first | exact Below.refl _ _ | apply Qaa | apply Qac)) hB5; have HR6 := HFR.out.below hWW; have HW6 := Qaf (by repeat (first | exact HW.out | apply Qaa | apply Qac)) hB5; have hR6 := Kd.R_lower hR5 (show w.heap.size ≤ _ from Nat.le_trans HW.out.size (Nat.le_refl _)); obtain ⟨A6, c6, rfl⟩ := Kd.R_slice hR5)
            have HFR6 := Lib.hid HR6; have HW6h := Lib.hid HW6; have HR6h := Lib.hid hR6; clear hWW HR6 HW6 hR5 hR6 hB5
            go_loopg [31] (fr.length + 1) (fun kq2 v31 w' => ∃ j : Nat, v31 = .int .i64 j ∧ Hid (kq2 = fr.length + 1 - j) ∧ Hid (j ≤ fr.length) ∧ Hid (FinR w' w.heap.size g b ⟨A3, c3, cs, A5, c5, ps⟩ (rputs T (fr.take j) n)) ∧ Hid (Kd.R kPair 50 w' w.heap.size (fun _ => True) (.slice A6 fr.length c6) fr) ∧ Hid (Below w.heap.size w w'))
            case atStart => exact ⟨0, rfl, Lib.hid rfl, Lib.hid (Nat.zero_le _), HFR6, HR6h, HW6h⟩
            case round =>
              clear HFR6 HR6h HW6h; obtain ⟨j, rfl, HKq, HJ, HFj, HRj, HWj⟩ := hrel
              by_cases hj : j < fr.length
              · have d3 : decide ((j : Int) < (fr.length : Int)) = true := decide_eq_true (by omega)
                have d4 : decide (j < fr.length) = true := decide_eq_true hj; obtain ⟨ad, e, hx0, hx1, hx2⟩ := at_T50 (Kd.R_reads' HRj.out).2.2 (j : Int) (by omega) (by omega); obtain rfl := e
                obtain ⟨x, hx⟩ : ∃ x, x = fr[j] := ⟨_, rfl⟩
                have erd : rd_T50 fr (j : Int) = x := by
                  unfold rd_T50; rw [hx, Int.toNat_natCast, List.getD_eq_getElem?_getD, List.getElem?_eq_getElem hj]; rfl
                rw [erd, Int.toNat_natCast] at hx0 hx1 hx2; have p101 : (0 ≤ (j : Int)) = True := eq_true (by omega); have q101 : ((j : Int) < (fr.length : Int)) = True := eq_true (by omega); have hnext := rputs_snoc (T := T) (n := n) hj; rw [← hx] at hnext; have hokx : okPair x := HFo.out x (by rw [hx]; exact List.getElem_mem hj)
                have wrapJ : wrap64 ((j : Int) + 1) = ((j + 1 : Nat) : Int) := by unfold wrap64; have := HFl.out; have := HL.out.2; simp at *; omega
                have HNx := Lib.hid hnext; have HJl := Lib.hid hj; clear hx erd hnext hj
                go_upto_region 8 with fail
                change Code.wp _ _ _ _ (wr.alloc (pairObj x)); have HX := Qab (Below.refl wr.heap.size wr) (pairObj x); have B3 := blk_new wr (pairObj x); have FX := HFj.out.below HX; have RX := Kd.R_below HRj.out HX; have WX := Qaf HWj.out HX; have hbX := HFj.out.tbl.lt
                obtain ⟨O, hu, hT'⟩ := FX.tbl.store pairKey Tryd.underlying52 hokx (.int .i64 n) (by
                  unfold rndT; rw [List.length_map]; have h1 := rputs_length (fr.take j) T n; have h2 := List.length_take_le j fr; have h3 := HJ.out; have h4 := HFl.out; have h5 := HTl.out; have h6 := HL.out.2
                  have : maxLen = 9223372036854775807 := by decide
                  simp only [List.length_nil] at h4
                  omega)
                clear hx0 hx1 hx2; have SZX := Lib.hid (show (wr.alloc (pairObj x)).heap.size = wr.heap.size + 1 by simp)
                generalize wr.alloc (pairObj x) = X at HX B3 FX RX WX hu hT' SZX ⊢
                have hu1 := hu X.drew rfl; unfold encPair at hu1; obtain ⟨f0, f1, f2⟩ := FX.at.cells; obtain ⟨x0, x1, x2⟩ := pairCells B3; have HFX := Lib.hid FX; have HRX := Lib.hid RX; have HWX := Lib.hid WX; have HO := Lib.hid hT'; have HBX := Lib.hid hbX; clear hu B3 FX RX WX hT' hbX HX
                go_still_tail 6, (by kernel_rfl)
                change wpList _ _ _ _ _ X.drew; go_wp2
                go_roundg (fr.length + 1 - (j + 1))
                case measure => have := HKq.out; have := HJl.out; omega
                case rel =>
                  have hlt : b < X.drew.heap.size := by have := HBX.out; have := SZX.out; show b < X.heap.size; omega
                  obtain ⟨hs, ho, hbw⟩ := map_turned (Y := setBlock X.drew b O) (B := w.heap.size) hlt rfl HbB.out; refine ⟨j + 1, by first | rfl | exact congrArg _ wrapJ, Lib.hid rfl, Lib.hid HJl.out, Lib.hid ?_, Lib.hid (R_turned HRX.out HFX.out.tbl ho), Lib.hid (((Qac HWX.out : Below w.heap.size w X.drew)).trans hbw)⟩; rw [HNx.out]; refine HFX.out.turned ho ?_; rw [← rndT_put]; exact HO.out X.drew hlt
              · have d3 : decide ((j : Int) < (fr.length : Int)) = false := decide_eq_false (by omega)
                have d4 : decide (j < fr.length) = false := decide_eq_false hj; have hFe := HFj.out; rw [List.take_of_length_le (by omega)] at hFe; have HFe := Lib.hid hFe; clear hj HFj hFe; go_wp2
                go_roundg ko
                case measure => omega
                case rel => exact ⟨n + 1, rputs T fr n, by first | rfl | exact congrArg _ wrapN, Lib.hid (by have := HN.out; omega), HT, HFe, HWj⟩
        · rw [if_neg hlt] at hT
          obtain rfl := Option.some.inj hT; have d1 : decide ((T.length : Int) < (ps.length : Int)) = false := decide_eq_false (by omega); have d2 : decide (T.length < ps.length) = false := decide_eq_false hlt; clear hT hlt
          go_upto_region 3 with fail
          go_quiet (fail)
          all_goals
            clear f0 f1 f2 LC; go_wp2; go_ret; exact ⟨g, b, ⟨A3, c3, cs, A5, c5, ps⟩, rfl, HFR.out.below (by repeat (first | exact Below.refl _ _ | apply Qaa | apply Qac)), rfl, rfl, HL.out.1, by repeat (first | exact HW.out | apply Qaa | apply Qac)⟩
  · rw [if_neg hl] at h
    cases h
end Go.Proofs.YtbjjgaahdnfflaaDoor.Pr
end
section
namespace Go.Proofs.YtbjjgaahdnfflaaDoor.Pr
open Go.RowKit Go.Proofs.YtbjjgaahdnfflaaDoorW.PrintWords Go.Proofs.YtbjjgaahdnfflaaDoorW.PrintLast Go.Proofs.YtbjjgaahdnfflaaDoorW.PrintMore
set_option linter.unusedVariables false
set_option linter.unusedSimpArgs false
def finProofs (F : Pair → Option Proof) : List Pair → List Proof → Option (List Proof)
  | [], out => some out
  | q :: qs, out => (F q).bind fun x => finProofs F qs (out ++ [x])
def finProof (T : List (Pair × Int)) (creds : List Cred) : Nat → Pair → Option Proof
  | 0, _ => none
  | k + 1, p => if okPair p then (finBy T creds p (rnd T p)).bind fun r => if (byPairs r).length ≤ 2 then (finProofs (finProof T creds k) (byPairs r) []).map fun ps => ⟨p.f0, p.f1, (byCred r).f0, ps⟩ else none else none
def Proofed (w : World) (r : Proof) (e : Ending) (w' : World) : Prop :=
  ∃ v, e = .returned (.agg #[.string r.f0.f0, .string r.f0.f1, .string r.f1, .int .i64 r.f2.f0, .int .i64 r.f2.f1, v]) ∧ Kd.R kProof 29 w' w.heap.size (fun _ => True) v r.f3 ∧ Below w.heap.size w w'
theorem R_storeNew {α : Type} {d : Kd α} {e base : Nat} {ok : Nat → Prop} {W : World} {v : Value} {xs : List α} (h : Kd.R d e W base ok v xs) (x : Cred) : Kd.R d e (credStore (W.alloc (credObj zCred)) W.heap.size x) base ok v xs :=
  Kd.R_mono (Kd.R_move (Kd.R_bound h) (fun k hk => (credStore_other x (Nat.ne_of_lt hk.2.2.1)).trans ((Qab (Below.refl W.heap.size W) _).block k hk.2.2.1))) (fun _ h => h.1)
theorem FinAt.look0 {w W : World} {g b : Nat} {D : FinD} {T : List (Pair × Int)} (h : FinAt w g b D T) (hb : Below w.heap.size w W) {p : Pair} (hp : okPair p) :
    (Instr.lookup 52 (.map (some b)) (.agg #[.string p.f0.f0, .string p.f0.f1, .string p.f1]) false).run Tryd.prog W = .ok (.int .i64 (rnd T p)) W := h.look hb hp 0
theorem infoProof : (Tryd.prog.info? 29).map (fun i => (i.zero, i.size, i.bytes)) = some (some (.agg #[(.string ⟨#[]⟩), (.string ⟨#[]⟩), (.string ⟨#[]⟩), (.int .i64 0), (.int .i64 0), (.slice none 0 0)]), 6, 88) := by kernel_rfl
abbrev outObj (p : Pair) (i : S26) (u : Value) : Obj := .cells #[.string p.f0.f0, .string p.f0.f1, .string p.f1, .int .i64 i.f0, .int .i64 i.f1, u] 29
abbrev zProofObj : Obj := .cells #[.string ⟨#[]⟩, .string ⟨#[]⟩, .string ⟨#[]⟩, .int .i64 0, .int .i64 0, .slice none 0 0] 29
theorem R_zproof {w' : World} {B go kz : Nat} {u : Value} {acc : List Proof} (h : Kd.R kProof 29 w' B (fun k => k ≠ go) u acc) (hz : kz < B) (p : Pair) (i : S26) (v : Value) :
    Kd.R kProof 29 ((((((w'.setCell ⟨kz, 0, none⟩ (.string p.f0.f0)).setCell ⟨kz, 1, none⟩ (.string p.f0.f1)).setCell ⟨kz, 2, none⟩ (.string p.f1)).setCell ⟨kz, 3, none⟩ (.int .i64 i.f0)).setCell ⟨kz, 4, none⟩ (.int .i64 i.f1)).setCell ⟨kz, 5, none⟩ v) B (fun _ => True) u acc :=
  Kd.R_mono (Kd.R_move (Kd.R_bound h) (fun k hk => by
    have hne : k ≠ kz := by have := hk.2.1; omega
    rw [Below.heap_setCell _ _ _ k hne, Below.heap_setCell _ _ _ k hne, Below.heap_setCell _ _ _ k hne, Below.heap_setCell _ _ _ k hne, Below.heap_setCell _ _ _ k hne, Below.heap_setCell _ _ _ k hne])) (fun _ _ => trivial)
set_option maxRecDepth 100000 in
set_option maxHeartbeats 8000000 in
theorem finProof_calls (g b : Nat) (D : FinD) (T : List (Pair × Int)) (hlen : D.creds.length ≤ 1000000) : ∀ (k : Nat) (w : World) (p : Pair) (r : Proof), FinAt w g b D T → finProof T D.creds k p = some r →
    Calls Tryd.prog 15 #[.pointer (some ⟨g, 0, none⟩), encPair p] w (Proofed w r)
  | 0, w, p, r, hF, h => by rw [finProof] at h; cases h
  | k + 1, w, p, r, hF, h => by
    have IH := Lib.hid (finProof_calls g b D T hlen k); rw [finProof] at h
    by_cases hp : okPair p
    · rw [if_pos hp] at h
      obtain ⟨rr, hrr, h⟩ := Option.bind_eq_some_iff.mp h
      by_cases hl2 : (byPairs rr).length ≤ 2
      case neg => rw [if_neg hl2] at h; cases h
      rw [if_pos hl2] at h; obtain ⟨ps, hps, rfl⟩ := Option.map_eq_some_iff.mp h; have HPS := Lib.hid hps; have HL2 := Lib.hid hl2; clear h hps hl2; unfold encPair; go_enter Tryd.func15, Tryd.ntmps15
      go_upto_region 1 with fail
      change Code.wp _ _ _ _ ((w.alloc (pairObj p)).alloc zProofObj)
      generalize hW : (w.alloc (pairObj p)).alloc zProofObj = V
      obtain ⟨HV, BP, BZ, hsz⟩ := boxed2 hW; obtain ⟨p0, p1, p2⟩ := pairCells BP; have s2 := (hF.below HV).cells.2.2; have HBP := Lib.hid BP; have HBZ := Lib.hid BZ; have HBV := Lib.hid HV; have HFV := Lib.hid (hF.below HV); have HLk := Lib.hid (fun W (h : Below V.heap.size V W) => HFV.out.look0 h hp)
      have HC := fun W (h : Below V.heap.size V W) => finBy_calls W g b D T p (rnd T p) rr (HFV.out.below h) hlen hrr
      unfold encPair at HC; have HC := Lib.hid HC; clear hF hrr hsz hW BP BZ HV
      go_cut [5, 6] from 7 to 23 (fun v5 v6 wc => ∃ kc v, v5 = .pointer (some ⟨kc, 0, none⟩) ∧ v6 = v ∧ wc.heap[kc]? = some (credObj (byCred rr)) ∧ Kd.R kPair 50 wc V.heap.size (fun _ => True) v (byPairs rr) ∧ wc.heap[w.heap.size]? = some (pairObj p) ∧ wc.heap[w.heap.size + 1]? = some zProofObj ∧ Below V.heap.size V wc)
      case first =>
        refine start_ (n := 17) (S := fun w' => w'.cell? ⟨w.heap.size, 0, none⟩ = some (.string p.f0.f0) ∧ w'.cell? ⟨w.heap.size, 1, none⟩ = some (.string p.f0.f1) ∧ w'.cell? ⟨w.heap.size, 2, none⟩ = some (.string p.f1) ∧ w'.cell? ⟨g, 2, none⟩ = some (.map (some b)) ∧ Below V.heap.size V w') (ds := []) #[ff,ff,ff,ff,ff,ff,ff,ff,ff,ff,ff,ff,ff,ff,ff,ff,ff] (by kernel_rfl) rfl rfl ⟨p0, p1, p2, s2, Qac (Below.refl _ _)⟩ (fun hHeld => ?_); clear p0 p1 p2 s2
        generalize V.drew = wd at hHeld ⊢
        refine pure_ (i := 0) (N := some 12) (v := ?_) (a' := ?_) #[tt,ff,ff,ff,ff,ff,ff,ff,ff,ff,ff,ff,ff,ff,ff,ff,ff] rfl rfl (by kernel_rfl) (fun _ _ _ h => h) (Or.inl ⟨by rfl, ?_⟩) ?_ ?_; rotate_left
        · intro w'
          go_simp; (with_reducible rfl)
        rotate_left
        · simp only [Act.put, put_]
          rfl
        refine take_ (i := 1) (N := some 13) (v := ?_) (a' := ?_) #[tt,tt,ff,ff,ff,ff,ff,ff,ff,ff,ff,ff,ff,ff,ff,ff,ff] rfl rfl (by kernel_rfl) (fun _ _ _ h => h) (Or.inl ⟨by rfl, ?_⟩) hHeld ?_ ?_; rotate_left
        · rintro w' ⟨s0, s1, s2, s3, sB⟩
          go_simp; (with_reducible rfl)
        rotate_left
        · simp only [Act.put, put_]
          rfl
        refine pure_ (i := 2) (N := some 14) (v := ?_) (a' := ?_) #[tt,tt,tt,ff,ff,ff,ff,ff,ff,ff,ff,ff,ff,ff,ff,ff,ff] rfl rfl (by kernel_rfl) (fun _ _ _ h => h) (Or.inl ⟨by rfl, ?_⟩) ?_ ?_; rotate_left
        · intro w'
          go_simp; (with_reducible rfl)
        rotate_left
        · simp only [Act.put, put_]
          rfl
        refine pure_ (i := 3) (N := some 15) (v := ?_) (a' := ?_) #[tt,tt,tt,tt,ff,ff,ff,ff,ff,ff,ff,ff,ff,ff,ff,ff,ff] rfl rfl (by kernel_rfl) (fun _ _ _ h => h) (Or.inl ⟨by rfl, ?_⟩) ?_ ?_; rotate_left
        · intro w'
          go_simp; (with_reducible rfl)
        rotate_left
        · simp only [Act.put, put_]
          rfl
        refine pure_ (i := 4) (N := some 16) (v := ?_) (a' := ?_) #[tt,tt,tt,tt,tt,ff,ff,ff,ff,ff,ff,ff,ff,ff,ff,ff,ff] rfl rfl (by kernel_rfl) (fun _ _ _ h => h) (Or.inl ⟨by rfl, ?_⟩) ?_ ?_; rotate_left
        · intro w'
          go_simp; (with_reducible rfl)
        rotate_left
        · simp only [Act.put, put_]
          rfl
        refine take_ (i := 5) (N := some 17) (v := ?_) (a' := ?_) #[tt,tt,tt,tt,tt,tt,ff,ff,ff,ff,ff,ff,ff,ff,ff,ff,ff] rfl rfl (by kernel_rfl) (fun _ _ _ h => h) (Or.inl ⟨by rfl, ?_⟩) hHeld ?_ ?_; rotate_left
        · rintro w' ⟨s0, s1, s2, s3, sB⟩
          go_simp; (with_reducible rfl)
        rotate_left
        · simp only [Act.put, put_]
          rfl
        refine take_ (i := 6) (N := some 18) (v := ?_) (a' := ?_) #[tt,tt,tt,tt,tt,tt,tt,ff,ff,ff,ff,ff,ff,ff,ff,ff,ff] rfl rfl (by kernel_rfl) (fun _ _ _ h => h) (Or.inl ⟨by rfl, ?_⟩) hHeld ?_ ?_; rotate_left
        · rintro w' ⟨s0, s1, s2, s3, sB⟩
          go_simp; (with_reducible rfl)
        rotate_left
        · simp only [Act.put, put_]
          rfl
        refine take_ (i := 7) (N := some 19) (v := ?_) (a' := ?_) #[tt,tt,tt,tt,tt,tt,tt,tt,ff,ff,ff,ff,ff,ff,ff,ff,ff] rfl rfl (by kernel_rfl) (fun _ _ _ h => h) (Or.inl ⟨by rfl, ?_⟩) hHeld ?_ ?_; rotate_left
        · rintro w' ⟨s0, s1, s2, s3, sB⟩
          have hl := HLk.out w' sB; go_simp; rfl
        rotate_left
        · simp only [Act.put, put_]
          rfl
        refine two_ (i := 8) (j := 13) (Ni := some 20) (Nj := some 5) #[tt,tt,tt,tt,tt,tt,tt,tt,tt,ff,ff,ff,ff,ff,ff,ff,ff] #[tt,tt,tt,tt,tt,tt,tt,tt,ff,ff,ff,ff,ff,tt,ff,ff,ff] rfl rfl rfl rfl (by kernel_rfl) (by decide) (by decide) (fun K hK => ?_) (fun K hK => ?_)
        · have hwd : V.heap.size ≤ wd.heap.size := hHeld.2.2.2.2.size
          refine goes_ Tryd.func25 (by kernel_rfl) rfl #[.pointer (some ⟨g, 0, none⟩), .agg #[.string p.f0.f0, .string p.f0.f1, .string p.f1], .int .i64 (rnd T p)] (by rfl) rfl rfl (by (try simp only [List.map_toArray, List.map_cons, List.map_nil]); first | done | rfl) ?_
          with_reducible refine (HC.out _ hHeld.2.2.2.2).mono ?_
          rintro e w5 ⟨v5, rfl, hR5, hB5⟩; have HV5 := Qaf hHeld.2.2.2.2 hB5; obtain ⟨p0, p1, p2⟩ := pairCells (Qae HBP.out HV5); have s2 := (HFV.out.below HV5).cells.2.2; unfold encCred; refine ⟨_, rfl, ?_⟩; refine hK.out _ _ ⟨p0, p1, p2, s2, HV5⟩ (fun hHeld => ?_); clear hK K; refine norm_ (a' := ?_) ?_ ?_; rotate_left
          · show Act.put _ (some 20) _ = _
            simp only [Act.put, put_]; rfl
          refine pure_ (i := 9) (N := some 11) (v := ?_) (a' := ?_) #[tt,tt,tt,tt,tt,tt,tt,tt,tt,tt,ff,ff,ff,ff,ff,ff,ff] rfl rfl (by kernel_rfl) (fun _ _ _ h => h) (Or.inl ⟨by rfl, ?_⟩) ?_ ?_; rotate_left
          · intro w'
            go_simp; (with_reducible rfl)
          rotate_left
          · simp only [Act.put, put_]
            rfl
          refine pure_ (i := 10) (N := some 21) (v := ?_) (a' := ?_) #[tt,tt,tt,tt,tt,tt,tt,tt,tt,tt,tt,ff,ff,ff,ff,ff,ff] rfl rfl (by kernel_rfl) (fun _ _ _ h => h) (Or.inl ⟨by rfl, ?_⟩) ?_ ?_; rotate_left
          · intro w'
            go_simp; (with_reducible rfl)
          rotate_left
          · simp only [Act.put, put_]
            rfl
          refine pure_ (i := 11) (N := some 22) (v := ?_) (a' := ?_) #[tt,tt,tt,tt,tt,tt,tt,tt,tt,tt,tt,tt,ff,ff,ff,ff,ff] rfl rfl (by kernel_rfl) (fun _ _ _ h => h) (Or.inl ⟨by rfl, ?_⟩) ?_ ?_; rotate_left
          · intro w'
            go_simp; (with_reducible rfl)
          rotate_left
          · simp only [Act.put, put_]
            rfl
          refine pure_ (i := 12) (N := some 23) (v := ?_) (a' := ?_) #[tt,tt,tt,tt,tt,tt,tt,tt,tt,tt,tt,tt,tt,ff,ff,ff,ff] rfl rfl (by kernel_rfl) (fun _ _ _ h => h) (Or.inl ⟨by rfl, ?_⟩) ?_ ?_; rotate_left
          · intro w'
            go_simp; (with_reducible rfl)
          rotate_left
          · simp only [Act.put, put_]
            rfl
          refine one_ (i := 13) (N := some 5) #[tt,tt,tt,tt,tt,tt,tt,tt,tt,tt,tt,tt,tt,tt,ff,ff,ff] rfl rfl (by kernel_rfl) (by decide) (fun K hK => ?_); refine value_ (w1 := ?_) (v := ?_) (by rfl) rfl ?_ ?_; rotate_left 2
          · go_simp
            constructor
            · rfl
            · rfl
          have HV6 := Qab HV5 (credObj zCred); refine hK.out _ _ ⟨cell_alloc p0 _, cell_alloc p1 _, cell_alloc p2 _, cell_alloc s2 _, HV6⟩ (fun hHeld => ?_); clear hK K; refine norm_ (a' := ?_) ?_ ?_; rotate_left
          · show Act.put _ (some 5) _ = _
            simp only [Act.put, put_]; rfl
          change wpAnyLast _ _ _ _ _ _ _ _ _ (w5.alloc (credObj zCred)); have BC := blk_new w5 (credObj zCred); have hkc : V.heap.size ≤ w5.heap.size := HV5.size; have RX := Kd.R_lower (R_storeNew hR5 (byCred rr)) hwd; clear hHeld
          generalize w5.alloc (credObj zCred) = Z at BC RX HV6 ⊢
          generalize w5.heap.size = kc at BC RX hkc ⊢
          obtain ⟨kc0, kc1, kc2, kc3, kc4, kc5, kc6, kc7, kc8⟩ := credCells BC; have kf0 := Qal BC 0; have kf1 := Qal BC 1; have kf2 := Qal BC 2; have kf3 := Qal BC 3; have kf4 := Qal BC 4; have kf5 := Qal BC 5; have kf6 := Qal BC 6; have kf7 := Qal BC 7; have kf8 := Qal BC 8; have HVs := credStore_below HV6 hkc (byCred rr); obtain ⟨p0, p1, p2⟩ := pairCells (Qae HBP.out HVs); have s2 := (HFV.out.below HVs).cells.2.2; refine one_ (i := 14) (N := none) #[tt,tt,tt,tt,tt,tt,tt,tt,tt,tt,tt,tt,tt,tt,tt,ff,ff] rfl rfl (by kernel_rfl) (by decide) (fun K hK => ?_); refine skip_ (w1 := credStore Z kc (byCred rr)) (by rfl) rfl ?_ ?_
          · go_simp
            try rfl
          refine hK.out _ _ ⟨p0, p1, p2, s2, HVs⟩ (fun hHeld => ?_); clear hK K; refine pure_ (i := 15) (N := some 6) (v := ?_) (a' := ?_) #[tt,tt,tt,tt,tt,tt,tt,tt,tt,tt,tt,tt,tt,tt,tt,tt,ff] rfl rfl (by kernel_rfl) (fun _ _ _ h => h) (Or.inl ⟨by rfl, ?_⟩) ?_ ?_; rotate_left
          · intro w'
            go_simp; (with_reducible rfl)
          rotate_left
          · simp only [Act.put, put_]
            rfl
          refine pure_ (i := 16) (N := some 7) (v := ?_) (a' := ?_) #[tt,tt,tt,tt,tt,tt,tt,tt,tt,tt,tt,tt,tt,tt,tt,tt,tt] rfl rfl (by kernel_rfl) (fun _ _ _ h => h) (Or.inl ⟨by rfl, ?_⟩) ?_ ?_; rotate_left
          · intro w'
            go_simp; (with_reducible rfl)
          rotate_left
          · simp only [Act.put, put_]
            rfl
          refine done_ (by kernel_rfl) ?_; have BS := credStore_blk BC (byCred rr); have PS := Qae HBP.out HVs; have ZS := Qae HBZ.out HVs
          go_wp2_with fail
          go_meet
          case rel => exact ⟨kc, _, rfl, rfl, BS, RX, PS, ZS, HVs⟩
        · refine value_ (w1 := ?_) (v := ?_) (by rfl) rfl ?_ ?_
          rotate_left 2
          · go_simp
            constructor
            · rfl
            · rfl
          have HV4 := Qab hHeld.2.2.2.2 (credObj zCred); have BC4 := blk_new wd (credObj zCred); have hkc : V.heap.size ≤ wd.heap.size := hHeld.2.2.2.2.size; refine hK.out _ _ ⟨cell_alloc hHeld.1 _, cell_alloc hHeld.2.1 _, cell_alloc hHeld.2.2.1 _, cell_alloc hHeld.2.2.2.1 _, HV4⟩ (fun hHeld => ?_); clear hK K; refine norm_ (a' := ?_) ?_ ?_; rotate_left
          · show Act.put _ (some 5) _ = _
            simp only [Act.put, put_]; rfl
          change wpAnyLast _ _ _ _ _ _ _ _ _ (wd.alloc (credObj zCred)); refine one_ (i := 8) (N := some 20) #[tt,tt,tt,tt,tt,tt,tt,tt,tt,ff,ff,ff,ff,tt,ff,ff,ff] rfl rfl (by kernel_rfl) (by decide) (fun K hK => ?_); refine goes_ Tryd.func25 (by kernel_rfl) rfl #[.pointer (some ⟨g, 0, none⟩), .agg #[.string p.f0.f0, .string p.f0.f1, .string p.f1], .int .i64 (rnd T p)] (by rfl) rfl rfl (by (try simp only [List.map_toArray, List.map_cons, List.map_nil]); first | done | rfl) ?_
          with_reducible refine (HC.out _ HV4).mono ?_
          rintro e w5 ⟨v5, rfl, hR5, hB5⟩; have HV5 := Qaf HV4 hB5; obtain ⟨p0, p1, p2⟩ := pairCells (Qae HBP.out HV5); have s2 := (HFV.out.below HV5).cells.2.2; have BC := Qae BC4 hB5; unfold encCred; refine ⟨_, rfl, ?_⟩; refine hK.out _ _ ⟨p0, p1, p2, s2, HV5⟩ (fun hHeld => ?_); clear hK K; refine norm_ (a' := ?_) ?_ ?_; rotate_left
          · show Act.put _ (some 20) _ = _
            simp only [Act.put, put_]; rfl
          refine pure_ (i := 9) (N := some 11) (v := ?_) (a' := ?_) #[tt,tt,tt,tt,tt,tt,tt,tt,tt,tt,ff,ff,ff,tt,ff,ff,ff] rfl rfl (by kernel_rfl) (fun _ _ _ h => h) (Or.inl ⟨by rfl, ?_⟩) ?_ ?_; rotate_left
          · intro w'
            go_simp; (with_reducible rfl)
          rotate_left
          · simp only [Act.put, put_]
            rfl
          refine pure_ (i := 10) (N := some 21) (v := ?_) (a' := ?_) #[tt,tt,tt,tt,tt,tt,tt,tt,tt,tt,tt,ff,ff,tt,ff,ff,ff] rfl rfl (by kernel_rfl) (fun _ _ _ h => h) (Or.inl ⟨by rfl, ?_⟩) ?_ ?_; rotate_left
          · intro w'
            go_simp; (with_reducible rfl)
          rotate_left
          · simp only [Act.put, put_]
            rfl
          refine pure_ (i := 11) (N := some 22) (v := ?_) (a' := ?_) #[tt,tt,tt,tt,tt,tt,tt,tt,tt,tt,tt,tt,ff,tt,ff,ff,ff] rfl rfl (by kernel_rfl) (fun _ _ _ h => h) (Or.inl ⟨by rfl, ?_⟩) ?_ ?_; rotate_left
          · intro w'
            go_simp; (with_reducible rfl)
          rotate_left
          · simp only [Act.put, put_]
            rfl
          refine pure_ (i := 12) (N := some 23) (v := ?_) (a' := ?_) #[tt,tt,tt,tt,tt,tt,tt,tt,tt,tt,tt,tt,tt,tt,ff,ff,ff] rfl rfl (by kernel_rfl) (fun _ _ _ h => h) (Or.inl ⟨by rfl, ?_⟩) ?_ ?_; rotate_left
          · intro w'
            go_simp; (with_reducible rfl)
          rotate_left
          · simp only [Act.put, put_]
            rfl
          have RX := R_credStore hR5 (show wd.heap.size < (wd.alloc (credObj zCred)).heap.size by simp) (byCred rr); replace RX := Kd.R_lower RX HV4.size; have HV6 := Qaf HV4 hB5; clear hHeld p0 p1 p2 s2 HV4 BC4 hR5
          generalize w5 = Z at BC RX HV6 ⊢
          generalize wd.heap.size = kc at BC RX hkc ⊢
          obtain ⟨kc0, kc1, kc2, kc3, kc4, kc5, kc6, kc7, kc8⟩ := credCells BC; have kf0 := Qal BC 0; have kf1 := Qal BC 1; have kf2 := Qal BC 2; have kf3 := Qal BC 3; have kf4 := Qal BC 4; have kf5 := Qal BC 5; have kf6 := Qal BC 6; have kf7 := Qal BC 7; have kf8 := Qal BC 8; have HVs := credStore_below HV6 hkc (byCred rr); obtain ⟨p0, p1, p2⟩ := pairCells (Qae HBP.out HVs); have s2 := (HFV.out.below HVs).cells.2.2; refine one_ (i := 14) (N := none) #[tt,tt,tt,tt,tt,tt,tt,tt,tt,tt,tt,tt,tt,tt,tt,ff,ff] rfl rfl (by kernel_rfl) (by decide) (fun K hK => ?_); refine skip_ (w1 := credStore Z kc (byCred rr)) (by rfl) rfl ?_ ?_
          · go_simp
            try rfl
          refine hK.out _ _ ⟨p0, p1, p2, s2, HVs⟩ (fun hHeld => ?_); clear hK K; refine pure_ (i := 15) (N := some 6) (v := ?_) (a' := ?_) #[tt,tt,tt,tt,tt,tt,tt,tt,tt,tt,tt,tt,tt,tt,tt,tt,ff] rfl rfl (by kernel_rfl) (fun _ _ _ h => h) (Or.inl ⟨by rfl, ?_⟩) ?_ ?_; rotate_left
          · intro w'
            go_simp; (with_reducible rfl)
          rotate_left
          · simp only [Act.put, put_]
            rfl
          refine pure_ (i := 16) (N := some 7) (v := ?_) (a' := ?_) #[tt,tt,tt,tt,tt,tt,tt,tt,tt,tt,tt,tt,tt,tt,tt,tt,tt] rfl rfl (by kernel_rfl) (fun _ _ _ h => h) (Or.inl ⟨by rfl, ?_⟩) ?_ ?_; rotate_left
          · intro w'
            go_simp; (with_reducible rfl)
          rotate_left
          · simp only [Act.put, put_]
            rfl
          refine done_ (by kernel_rfl) ?_; have BS := credStore_blk BC (byCred rr); have PS := Qae HBP.out HVs; have ZS := Qae HBZ.out HVs
          go_wp2_with fail
          go_meet
          case rel => exact ⟨kc, _, rfl, rfl, BS, RX, PS, ZS, HVs⟩
      case rest =>
        obtain ⟨kc, v6, rfl, rfl, BC, HR6, BP, BZ, HVc⟩ := hcut; clear HC HLk; have HFW := Lib.hid (fun W (h : Below V.heap.size V W) => HFV.out.below h); clear HFV
        obtain ⟨qs, hqs⟩ : ∃ qs, qs = byPairs rr := ⟨_, rfl⟩
        rw [← hqs] at HPS HL2 HR6; obtain ⟨p0, p1, p2⟩ := pairCells BP; obtain ⟨c0, c1, c2, c3, c4, c5, c6, c7, c8⟩ := credCells BC; obtain ⟨A6, cc6, rfl⟩ := Kd.R_slice HR6
        go_upto_region 3 with fail
        change Code.wp _ _ _ _ (wc.alloc (outObj p (byCred rr).f0 (.slice none 0 0))); have HX := Qab HVc (outObj p (byCred rr).f0 (.slice none 0 0)); have BO := blk_new wc (outObj p (byCred rr).f0 (.slice none 0 0)); have RX := Kd.R_alloc HR6 (outObj p (byCred rr).f0 (.slice none 0 0)); have BZX := Qae BZ (Qab (Below.refl wc.heap.size wc) (outObj p (byCred rr).f0 (.slice none 0 0))); have hgo := HVc.size; have hzV : w.heap.size + 1 < V.heap.size := blk_lt HBZ.out; clear HVc HR6 BZ BP BC p0 p1 p2 c0 c1 c2 c3 c4 c5 c6 c7 c8 hqs HBP HBZ
        generalize wc.alloc (outObj p (byCred rr).f0 (.slice none 0 0)) = X at HX BO RX BZX ⊢
        generalize wc.heap.size = go at BO hgo ⊢
        have HGO := Lib.hid hgo; have HZV := Lib.hid hzV; have HRX := Lib.hid RX; have HBO := Lib.hid BO; have HBX := Lib.hid BZX; have HWX := Lib.hid HX; clear hgo hzV RX BO BZX HX; go_wp2
        go_loopg [33] (qs.length + 1) (fun kq v33 w' => ∃ (j : Nat) (acc : List Proof) (u : Value), v33 = .int .i64 j ∧ Hid (kq = qs.length + 1 - j) ∧ Hid (j ≤ qs.length) ∧ Hid (acc.length = j) ∧ Hid (finProofs (finProof T D.creds k) (qs.drop j) acc = some ps) ∧ Hid (Kd.R kPair 50 w' V.heap.size (fun _ => True) (.slice A6 qs.length cc6) qs) ∧ Hid (Kd.R kProof 29 w' V.heap.size (fun k => k ≠ go) u acc) ∧ Hid (w'.heap[go]? = some (outObj p (byCred rr).f0 u)) ∧ Hid (w'.heap[w.heap.size + 1]? = some zProofObj) ∧ Hid (Below V.heap.size V w'))
        case atStart => exact ⟨0, [], .slice none 0 0, rfl, Lib.hid rfl, Lib.hid (Nat.zero_le _), Lib.hid rfl, HPS, HRX, Lib.hid (Kd.R_nil _ _ _ _ _), HBO, HBX, HWX⟩
        case round =>
          clear HPS HRX HBO HBX HWX; obtain ⟨j, acc, u, rfl, HKq, HJ, HA, HPS, HR, HO, HBO, HBX, HWX⟩ := hrel
          by_cases hj : j < qs.length
          · have d1 : decide ((j : Int) < (qs.length : Int)) = true := decide_eq_true (by omega)
            have d2 : decide (j < qs.length) = true := decide_eq_true hj; obtain ⟨ad, e, hx0, hx1, hx2⟩ := at_T50 (Kd.R_reads' HR.out).2.2 (j : Int) (by omega) (by omega); obtain rfl := e
            obtain ⟨x, hx⟩ : ∃ x, x = qs[j] := ⟨_, rfl⟩
            have erd : rd_T50 qs (j : Int) = x := by
              unfold rd_T50; rw [hx, Int.toNat_natCast, List.getD_eq_getElem?_getD, List.getElem?_eq_getElem hj]; rfl
            rw [erd, Int.toNat_natCast] at hx0 hx1 hx2; have p101 : (0 ≤ (j : Int)) = True := eq_true (by omega); have q101 : ((j : Int) < (qs.length : Int)) = True := eq_true (by omega); have hH := HPS.out; rw [List.drop_eq_getElem_cons hj, ← hx, finProofs] at hH; obtain ⟨y, hy, hH⟩ := Option.bind_eq_some_iff.mp hH; have HH := Lib.hid hH; have HJl := Lib.hid hj
            have wrapJ : wrap64 ((j : Int) + 1) = ((j + 1 : Nat) : Int) := by unfold wrap64; have := HL2.out; omega
            have HC := fun W (h : Below V.heap.size V W) => IH.out W x y (HFW.out W h) hy
            unfold encPair at HC; have HC := Lib.hid HC; clear hx erd hj hH hy HPS
            go_upto_region 6 with fail
            change Code.wp _ _ _ _ (wr.alloc (pairObj x)); have HY := Qab HWX.out (pairObj x); have HYr := Qab (Below.refl wr.heap.size wr) (pairObj x); have BY := blk_new wr (pairObj x); have RY := Kd.R_alloc HR.out (pairObj x); have OY := Kd.R_alloc HO.out (pairObj x); have BOY := Qae HBO.out HYr; have BXY := Qae HBX.out HYr; clear HYr hx0 hx1 hx2 HR HO HBO HBX HWX
            generalize wr.alloc (pairObj x) = Y at HY BY RY OY BOY BXY ⊢
            generalize wr.heap.size = kx at BY ⊢
            have HWY := Lib.hid (Qac HY); have HYx := Lib.hid (Qak BY); have HRY := Lib.hid (Kd.R_drew RY); have HOY := Lib.hid (Kd.R_drew OY); have HBOY := Lib.hid (Qak BOY); have HBXY := Lib.hid (Qak BXY); obtain ⟨x0, x1, x2⟩ := pairCells BY; have o5 : Y.cell? ⟨go, 5, none⟩ = some u := (Qai BOY 5).trans rfl; clear BY RY OY BOY BXY HY; refine start_ (n := 9) (S := fun w' => w'.cell? ⟨kx, 0, none⟩ = some (.string x.f0.f0) ∧ w'.cell? ⟨kx, 1, none⟩ = some (.string x.f0.f1) ∧ w'.cell? ⟨kx, 2, none⟩ = some (.string x.f1) ∧ w'.cell? ⟨go, 5, none⟩ = some (u)) (ds := [6, 8]) #[ff,ff,ff,ff,ff,ff,ff,ff,ff] (by kernel_rfl) rfl rfl ⟨x0, x1, x2, o5⟩ (fun hHeld => ?_); clear x0 x1 x2 o5
            generalize Y.drew = wd at hHeld HWY HYx HRY HOY HBOY HBXY ⊢
            refine pure_ (i := 0) (N := some 37) (v := ?_) (a' := ?_) #[tt,ff,ff,ff,ff,ff,ff,ff,ff] rfl rfl (by kernel_rfl) (fun _ _ _ h => h) (Or.inl ⟨by rfl, ?_⟩) ?_ ?_; rotate_left
            · intro w'
              go_simp; (with_reducible rfl)
            rotate_left
            · simp only [Act.put, put_]
              rfl
            refine take_ (i := 1) (N := some 38) (v := ?_) (a' := ?_) #[tt,tt,ff,ff,ff,ff,ff,ff,ff] rfl rfl (by kernel_rfl) (fun _ _ _ h => h) (Or.inl ⟨by rfl, ?_⟩) hHeld ?_ ?_; rotate_left
            · rintro w' ⟨s0, s1, s2, s3⟩
              go_simp; (with_reducible rfl)
            rotate_left
            · simp only [Act.put, put_]
              rfl
            refine pure_ (i := 2) (N := some 39) (v := ?_) (a' := ?_) #[tt,tt,tt,ff,ff,ff,ff,ff,ff] rfl rfl (by kernel_rfl) (fun _ _ _ h => h) (Or.inl ⟨by rfl, ?_⟩) ?_ ?_; rotate_left
            · intro w'
              go_simp; (with_reducible rfl)
            rotate_left
            · simp only [Act.put, put_]
              rfl
            refine take_ (i := 3) (N := some 40) (v := ?_) (a' := ?_) #[tt,tt,tt,tt,ff,ff,ff,ff,ff] rfl rfl (by kernel_rfl) (fun _ _ _ h => h) (Or.inl ⟨by rfl, ?_⟩) hHeld ?_ ?_; rotate_left
            · rintro w' ⟨s0, s1, s2, s3⟩
              go_simp; (with_reducible rfl)
            rotate_left
            · simp only [Act.put, put_]
              rfl
            refine one_ (i := 4) (N := some 41) #[tt,tt,tt,tt,tt,ff,ff,ff,ff] rfl rfl (by kernel_rfl) (by decide) (fun K hK => ?_); refine goes_ Tryd.func15 (by kernel_rfl) rfl #[.pointer (some ⟨g, 0, none⟩), .agg #[.string x.f0.f0, .string x.f0.f1, .string x.f1]] (by rfl) rfl rfl (by (try simp only [List.map_toArray, List.map_cons, List.map_nil]); first | done | rfl) ?_
            with_reducible refine (HC.out _ HWY.out).mono ?_
            rintro e w5 ⟨v5, rfl, ho0, hb⟩; have HX5 := Qae HYx.out hb; have HR5 := Lib.hid (Kd.R_below HRY.out hb); have HO5 := Lib.hid (Kd.R_elder' HOY.out (Kd.R_base ho0) hb); have HN5 := Lib.hid (Kd.R_lower (Kd.R_newB (Kd.R_new' ho0 (Kd.R_lt HOY.out)) (g := go) (o := outObj p (byCred rr).f0 u) HBOY.out) HWY.out.size); have HBO5 := Lib.hid (Qae HBOY.out hb); have HBX5 := Lib.hid (Qae HBXY.out hb); have HW5 := Lib.hid (Qaf HWY.out hb); obtain ⟨x0, x1, x2⟩ := pairCells HX5; obtain ⟨Ay, cy, rfl⟩ := Kd.R_slice ho0; clear HC HWY HYx HRY HOY HBOY HBXY ho0 hb HX5 hHeld; refine ⟨_, rfl, ?_⟩; refine hK.out _ _ ⟨x0, x1, x2, (Qai HBO5.out 5).trans rfl⟩ (fun hHeld => ?_); clear hK K; refine norm_ (a' := ?_) ?_ ?_; rotate_left
            · show Act.put _ (some 41) _ = _
              simp only [Act.put, put_]; rfl
            refine one_ (i := 5) (N := some 42) #[tt,tt,tt,tt,tt,tt,ff,ff,ff] rfl rfl (by kernel_rfl) (by decide) (fun K hK => ?_); refine value_ (w1 := ?_) (v := ?_) (by rfl) rfl ?_ ?_; rotate_left 2
            · go_simp
              constructor
              · rfl
              · rfl
            refine hK.out _ _ ⟨cell_alloc hHeld.1 _, cell_alloc hHeld.2.1 _, cell_alloc hHeld.2.2.1 _, cell_alloc hHeld.2.2.2 _⟩ (fun hHeld => ?_); clear hK K; refine norm_ (a' := ?_) ?_ ?_; rotate_left
            · show Act.put _ (some 42) _ = _
              simp only [Act.put, put_]; rfl
            refine last_ (i := 6) (N := some 43) #[tt,tt,tt,tt,tt,tt,tt,ff,ff] rfl rfl (by kernel_rfl) (by decide) (fun K hK => ?_); refine Kd.R_append_step kProof (w0 := V) V.heap.size (by rfl) (.tmp 38) (.tmp 42) 27 29 (.agg #[(.string ⟨#[]⟩), (.string ⟨#[]⟩), (.string ⟨#[]⟩), (.int .i64 0), (.int .i64 0), (.slice none 0 0)]) 88 rfl Tryd.underlying27 infoProof rfl (by decide) (by omega) u acc y [.string y.f0.f0, .string y.f0.f1, .string y.f1, .int .i64 y.f2.f0, .int .i64 y.f2.f1, .slice Ay y.f3.length cy] (fun k => k ≠ go) (fun k => k ≠ go ∧ some k ≠ (u : Value).ownBlock) rfl rfl ?aP (fun _ hk => hk) ?aF ?aO ?aB ?aS ?aL ?_
            (case aP => exact k29_mkM _ _ _ y (Kd.R_mono HN5.out (fun k hk => ⟨hk.2, hk.1.2⟩)))
            (case aF => exact Kd.freshB HBO5.out)
            (case aO => exact Kd.R_mono HO5.out (fun _ hk => hk.1))
            (case aB => exact HW5.out)
            (case aS => exact Qav HW5.out)
            (case aL => have := HA.out; have := HJl.out; have := HL2.out; omega)
            intro v6 w6 ho hb hg hat
            have HR6 := Lib.hid (Kd.R_over' HR5.out (Kd.R_typed HO5.out) (by decide) hg); have BO6 := blk_grown HBO5.out hg (Kd.R_away HO5.out (fun _ hk => hk.1)); have BX6 := blk_grown HBX5.out hg (fun e => by have := Kd.R_base HO5.out _ e.symm; have := HZV.out; omega); obtain ⟨A7, c7, rfl⟩ := Kd.R_slice ho; have HO6 := Lib.hid ho; have HW6 := Lib.hid hb; have HBO6 := Lib.hid BO6; have HBX6 := Lib.hid BX6; clear ho hb hg hat HR5 HO5 HN5 HBO5 HBX5 HW5 BX6 x0 x1 x2 hHeld; refine hK.out _ _ ?_; clear hK K; refine norm_ (a' := ?_) ?_ ?_; rotate_left
            · show Act.put _ (some 43) _ = _
              simp only [Act.put, put_]; rfl
            refine pure_ (i := 7) (N := some 44) (v := ?_) (a' := ?_) #[tt,tt,tt,tt,tt,tt,tt,tt,ff] rfl rfl (by kernel_rfl) (fun _ _ _ h => h) (Or.inl ⟨by rfl, ?_⟩) ?_ ?_; rotate_left
            · intro w'
              go_simp; (with_reducible rfl)
            rotate_left
            · simp only [Act.put, put_]
              rfl
            refine last_ (i := 8) (N := none) #[tt,tt,tt,tt,tt,tt,tt,tt,tt] rfl rfl (by kernel_rfl) (by decide) (fun K hK => ?_); have o5 : w6.cell? ⟨go, 5, none⟩ = some u := (Qai BO6 5).trans rfl; have of5 := Qal BO6 5; refine skip_ (w1 := w6.setCell ⟨go, 5, none⟩ (.slice A7 (acc ++ [y]).length c7)) (by rfl) rfl ?_ ?_
            · go_simp
              try rfl
            refine hK.out _ _ ?_; clear hK K o5 of5; refine done_ (by kernel_rfl) ?_; go_wp2 
            go_roundg (qs.length + 1 - (j + 1))
            case measure => have := HKq.out; have := HJl.out; omega
            case rel => exact ⟨j + 1, acc ++ [y], .slice A7 (acc ++ [y]).length c7, by first | rfl | exact congrArg _ wrapJ, Lib.hid rfl, Lib.hid HJl.out, Lib.hid (by have := HA.out; simp; omega), HH, Lib.hid (Kd.R_mono (Kd.R_far (p := ⟨go, 5, none⟩) (Kd.R_types HR6.out HBO6.out (by decide)) (fun _ hk => hk.2) _) (fun _ hk => hk.1)), Lib.hid (Kd.R_far (p := ⟨go, 5, none⟩) HO6.out (fun _ hk => hk) _), Lib.hid (blk_put HBO6.out 5 _ (by simp)), Lib.hid (blk_far HBX6.out (by have := HZV.out; have := HGO.out; show _ ≠ go; omega) _), Lib.hid (Qaj HW6.out HGO.out)⟩
          · have d1 : decide ((j : Int) < (qs.length : Int)) = false := decide_eq_false (by omega)
            have d2 : decide (j < qs.length) = false := decide_eq_false hj; have hH := HPS.out; rw [List.drop_eq_nil_of_le (by omega), finProofs] at hH; obtain rfl := Option.some.inj hH; have o0 : wr.cell? ⟨go, 0, none⟩ = some (.string p.f0.f0) := (Qai HBO.out 0).trans rfl; have o1 : wr.cell? ⟨go, 1, none⟩ = some (.string p.f0.f1) := (Qai HBO.out 1).trans rfl; have o2 : wr.cell? ⟨go, 2, none⟩ = some (.string p.f1) := (Qai HBO.out 2).trans rfl; have o3 : wr.cell? ⟨go, 3, none⟩ = some (.int .i64 (byCred rr).f0.f0) := (Qai HBO.out 3).trans rfl; have o4 : wr.cell? ⟨go, 4, none⟩ = some (.int .i64 (byCred rr).f0.f1) := (Qai HBO.out 4).trans rfl; have o5 : wr.cell? ⟨go, 5, none⟩ = some u := (Qai HBO.out 5).trans rfl; have z0 : wr.cell? ⟨w.heap.size + 1, 0, none⟩ = some (.string ⟨#[]⟩) := (Qai HBX.out 0).trans rfl; have z1 : wr.cell? ⟨w.heap.size + 1, 1, none⟩ = some (.string ⟨#[]⟩) := (Qai HBX.out 1).trans rfl; have z2 : wr.cell? ⟨w.heap.size + 1, 2, none⟩ = some (.string ⟨#[]⟩) := (Qai HBX.out 2).trans rfl; have z3 : wr.cell? ⟨w.heap.size + 1, 3, none⟩ = some (.int .i64 0) := (Qai HBX.out 3).trans rfl; have z4 : wr.cell? ⟨w.heap.size + 1, 4, none⟩ = some (.int .i64 0) := (Qai HBX.out 4).trans rfl; have z5 : wr.cell? ⟨w.heap.size + 1, 5, none⟩ = some (.slice none 0 0) := (Qai HBX.out 5).trans rfl; have zf0 := Qal HBX.out 0; have zf1 := Qal HBX.out 1; have zf2 := Qal HBX.out 2; have zf3 := Qal HBX.out 3
            have zf4 := Qal HBX.out 4; have zf5 := Qal HBX.out 5; obtain ⟨Au, cu, rfl⟩ := Kd.R_slice HO.out; clear hH HPS hj; go_wp2; refine bodyPost_ret (results_cell_row rfl _ _ (w.heap.size + 1) 29 #[.string p.f0.f0, .string p.f0.f1, .string p.f1, .int .i64 (byCred rr).f0.f0, .int .i64 (byCred rr).f0.f1, .slice Au acc.length cu] (0, 0) _ rfl (blk_put (cs' := #[.string p.f0.f0, .string p.f0.f1, .string p.f1, .int .i64 (byCred rr).f0.f0, .int .i64 (byCred rr).f0.f1, .slice Au acc.length cu]) (blk_put (cs' := #[.string p.f0.f0, .string p.f0.f1, .string p.f1, .int .i64 (byCred rr).f0.f0, .int .i64 (byCred rr).f0.f1, .slice none 0 0]) (blk_put (cs' := #[.string p.f0.f0, .string p.f0.f1, .string p.f1, .int .i64 (byCred rr).f0.f0, .int .i64 0, .slice none 0 0]) (blk_put (cs' := #[.string p.f0.f0, .string p.f0.f1, .string p.f1, .int .i64 0, .int .i64 0, .slice none 0 0]) (blk_put (cs' := #[.string p.f0.f0, .string p.f0.f1, .string ⟨#[]⟩, .int .i64 0, .int .i64 0, .slice none 0 0]) (blk_put (cs' := #[.string p.f0.f0, .string ⟨#[]⟩, .string ⟨#[]⟩, .int .i64 0, .int .i64 0, .slice none 0 0]) HBX.out 0 (.string p.f0.f0) rfl) 1 (.string p.f0.f1) rfl) 2 (.string p.f1) rfl) 3 (.int .i64 (byCred rr).f0.f0) rfl) 4 (.int .i64 (byCred rr).f0.f1) rfl) 5 (.slice Au acc.length cu) rfl) Tryd.underlying29 rfl (by kernel_rfl)) rfl ?_; refine ⟨_, rfl, Kd.R_lower (R_zproof HO.out HZV.out p (byCred rr).f0 _) HBV.out.size, ?_⟩; have := HBV.out.size; exact Qaj (Qaj (Qaj (Qaj (Qaj (Qaj (Qaf HBV.out HWX.out) (by omega)) (by omega)) (by omega)) (by omega)) (by omega)) (by omega)
    · rw [if_neg hp] at h
      cases h
end Go.Proofs.YtbjjgaahdnfflaaDoor.Pr
end
section
namespace Go.Proofs.YtbjjgaahdnfflaaDoor.Pr
open Go.RowKit Go.Proofs.YtbjjgaahdnfflaaDoorW.PrintWords Go.Proofs.YtbjjgaahdnfflaaDoorW.PrintLast Go.Proofs.YtbjjgaahdnfflaaDoorW.PrintMore
open Go.ChangeMaps (setBlock)
set_option linter.unusedVariables false
set_option linter.unusedSimpArgs false
def setT {κ : Type} (l : List κ) : List (κ × Value) := l.map fun x => (x, .bool true)
def putS {κ : Type} [DecidableEq κ] (l : List κ) (x : κ) : List κ := if x ∈ l then l else l ++ [x]
theorem setT_put {κ : Type} [DecidableEq κ] (l : List κ) (x : κ) : tput (setT l) x (.bool true) = setT (putS l x) := by
  unfold tput putS setT
  by_cases h : x ∈ l
  · have h' : ((l.map fun x => (x, Value.bool true)).any fun y => decide (y.1 = x)) = true := by
      rw [List.any_map, List.any_eq_true]; exact ⟨x, h, by simp⟩
    rw [if_pos h, if_pos h', List.map_map]
    apply List.map_congr_left
    intro y _
    by_cases e : y = x
    · simp [e]
    · simp [e]
  · have h' : ¬ ((l.map fun x => (x, Value.bool true)).any fun y => decide (y.1 = x)) = true := by
      rw [List.any_map, List.any_eq_true]; rintro ⟨y, hy, e⟩
      have : y = x := by simpa using e
      exact h (this ▸ hy)
    rw [if_neg h, if_neg h']; simp
theorem setT_get {κ : Type} [DecidableEq κ] (l : List κ) (x : κ) : (tget (setT l) x).getD (.bool false) = .bool (decide (x ∈ l)) := by
  unfold tget setT
  induction l with
  | nil => rfl
  | cons y l ih =>
    rw [List.map_cons, List.find?_cons]
    by_cases h : y = x
    · subst h
      simp
    · have h' : ¬ x = y := fun e => h e.symm
      simp only [decide_eq_false h]; rw [ih]; simp [h']
theorem putS_length {κ : Type} [DecidableEq κ] (l : List κ) (x : κ) : (putS l x).length ≤ l.length + 1 := by
  unfold putS
  split <;> simp
abbrev Hads := List Pair × List ID
def gatherQ (F : Pair → Hads → Option Hads) : List Pair → Hads → Option Hads
  | [], s => some s
  | q :: qs, s => (F q s).bind (gatherQ F qs)
def finGather (T : List (Pair × Int)) (creds : List Cred) : Nat → Pair → Hads → Option Hads
  | 0, _, _ => none
  | k + 1, p, s => if okPair p ∧ s.1.length < 1000000 ∧ s.2.length < 1000000 then (if p ∈ s.1 then some s else (finBy T creds p (rnd T p)).bind fun r => if okID (byCred r).f0 ∧ (byPairs r).length ≤ 2 then gatherQ (finGather T creds k) (byPairs r) (s.1 ++ [p], putS s.2 (byCred r).f0) else none) else none
structure Sets (w0 w : World) (bs bh : Nat) (s : Hads) : Prop where
  seen : Tbl encPair okPair w bs (setT s.1)
  had : Tbl encID okID w bh (setT s.2)
  below : Below w0.heap.size w0 w
theorem Sets.step {w0 w W : World} {bs bh : Nat} {s : Hads} (h : Sets w0 w bs bh s) (hb : Below w.heap.size w W) : Sets w0 W bs bh s := ⟨h.seen.below hb, h.had.below hb, Qaf h.below hb⟩
def Kept2 (w w' : World) (bs bh : Nat) : Prop := w.heap.size ≤ w'.heap.size ∧ ∀ i, i < w.heap.size → i ≠ bs → i ≠ bh → w'.heap[i]? = w.heap[i]?
theorem Kept2.refl (w : World) (bs bh : Nat) : Kept2 w w bs bh := ⟨Nat.le_refl _, fun _ _ _ _ => rfl⟩
theorem Kept2.trans {w w1 w2 : World} {bs bh : Nat} (h : Kept2 w w1 bs bh) (h2 : Kept2 w1 w2 bs bh) : Kept2 w w2 bs bh := ⟨Nat.le_trans h.1 h2.1, fun i hi a c => (h2.2 i (Nat.lt_of_lt_of_le hi h.1) a c).trans (h.2 i hi a c)⟩
theorem Kept2.of_below {w w1 : World} (h : Below w.heap.size w w1) (bs bh : Nat) : Kept2 w w1 bs bh := ⟨h.size, fun i hi _ _ => h.block i hi⟩
theorem R_kept2 {α : Type} {d : Kd α} {e B : Nat} {w0 W Y : World} {v : Value} {xs : List α} {bs bh : Nat} {s : Hads} (hR : Kd.R d e W B (fun _ => True) v xs) (hS : Sets w0 W bs bh s) (hK : Kept2 W Y bs bh) : Kd.R d e Y B (fun _ => True) v xs :=
  Kd.R_mono (Kd.R_move (Kd.R_bound hR) (fun k hk => by
    obtain ⟨_, _, hlt, q, _, cells, hc⟩ := hk; refine hK.2 k hlt (fun e => ?_) (fun e => ?_)
    · obtain ⟨es, clock, hb, _⟩ := hS.seen
      rw [e, hb] at hc; cases hc
    · obtain ⟨es, clock, hb, _⟩ := hS.had
      rw [e, hb] at hc
      cases hc)) (fun _ _ => trivial)
theorem Sets.saw {w0 W Y : World} {bs bh : Nat} {s : Hads} {O : Obj} {S : List Pair} (h : Sets w0 W bs bh s) (hbs : w0.heap.size ≤ bs) (hne : bs ≠ bh) (hY : Y = setBlock W bs O) (hT : Tbl encPair okPair Y bs (setT S)) : Sets w0 Y bs bh (S, s.2) ∧ Kept2 W Y bs bh ∧ Y.heap.size = W.heap.size := by
  obtain ⟨hs, ho, hbw⟩ := map_turned (Y := Y) (B := w0.heap.size) h.seen.lt hY hbs; exact ⟨⟨hT, h.had.same (ho _ hne.symm), h.below.trans hbw⟩, ⟨Nat.le_of_eq hs.symm, fun i _ a _ => ho i a⟩, hs⟩
theorem Sets.has {w0 W Y : World} {bs bh : Nat} {s : Hads} {O : Obj} {H : List ID} (h : Sets w0 W bs bh s) (hbh : w0.heap.size ≤ bh) (hne : bs ≠ bh) (hY : Y = setBlock W bh O) (hT : Tbl encID okID Y bh (setT H)) : Sets w0 Y bs bh (s.1, H) ∧ Kept2 W Y bs bh ∧ Y.heap.size = W.heap.size := by
  obtain ⟨hs, ho, hbw⟩ := map_turned (Y := Y) (B := w0.heap.size) h.had.lt hY hbh; exact ⟨⟨h.seen.same (ho _ hne), hT, h.below.trans hbw⟩, ⟨Nat.le_of_eq hs.symm, fun i _ _ c => ho i c⟩, hs⟩
theorem seen_look {w W : World} {bs : Nat} {S : List Pair} (h : Tbl encPair okPair w bs (setT S)) (hb : Below w.heap.size w W) {p : Pair} (hp : okPair p) :
    (Instr.lookup 59 (.map (some bs)) (.agg #[.string p.f0.f0, .string p.f0.f1, .string p.f1]) false).run Tryd.prog W = .ok (.bool (decide (p ∈ S))) W := by
  have hl := h.look pairKey Tryd.underlying59 zeroBool hp false W (hb.block bs h.lt); refine hl.trans ?_; rw [if_neg (by decide), setT_get]
theorem setT_length {κ : Type} (l : List κ) : (setT l).length = l.length := by unfold setT; rw [List.length_map]
set_option maxRecDepth 100000 in
set_option maxHeartbeats 8000000 in
theorem finGather_calls (g b : Nat) (D : FinD) (T : List (Pair × Int)) (hlen : D.creds.length ≤ 1000000) (w0 : World) (hF : FinAt w0 g b D T) (bs bh : Nat) (hbs : w0.heap.size ≤ bs) (hbh : w0.heap.size ≤ bh) (hne : bs ≠ bh) : ∀ (k : Nat) (w : World) (p : Pair) (s s' : Hads), Sets w0 w bs bh s → finGather T D.creds k p s = some s' →
    Calls Tryd.prog 21 #[.pointer (some ⟨g, 0, none⟩), encPair p, .map (some bs), .map (some bh)] w fun e w' => e = .returned (.tuple #[]) ∧ Sets w0 w' bs bh s' ∧ Kept2 w w' bs bh
  | 0, w, p, s, s', hS, h => by rw [finGather] at h; cases h
  | k + 1, w, p, s, s', hS, h => by
    have IH := Lib.hid (finGather_calls g b D T hlen w0 hF bs bh hbs hbh hne k); rw [finGather] at h
    by_cases hc : okPair p ∧ s.1.length < 1000000 ∧ s.2.length < 1000000
    case neg => rw [if_neg hc] at h; cases h
    rw [if_pos hc] at h; obtain ⟨hp, hl1, hl2⟩ := hc; have HB := Lib.hid (And.intro hbs (And.intro hbh hne)); clear hbs hbh hne; unfold encPair; go_enter Tryd.func21, Tryd.ntmps21
    go_upto_region 1 with fail
    change Code.wp _ _ _ _ (w.alloc (pairObj p)); have HX := Qab (Below.refl w.heap.size w) (pairObj p); have BP := blk_new w (pairObj p); have SX := hS.step HX; have hbsw := hS.seen.lt; clear hS; have KX := Kept2.of_below HX bs bh
    generalize w.alloc (pairObj p) = X at HX BP SX KX ⊢
    have hkp : w.heap.size ≠ bs := by omega
    clear HX hbsw
    obtain ⟨kp, hkk⟩ : ∃ kp, kp = w.heap.size := ⟨_, rfl⟩
    rw [← hkk] at BP hkp ⊢; clear hkk; obtain ⟨p0, p1, p2⟩ := pairCells BP; have L1 := seen_look SX.seen (Below.refl _ _) hp
    by_cases hin : p ∈ s.1
    · rw [if_pos hin] at h
      obtain rfl := Option.some.inj h; rw [decide_eq_true hin] at L1; clear h hin; go_wp2
      (try simp only [Exit.inBlock, Exit.then])
      refine bodyPost_ret (results_none rfl _ _ _) rfl ?_; exact ⟨rfl, SX, KX⟩
    · rw [if_neg hin] at h
      rw [decide_eq_false hin] at L1; obtain ⟨rr, hrr, h⟩ := Option.bind_eq_some_iff.mp h
      by_cases hok : okID (byCred rr).f0 ∧ (byPairs rr).length ≤ 2
      case neg => rw [if_neg hok] at h; cases h
      rw [if_pos hok] at h
      have eput : putS s.1 p = s.1 ++ [p] := by unfold putS; rw [if_neg hin]
      obtain ⟨O, hu, hT'⟩ := SX.seen.store pairKey Tryd.underlying59 hp (.bool true) (by
        rw [setT_length]
        have : maxLen = 9223372036854775807 := by decide
        omega)
      rw [setT_put, eput] at hT'; have hu1 := hu X rfl; unfold encPair at hu1; obtain ⟨SV, KV, hsV⟩ := SX.saw HB.out.1 HB.out.2.2 (rfl : setBlock X bs O = _) (hT' X SX.seen.lt)
      have PV : (setBlock X bs O).heap[kp]? = some (pairObj p) := by
        refine Eq.trans ?_ BP; simp [setBlock, hkp.symm]
      have HH := Lib.hid h; have HOK := Lib.hid hok; have HL2 := Lib.hid hl2; have HP := Lib.hid hp; have HRR := Lib.hid hrr; have KVh := Lib.hid (KX.trans KV); have SVh := Lib.hid SV; have PVh := Lib.hid PV; clear h hok hl2 hrr KX KV SV PV hT' hu eput hin hl1 SX hsV
      go_upto_region 3 with fail
      change Code.wp _ _ _ _ (setBlock X bs O)
      generalize setBlock X bs O = V at KVh SVh PVh ⊢
      clear hu1 p0 p1 p2 L1 BP; have HFV := Lib.hid (hF.below SVh.out.below); have HLk := Lib.hid (fun W (h : Below V.heap.size V W) => HFV.out.look0 h HP.out)
      have HC := fun W (h : Below V.heap.size V W) => finBy_calls W g b D T p (rnd T p) rr (HFV.out.below h) hlen HRR.out
      unfold encPair at HC; have HC := Lib.hid HC; obtain ⟨p0, p1, p2⟩ := pairCells PVh.out; have s2 := HFV.out.cells.2.2; have HBP := Lib.hid PVh.out
      go_cut [8, 9] from 10 to 30 (fun v5 v6 wc => ∃ kc v, v5 = .pointer (some ⟨kc, 0, none⟩) ∧ v6 = v ∧ wc.heap[kc]? = some (credObj (byCred rr)) ∧ Kd.R kPair 50 wc V.heap.size (fun _ => True) v (byPairs rr) ∧ Below V.heap.size V wc)
      case first =>
        refine start_ (n := 17) (S := fun w' => w'.cell? ⟨kp, 0, none⟩ = some (.string p.f0.f0) ∧ w'.cell? ⟨kp, 1, none⟩ = some (.string p.f0.f1) ∧ w'.cell? ⟨kp, 2, none⟩ = some (.string p.f1) ∧ w'.cell? ⟨g, 2, none⟩ = some (.map (some b)) ∧ Below V.heap.size V w') (ds := []) #[ff,ff,ff,ff,ff,ff,ff,ff,ff,ff,ff,ff,ff,ff,ff,ff,ff] (by kernel_rfl) rfl rfl ⟨p0, p1, p2, s2, Qac (Below.refl _ _)⟩ (fun hHeld => ?_); clear p0 p1 p2 s2
        generalize V.drew = wd at hHeld ⊢
        refine pure_ (i := 0) (N := some 19) (v := ?_) (a' := ?_) #[tt,ff,ff,ff,ff,ff,ff,ff,ff,ff,ff,ff,ff,ff,ff,ff,ff] rfl rfl (by kernel_rfl) (fun _ _ _ h => h) (Or.inl ⟨by rfl, ?_⟩) ?_ ?_; rotate_left
        · intro w'
          go_simp; (with_reducible rfl)
        rotate_left
        · simp only [Act.put, put_]
          rfl
        refine take_ (i := 1) (N := some 20) (v := ?_) (a' := ?_) #[tt,tt,ff,ff,ff,ff,ff,ff,ff,ff,ff,ff,ff,ff,ff,ff,ff] rfl rfl (by kernel_rfl) (fun _ _ _ h => h) (Or.inl ⟨by rfl, ?_⟩) hHeld ?_ ?_; rotate_left
        · rintro w' ⟨s0, s1, s2, s3, sB⟩
          go_simp; (with_reducible rfl)
        rotate_left
        · simp only [Act.put, put_]
          rfl
        refine pure_ (i := 2) (N := some 21) (v := ?_) (a' := ?_) #[tt,tt,tt,ff,ff,ff,ff,ff,ff,ff,ff,ff,ff,ff,ff,ff,ff] rfl rfl (by kernel_rfl) (fun _ _ _ h => h) (Or.inl ⟨by rfl, ?_⟩) ?_ ?_; rotate_left
        · intro w'
          go_simp; (with_reducible rfl)
        rotate_left
        · simp only [Act.put, put_]
          rfl
        refine pure_ (i := 3) (N := some 22) (v := ?_) (a' := ?_) #[tt,tt,tt,tt,ff,ff,ff,ff,ff,ff,ff,ff,ff,ff,ff,ff,ff] rfl rfl (by kernel_rfl) (fun _ _ _ h => h) (Or.inl ⟨by rfl, ?_⟩) ?_ ?_; rotate_left
        · intro w'
          go_simp; (with_reducible rfl)
        rotate_left
        · simp only [Act.put, put_]
          rfl
        refine pure_ (i := 4) (N := some 23) (v := ?_) (a' := ?_) #[tt,tt,tt,tt,tt,ff,ff,ff,ff,ff,ff,ff,ff,ff,ff,ff,ff] rfl rfl (by kernel_rfl) (fun _ _ _ h => h) (Or.inl ⟨by rfl, ?_⟩) ?_ ?_; rotate_left
        · intro w'
          go_simp; (with_reducible rfl)
        rotate_left
        · simp only [Act.put, put_]
          rfl
        refine take_ (i := 5) (N := some 24) (v := ?_) (a' := ?_) #[tt,tt,tt,tt,tt,tt,ff,ff,ff,ff,ff,ff,ff,ff,ff,ff,ff] rfl rfl (by kernel_rfl) (fun _ _ _ h => h) (Or.inl ⟨by rfl, ?_⟩) hHeld ?_ ?_; rotate_left
        · rintro w' ⟨s0, s1, s2, s3, sB⟩
          go_simp; (with_reducible rfl)
        rotate_left
        · simp only [Act.put, put_]
          rfl
        refine take_ (i := 6) (N := some 25) (v := ?_) (a' := ?_) #[tt,tt,tt,tt,tt,tt,tt,ff,ff,ff,ff,ff,ff,ff,ff,ff,ff] rfl rfl (by kernel_rfl) (fun _ _ _ h => h) (Or.inl ⟨by rfl, ?_⟩) hHeld ?_ ?_; rotate_left
        · rintro w' ⟨s0, s1, s2, s3, sB⟩
          go_simp; (with_reducible rfl)
        rotate_left
        · simp only [Act.put, put_]
          rfl
        refine take_ (i := 7) (N := some 26) (v := ?_) (a' := ?_) #[tt,tt,tt,tt,tt,tt,tt,tt,ff,ff,ff,ff,ff,ff,ff,ff,ff] rfl rfl (by kernel_rfl) (fun _ _ _ h => h) (Or.inl ⟨by rfl, ?_⟩) hHeld ?_ ?_; rotate_left
        · rintro w' ⟨s0, s1, s2, s3, sB⟩
          have hl := HLk.out w' sB; go_simp; rfl
        rotate_left
        · simp only [Act.put, put_]
          rfl
        refine two_ (i := 8) (j := 13) (Ni := some 27) (Nj := some 8) #[tt,tt,tt,tt,tt,tt,tt,tt,tt,ff,ff,ff,ff,ff,ff,ff,ff] #[tt,tt,tt,tt,tt,tt,tt,tt,ff,ff,ff,ff,ff,tt,ff,ff,ff] rfl rfl rfl rfl (by kernel_rfl) (by decide) (by decide) (fun K hK => ?_) (fun K hK => ?_)
        · have hwd : V.heap.size ≤ wd.heap.size := hHeld.2.2.2.2.size
          refine goes_ Tryd.func25 (by kernel_rfl) rfl #[.pointer (some ⟨g, 0, none⟩), .agg #[.string p.f0.f0, .string p.f0.f1, .string p.f1], .int .i64 (rnd T p)] (by rfl) rfl rfl (by (try simp only [List.map_toArray, List.map_cons, List.map_nil]); first | done | rfl) ?_
          with_reducible refine (HC.out _ hHeld.2.2.2.2).mono ?_
          rintro e w5 ⟨v5, rfl, hR5, hB5⟩; have HV5 := Qaf hHeld.2.2.2.2 hB5; obtain ⟨p0, p1, p2⟩ := pairCells (Qae HBP.out HV5); have s2 := (HFV.out.below HV5).cells.2.2; unfold encCred; refine ⟨_, rfl, ?_⟩; refine hK.out _ _ ⟨p0, p1, p2, s2, HV5⟩ (fun hHeld => ?_); clear hK K; refine norm_ (a' := ?_) ?_ ?_; rotate_left
          · show Act.put _ (some 27) _ = _
            simp only [Act.put, put_]; rfl
          refine pure_ (i := 9) (N := some 18) (v := ?_) (a' := ?_) #[tt,tt,tt,tt,tt,tt,tt,tt,tt,tt,ff,ff,ff,ff,ff,ff,ff] rfl rfl (by kernel_rfl) (fun _ _ _ h => h) (Or.inl ⟨by rfl, ?_⟩) ?_ ?_; rotate_left
          · intro w'
            go_simp; (with_reducible rfl)
          rotate_left
          · simp only [Act.put, put_]
            rfl
          refine pure_ (i := 10) (N := some 28) (v := ?_) (a' := ?_) #[tt,tt,tt,tt,tt,tt,tt,tt,tt,tt,tt,ff,ff,ff,ff,ff,ff] rfl rfl (by kernel_rfl) (fun _ _ _ h => h) (Or.inl ⟨by rfl, ?_⟩) ?_ ?_; rotate_left
          · intro w'
            go_simp; (with_reducible rfl)
          rotate_left
          · simp only [Act.put, put_]
            rfl
          refine pure_ (i := 11) (N := some 29) (v := ?_) (a' := ?_) #[tt,tt,tt,tt,tt,tt,tt,tt,tt,tt,tt,tt,ff,ff,ff,ff,ff] rfl rfl (by kernel_rfl) (fun _ _ _ h => h) (Or.inl ⟨by rfl, ?_⟩) ?_ ?_; rotate_left
          · intro w'
            go_simp; (with_reducible rfl)
          rotate_left
          · simp only [Act.put, put_]
            rfl
          refine pure_ (i := 12) (N := some 30) (v := ?_) (a' := ?_) #[tt,tt,tt,tt,tt,tt,tt,tt,tt,tt,tt,tt,tt,ff,ff,ff,ff] rfl rfl (by kernel_rfl) (fun _ _ _ h => h) (Or.inl ⟨by rfl, ?_⟩) ?_ ?_; rotate_left
          · intro w'
            go_simp; (with_reducible rfl)
          rotate_left
          · simp only [Act.put, put_]
            rfl
          refine one_ (i := 13) (N := some 8) #[tt,tt,tt,tt,tt,tt,tt,tt,tt,tt,tt,tt,tt,tt,ff,ff,ff] rfl rfl (by kernel_rfl) (by decide) (fun K hK => ?_); refine value_ (w1 := ?_) (v := ?_) (by rfl) rfl ?_ ?_; rotate_left 2
          · go_simp
            constructor
            · rfl
            · rfl
          have HV6 := Qab HV5 (credObj zCred); refine hK.out _ _ ⟨cell_alloc p0 _, cell_alloc p1 _, cell_alloc p2 _, cell_alloc s2 _, HV6⟩ (fun hHeld => ?_); clear hK K; refine norm_ (a' := ?_) ?_ ?_; rotate_left
          · show Act.put _ (some 8) _ = _
            simp only [Act.put, put_]; rfl
          change wpAnyLast _ _ _ _ _ _ _ _ _ (w5.alloc (credObj zCred)); have BC := blk_new w5 (credObj zCred); have hkc : V.heap.size ≤ w5.heap.size := HV5.size; have RX := Kd.R_lower (R_storeNew hR5 (byCred rr)) hwd; clear hHeld
          generalize w5.alloc (credObj zCred) = Z at BC RX HV6 ⊢
          generalize w5.heap.size = kc at BC RX hkc ⊢
          obtain ⟨kc0, kc1, kc2, kc3, kc4, kc5, kc6, kc7, kc8⟩ := credCells BC; have kf0 := Qal BC 0; have kf1 := Qal BC 1; have kf2 := Qal BC 2; have kf3 := Qal BC 3; have kf4 := Qal BC 4; have kf5 := Qal BC 5; have kf6 := Qal BC 6; have kf7 := Qal BC 7; have kf8 := Qal BC 8; have HVs := credStore_below HV6 hkc (byCred rr); obtain ⟨p0, p1, p2⟩ := pairCells (Qae HBP.out HVs); have s2 := (HFV.out.below HVs).cells.2.2; refine one_ (i := 14) (N := none) #[tt,tt,tt,tt,tt,tt,tt,tt,tt,tt,tt,tt,tt,tt,tt,ff,ff] rfl rfl (by kernel_rfl) (by decide) (fun K hK => ?_); refine skip_ (w1 := credStore Z kc (byCred rr)) (by rfl) rfl ?_ ?_
          · go_simp
            try rfl
          refine hK.out _ _ ⟨p0, p1, p2, s2, HVs⟩ (fun hHeld => ?_); clear hK K; refine pure_ (i := 15) (N := some 9) (v := ?_) (a' := ?_) #[tt,tt,tt,tt,tt,tt,tt,tt,tt,tt,tt,tt,tt,tt,tt,tt,ff] rfl rfl (by kernel_rfl) (fun _ _ _ h => h) (Or.inl ⟨by rfl, ?_⟩) ?_ ?_; rotate_left
          · intro w'
            go_simp; (with_reducible rfl)
          rotate_left
          · simp only [Act.put, put_]
            rfl
          refine pure_ (i := 16) (N := some 10) (v := ?_) (a' := ?_) #[tt,tt,tt,tt,tt,tt,tt,tt,tt,tt,tt,tt,tt,tt,tt,tt,tt] rfl rfl (by kernel_rfl) (fun _ _ _ h => h) (Or.inl ⟨by rfl, ?_⟩) ?_ ?_; rotate_left
          · intro w'
            go_simp; (with_reducible rfl)
          rotate_left
          · simp only [Act.put, put_]
            rfl
          refine done_ (by kernel_rfl) ?_; have BS := credStore_blk BC (byCred rr)
          go_wp2_with fail
          go_meet
          case rel => exact ⟨kc, _, rfl, rfl, BS, RX, HVs⟩
        · refine value_ (w1 := ?_) (v := ?_) (by rfl) rfl ?_ ?_
          rotate_left 2
          · go_simp
            constructor
            · rfl
            · rfl
          have HV4 := Qab hHeld.2.2.2.2 (credObj zCred); have BC4 := blk_new wd (credObj zCred); have hkc : V.heap.size ≤ wd.heap.size := hHeld.2.2.2.2.size; refine hK.out _ _ ⟨cell_alloc hHeld.1 _, cell_alloc hHeld.2.1 _, cell_alloc hHeld.2.2.1 _, cell_alloc hHeld.2.2.2.1 _, HV4⟩ (fun hHeld => ?_); clear hK K; refine norm_ (a' := ?_) ?_ ?_; rotate_left
          · show Act.put _ (some 8) _ = _
            simp only [Act.put, put_]; rfl
          change wpAnyLast _ _ _ _ _ _ _ _ _ (wd.alloc (credObj zCred)); refine one_ (i := 8) (N := some 27) #[tt,tt,tt,tt,tt,tt,tt,tt,tt,ff,ff,ff,ff,tt,ff,ff,ff] rfl rfl (by kernel_rfl) (by decide) (fun K hK => ?_); refine goes_ Tryd.func25 (by kernel_rfl) rfl #[.pointer (some ⟨g, 0, none⟩), .agg #[.string p.f0.f0, .string p.f0.f1, .string p.f1], .int .i64 (rnd T p)] (by rfl) rfl rfl (by (try simp only [List.map_toArray, List.map_cons, List.map_nil]); first | done | rfl) ?_
          with_reducible refine (HC.out _ HV4).mono ?_
          rintro e w5 ⟨v5, rfl, hR5, hB5⟩; have HV5 := Qaf HV4 hB5; obtain ⟨p0, p1, p2⟩ := pairCells (Qae HBP.out HV5); have s2 := (HFV.out.below HV5).cells.2.2; have BC := Qae BC4 hB5; unfold encCred; refine ⟨_, rfl, ?_⟩; refine hK.out _ _ ⟨p0, p1, p2, s2, HV5⟩ (fun hHeld => ?_); clear hK K; refine norm_ (a' := ?_) ?_ ?_; rotate_left
          · show Act.put _ (some 27) _ = _
            simp only [Act.put, put_]; rfl
          refine pure_ (i := 9) (N := some 18) (v := ?_) (a' := ?_) #[tt,tt,tt,tt,tt,tt,tt,tt,tt,tt,ff,ff,ff,tt,ff,ff,ff] rfl rfl (by kernel_rfl) (fun _ _ _ h => h) (Or.inl ⟨by rfl, ?_⟩) ?_ ?_; rotate_left
          · intro w'
            go_simp; (with_reducible rfl)
          rotate_left
          · simp only [Act.put, put_]
            rfl
          refine pure_ (i := 10) (N := some 28) (v := ?_) (a' := ?_) #[tt,tt,tt,tt,tt,tt,tt,tt,tt,tt,tt,ff,ff,tt,ff,ff,ff] rfl rfl (by kernel_rfl) (fun _ _ _ h => h) (Or.inl ⟨by rfl, ?_⟩) ?_ ?_; rotate_left
          · intro w'
            go_simp; (with_reducible rfl)
          rotate_left
          · simp only [Act.put, put_]
            rfl
          refine pure_ (i := 11) (N := some 29) (v := ?_) (a' := ?_) #[tt,tt,tt,tt,tt,tt,tt,tt,tt,tt,tt,tt,ff,tt,ff,ff,ff] rfl rfl (by kernel_rfl) (fun _ _ _ h => h) (Or.inl ⟨by rfl, ?_⟩) ?_ ?_; rotate_left
          · intro w'
            go_simp; (with_reducible rfl)
          rotate_left
          · simp only [Act.put, put_]
            rfl
          refine pure_ (i := 12) (N := some 30) (v := ?_) (a' := ?_) #[tt,tt,tt,tt,tt,tt,tt,tt,tt,tt,tt,tt,tt,tt,ff,ff,ff] rfl rfl (by kernel_rfl) (fun _ _ _ h => h) (Or.inl ⟨by rfl, ?_⟩) ?_ ?_; rotate_left
          · intro w'
            go_simp; (with_reducible rfl)
          rotate_left
          · simp only [Act.put, put_]
            rfl
          have RX := R_credStore hR5 (show wd.heap.size < (wd.alloc (credObj zCred)).heap.size by simp) (byCred rr); replace RX := Kd.R_lower RX HV4.size; have HV6 := Qaf HV4 hB5; clear hHeld p0 p1 p2 s2 HV4 BC4 hR5
          generalize w5 = Z at BC RX HV6 ⊢
          generalize wd.heap.size = kc at BC RX hkc ⊢
          obtain ⟨kc0, kc1, kc2, kc3, kc4, kc5, kc6, kc7, kc8⟩ := credCells BC; have kf0 := Qal BC 0; have kf1 := Qal BC 1; have kf2 := Qal BC 2; have kf3 := Qal BC 3; have kf4 := Qal BC 4; have kf5 := Qal BC 5; have kf6 := Qal BC 6; have kf7 := Qal BC 7; have kf8 := Qal BC 8; have HVs := credStore_below HV6 hkc (byCred rr); obtain ⟨p0, p1, p2⟩ := pairCells (Qae HBP.out HVs); have s2 := (HFV.out.below HVs).cells.2.2; refine one_ (i := 14) (N := none) #[tt,tt,tt,tt,tt,tt,tt,tt,tt,tt,tt,tt,tt,tt,tt,ff,ff] rfl rfl (by kernel_rfl) (by decide) (fun K hK => ?_); refine skip_ (w1 := credStore Z kc (byCred rr)) (by rfl) rfl ?_ ?_
          · go_simp
            try rfl
          refine hK.out _ _ ⟨p0, p1, p2, s2, HVs⟩ (fun hHeld => ?_); clear hK K; refine pure_ (i := 15) (N := some 9) (v := ?_) (a' := ?_) #[tt,tt,tt,tt,tt,tt,tt,tt,tt,tt,tt,tt,tt,tt,tt,tt,ff] rfl rfl (by kernel_rfl) (fun _ _ _ h => h) (Or.inl ⟨by rfl, ?_⟩) ?_ ?_; rotate_left
          · intro w'
            go_simp; (with_reducible rfl)
          rotate_left
          · simp only [Act.put, put_]
            rfl
          refine pure_ (i := 16) (N := some 10) (v := ?_) (a' := ?_) #[tt,tt,tt,tt,tt,tt,tt,tt,tt,tt,tt,tt,tt,tt,tt,tt,tt] rfl rfl (by kernel_rfl) (fun _ _ _ h => h) (Or.inl ⟨by rfl, ?_⟩) ?_ ?_; rotate_left
          · intro w'
            go_simp; (with_reducible rfl)
          rotate_left
          · simp only [Act.put, put_]
            rfl
          refine done_ (by kernel_rfl) ?_; have BS := credStore_blk BC (byCred rr)
          go_wp2_with fail
          go_meet
          case rel => exact ⟨kc, _, rfl, rfl, BS, RX, HVs⟩
      case rest =>
        obtain ⟨kc, v6, rfl, rfl, BC, HR6, HVc⟩ := hcut
        obtain ⟨qs, hqs⟩ : ∃ qs, qs = byPairs rr := ⟨_, rfl⟩
        rw [← hqs] at HH HOK HR6; have SC := SVh.out.step HVc; have KC := KVh.out.trans (Kept2.of_below HVc bs bh); obtain ⟨c0, c1, c2, c3, c4, c5, c6, c7, c8⟩ := credCells BC
        obtain ⟨O, hu, hT'⟩ := SC.had.store idKey Tryd.underlying60 HOK.out.1 (.bool true) (by
          rw [setT_length]
          have : maxLen = 9223372036854775807 := by decide
          have := HL2.out
          dsimp only
          omega)
        rw [setT_put] at hT'; have hu1 := hu wc rfl; unfold encID at hu1; obtain ⟨SD, KD, hsD⟩ := SC.has HB.out.2.1 HB.out.2.2 (rfl : setBlock wc bh O = _) (hT' wc SC.had.lt); have RD := R_kept2 HR6 SC KD; obtain ⟨A6, cc6, rfl⟩ := Kd.R_slice HR6; have HRD := Lib.hid RD; have HKD := Lib.hid (KC.trans KD); have HSD := Lib.hid SD; clear hT' hu RD KC KD SD SC hsD HR6 HLk HC SVh KVh HBP PVh HFV HRR HL2 BC hqs HVc
        go_upto_region 5 with fail
        change Code.wp _ _ _ _ (setBlock wc bh O)
        generalize setBlock wc bh O = X1 at HRD HKD HSD ⊢
        clear hu1 c0 c1 c2 c3 c4 c5 c6 c7 c8; go_wp2
        go_loopg [36] (qs.length + 1) (fun kq v36 w' => ∃ (j : Nat) (sj : Hads), v36 = .int .i64 j ∧ Hid (kq = qs.length + 1 - j) ∧ Hid (j ≤ qs.length) ∧ Hid (gatherQ (finGather T D.creds k) (qs.drop j) sj = some s') ∧ Hid (Kd.R kPair 50 w' V.heap.size (fun _ => True) (.slice A6 qs.length cc6) qs) ∧ Hid (Sets w0 w' bs bh sj) ∧ Hid (Kept2 w w' bs bh))
        case atStart => exact ⟨0, _, rfl, Lib.hid rfl, Lib.hid (Nat.zero_le _), HH, HRD, HSD, HKD⟩
        case round =>
          clear HH HRD HSD HKD; obtain ⟨j, sj, rfl, HKq, HJ, HH, HR, HS, HK⟩ := hrel
          by_cases hj : j < qs.length
          · have d1 : decide ((j : Int) < (qs.length : Int)) = true := decide_eq_true (by omega)
            have d2 : decide (j < qs.length) = true := decide_eq_true hj; obtain ⟨ad, e, hx0, hx1, hx2⟩ := at_T50 (Kd.R_reads' HR.out).2.2 (j : Int) (by omega) (by omega); obtain rfl := e
            obtain ⟨x, hx⟩ : ∃ x, x = qs[j] := ⟨_, rfl⟩
            have erd : rd_T50 qs (j : Int) = x := by
              unfold rd_T50; rw [hx, Int.toNat_natCast, List.getD_eq_getElem?_getD, List.getElem?_eq_getElem hj]; rfl
            rw [erd, Int.toNat_natCast] at hx0 hx1 hx2; have p101 : (0 ≤ (j : Int)) = True := eq_true (by omega); have q101 : ((j : Int) < (qs.length : Int)) = True := eq_true (by omega); have hH := HH.out; rw [List.drop_eq_getElem_cons hj, ← hx, gatherQ] at hH; obtain ⟨s1, hs1, hH⟩ := Option.bind_eq_some_iff.mp hH; have HH := Lib.hid hH; have HJl := Lib.hid hj
            have wrapJ : wrap64 ((j : Int) + 1) = ((j + 1 : Nat) : Int) := by unfold wrap64; have := HOK.out.2; omega
            have HC := fun W (h : Sets w0 W bs bh sj) => IH.out W x sj s1 h hs1
            unfold encPair at HC; have HC := Lib.hid HC; clear hx erd hj hH hs1
            go_upto_region 8 with fail
            change Code.wp _ _ _ _ (wr.alloc (pairObj x)); have HYr := Qab (Below.refl wr.heap.size wr) (pairObj x); have BY := blk_new wr (pairObj x); have RY := Lib.hid (Kd.R_alloc HR.out (pairObj x)); have SY := Lib.hid (HS.out.step HYr); have KY := Lib.hid (HK.out.trans (Kept2.of_below HYr bs bh)); clear HYr hx0 hx1 hx2 HR HS HK
            generalize wr.alloc (pairObj x) = Y at BY RY SY KY ⊢
            generalize wr.heap.size = kx at BY ⊢
            obtain ⟨x0, x1, x2⟩ := pairCells BY; clear BY
            go_wp2_with (go_at_call 21; refine (HC.out _ SY.out).mono ?_; rintro e w5 ⟨rfl, hS5, hK5⟩; have HS5 := Lib.hid hS5; have HR5 := Lib.hid (R_kept2 RY.out SY.out hK5); have HK5 := Lib.hid (KY.out.trans hK5); clear hS5 hK5)
            go_roundg (qs.length + 1 - (j + 1))
            case measure => have := HKq.out; have := HJl.out; omega
            case rel => exact ⟨j + 1, s1, by first | rfl | exact congrArg _ wrapJ, Lib.hid rfl, Lib.hid HJl.out, HH, HR5, HS5, HK5⟩
          · have d1 : decide ((j : Int) < (qs.length : Int)) = false := decide_eq_false (by omega)
            have d2 : decide (j < qs.length) = false := decide_eq_false hj; have hH := HH.out; rw [List.drop_eq_nil_of_le (by omega), gatherQ] at hH; obtain rfl := Option.some.inj hH; clear hH HH hj; go_wp2; go_end0; exact ⟨rfl, HS.out, HK.out⟩
set_option maxRecDepth 100000 in
set_option maxHeartbeats 4000000 in
theorem round_walk (w : World) (A0 : Option Addr) (c0 : Nat) (l : List Cred) (who a b : ByteArray) (x : List Cred × List Pair × List (Pair × Int)) (hr0 : Kd.C kCred w A0 l.length l) (hc0 : l.length ≤ c0) (hx : foundF l = some x) (hp : okPair ⟨⟨a, b⟩, who⟩) :
    Calls Tryd.prog 9 #[.slice A0 l.length c0, .string who, .agg #[.string a, .string b]] w fun e w' => e = .returned (.int .i64 (rnd x.2.2 ⟨⟨a, b⟩, who⟩)) ∧ Below w.heap.size w w' := by
  have HF := Lib.hid (fun W (h : Below w.heap.size w W) => found_calls W A0 c0 l x (Kd.C_below hr0 h) hc0 hx); clear hr0 hc0 hx; go_enter Tryd.func9, Tryd.ntmps9
  go_upto_region 1 with fail
  change Code.wp _ _ _ _ (w.alloc (roleObj2 ⟨a, b⟩)); have HX := Qab (Below.refl w.heap.size w) (roleObj2 ⟨a, b⟩); have BR := blk_new w (roleObj2 ⟨a, b⟩)
  generalize w.alloc (roleObj2 ⟨a, b⟩) = X at HX BR ⊢
  obtain ⟨kr, hkr⟩ : ∃ kr, kr = w.heap.size := ⟨_, rfl⟩
  rw [← hkr] at BR ⊢; have r0 : X.cell? ⟨kr, 0, none⟩ = some (.string a) := (Qai BR 0).trans rfl; have r1 : X.cell? ⟨kr, 1, none⟩ = some (.string b) := (Qai BR 1).trans rfl; have HBX := Lib.hid (Qac HX); have HBR := Lib.hid (Qak BR); clear HX BR hkr; refine start_ (n := 10) (S := fun w' => w'.cell? ⟨kr, 0, none⟩ = some (.string a) ∧ w'.cell? ⟨kr, 1, none⟩ = some (.string b)) (ds := []) #[ff,ff,ff,ff,ff,ff,ff,ff,ff,ff] (by kernel_rfl) rfl rfl ⟨r0, r1⟩ (fun hHeld => ?_); clear r0 r1
  generalize X.drew = wd at hHeld HBX HBR ⊢
  refine pure_ (i := 0) (N := some 7) (v := ?_) (a' := ?_) #[tt,ff,ff,ff,ff,ff,ff,ff,ff,ff] rfl rfl (by kernel_rfl) (fun _ _ _ h => h) (Or.inl ⟨by rfl, ?_⟩) ?_ ?_; rotate_left
  · intro w'
    go_simp; (with_reducible rfl)
  rotate_left
  · simp only [Act.put, put_]
    rfl
  refine take_ (i := 5) (N := some 12) (v := ?_) (a' := ?_) #[tt,ff,ff,ff,ff,tt,ff,ff,ff,ff] rfl rfl (by kernel_rfl) (fun _ _ _ h => h) (Or.inl ⟨by rfl, ?_⟩) hHeld ?_ ?_; rotate_left
  · rintro w' ⟨s0, s1⟩
    go_simp; (with_reducible rfl)
  rotate_left
  · simp only [Act.put, put_]
    rfl
  refine pure_ (i := 6) (N := some 13) (v := ?_) (a' := ?_) #[tt,ff,ff,ff,ff,tt,tt,ff,ff,ff] rfl rfl (by kernel_rfl) (fun _ _ _ h => h) (Or.inl ⟨by rfl, ?_⟩) ?_ ?_; rotate_left
  · intro w'
    go_simp; (with_reducible rfl)
  rotate_left
  · simp only [Act.put, put_]
    rfl
  refine pure_ (i := 7) (N := some 14) (v := ?_) (a' := ?_) #[tt,ff,ff,ff,ff,tt,tt,tt,ff,ff] rfl rfl (by kernel_rfl) (fun _ _ _ h => h) (Or.inl ⟨by rfl, ?_⟩) ?_ ?_; rotate_left
  · intro w'
    go_simp; (with_reducible rfl)
  rotate_left
  · simp only [Act.put, put_]
    rfl
  refine one_ (i := 1) (N := some 8) #[tt,tt,ff,ff,ff,tt,tt,tt,ff,ff] rfl rfl (by kernel_rfl) (by decide) (fun K hK => ?_); refine goes_ Tryd.func14 (by kernel_rfl) rfl #[.slice A0 l.length c0] (by rfl) rfl rfl (by (try simp only [List.map_toArray, List.map_cons, List.map_nil]); first | done | rfl) ?_
  with_reducible refine (HF.out _ HBX.out).mono ?_
  rintro e w5 ⟨g, bb, D, rfl, hR5, hcr, hpr, hl5, hB5⟩; have BR5 := Qae HBR.out hB5; have HB5 := Qaf HBX.out hB5; have s2 := hR5.at.cells.2.2; have L := hR5.at.look0 (Below.refl _ _) hp; refine ⟨_, rfl, ?_⟩; refine hK.out _ _ ⟨(Qai BR5 0).trans rfl, (Qai BR5 1).trans rfl⟩ (fun hHeld => ?_); clear hK K; refine norm_ (a' := ?_) ?_ ?_; rotate_left
  · show Act.put _ (some 8) _ = _
    simp only [Act.put, put_]; rfl
  refine pure_ (i := 2) (N := some 9) (v := ?_) (a' := ?_) #[tt,tt,tt,ff,ff,tt,tt,tt,ff,ff] rfl rfl (by kernel_rfl) (fun _ _ _ h => h) (Or.inl ⟨by rfl, ?_⟩) ?_ ?_; rotate_left
  · intro w'
    go_simp; (with_reducible rfl)
  rotate_left
  · simp only [Act.put, put_]
    rfl
  refine pure_ (i := 3) (N := some 10) (v := ?_) (a' := ?_) #[tt,tt,tt,tt,ff,tt,tt,tt,ff,ff] rfl rfl (by kernel_rfl) (fun _ _ _ h => h) (Or.inl ⟨by rfl, ?_⟩) ?_ ?_; rotate_left
  · intro w'
    go_simp; (with_reducible rfl)
  rotate_left
  · simp only [Act.put, put_]
    rfl
  refine one_ (i := 4) (N := some 11) #[tt,tt,tt,tt,tt,tt,tt,tt,ff,ff] rfl rfl (by kernel_rfl) (by decide) (fun K hK => ?_); refine value_ (w1 := w5) (v := .map (some bb)) (by rfl) rfl ?_ ?_
  · go_simp
    try rfl
  refine hK.out _ _ hHeld (fun hHeld => ?_); clear hK K; refine norm_ (a' := ?_) ?_ ?_; rotate_left
  · show Act.put _ (some 11) _ = _
    simp only [Act.put, put_]; rfl
  refine one_ (i := 8) (N := some 15) #[tt,tt,tt,tt,tt,tt,tt,tt,tt,ff] rfl rfl (by kernel_rfl) (by decide) (fun K hK => ?_); refine value_ (w1 := w5) (v := .int .i64 (rnd x.2.2 ⟨⟨a, b⟩, who⟩)) (by rfl) rfl ?_ ?_
  · go_simp
    try rfl
  refine hK.out _ _ hHeld (fun hHeld => ?_); clear hK K; refine norm_ (a' := ?_) ?_ ?_; rotate_left
  · show Act.put _ (some 15) _ = _
    simp only [Act.put, put_]; rfl
  refine pure_ (i := 9) (N := some 6) (v := ?_) (a' := ?_) #[tt,tt,tt,tt,tt,tt,tt,tt,tt,tt] rfl rfl (by kernel_rfl) (fun _ _ _ h => h) (Or.inl ⟨by rfl, ?_⟩) ?_ ?_; rotate_left
  · intro w'
    go_simp; (with_reducible rfl)
  rotate_left
  · simp only [Act.put, put_]
    rfl
  refine done_ (by kernel_rfl) ?_
  go_wp2_with fail
  go_ret; exact ⟨rfl, HB5⟩
theorem pairStore_blk {W : World} {k : Nat} {z : Pair} (h : W.heap[k]? = some (pairObj z)) (a b c : ByteArray) : (((W.setCell ⟨k, 0, none⟩ (.string a)).setCell ⟨k, 1, none⟩ (.string b)).setCell ⟨k, 2, none⟩ (.string c)).heap[k]? = some (pairObj ⟨⟨a, b⟩, c⟩) := by
  have h0 := blk_put (cs' := #[.string a, .string z.f0.f1, .string z.f1]) h 0 (.string a) (by simp); have h1 := blk_put (cs' := #[.string a, .string b, .string z.f1]) h0 1 (.string b) (by simp); exact blk_put (cs' := #[.string a, .string b, .string c]) h1 2 (.string c) (by simp)
theorem pairStore_below {w W : World} {B k : Nat} (h : Below B w W) (hk : B ≤ k) (a b c : ByteArray) : Below B w (((W.setCell ⟨k, 0, none⟩ (.string a)).setCell ⟨k, 1, none⟩ (.string b)).setCell ⟨k, 2, none⟩ (.string c)) := ((h.setCell hk _).setCell hk _).setCell hk _
theorem pairStore_other {W : World} {k i : Nat} (a b c : ByteArray) (h : i ≠ k) : (((W.setCell ⟨k, 0, none⟩ (.string a)).setCell ⟨k, 1, none⟩ (.string b)).setCell ⟨k, 2, none⟩ (.string c)).heap[i]? = W.heap[i]? := by
  rw [Below.heap_setCell _ _ _ i h, Below.heap_setCell _ _ _ i h, Below.heap_setCell _ _ _ i h]
theorem FinR.store {w Y : World} {B g b kp : Nat} {D : FinD} {T : List (Pair × Int)} {z : Pair} (h : FinR w B g b D T) (hk : kp < B) (hz : w.heap[kp]? = some (pairObj z)) (hm : ∀ i, i ≠ kp → Y.heap[i]? = w.heap[i]?) : FinAt Y g b D T := by
  have hg : g ≠ kp := fun e => by
    have := h.blk; rw [e, hz] at this; have := Option.some.inj this
    injection this with _ h2 _
    exact absurd h2 (by decide)
  have hb : b ≠ kp := fun e => by
    obtain ⟨es, clock, hb, _⟩ := h.tbl; rw [e, hz] at hb; cases hb
  have hc := Kd.R_move (Kd.R_bound h.cr) (fun k hk' => hm k (by have := hk'.2.1; omega)); have hp := Kd.R_move (Kd.R_bound h.pr) (fun k hk' => hm k (by have := hk'.2.1; omega)); exact ⟨(hm g hg).trans h.blk, (Kd.R_reads' hc).2.2, (Kd.R_reads' hc).2.1, (Kd.R_reads' hp).2.2, (Kd.R_reads' hp).2.1, h.tbl.same (hm b hb)⟩
abbrev kzPair : Pair := ⟨⟨⟨#[]⟩, ⟨#[]⟩⟩, ⟨#[]⟩⟩
set_option maxRecDepth 100000 in
set_option maxHeartbeats 4000000 in
theorem find_walk (w : World) (A0 : Option Addr) (c0 : Nat) (l : List Cred) (who a b : ByteArray) (x : List Cred × List Pair × List (Pair × Int)) (hr0 : Kd.C kCred w A0 l.length l) (hc0 : l.length ≤ c0) (hx : foundF l = some x) (hp : okPair ⟨⟨a, b⟩, who⟩) (r : Proof) (n : Int)
    (h : (rnd x.2.2 ⟨⟨a, b⟩, who⟩ = 0 ∧ r = ⟨⟨⟨#[]⟩, ⟨#[]⟩⟩, ⟨#[]⟩, ⟨0, 0⟩, []⟩ ∧ n = 16) ∨ (rnd x.2.2 ⟨⟨a, b⟩, who⟩ ≠ 0 ∧ finProof x.2.2 x.1 1000 ⟨⟨a, b⟩, who⟩ = some r ∧ n = 0)) :
    Calls Tryd.prog 8 #[.slice A0 l.length c0, .string who, .agg #[.string a, .string b]] w fun e w' => ∃ v, e = .returned (.tuple #[.agg #[.string r.f0.f0, .string r.f0.f1, .string r.f1, .int .i64 r.f2.f0, .int .i64 r.f2.f1, v], .int .i64 n]) ∧ Kd.R kProof 29 w' w.heap.size (fun _ => True) v r.f3 ∧ Below w.heap.size w w' := by
  have HF := Lib.hid (fun W (h : Below w.heap.size w W) => found_calls W A0 c0 l x (Kd.C_below hr0 h) hc0 hx); clear hr0 hc0 hx; have HH := Lib.hid h; clear h; go_enter Tryd.func8, Tryd.ntmps8
  go_upto_region 1 with fail
  change Code.wp _ _ _ _ ((w.alloc (roleObj2 ⟨a, b⟩)).alloc zProofObj)
  generalize hW : (w.alloc (roleObj2 ⟨a, b⟩)).alloc zProofObj = V
  obtain ⟨HV, BR, BZ, hsz⟩ := boxed2 hW
  obtain ⟨kr, hkr⟩ : ∃ kr, kr = w.heap.size := ⟨_, rfl⟩
  obtain ⟨kz, hkz⟩ : ∃ kz, kz = w.heap.size + 1 := ⟨_, rfl⟩
  have HZ := Lib.hid (show w.heap.size ≤ kz ∧ kz < V.heap.size from ⟨by omega, by omega⟩); rw [← hkz] at BZ ⊢; rw [← hkr] at BR ⊢; have r0 : V.cell? ⟨kr, 0, none⟩ = some (.string a) := (Qai BR 0).trans rfl; have r1 : V.cell? ⟨kr, 1, none⟩ = some (.string b) := (Qai BR 1).trans rfl; have HBV := Lib.hid HV; have HBR := Lib.hid BR; have HBZ := Lib.hid BZ; clear HV BR BZ hsz hW hkr hkz
  go_cut [8, 9] from 10 to 14 (fun v8 v9 wc => ∃ g bb D kp, v8 = .pointer (some ⟨g, 0, none⟩) ∧ v9 = .pointer (some ⟨kp, 0, none⟩) ∧ FinAt wc g bb D x.2.2 ∧ D.creds = x.1 ∧ D.creds.length ≤ 1000000 ∧ wc.heap[kp]? = some (pairObj ⟨⟨a, b⟩, who⟩) ∧ Below V.heap.size V wc)
  case first =>
    refine start_ (n := 8) (S := fun w' => w'.cell? ⟨kr, 0, none⟩ = some (.string a) ∧ w'.cell? ⟨kr, 1, none⟩ = some (.string b)) (ds := []) #[ff,ff,ff,ff,ff,ff,ff,ff] (by kernel_rfl) rfl rfl ⟨r0, r1⟩ (fun hHeld => ?_); clear r0 r1; have HVd := Lib.hid (Qac (Below.refl V.heap.size V)); have HBRd := Lib.hid (Qak HBR.out); have HBVd := Lib.hid (Qac HBV.out)
    generalize V.drew = wd at hHeld HVd HBRd HBVd ⊢
    refine pure_ (i := 0) (N := some 10) (v := ?_) (a' := ?_) #[tt,ff,ff,ff,ff,ff,ff,ff] rfl rfl (by kernel_rfl) (fun _ _ _ h => h) (Or.inl ⟨by rfl, ?_⟩) ?_ ?_; rotate_left
    · intro w'
      go_simp; (with_reducible rfl)
    rotate_left
    · simp only [Act.put, put_]
      rfl
    refine take_ (i := 2) (N := some 12) (v := ?_) (a' := ?_) #[tt,ff,tt,ff,ff,ff,ff,ff] rfl rfl (by kernel_rfl) (fun _ _ _ h => h) (Or.inl ⟨by rfl, ?_⟩) hHeld ?_ ?_; rotate_left
    · rintro w' ⟨s0, s1⟩
      go_simp; (with_reducible rfl)
    rotate_left
    · simp only [Act.put, put_]
      rfl
    refine pure_ (i := 3) (N := some 13) (v := ?_) (a' := ?_) #[tt,ff,tt,tt,ff,ff,ff,ff] rfl rfl (by kernel_rfl) (fun _ _ _ h => h) (Or.inl ⟨by rfl, ?_⟩) ?_ ?_; rotate_left
    · intro w'
      go_simp; (with_reducible rfl)
    rotate_left
    · simp only [Act.put, put_]
      rfl
    refine pure_ (i := 4) (N := some 14) (v := ?_) (a' := ?_) #[tt,ff,tt,tt,tt,ff,ff,ff] rfl rfl (by kernel_rfl) (fun _ _ _ h => h) (Or.inl ⟨by rfl, ?_⟩) ?_ ?_; rotate_left
    · intro w'
      go_simp; (with_reducible rfl)
    rotate_left
    · simp only [Act.put, put_]
      rfl
    refine two_ (i := 1) (j := 5) (Ni := some 11) (Nj := some 9) #[tt,tt,tt,tt,tt,ff,ff,ff] #[tt,ff,tt,tt,tt,tt,ff,ff] rfl rfl rfl rfl (by kernel_rfl) (by decide) (by decide) (fun K hK => ?_) (fun K hK => ?_)
    · refine goes_ Tryd.func14 (by kernel_rfl) rfl #[.slice A0 l.length c0] (by rfl) rfl rfl (by (try simp only [List.map_toArray, List.map_cons, List.map_nil]); first | done | rfl) ?_
      with_reducible refine (HF.out _ HBVd.out).mono ?_
      rintro e w5 ⟨g, bb, D, rfl, hR5, hcr, hpr, hl5, hB5⟩; have BR5 := Qae HBRd.out hB5; have HV5 := Qaf HVd.out hB5; refine ⟨_, rfl, ?_⟩; refine hK.out _ _ ⟨(Qai BR5 0).trans rfl, (Qai BR5 1).trans rfl⟩ (fun hHeld => ?_); clear hK K; refine norm_ (a' := ?_) ?_ ?_; rotate_left
      · show Act.put _ (some 11) _ = _
        simp only [Act.put, put_]; rfl
      refine one_ (i := 5) (N := some 9) #[tt,tt,tt,tt,tt,tt,ff,ff] rfl rfl (by kernel_rfl) (by decide) (fun K hK => ?_); refine value_ (w1 := ?_) (v := ?_) (by rfl) rfl ?_ ?_; rotate_left 2
      · go_simp
        constructor
        · rfl
        · rfl
      refine hK.out _ _ ⟨cell_alloc hHeld.1 _, cell_alloc hHeld.2 _⟩ (fun hHeld => ?_); clear hK K; refine norm_ (a' := ?_) ?_ ?_; rotate_left
      · show Act.put _ (some 9) _ = _
        simp only [Act.put, put_]; rfl
      change wpAnyLast _ _ _ _ _ _ _ _ _ (w5.alloc (pairObj kzPair)); have hkv : V.heap.size ≤ w5.heap.size := HV5.size; have BP := blk_new w5 (pairObj kzPair); have HV6 := Qab HV5 (pairObj kzPair)
      have HFA := fun W hb => (hR5.at.below (W := W) hb)
      have HFS : FinAt (((( w5.alloc (pairObj kzPair)).setCell ⟨w5.heap.size, 0, none⟩ (.string a)).setCell ⟨w5.heap.size, 1, none⟩ (.string b)).setCell ⟨w5.heap.size, 2, none⟩ (.string who)) g bb D x.2.2 := hR5.at.below (pairStore_below (Qab (Below.refl _ _) _) (Nat.le_refl _) a b who); clear HFA
      generalize w5.alloc (pairObj kzPair) = Z at BP HV6 HFS hHeld ⊢
      generalize w5.heap.size = kp at BP HFS hkv ⊢
      obtain ⟨q0, q1, q2⟩ := pairCells BP; have qf0 := Qal BP 0; have qf1 := Qal BP 1; have qf2 := Qal BP 2; have HVs := pairStore_below HV6 hkv a b who; have BRs := Qae HBR.out HVs; refine pure_ (i := 6) (N := some 8) (v := ?_) (a' := ?_) #[tt,tt,tt,tt,tt,tt,tt,ff] rfl rfl (by kernel_rfl) (fun _ _ _ h => h) (Or.inl ⟨by rfl, ?_⟩) ?_ ?_; rotate_left
      · intro w'
        go_simp; (with_reducible rfl)
      rotate_left
      · simp only [Act.put, put_]
        rfl
      refine one_ (i := 7) (N := none) #[tt,tt,tt,tt,tt,tt,tt,tt] rfl rfl (by kernel_rfl) (by decide) (fun K hK => ?_); refine skip_ (w1 := (((Z.setCell ⟨kp, 0, none⟩ (.string a)).setCell ⟨kp, 1, none⟩ (.string b)).setCell ⟨kp, 2, none⟩ (.string who))) (by rfl) rfl ?_ ?_
      · go_simp
        try rfl
      refine hK.out _ _ ⟨(Qai BRs 0).trans rfl, (Qai BRs 1).trans rfl⟩ (fun hHeld => ?_); clear hK K; refine done_ (by kernel_rfl) ?_; have BPs := pairStore_blk BP a b who
      go_wp2_with fail
      go_meet
      case rel => exact ⟨g, bb, D, kp, rfl, rfl, HFS, hcr, hl5, BPs, HVs⟩
    · refine value_ (w1 := ?_) (v := ?_) (by rfl) rfl ?_ ?_
      rotate_left 2
      · go_simp
        constructor
        · rfl
        · rfl
      have HV4 := Qab HVd.out (pairObj kzPair); have HBV4 := Qab HBVd.out (pairObj kzPair); have BP4 := blk_new wd (pairObj kzPair); have BR4 := Qag HBRd.out (pairObj kzPair); have hkv : V.heap.size ≤ wd.heap.size := HVd.out.size; refine hK.out _ _ ⟨cell_alloc hHeld.1 _, cell_alloc hHeld.2 _⟩ (fun hHeld => ?_); clear hK K; refine norm_ (a' := ?_) ?_ ?_; rotate_left
      · show Act.put _ (some 9) _ = _
        simp only [Act.put, put_]; rfl
      change wpAnyLast _ _ _ _ _ _ _ _ _ (wd.alloc (pairObj kzPair))
      have hkl : wd.heap.size < (wd.alloc (pairObj kzPair)).heap.size := by simp
      generalize wd.alloc (pairObj kzPair) = Y at HV4 HBV4 BP4 BR4 hHeld hkl ⊢
      generalize wd.heap.size = kp at BP4 hkv hkl ⊢
      refine one_ (i := 1) (N := some 11) #[tt,tt,tt,tt,tt,tt,ff,ff] rfl rfl (by kernel_rfl) (by decide) (fun K hK => ?_); refine goes_ Tryd.func14 (by kernel_rfl) rfl #[.slice A0 l.length c0] (by rfl) rfl rfl (by (try simp only [List.map_toArray, List.map_cons, List.map_nil]); first | done | rfl) ?_
      with_reducible refine (HF.out _ HBV4).mono ?_
      rintro e w5 ⟨g, bb, D, rfl, hR5, hcr, hpr, hl5, hB5⟩; have BR5 := Qae BR4 hB5; have BP := Qae BP4 hB5; have HV6 := Qaf HV4 hB5; refine ⟨_, rfl, ?_⟩; refine hK.out _ _ ⟨(Qai BR5 0).trans rfl, (Qai BR5 1).trans rfl⟩ (fun hHeld => ?_); clear hK K; refine norm_ (a' := ?_) ?_ ?_; rotate_left
      · show Act.put _ (some 11) _ = _
        simp only [Act.put, put_]; rfl
      have HFS : FinAt (((w5.setCell ⟨kp, 0, none⟩ (.string a)).setCell ⟨kp, 1, none⟩ (.string b)).setCell ⟨kp, 2, none⟩ (.string who)) g bb D x.2.2 := hR5.store hkl BP (fun i hi => pairStore_other a b who hi); clear HV4 HBV4 BP4 BR4
      generalize w5 = Z at BP HV6 HFS hHeld ⊢
      obtain ⟨q0, q1, q2⟩ := pairCells BP; have qf0 := Qal BP 0; have qf1 := Qal BP 1; have qf2 := Qal BP 2; have HVs := pairStore_below HV6 hkv a b who; have BRs := Qae HBR.out HVs; refine pure_ (i := 6) (N := some 8) (v := ?_) (a' := ?_) #[tt,tt,tt,tt,tt,tt,tt,ff] rfl rfl (by kernel_rfl) (fun _ _ _ h => h) (Or.inl ⟨by rfl, ?_⟩) ?_ ?_; rotate_left
      · intro w'
        go_simp; (with_reducible rfl)
      rotate_left
      · simp only [Act.put, put_]
        rfl
      refine one_ (i := 7) (N := none) #[tt,tt,tt,tt,tt,tt,tt,tt] rfl rfl (by kernel_rfl) (by decide) (fun K hK => ?_); refine skip_ (w1 := (((Z.setCell ⟨kp, 0, none⟩ (.string a)).setCell ⟨kp, 1, none⟩ (.string b)).setCell ⟨kp, 2, none⟩ (.string who))) (by rfl) rfl ?_ ?_
      · go_simp
        try rfl
      refine hK.out _ _ ⟨(Qai BRs 0).trans rfl, (Qai BRs 1).trans rfl⟩ (fun hHeld => ?_); clear hK K; refine done_ (by kernel_rfl) ?_; have BPs := pairStore_blk BP a b who
      go_wp2_with fail
      go_meet
      case rel => exact ⟨g, bb, D, kp, rfl, rfl, HFS, hcr, hl5, BPs, HVs⟩
  case rest =>
    obtain ⟨g, bb, D, kp, rfl, rfl, HFA, hcr, hl5, BP, HVc⟩ := hcut
    obtain ⟨p, hpe⟩ : ∃ p : Pair, p = ⟨⟨a, b⟩, who⟩ := ⟨_, rfl⟩
    rw [← hpe] at hp HH BP; have BZc := Qae HBZ.out HVc; have HBc := Qaf HBV.out HVc; clear HF HBR HBV HBZ hpe; obtain ⟨p0, p1, p2⟩ := pairCells BP; have s2 := HFA.cells.2.2
    have L := fun m => HFA.look (Below.refl _ _) hp m
    obtain ⟨k, hk⟩ : ∃ k, k = rnd x.2.2 p := ⟨_, rfl⟩
    rw [← hk] at HH L; have HBP := Lib.hid BP; have HBZ := Lib.hid BZc; have HBW := Lib.hid HBc; have HFB := Lib.hid HFA; have HVw := Lib.hid HVc; clear BP BZc HBc HFA hk HVc
    go_upto_region 2 with fail
    by_cases e : k = 0
    · have d : decide (k = 0) = true := decide_eq_true e
      have d1 : (k == 0) = true := by rw [e]; rfl
      obtain ⟨-, rfl, rfl⟩ := HH.out.resolve_right (fun h => h.1 e); clear e HH; have z0 : wc.cell? ⟨kz, 0, none⟩ = some (.string ⟨#[]⟩) := (Qai HBZ.out 0).trans rfl; have zf0 := Qal HBZ.out 0; have z1 : wc.cell? ⟨kz, 1, none⟩ = some (.string ⟨#[]⟩) := (Qai HBZ.out 1).trans rfl; have zf1 := Qal HBZ.out 1; have z2 : wc.cell? ⟨kz, 2, none⟩ = some (.string ⟨#[]⟩) := (Qai HBZ.out 2).trans rfl; have zf2 := Qal HBZ.out 2; have z3 : wc.cell? ⟨kz, 3, none⟩ = some (.int .i64 0) := (Qai HBZ.out 3).trans rfl; have zf3 := Qal HBZ.out 3; have z4 : wc.cell? ⟨kz, 4, none⟩ = some (.int .i64 0) := (Qai HBZ.out 4).trans rfl; have zf4 := Qal HBZ.out 4; have z5 : wc.cell? ⟨kz, 5, none⟩ = some (.slice none 0 0) := (Qai HBZ.out 5).trans rfl; have zf5 := Qal HBZ.out 5
      go_quiet (fail)
      all_goals
        clear p0 p1 p2 s2 L; go_wp2
        (try simp only [Exit.inBlock, Exit.then])
        refine bodyPost_ret (results_ct rfl _ _ kz 29 #[.string ⟨#[]⟩, .string ⟨#[]⟩, .string ⟨#[]⟩, .int .i64 0, .int .i64 0, .slice none 0 0] (0, 0) _ rfl (blk_put (cs' := #[.string ⟨#[]⟩, .string ⟨#[]⟩, .string ⟨#[]⟩, .int .i64 0, .int .i64 0, .slice none 0 0]) (blk_put (cs' := #[.string ⟨#[]⟩, .string ⟨#[]⟩, .string ⟨#[]⟩, .int .i64 0, .int .i64 0, .slice none 0 0]) (blk_put (cs' := #[.string ⟨#[]⟩, .string ⟨#[]⟩, .string ⟨#[]⟩, .int .i64 0, .int .i64 0, .slice none 0 0]) (blk_put (cs' := #[.string ⟨#[]⟩, .string ⟨#[]⟩, .string ⟨#[]⟩, .int .i64 0, .int .i64 0, .slice none 0 0]) (blk_put (cs' := #[.string ⟨#[]⟩, .string ⟨#[]⟩, .string ⟨#[]⟩, .int .i64 0, .int .i64 0, .slice none 0 0]) (blk_put (cs' := #[.string ⟨#[]⟩, .string ⟨#[]⟩, .string ⟨#[]⟩, .int .i64 0, .int .i64 0, .slice none 0 0]) (by repeat (first | exact HBZ.out | refine Qah ?_ _ | refine Qak ?_)) 0 (.string ⟨#[]⟩) rfl) 1 (.string ⟨#[]⟩) rfl) 2 (.string ⟨#[]⟩) rfl) 3 (.int .i64 0) rfl) 4 (.int .i64 0) rfl) 5 (.slice none 0 0) rfl) Tryd.underlying29 rfl (by kernel_rfl)) rfl ?_; refine ⟨_, rfl, Kd.R_nil _ _ _ _ _, ?_⟩; have hz := HZ.out.1; exact Qaj (Qaj (Qaj (Qaj (Qaj (Qaj (by repeat (first | exact HBW.out | apply Qaa | apply Qac)) hz) hz) hz) hz) hz) hz
    · have d : decide (k = 0) = false := decide_eq_false e
      have d1 : (k == 0) = false := beq_false_of_ne e; obtain ⟨-, hpr, rfl⟩ := HH.out.resolve_left (fun h => e h.1); rw [← hcr] at hpr
      have HC := fun W (h : Below wc.heap.size wc W) => finProof_calls g bb D x.2.2 hl5 1000 W p r (HFB.out.below h) hpr
      unfold encPair at HC; have HC := Lib.hid HC; clear e HH hpr
      go_quiet (fail)
      all_goals
        clear s2 L
        go_wp2_with (go_at_call 15; (with_reducible refine (HC.out _ (by repeat (first | exact Below.refl _ _ | apply Qaa | apply Qac))).mono ?_); rintro e w5 ⟨v5, rfl, hR5, hB5⟩; have HW5 : Below wc.heap.size wc w5 := Qaf (by repeat (first | exact Below.refl _ _ | apply Qaa | apply Qac)) hB5; have BZ5 := Qae HBZ.out HW5; have HR5 := Kd.R_lower hR5 (show wc.heap.size ≤ _ from (by repeat (first | exact Below.refl _ _ | apply Qaa | apply Qac) : Below wc.heap.size wc _).size); obtain ⟨Ar, cr, rfl⟩ := Kd.R_slice hR5; have zf0 := Qal BZ5 0; have zf1 := Qal BZ5 1; have zf2 := Qal BZ5 2; have zf3 := Qal BZ5 3; have zf4 := Qal BZ5 4; have zf5 := Qal BZ5 5; have z0 : w5.cell? ⟨kz, 0, none⟩ = some (.string ⟨#[]⟩) := (Qai BZ5 0).trans rfl; have z1 : w5.cell? ⟨kz, 1, none⟩ = some (.string ⟨#[]⟩) := (Qai BZ5 1).trans rfl; have z2 : w5.cell? ⟨kz, 2, none⟩ = some (.string ⟨#[]⟩) := (Qai BZ5 2).trans rfl; have z3 : w5.cell? ⟨kz, 3, none⟩ = some (.int .i64 0) := (Qai BZ5 3).trans rfl; have z4 : w5.cell? ⟨kz, 4, none⟩ = some (.int .i64 0) := (Qai BZ5 4).trans rfl; have z5 : w5.cell? ⟨kz, 5, none⟩ = some (.slice none 0 0) := (Qai BZ5 5).trans rfl)
        (try simp only [Exit.inBlock, Exit.then])
        refine bodyPost_ret (results_ct rfl _ _ kz 29 #[.string r.f0.f0, .string r.f0.f1, .string r.f1, .int .i64 r.f2.f0, .int .i64 r.f2.f1, .slice Ar r.f3.length cr] (0, 0) _ rfl (blk_put (cs' := #[.string r.f0.f0, .string r.f0.f1, .string r.f1, .int .i64 r.f2.f0, .int .i64 r.f2.f1, .slice Ar r.f3.length cr]) (blk_put (cs' := #[.string r.f0.f0, .string r.f0.f1, .string r.f1, .int .i64 r.f2.f0, .int .i64 r.f2.f1, .slice none 0 0]) (blk_put (cs' := #[.string r.f0.f0, .string r.f0.f1, .string r.f1, .int .i64 r.f2.f0, .int .i64 0, .slice none 0 0]) (blk_put (cs' := #[.string r.f0.f0, .string r.f0.f1, .string r.f1, .int .i64 0, .int .i64 0, .slice none 0 0]) (blk_put (cs' := #[.string r.f0.f0, .string r.f0.f1, .string ⟨#[]⟩, .int .i64 0, .int .i64 0, .slice none 0 0]) (blk_put (cs' := #[.string r.f0.f0, .string ⟨#[]⟩, .string ⟨#[]⟩, .int .i64 0, .int .i64 0, .slice none 0 0]) BZ5 0 (.string r.f0.f0) rfl) 1 (.string r.f0.f1) rfl) 2 (.string r.f1) rfl) 3 (.int .i64 r.f2.f0) rfl) 4 (.int .i64 r.f2.f1) rfl) 5 (.slice Ar r.f3.length cr) rfl) Tryd.underlying29 rfl (by kernel_rfl)) rfl ?_; have hz := HZ.out; have hwz := HVw.out.size; refine ⟨_, rfl, Kd.R_lower (R_zproof (go := kz) (Kd.R_mono (Kd.R_bound HR5) (fun k hk e => by have := hk.2.1; omega)) (by omega) ⟨r.f0, r.f1⟩ r.f2 _) HBW.out.size, ?_⟩; have hz1 := hz.1; exact Qaj (Qaj (Qaj (Qaj (Qaj (Qaj (Qaf HBW.out HW5) hz1) hz1) hz1) hz1) hz1) hz1
end Go.Proofs.YtbjjgaahdnfflaaDoor.Pr
end
section
namespace Go.Proofs.YtbjjgaahdnfflaaDoor.Pr
open Go.RowKit Go.Proofs.YtbjjgaahdnfflaaDoorW.PrintWords Go.Proofs.YtbjjgaahdnfflaaDoorW.PrintLast Go.Proofs.YtbjjgaahdnfflaaDoorW.PrintMore
attribute [local go_sem] max2_int min2_int max_two min_two max_three min_three max_four min_four
set_option linter.unusedVariables false
set_option linter.unusedSimpArgs false
def chain_Find.f (l0 : List (S42)) (a1 : ByteArray) (a2_0 : ByteArray) (a2_1 : ByteArray) : Option (ByteArray × ByteArray × ByteArray × Int × Int × List (S29) × Int) := (foundF l0).bind fun x => if okPair ⟨⟨a2_0, a2_1⟩, a1⟩ then (if rnd x.2.2 ⟨⟨a2_0, a2_1⟩, a1⟩ = 0 then some (⟨#[]⟩, ⟨#[]⟩, ⟨#[]⟩, 0, 0, [], 16) else (finProof x.2.2 x.1 1000 ⟨⟨a2_0, a2_1⟩, a1⟩).map fun r => (r.f0.f0, r.f0.f1, r.f1, r.f2.f0, r.f2.f1, r.f3, 0)) else none
theorem chain_Find.calls (A0 : Option Addr) (c0 : Nat) (l0 : List (S42)) (a1 : ByteArray) (a2_0 : ByteArray) (a2_1 : ByteArray) (r1 : ByteArray) (r2 : ByteArray) (r3 : ByteArray) (r4 : Int) (r5 : Int) (r6 : List (S29)) (r7 : Int) (w : World) (hr0 : Kd.C k42 w A0 l0.length l0) (hc0 : l0.length ≤ c0) (h : chain_Find.f l0 a1 a2_0 a2_1 = some (r1, r2, r3, r4, r5, r6, r7)) :
    Calls Tryd.prog 8 #[.slice A0 l0.length c0, .string a1, .agg #[.string a2_0, .string a2_1]] w fun e w' => ∃ v5_ : Value, e = .returned (.tuple #[.agg #[.string r1, .string r2, .string r3, .int .i64 r4, .int .i64 r5, v5_], .int .i64 r7]) ∧ Kd.R k29 29 w' w.heap.size (fun _ => True) v5_ r6 ∧ Below w.heap.size w w' := by
  unfold chain_Find.f at h; obtain ⟨x, hx, h⟩ := Option.bind_eq_some_iff.mp h
  by_cases hp : okPair ⟨⟨a2_0, a2_1⟩, a1⟩
  · rw [if_pos hp] at h
    by_cases hk : rnd x.2.2 ⟨⟨a2_0, a2_1⟩, a1⟩ = 0
    · rw [if_pos hk] at h
      simp only [Option.some.injEq, Prod.mk.injEq] at h; obtain ⟨rfl, rfl, rfl, rfl, rfl, rfl, rfl⟩ := h; exact find_walk w A0 c0 l0 a1 a2_0 a2_1 x hr0 hc0 hx hp ⟨⟨⟨#[]⟩, ⟨#[]⟩⟩, ⟨#[]⟩, ⟨0, 0⟩, []⟩ 16 (.inl ⟨hk, rfl, rfl⟩)
    · rw [if_neg hk] at h
      obtain ⟨q, hq, he⟩ := Option.map_eq_some_iff.mp h; simp only [Prod.mk.injEq] at he; obtain ⟨rfl, rfl, rfl, rfl, rfl, rfl, rfl⟩ := he; exact find_walk w A0 c0 l0 a1 a2_0 a2_1 x hr0 hc0 hx hp q 0 (.inr ⟨hk, hq, rfl⟩)
  · rw [if_neg hp] at h
    cases h
end Go.Proofs.YtbjjgaahdnfflaaDoor.Pr
end
