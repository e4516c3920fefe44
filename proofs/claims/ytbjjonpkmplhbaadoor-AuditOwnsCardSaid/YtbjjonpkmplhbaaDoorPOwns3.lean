/- The proof's own texts, joined: part 3. No conditions. -/
import Derived.Lib.Hide
import Derived.ChangeMaps4
import Derived.Maps.OwnSet
import Derived.Deep.MidRow
import Derived.Deep.WholeRow
import Derived.WalkKit
import Derived.WalkSpells
import Derived.WalkLawsBesides
import Derived.Deep.QuietTactic
import Derived.Deep.RegionWith
import Derived.BigQuiet
import Derived.RegionTactic
import Derived.ChangeAlike
import Derived.Deep.RegionLaw
import Derived.Lib.SmallJoins
import Derived.Lib.SlicesS
import Derived.StillTailTactics
import Derived.Test.YtbjjonpkmplhbaaDoorProg
import Derived.Below
import Derived.Outline
import Derived.DeepKeys4
import Derived.KernelRfl
import Derived.Sort.LotA
import Derived.Laws.RangeAny
import Derived.Laws.Closers25
import Derived.Sort.Walk0
import Derived.Laws.Strings
import Derived.Deep.Draws
import Derived.Deep.AppendLies
import Derived.Maps.AppendAt
import Derived.OwnWalk
import Derived.Laws.BytesArg
import Derived.Laws.MakeOwn
import Derived.Laws.OwnMore
import Derived.Deep.OwnRows
import Derived.Tactics
import Derived.Lib.ConvBytes
import Derived.Laws.Slices
import Derived.RowKit3
import Derived.Deep.LoopGhost
import Derived.WideLaws
import Derived.Deep.DeepCutAuto
import Derived.Deep.CutBlock
import Derived.Deep.RegionHeld3
import Derived.Laws.Rows
import Derived.Lib.AppendStr
import Derived.ArgAppend
import Derived.Laws.IdiomCopy
import Derived.OrdersHeld
import Derived.Laws.BitsLemmas
import Derived.RowKit
import Derived.Shelf.SlSortCmp.NoneTotal
import Derived.Shelf.SlicesE.Clone
import Derived.Sort.Grow
import Derived.Shelf.SlicesG.Cmp
import Derived.Shelf.GgSortFunc.InsertionK
import Derived.Shelf.SlSortCmp.WholeK
import Derived.Ground.SlsfProg
import Derived.Ground.SlgnProg
import Derived.Ground.SlgcProg
import Derived.Maps.RangeRun
import Derived.Maps.Range
import Derived.Carry
import Derived.Laws.StructEq
import Derived.Great.CaseRows
import Derived.ProofKit
import Derived.ChangeSlices
import Derived.DataElems
import Derived.Test.YtbjjonpkmplhbaaDoorPOwns0
import Derived.Test.YtbjjonpkmplhbaaDoorPOwns1
import Derived.Test.YtbjjonpkmplhbaaDoorPOwns2
section
namespace Go.Proofs.YtbjjonpkmplhbaaDoor.Pr
open Go.RowKit Go.Proofs.YtbjjonpkmplhbaaDoorW.PrintWords Go.Proofs.YtbjjonpkmplhbaaDoorW.PrintLast Go.Proofs.YtbjjonpkmplhbaaDoorW.PrintMore
set_option linter.unusedVariables false
set_option linter.unusedSimpArgs false
section
open Go.ChangeMaps (setBlock)
abbrev Rep := S44
def nothingB (r : Rep) : Bool := decide (r.f1 = 0) && (decide (r.f2.f0 = 0) && (decide (r.f2.f1 = 0) && (decide (r.f2.f2 = 0) && (decide (r.f2.f3.toList = []) && (decide (r.f2.f5 = 0) && (wrap64 (wrap64 (wrap64 ((r.f2.f4.length : Int) + (r.f2.f6.length : Int)) + (r.f2.f7.length : Int)) + (r.f2.f8.length : Int)) == 0))))))
set_option maxRecDepth 100000 in
set_option maxHeartbeats 4000000 in
theorem nothing_calls (w : World) (r : Rep) (A4 : Option Addr) (c4 : Nat) (A6 : Option Addr) (c6 : Nat) (A7 : Option Addr) (c7 : Nat) (A8 : Option Addr) (c8 : Nat) :
    Calls Tryd.prog 16 #[.agg #[.int .i64 r.f0, .int .i64 r.f1, .int .i64 r.f2.f0, .int .i64 r.f2.f1, .int .i64 r.f2.f2, .string r.f2.f3, .slice A4 r.f2.f4.length c4, .int .i64 r.f2.f5, .slice A6 r.f2.f6.length c6, .slice A7 r.f2.f7.length c7, .slice A8 r.f2.f8.length c8]] w fun e w' => e = .returned (.bool (nothingB r)) ∧ Below w.heap.size w w' := by
  go_enter Tryd.func16, Tryd.ntmps16
  go_wp2_with fail
  all_goals
    go_ret; refine ⟨?_, by repeat (first | exact Below.refl _ _ | apply Qac)⟩
    first
      | (show Ending.returned (Value.bool false) = _
         rw [show nothingB r = false by unfold nothingB; simp [*]])
      | (show Ending.returned (Value.bool (wrap64 (wrap64 (wrap64 ((r.f2.f4.length : Int) + (r.f2.f6.length : Int)) + (r.f2.f7.length : Int)) + (r.f2.f8.length : Int)) == 0)) = _
         rw [show nothingB r = (wrap64 (wrap64 (wrap64 ((r.f2.f4.length : Int) + (r.f2.f6.length : Int)) + (r.f2.f7.length : Int)) + (r.f2.f8.length : Int)) == 0) by unfold nothingB; simp [*]])
noncomputable def soundF (m : AM) (x : Evt) : Bool × AM :=
  if x.f0 < m.time ∨ (domName x.f1).toList = [] then (false, m)
  else if x.f3.f0 ≠ 0 then (nothingB x.f3, { m with time := x.f0 })
  else if x.f2.f0 = 1 then addF { m with time := x.f0 } x
  else if x.f2.f0 = 2 then revokeF { m with time := x.f0 } x
  else if x.f2.f0 = 3 then issueF { m with time := x.f0 } x
  else if x.f2.f0 = 4 then (verifyF { m with time := x.f0 } x, { m with time := x.f0 })
  else (true, { m with time := x.f0 })
theorem CAt.putT {w0 w : World} {c0 bg bl bn n : Nat} {v : Value} {m : AM} (h : CAt w0 w c0 bg bl bn v n m) (t : Int) : CAt w0 (w.setCell ⟨c0, 0, none⟩ (.int .i64 t)) c0 bg bl bn v n { m with time := t } :=
  { h with
    blk := blk_put h.blk 0 _ rfl
    g := h.g.same (Below.heap_setCell _ _ _ bg (Ne.symm h.c_ne_g))
    l := h.l.same (Below.heap_setCell _ _ _ bl (Ne.symm h.c_ne_l))
    k := h.k.same (Below.heap_setCell _ _ _ bn (Ne.symm h.c_ne_k))
    t := h.t.same (fun k hk => Below.heap_setCell _ _ _ k (h.v_ne hk).1)
    old := h.old.setCell (p := ⟨c0, 0, none⟩) h.c0l _ }
set_option maxRecDepth 100000 in
set_option maxHeartbeats 8000000 in
theorem sound_calls (w0 w : World) (c0 bg bl bn : Nat) (v : Value) (n : Nat) (m : AM) (x : Evt) (E : Array Value) (hM : CAt w0 w c0 bg bl bn v n m) (hE0 : EvA w0 x E) (hx : EvOk x) (hn : n + 2 ≤ 1000000) (hg : GOk m) :
    Calls Tryd.prog 11 #[.pointer (some ⟨c0, 0, none⟩), .agg E] w fun e w' => e = .returned (.bool (soundF m x).1) ∧ CRan w0 c0 bg bl bn (n + 2) (soundF m x).2 w' := by
  have hE := hE0.below hM.old; obtain ⟨A14, c14, A20, c20, A22, c22, A23, c23, A24, c24, A32, c32, A34, c34, A35, c35, A36, c36, rfl, h14, hT6, hT2⟩ := hE.form; have HM := Lib.hid hM; have HX := Lib.hid hx; have HN := Lib.hid hn; have HG := Lib.hid hg; have HE0 := Lib.hid hE0; clear hM hE hE0 hx hn h14 hT6 hT2 hg; go_enter Tryd.func11, Tryd.ntmps11
  go_wp2_with fail
  generalize hW : w.alloc (Obj.cells (evV x A14 c14 A20 c20 A22 c22 A23 c23 A24 c24 A32 c32 A34 c34 A35 c35 A36 c36) 46) = W
  have BE : W.heap[w.heap.size]? = some (.cells (evV x A14 c14 A20 c20 A22 c22 A23 c23 A24 c24 A32 c32 A34 c34 A35 c35 A36 c36) 46 (0, 0)) := by rw [← hW]; exact Qav _ _
  have HB : Below w.heap.size w W := by rw [← hW]; exact Qac (Below.refl _ _) _
  have HM1 := Lib.hid (HM.out.below HB); have HBE := Lib.hid BE; have HD := Lib.hid (fun u : BW W => (QaQ.calls x.f1 _ u.now rfl).mono (fun e w' ⟨he, j, hj⟩ => (⟨he, by rw [hj]; exact Qaj (Below.refl _ _) j⟩ : e = _ ∧ Below u.now.heap.size u.now w'))); have g0 := Qaf (QaT HM1.out.blk).1; have g1 := Qaf (Qag BE 0 (v := .int .i64 x.f0) rfl); have g2 := Qaf (Qag BE 1 (v := .int .i64 x.f1) rfl); clear hW BE HB
  by_cases h0 : x.f0 < m.time
  · have p0 : decide (x.f0 < m.time) = true := decide_eq_true h0
    have HF := Lib.hid (show soundF m x = (false, m) from if_pos (.inl h0)); clear h0; refine Qai (by kernel_rfl) (by kernel_rfl) ?_
    repeat (go_big_quiet_step (with_reducible refine Qa4 (HD.out _)))
    refine wpQuiet_nil ?_; rintro _ ⟨u, rfl⟩
    go_wp2_with fail
    go_ret; exact ⟨by rw [HF.out]; rfl, by rw [HF.out]; exact ⟨_, (HM1.out.below u.ok).mono (Nat.le_add_right n 2)⟩⟩
  have p0 : decide (x.f0 < m.time) = false := decide_eq_false h0
  by_cases h1 : (domName x.f1).toList = []
  · have HF := Lib.hid (show soundF m x = (false, m) from if_pos (.inr h1))
    have p1 : ((domName x.f1).toList == []) = true := by rw [h1]; rfl
    clear h0; refine Qai (by kernel_rfl) (by kernel_rfl) ?_
    repeat (go_big_quiet_step (with_reducible refine Qa4 (HD.out _)))
    refine wpQuiet_nil ?_; rintro _ ⟨u, rfl⟩
    go_wp2_with fail
    go_ret; exact ⟨by rw [HF.out]; rfl, by rw [HF.out]; exact ⟨_, (HM1.out.below u.ok).mono (Nat.le_add_right n 2)⟩⟩
  have p1 : ((domName x.f1).toList == []) = false := by simpa using h1
  have HS := Lib.hid (show soundF m x = _ from if_neg (fun h => h.elim h0 h1)); clear h0; refine Qai (by kernel_rfl) (by kernel_rfl) ?_
  repeat (go_big_quiet_step (with_reducible refine Qa4 (HD.out _)))
  refine wpQuiet_nil ?_; rintro _ ⟨u, rfl⟩; have HMu := Lib.hid (HM1.out.below u.ok); have HBEu := Lib.hid (Qab HBE.out u.ok); clear g0 g1 g2 p0 p1 h1 HD
  generalize u.now = V at HMu HBEu ⊢
  clear u; have k0 := (QaT HMu.out.blk).1; have kf := QaD HMu.out.blk 0; have x0 := Qag HBEu.out 0 (v := .int .i64 x.f0) rfl
  go_upto_region 4 with fail
  have hne : w.heap.size ≠ c0 := by have := QaM HM.out.blk; omega
  have HM3 := Lib.hid (HMu.out.putT x.f0); have HBE3 := Lib.hid ((Below.heap_setCell V ⟨c0, 0, none⟩ (.int .i64 x.f0) w.heap.size hne).trans HBEu.out); clear hne k0 kf x0
  generalize V.setCell ⟨c0, 0, none⟩ (.int .i64 x.f0) = V3 at HM3 HBE3 ⊢
  obtain ⟨m1, hm1⟩ : ∃ m1, m1 = { m with time := x.f0 } := ⟨_, rfl⟩
  have HG1 := Lib.hid (show GOk m1 by rw [hm1]; exact HG.out); rw [← hm1] at HM3 HS; clear hm1; have x26 := Qag HBE3.out 26 (v := .int .i64 x.f3.f0) rfl; have x2 := Qag HBE3.out 2 (v := .int .i64 x.f2.f0) rfl
  by_cases h2 : x.f3.f0 = 0
  rotate_left
  · have p2 : (x.f3.f0 != 0) = true := by simpa using h2
    have HF := Lib.hid (HS.out.trans (if_pos h2)); have x27 := Qag HBE3.out 27 (v := .int .i64 x.f3.f1) rfl; have x28 := Qag HBE3.out 28 (v := .int .i64 x.f3.f2.f0) rfl; have x29 := Qag HBE3.out 29 (v := .int .i64 x.f3.f2.f1) rfl; have x30 := Qag HBE3.out 30 (v := .int .i64 x.f3.f2.f2) rfl; have x31 := Qag HBE3.out 31 (v := .string x.f3.f2.f3) rfl; have x32 := Qag HBE3.out 32 (v := .slice A32 x.f3.f2.f4.length c32) rfl; have x33 := Qag HBE3.out 33 (v := .int .i64 x.f3.f2.f5) rfl; have x34 := Qag HBE3.out 34 (v := .slice A34 x.f3.f2.f6.length c34) rfl; have x35 := Qag HBE3.out 35 (v := .slice A35 x.f3.f2.f7.length c35) rfl; have x36 := Qag HBE3.out 36 (v := .slice A36 x.f3.f2.f8.length c36) rfl; clear h2
    go_wp2_with (go_at_call 16; refine (nothing_calls V3 x.f3 A32 c32 A34 c34 A35 c35 A36 c36).mono ?_; rintro e w9 ⟨rfl, hb9⟩; have HB9 := Lib.hid hb9; clear hb9)
    go_ret; exact ⟨by rw [HF.out]; rfl, by rw [HF.out]; exact ⟨_, (HM3.out.below HB9.out).mono (Nat.le_add_right n 2)⟩⟩
  have p2 : (x.f3.f0 != 0) = false := by simp [h2]
  have HS2 := Lib.hid (HS.out.trans (if_neg (fun h => h h2))); clear h2
  by_cases k1 : x.f2.f0 = 1
  · have q1 : (x.f2.f0 == 1) = true := beq_iff_eq.mpr k1
    have HF := Lib.hid (HS2.out.trans (if_pos k1)); clear k1
    go_wp2_with (first | (refine Qah rfl 46 (.tmp 3) rfl _ rfl (evV x A14 c14 A20 c20 A22 c22 A23 c23 A24 c24 A32 c32 A34 c34 A35 c35 A36 c36) _ (QaN HBE3.out) Tryd.underlying46 rfl (by kernel_rfl) ?_) | (go_at_call 17; refine (add_calls w0 V3 c0 bg bl bn v n _ x _ HM3.out (HE0.out.below HM3.out.old) HX.out HN.out).mono ?_; rintro e w9 ⟨rfl, hr9⟩; have HR9 := Lib.hid hr9; clear hr9))
    go_ret; exact ⟨by rw [HF.out]; rfl, by rw [HF.out]; exact HR9.out⟩
  have q1 : (x.f2.f0 == 1) = false := beq_eq_false_iff_ne.mpr k1
  by_cases k2 : x.f2.f0 = 2
  · have q2 : (x.f2.f0 == 2) = true := beq_iff_eq.mpr k2
    have HF := Lib.hid (HS2.out.trans ((if_neg k1).trans (if_pos k2))); clear k1 k2
    go_wp2_with (first | (refine Qah rfl 46 (.tmp 3) rfl _ rfl (evV x A14 c14 A20 c20 A22 c22 A23 c23 A24 c24 A32 c32 A34 c34 A35 c35 A36 c36) _ (QaN HBE3.out) Tryd.underlying46 rfl (by kernel_rfl) ?_) | (go_at_call 18; refine (revoke_calls w0 V3 c0 bg bl bn v n _ x _ HM3.out (HE0.out.below HM3.out.old) HX.out HN.out).mono ?_; rintro e w9 ⟨rfl, hr9⟩; have HR9 := Lib.hid hr9; clear hr9))
    go_ret; exact ⟨by rw [HF.out]; rfl, by rw [HF.out]; exact HR9.out⟩
  have q2 : (x.f2.f0 == 2) = false := beq_eq_false_iff_ne.mpr k2
  by_cases k3 : x.f2.f0 = 3
  · have q3 : (x.f2.f0 == 3) = true := beq_iff_eq.mpr k3
    have HF := Lib.hid (HS2.out.trans ((if_neg k1).trans ((if_neg k2).trans (if_pos k3)))); clear k1 k2 k3
    go_wp2_with (first | (refine Qah rfl 46 (.tmp 3) rfl _ rfl (evV x A14 c14 A20 c20 A22 c22 A23 c23 A24 c24 A32 c32 A34 c34 A35 c35 A36 c36) _ (QaN HBE3.out) Tryd.underlying46 rfl (by kernel_rfl) ?_) | (go_at_call 19; refine (issue_calls w0 V3 c0 bg bl bn v n _ x _ HM3.out HE0.out HX.out HN.out HG1.out).mono ?_; rintro e w9 ⟨rfl, hr9⟩; have HR9 := Lib.hid hr9; clear hr9))
    go_ret; exact ⟨by rw [HF.out]; rfl, by rw [HF.out]; exact HR9.out⟩
  have q3 : (x.f2.f0 == 3) = false := beq_eq_false_iff_ne.mpr k3
  by_cases k4 : x.f2.f0 = 4
  · have q4 : (x.f2.f0 == 4) = true := beq_iff_eq.mpr k4
    have HF := Lib.hid (HS2.out.trans ((if_neg k1).trans ((if_neg k2).trans ((if_neg k3).trans (if_pos k4))))); clear k1 k2 k3 k4
    go_wp2_with (first | (refine Qah rfl 46 (.tmp 3) rfl _ rfl (evV x A14 c14 A20 c20 A22 c22 A23 c23 A24 c24 A32 c32 A34 c34 A35 c35 A36 c36) _ (QaN HBE3.out) Tryd.underlying46 rfl (by kernel_rfl) ?_) | (go_at_call 20; refine (verify_calls w0 V3 c0 bg bl bn v n _ x _ HM3.out (HE0.out.below HM3.out.old) HX.out HN.out HG1.out).mono ?_; rintro e w9 ⟨rfl, hr9⟩; have HR9 := Lib.hid hr9; clear hr9))
    go_ret; exact ⟨by rw [HF.out]; rfl, by rw [HF.out]; exact HR9.out⟩
  have q4 : (x.f2.f0 == 4) = false := beq_eq_false_iff_ne.mpr k4; have HF := Lib.hid (HS2.out.trans ((if_neg k1).trans ((if_neg k2).trans ((if_neg k3).trans (if_neg k4))))); clear k1 k2 k3 k4
  go_wp2_with fail
  go_ret; exact ⟨by rw [HF.out]; rfl, by rw [HF.out]; exact ⟨_, HM3.out.mono (Nat.le_add_right n 2)⟩⟩

theorem updG_ok {m : AM} (h : GOk m) (i : ID) {g : Cred × Int} (hg : okCred g.1) : ∀ j y, updG m.given i g j = some y → okCred y.1 := by
  intro j y hy; unfold updG at hy
  split at hy
  · obtain rfl := Option.some.inj hy
    exact hg
  · exact h j y hy
theorem soundF_ok {m : AM} {x : Evt} (h : GOk m) (hx : EvOk x) : GOk (soundF m x).2 := by
  have h1 : GOk { m with time := x.f0 } := h; unfold soundF
  split
  · exact h
  split
  · exact h1
  split
  · unfold addF
    split
    · exact h1
    · exact updG_ok h1 _ hx.gave
  split
  · unfold revokeF
    split
    · exact h1
    · rename_i g hg
      split
      · exact h1
      · exact updG_ok h1 _ (g := (g.1, x.f0)) (h _ g hg)
  split
  · unfold issueF
    split
    · exact h1
    · exact h1
  split
  · exact h1
  · exact h1
noncomputable def checkF : AM → List Evt → Nat → Option Nat
  | _, [], _ => none
  | m, x :: xs, i => if (soundF m x).1 = true then checkF (soundF m x).2 xs (i + 1) else some i
def am0 : AM := ⟨0, fun _ => none, fun _ => 0, fun _ => 0, []⟩
def resI (o : Option Nat) : Int := match o with | none => -1 | some i => i
def resE (o : Option Nat) : Int := match o with | none => 0 | some _ => 13
theorem made4 {w W : World} {O : Obj} (h : ((((w.alloc (.map #[] 0)).alloc (.map #[] 0)).alloc (.map #[] 0)).alloc O) = W) : GTab W w.heap.size 0 (fun _ => none) ∧ NTab W (w.heap.size + 1) 0 (fun _ => 0) ∧ NTab W (w.heap.size + 1 + 1) 0 (fun _ => 0) ∧ W.heap[w.heap.size + 1 + 1 + 1]? = some O ∧ Below w.heap.size w W := by
  subst h; have z1 : (w.alloc (.map #[] 0)).heap.size = w.heap.size + 1 := Array.size_push _; have z2 : ((w.alloc (.map #[] 0)).alloc (.map #[] 0)).heap.size = w.heap.size + 1 + 1 := (Array.size_push _).trans (by rw [z1]); have z3 : (((w.alloc (.map #[] 0)).alloc (.map #[] 0)).alloc (.map #[] 0)).heap.size = w.heap.size + 1 + 1 + 1 := (Array.size_push _).trans (by rw [z2]); have b2 := NTab.made (w.alloc (.map #[] 0)); have b3 := NTab.made ((w.alloc (.map #[] 0)).alloc (.map #[] 0)); have b4 := Qav (((w.alloc (.map #[] 0)).alloc (.map #[] 0)).alloc (.map #[] 0)) O; rw [z1] at b2; rw [z2] at b3; rw [z3] at b4; refine ⟨(((GTab.made w).same (Below.heap_alloc _ _ _ (by omega))).same (Below.heap_alloc _ _ _ (by omega))).same (Below.heap_alloc _ _ _ (by omega)), (b2.same (Below.heap_alloc _ _ _ (by omega))).same (Below.heap_alloc _ _ _ (by omega)), b3.same (Below.heap_alloc _ _ _ (by omega)), b4, Qac (Qac (Qac (Qac (Below.refl _ _) _) _) _) _⟩
set_option maxRecDepth 100000 in
set_option maxHeartbeats 8000000 in
theorem check_calls (w : World) (A : Option Addr) (c : Nat) (l : List Evt) (hC : Kd.C kEvt w A l.length l) (hc : l.length ≤ c) (hl : l.length ≤ 1000) (hok : ∀ x ∈ l, EvOk x) :
    Calls Tryd.prog 7 #[.slice A l.length c] w fun e w' => e = .returned (.tuple #[.int .i64 (resI (checkF am0 l 0)), .int .i64 (resE (checkF am0 l 0))]) ∧ Below w.heap.size w w' := by
  have hmk1 := fun W => run_makeMap (P := Tryd.prog) 51 W
  have hmk2 := fun W => run_makeMap (P := Tryd.prog) 52 W
  have HC := Lib.hid hC; have HOK := Lib.hid hok; clear hC hok; go_enter Tryd.func7, Tryd.ntmps7
  go_wp2_with fail
  generalize hW : (((w.alloc (Obj.map #[] 0)).alloc (Obj.map #[] 0)).alloc (Obj.map #[] 0)).alloc _ = W
  obtain ⟨b1, b2, b3, b4, b5⟩ := made4 hW; have HM := Lib.hid (show CAt w W (w.heap.size + 1 + 1 + 1) w.heap.size (w.heap.size + 1) (w.heap.size + 1 + 1) (.slice none 0 0) 0 am0 from ⟨b4, by omega, by omega, by omega, by omega, by omega, by omega, by omega, b1, b2, b3, ⟨[], Kd.R_nil _ _ _ _ _, Nat.le_refl _, rfl, fun i t T h => by simp [am0] at h⟩, b5⟩); clear hW b1 b2 b3 b4 b5 hmk1 hmk2
  go_loopg [14] (l.length + 1) (fun kq v14 w' => ∃ (i : Nat) (m : AM) (v : Value), v14 = .int .i64 i ∧ Hid (kq = l.length + 1 - i) ∧ Hid (i ≤ l.length) ∧ Hid (CAt w w' (w.heap.size + 1 + 1 + 1) w.heap.size (w.heap.size + 1) (w.heap.size + 1 + 1) v (2 * i) m) ∧ Hid (GOk m) ∧ Hid (checkF am0 l 0 = checkF m (l.drop i) i))
  case atStart => exact ⟨0, am0, _, rfl, Lib.hid rfl, Lib.hid (Nat.zero_le _), HM, Lib.hid (fun i g h => by cases h), Lib.hid rfl⟩
  case round =>
    clear HM; obtain ⟨i, m, v, rfl, HKq, HI, HMi, HG, HF⟩ := hrel
    by_cases hi : i < l.length
    · have d1 : decide ((i : Int) < (l.length : Int)) = true := decide_eq_true (by omega)
      have d2 : decide (i < l.length) = true := decide_eq_true hi
      have wrapI : wrap64 ((i : Int) + 1) = ((i + 1 : Nat) : Int) := by unfold wrap64; omega
      obtain ⟨ad, cs, rfl, hlen, hK, hcell0⟩ := Kd.C_get HC.out z46 (i : Int) (by omega) (by omega)
      have hx : l.getD (i : Int).toNat z46 = l[i] := by
        rw [show (i : Int).toNat = i from rfl]; simp [List.getD, List.getElem?_eq_getElem hi]
      obtain ⟨x, hxe⟩ : ∃ x, x = l.getD (i : Int).toNat z46 := ⟨_, rfl⟩
      rw [← hxe] at hK
      have hdrop : l.drop i = x :: l.drop (i + 1) := by rw [hxe, hx]; exact List.drop_eq_getElem_cons hi
      have hmem : x ∈ l := by rw [hxe, hx]; exact List.getElem_mem hi
      obtain ⟨E, rfl⟩ : ∃ E : Array Value, cs = E.toList := ⟨cs.toArray, by simp⟩
      have hE : EvA w x E := hK; have HE := Lib.hid hE; have sE := hE.size; have oE := hE.one
      have HCell := Lib.hid (show ∀ j v, E[j]? = some v → wr.cell? ((ad.add (i * 37)).add j) = some v from fun j v hv => by
        rw [Addr.add_add]
        exact Qam HMi.out.old (hcell0 j v (by rw [Array.getElem?_toList]; exact hv)))
      have HX := Lib.hid (HOK.out x hmem)
      have q1 : (0 : Int) ≤ (i : Int) := by omega
      have q2 : (i : Int) < (l.length : Int) := by omega
      have HI2 := Lib.hid hi; have hf := HF.out; rw [hdrop, checkF] at hf; have HMa := Lib.hid (HMi.out.below (Qac (Below.refl wr.heap.size wr) (.cells E 46))); have HCl := Lib.hid (sound_calls w (wr.alloc (.cells E 46)) _ _ _ _ v (2 * i) m x E HMa.out hE HX.out (by omega) HG.out); have HG2 := Lib.hid (soundF_ok HG.out HX.out); have HBn := Lib.hid (QaN (Qav wr (.cells E 46)))
      obtain ⟨⟨y, m2⟩, hy⟩ : ∃ y, y = soundF m x := ⟨_, rfl⟩
      rw [← hy] at hf HCl HG2; have HFf := Lib.hid hf; clear hy hf hdrop hmem hK hE hx hxe hcell0 hlen hi
      cases y with
      | true =>
        go_wp2_with (first | (refine Qah rfl 46 (.tmp 17) rfl _ rfl E _ HCell.out Tryd.underlying46 rfl (by rw [sE]; kernel_rfl) ?_) | (refine QaV rfl 46 (.tmp 6) (.tmp 18) rfl rfl rfl E rfl (by rw [sE]; kernel_rfl) (by rw [sE]; try rfl) oE ?_) | (refine Qah rfl 46 (.tmp 6) rfl _ rfl E _ HBn.out Tryd.underlying46 rfl (by rw [sE]; kernel_rfl) ?_) | (go_at_call 11; refine HCl.out.mono ?_; rintro e w9 ⟨rfl, v9, hM9⟩; have HM9 := Lib.hid hM9; clear hM9))
        go_roundg (l.length + 1 - (i + 1))
        case measure => have := HKq.out; have := HI2.out; omega
        case rel => exact ⟨i + 1, m2, v9, by first | rfl | exact congrArg _ wrapI, Lib.hid rfl, Lib.hid HI2.out, HM9, HG2, Lib.hid (HFf.out.trans (if_pos (by first | rfl | trivial)))⟩
      | false =>
        go_wp2_with (first | (refine Qah rfl 46 (.tmp 17) rfl _ rfl E _ HCell.out Tryd.underlying46 rfl (by rw [sE]; kernel_rfl) ?_) | (refine QaV rfl 46 (.tmp 6) (.tmp 18) rfl rfl rfl E rfl (by rw [sE]; kernel_rfl) (by rw [sE]; try rfl) oE ?_) | (refine Qah rfl 46 (.tmp 6) rfl _ rfl E _ HBn.out Tryd.underlying46 rfl (by rw [sE]; kernel_rfl) ?_) | (go_at_call 11; refine HCl.out.mono ?_; rintro e w9 ⟨rfl, v9, hM9⟩; have HM9 := Lib.hid hM9; clear hM9))
        refine bodyPost_ret (results_tmp2 rfl _ _ _) rfl ?_; exact ⟨by rw [HFf.out.trans (if_neg (by decide))]; rfl, HM9.out.old⟩
    · have d1 : decide ((i : Int) < (l.length : Int)) = false := decide_eq_false (by omega)
      have d2 : decide (i < l.length) = false := decide_eq_false hi; have hf := HF.out; rw [List.drop_of_length_le (by omega), checkF] at hf; have HFf := Lib.hid hf; clear hi hf
      go_wp2_with fail
      refine bodyPost_ret (results_tmp2 rfl _ _ _) rfl ?_; exact ⟨by rw [HFf.out]; rfl, HMi.out.old⟩
end
def rA : Role := ⟨⟨#[100, 49]⟩, ⟨#[97]⟩⟩
def zTokL : Tok := ⟨0, 0, 0, ⟨#[]⟩, [], 0, [], [], []⟩
def xAdd : Evt := ⟨1, 1, ⟨1, ⟨⟨0, 0⟩, ⟨#[97]⟩, 1, ⟨#[97, 110, 110]⟩, ⟨⟨#[]⟩, ⟨#[]⟩⟩, ⟨⟨#[]⟩, ⟨#[]⟩⟩⟩, 0, ⟨#[]⟩, [], ⟨#[]⟩, zTokL, 0⟩, ⟨0, 1, zTokL⟩⟩
def xIssueAt (t n : Int) : Evt := ⟨t, 1, ⟨3, ⟨⟨0, 0⟩, ⟨#[]⟩, 0, ⟨#[]⟩, ⟨⟨#[]⟩, ⟨#[]⟩⟩, ⟨⟨#[]⟩, ⟨#[]⟩⟩⟩, 0, ⟨#[97, 110, 110]⟩, [rA], ⟨#[]⟩, zTokL, 0⟩, ⟨0, 0, ⟨1, 1, n, ⟨#[97, 110, 110]⟩, [rA], 0, [⟨1, 1⟩], [], []⟩⟩⟩
def xRevoke : Evt := ⟨3, 1, ⟨2, ⟨⟨0, 0⟩, ⟨#[]⟩, 0, ⟨#[]⟩, ⟨⟨#[]⟩, ⟨#[]⟩⟩, ⟨⟨#[]⟩, ⟨#[]⟩⟩⟩, 1, ⟨#[]⟩, [], ⟨#[]⟩, zTokL, 0⟩, ⟨0, 0, zTokL⟩⟩
def cA : Cred := ⟨⟨1, 1⟩, ⟨#[97]⟩, 1, ⟨#[97, 110, 110]⟩, ⟨⟨#[]⟩, ⟨#[]⟩⟩, ⟨⟨#[]⟩, ⟨#[]⟩⟩⟩
theorem cA_may : credMay cA = true := by kernel_rfl
theorem cA_has : hasF [cA] ⟨#[97, 110, 110]⟩ rA = true := by
  rw [hasF_iff]; have hm : cA ∈ counts [cA] := ((counts_spec [cA]).mem cA).mpr (by unfold First; simp [List.find?, cA_may, sameID]); have h := Said.member hm rfl; exact h
def mOne : AM := ⟨1, updG (fun _ => none) ⟨1, 1⟩ (cA, -1), updI (fun _ => 0) 1 1, fun _ => 0, []⟩
theorem dom1 {x : Evt} {m : AM} (t u : Int) (hd : x.f1 = 1) (ht : x.f0 = t) (hu : m.time = u) (h : ¬ t < u) : ¬ (x.f0 < m.time ∨ (domName x.f1).toList = []) := by
  rw [hd, ht, hu]; rintro (h' | h')
  · exact h h'
  · have : (domName 1).toList = [100, 49] := by kernel_rfl
    rw [this] at h'; cases h'
theorem sd1 : soundF am0 xAdd = (true, mOne) := by
  unfold soundF; rw [if_neg (dom1 1 0 rfl rfl rfl (by decide)), if_neg (show ¬ (xAdd.f3.f0 ≠ 0) from fun h => h rfl), if_pos (show xAdd.f2.f0 = 1 from rfl)]; unfold addF
  rw [if_neg (show ¬ (xAdd.f3.f1 ≤ _ ∨ credMay (gaveC xAdd) = false) from by
    rintro (h | h)
    · exact absurd (show (1 : Int) ≤ 0 from h) (by decide)
    · rw [show gaveC xAdd = cA from rfl, cA_may] at h
      cases h)]
  rfl
theorem given1 (g : ID → Option (Cred × Int)) (c : Cred × Int) : updG g ⟨1, 1⟩ c ⟨1, 1⟩ = some c := if_pos rfl
theorem stands_ok {m : AM} {t : Tok} {x : Evt} {k : Int} (h : m.given ⟨1, 1⟩ = some (cA, k)) (hk : ¬ 0 ≤ k) (h6 : t.f6 = [⟨1, 1⟩]) (h4 : t.f4 = [rA]) (h3 : t.f3 = ⟨#[97, 110, 110]⟩) : standsF m t x = true := by
  unfold standsF
  have hb : badF m x ⟨1, 1⟩ = false := by
    unfold badF; rw [h]; simp [hk]
  have hc : credOf m ⟨1, 1⟩ = cA := by
    unfold credOf; rw [h]; rfl
  rw [h6, h4, h3]; simp only [List.all_cons, List.all_nil, List.map_cons, List.map_nil, hb, hc, cA_has]; rfl
def mTwo : AM := { mOne with time := 2, number := updI (fun _ => 0) 1 1, issued := [(xIssueAt 2 1).f3.f2] }
theorem sd2 : soundF mOne (xIssueAt 2 1) = (true, mTwo) := by
  unfold soundF; rw [if_neg (dom1 2 1 rfl rfl rfl (by decide)), if_neg (show ¬ ((xIssueAt 2 1).f3.f0 ≠ 0) from fun h => h rfl), if_neg (show ¬ (xIssueAt 2 1).f2.f0 = 1 from by show ¬ (3 : Int) = 1; decide), if_neg (show ¬ (xIssueAt 2 1).f2.f0 = 2 from by show ¬ (3 : Int) = 2; decide), if_pos (show (xIssueAt 2 1).f2.f0 = 3 from rfl)]; unfold issueF; refine (if_pos ⟨rfl, by show (0 : Int) < 1; decide, rfl, rfl, stands_ok (k := -1) (given1 (fun _ => none) (cA, -1)) (by decide) rfl rfl rfl⟩).trans rfl
def mThree : AM := { mTwo with time := 3, given := updG mTwo.given ⟨1, 1⟩ (cA, 3) }
theorem sd3 : soundF mTwo xRevoke = (true, mThree) := by
  unfold soundF; rw [if_neg (dom1 3 2 rfl rfl rfl (by decide)), if_neg (show ¬ (xRevoke.f3.f0 ≠ 0) from fun h => h rfl), if_neg (show ¬ xRevoke.f2.f0 = 1 from by show ¬ (2 : Int) = 1; decide), if_pos (show xRevoke.f2.f0 = 2 from rfl)]; unfold revokeF; have hg : ({ mTwo with time := xRevoke.f0 } : AM).given ⟨xRevoke.f1, xRevoke.f2.f2⟩ = some (cA, -1) := given1 (fun _ => none) (cA, -1); rw [hg]
  show (if (0 : Int) ≤ -1 then _ else _) = _
  rw [if_neg (by decide)]; rfl
theorem sd4 : (soundF mThree (xIssueAt 3 2)).1 = false := by
  unfold soundF; rw [if_neg (dom1 3 3 rfl rfl rfl (by decide)), if_neg (show ¬ ((xIssueAt 3 2).f3.f0 ≠ 0) from fun h => h rfl), if_neg (show ¬ (xIssueAt 3 2).f2.f0 = 1 from by show ¬ (3 : Int) = 1; decide), if_neg (show ¬ (xIssueAt 3 2).f2.f0 = 2 from by show ¬ (3 : Int) = 2; decide), if_pos (show (xIssueAt 3 2).f2.f0 = 3 from rfl)]; unfold issueF
  have hb : badF { mThree with time := (xIssueAt 3 2).f0 } (xIssueAt 3 2) ⟨1, 1⟩ = true := by
    unfold badF; have hg : ({ mThree with time := (xIssueAt 3 2).f0 } : AM).given ⟨1, 1⟩ = some (cA, 3) := given1 mTwo.given (cA, 3); rw [hg]
    show (decide ((0 : Int) ≤ 3) && (decide ((64 : Int) ≤ wrap64 (3 - 3)) || decide ((1 : Int) = 1))) = true
    simp
  rw [if_neg (fun h => by
    have := stands_bad (m := { mThree with time := (xIssueAt 3 2).f0 }) (x := xIssueAt 3 2) (t := (xIssueAt 3 2).f3.f2) (List.mem_singleton.mpr rfl) hb; rw [h.2.2.2.2] at this
    cases this)]
theorem sd5 : (soundF am0 (xIssueAt 2 1)).1 = false := by
  unfold soundF; rw [if_neg (dom1 2 0 rfl rfl rfl (by decide)), if_neg (show ¬ ((xIssueAt 2 1).f3.f0 ≠ 0) from fun h => h rfl), if_neg (show ¬ (xIssueAt 2 1).f2.f0 = 1 from by show ¬ (3 : Int) = 1; decide), if_neg (show ¬ (xIssueAt 2 1).f2.f0 = 2 from by show ¬ (3 : Int) = 2; decide), if_pos (show (xIssueAt 2 1).f2.f0 = 3 from rfl)]; unfold issueF; have hb : badF { am0 with time := (xIssueAt 2 1).f0 } (xIssueAt 2 1) ⟨1, 1⟩ = true := rfl
  rw [if_neg (fun h => by
    have := stands_bad (m := { am0 with time := (xIssueAt 2 1).f0 }) (x := xIssueAt 2 1) (t := (xIssueAt 2 1).f3.f2) (List.mem_singleton.mpr rfl) hb; rw [h.2.2.2.2] at this
    cases this)]
theorem lives1 : checkF am0 [xAdd, xIssueAt 2 1, xRevoke] 0 = none := by
  rw [checkF, sd1, if_pos rfl, checkF, sd2, if_pos rfl, checkF, sd3, if_pos rfl, checkF]
theorem lives2 : checkF am0 [xAdd, xIssueAt 2 1, xRevoke, xIssueAt 3 2] 0 = some 3 := by
  rw [checkF, sd1, if_pos rfl, checkF, sd2, if_pos rfl, checkF, sd3, if_pos rfl, checkF, sd4, if_neg (by decide)]
theorem lives3 : checkF am0 [xIssueAt 2 1] 0 = some 0 := by
  rw [checkF, sd5, if_neg (by decide)]
abbrev cAdd : Array Value := #[.int .i64 1, .int .i64 1, .int .i64 1, .int .i64 0, .int .i64 0, .string ⟨#[97]⟩, .int .i64 1, .string ⟨#[97, 110, 110]⟩, .string ⟨#[]⟩, .string ⟨#[]⟩, .string ⟨#[]⟩, .string ⟨#[]⟩, .int .i64 0, .string ⟨#[]⟩, .slice none 0 0, .string ⟨#[]⟩, .int .i64 0, .int .i64 0, .int .i64 0, .string ⟨#[]⟩, .slice none 0 0, .int .i64 0, .slice none 0 0, .slice none 0 0, .slice none 0 0, .int .i64 0, .int .i64 0, .int .i64 1, .int .i64 0, .int .i64 0, .int .i64 0, .string ⟨#[]⟩, .slice none 0 0, .int .i64 0, .slice none 0 0, .slice none 0 0, .slice none 0 0]
abbrev cIssueAt (t n : Int) (r s : Nat) : Array Value := #[.int .i64 t, .int .i64 1, .int .i64 3, .int .i64 0, .int .i64 0, .string ⟨#[]⟩, .int .i64 0, .string ⟨#[]⟩, .string ⟨#[]⟩, .string ⟨#[]⟩, .string ⟨#[]⟩, .string ⟨#[]⟩, .int .i64 0, .string ⟨#[97, 110, 110]⟩, .slice (some ⟨r, 0, none⟩) 1 1, .string ⟨#[]⟩, .int .i64 0, .int .i64 0, .int .i64 0, .string ⟨#[]⟩, .slice none 0 0, .int .i64 0, .slice none 0 0, .slice none 0 0, .slice none 0 0, .int .i64 0, .int .i64 0, .int .i64 0, .int .i64 1, .int .i64 1, .int .i64 n, .string ⟨#[97, 110, 110]⟩, .slice (some ⟨r, 0, none⟩) 1 1, .int .i64 0, .slice (some ⟨s, 0, none⟩) 1 1, .slice none 0 0, .slice none 0 0]
abbrev cIssue (r s : Nat) : Array Value := #[.int .i64 2, .int .i64 1, .int .i64 3, .int .i64 0, .int .i64 0, .string ⟨#[]⟩, .int .i64 0, .string ⟨#[]⟩, .string ⟨#[]⟩, .string ⟨#[]⟩, .string ⟨#[]⟩, .string ⟨#[]⟩, .int .i64 0, .string ⟨#[97, 110, 110]⟩, .slice (some ⟨r, 0, none⟩) 1 1, .string ⟨#[]⟩, .int .i64 0, .int .i64 0, .int .i64 0, .string ⟨#[]⟩, .slice none 0 0, .int .i64 0, .slice none 0 0, .slice none 0 0, .slice none 0 0, .int .i64 0, .int .i64 0, .int .i64 0, .int .i64 1, .int .i64 1, .int .i64 1, .string ⟨#[97, 110, 110]⟩, .slice (some ⟨r, 0, none⟩) 1 1, .int .i64 0, .slice (some ⟨s, 0, none⟩) 1 1, .slice none 0 0, .slice none 0 0]
abbrev cAgain (r s : Nat) : Array Value := #[.int .i64 3, .int .i64 1, .int .i64 3, .int .i64 0, .int .i64 0, .string ⟨#[]⟩, .int .i64 0, .string ⟨#[]⟩, .string ⟨#[]⟩, .string ⟨#[]⟩, .string ⟨#[]⟩, .string ⟨#[]⟩, .int .i64 0, .string ⟨#[97, 110, 110]⟩, .slice (some ⟨r, 0, none⟩) 1 1, .string ⟨#[]⟩, .int .i64 0, .int .i64 0, .int .i64 0, .string ⟨#[]⟩, .slice none 0 0, .int .i64 0, .slice none 0 0, .slice none 0 0, .slice none 0 0, .int .i64 0, .int .i64 0, .int .i64 0, .int .i64 1, .int .i64 1, .int .i64 2, .string ⟨#[97, 110, 110]⟩, .slice (some ⟨r, 0, none⟩) 1 1, .int .i64 0, .slice (some ⟨s, 0, none⟩) 1 1, .slice none 0 0, .slice none 0 0]
abbrev cRevoke : Array Value := #[.int .i64 3, .int .i64 1, .int .i64 2, .int .i64 0, .int .i64 0, .string ⟨#[]⟩, .int .i64 0, .string ⟨#[]⟩, .string ⟨#[]⟩, .string ⟨#[]⟩, .string ⟨#[]⟩, .string ⟨#[]⟩, .int .i64 1, .string ⟨#[]⟩, .slice none 0 0, .string ⟨#[]⟩, .int .i64 0, .int .i64 0, .int .i64 0, .string ⟨#[]⟩, .slice none 0 0, .int .i64 0, .slice none 0 0, .slice none 0 0, .slice none 0 0, .int .i64 0, .int .i64 0, .int .i64 0, .int .i64 0, .int .i64 0, .int .i64 0, .string ⟨#[]⟩, .slice none 0 0, .int .i64 0, .slice none 0 0, .slice none 0 0, .slice none 0 0]
theorem rows_C {W : World} {Es : List (Array Value)} {xs : List Evt} (hl : Es.length = xs.length) (hp : 0 < xs.length) (hm : xs.length ≤ 9223372036854775807) (hE : ∀ (i : Nat) (x : Evt) (E : Array Value), xs[i]? = some x → Es[i]? = some E → EvA W x E) :
    Kd.C kEvt (W.alloc (.cells ((Es.map Value.agg).flatMap fun v => v.cells.toList).toArray 46)) (some ⟨W.heap.size, 0, none⟩) xs.length xs := by
  refine ⟨rfl, hm, fun _ => ⟨_, rfl, fun j p hj => ?_⟩⟩
  have hjl : j < Es.length := by rw [hl]; exact (List.getElem?_eq_some_iff.mp hj).1
  have hEj := hE j p _ hj (List.getElem?_eq_getElem hjl); refine ⟨Es[j].toList, by have := hEj.size; rw [Array.length_toList]; exact this, kEvt.K_below (Qac (Below.refl _ _) _) hEj, fun k u hk => ?_⟩
  have hs : ∀ v ∈ Es.map Value.agg, v.cells.size = 37 := fun v hv => by
    obtain ⟨E, hEm, rfl⟩ := List.mem_map.mp hv; obtain ⟨i, hi, rfl⟩ := List.getElem_of_mem hEm; exact (hE i _ _ (List.getElem?_eq_getElem (by omega)) (List.getElem?_eq_getElem hi)).size
  have hk37 : k < 37 := by
    have := (List.getElem?_eq_some_iff.mp hk).1; have h2 := hEj.size; simp only [Array.length_toList] at this; omega
  show (W.alloc _).cell? ((⟨W.heap.size, 0, none⟩ : Addr).add (j * 37 + k)) = some u
  rw [Addr.add_mid, cell_of_row _ W.heap.size _ _ _ (0, 0) (Qav W _), Nat.zero_add]; rw [List.getElem?_toArray, Go.Great.flat_get (by decide) _ hs]; rw [show (j * 37 + k) / 37 = j by omega, show (j * 37 + k) % 37 = k by omega, List.getElem?_map, List.getElem?_eq_getElem hjl]
  show (Value.agg Es[j]).cells[k]? = some u
  rw [Array.getElem?_toList] at hk; exact hk
theorem infoSz : (Tryd.prog.info? 46).map (·.size) = some 37 := by kernel_rfl
theorem infoZ : ((Tryd.prog.info? 46).bind (·.zero)).isSome = true := by kernel_rfl
theorem wpList_buildEv {rest : List Oper} {ops : Array Oper} {o : Oper} {a : Act} {w : World} {Q : Exit → Act → World → Prop} (hg : o.guard = none) (n : Nat) (parts : Array (Nat × Operand)) (ho : o.op = .buildSlice 22 n parts) (Es : List (Array Value)) (xs : List Evt) (ix : Nat → Nat) (hn : n = Es.length) (hl : Es.length = xs.length) (hp : 0 < n) (hm : n ≤ 100) (hparts : parts.toList = (List.range n).map fun i => (i, Operand.tmp (ix i)))
    (hE : ∀ (i : Nat) (x : Evt) (E : Array Value), xs[i]? = some x → Es[i]? = some E → EvA w x E) (hev : ∀ (i : Nat) (E : Array Value), Es[i]? = some E → a.eval (.tmp (ix i)) = .agg E)
    (h : ∀ W' : World, Kd.C kEvt W' (some ⟨w.heap.size, 0, none⟩) xs.length xs → Below w.heap.size w W' → wpList Tryd.prog ops Q rest (a.put o.dst (.slice (some ⟨w.heap.size, 0, none⟩) xs.length xs.length)) W') : wpList Tryd.prog ops Q (o :: rest) a w := by
  have hml : (Es.map Value.agg).length = n := by rw [List.length_map, hn]
  refine Go.Great.wpList_buildRows hg 22 46 parts 37 (Es.map Value.agg) (by rw [hml]; exact ho) ix _ rfl _ rfl Tryd.underlying22 infoSz infoZ (by decide) (by omega) (by rw [hml]; omega) (by rw [hml]; exact hparts) ?_ ?_ ?_
  · intro v hv
    obtain ⟨E, hEm, rfl⟩ := List.mem_map.mp hv; obtain ⟨i, hi, rfl⟩ := List.getElem_of_mem hEm; exact (hE i _ _ (List.getElem?_eq_getElem (by omega)) (List.getElem?_eq_getElem hi)).size
  · intro i hi
    rw [List.getElem_map]; exact hev i _ (List.getElem?_eq_getElem (by rw [hml] at hi; omega))
  · rw [hml, show n = xs.length by omega]
    exact h _ (rows_C hl (by omega) (by omega) hE) (Qac (Below.refl _ _) _)
theorem role_C {W : World} {r : Nat} {t : TypeId} (hb : W.heap[r]? = some (.cells #[.string ⟨#[100, 49]⟩, .string ⟨#[97]⟩] t (0, 0))) : Kd.C k32 W (some ⟨r, 0, none⟩) 1 [rA] := by
  refine ⟨rfl, by decide, fun _ => ⟨_, rfl, fun j p hj => ?_⟩⟩
  match j, hj with
  | 0, hj =>
    obtain rfl := Option.some.inj hj; refine ⟨[.string ⟨#[100, 49]⟩, .string ⟨#[97]⟩], rfl, k32_mk W rA, fun k u hk => ?_⟩
    show W.cell? ((⟨r, 0, none⟩ : Addr).add (0 * 2 + k)) = some u
    rw [Addr.add_mid, cell_of_row W r _ _ _ (0, 0) hb, show 0 + (0 * 2 + k) = k by omega, ← Array.getElem?_toList]; exact hk
theorem id_C {W : World} {r : Nat} {t : TypeId} (hb : W.heap[r]? = some (.cells #[.int .i64 1, .int .i64 1] t (0, 0))) : Kd.C k30 W (some ⟨r, 0, none⟩) 1 [⟨1, 1⟩] := by
  refine ⟨rfl, by decide, fun _ => ⟨_, rfl, fun j p hj => ?_⟩⟩
  match j, hj with
  | 0, hj =>
    obtain rfl := Option.some.inj hj; refine ⟨[.int .i64 1, .int .i64 1], rfl, k30_mk W ⟨1, 1⟩, fun k u hk => ?_⟩
    show W.cell? ((⟨r, 0, none⟩ : Addr).add (0 * 2 + k)) = some u
    rw [Addr.add_mid, cell_of_row W r _ _ _ (0, 0) hb, show 0 + (0 * 2 + k) = k by omega, ← Array.getElem?_toList]; exact hk
theorem nil_C {α : Type} (d : Kd α) (W : World) : d.C W none ([] : List α).length [] := Kd.C_nil d W
theorem add_K (W : World) : EvA W xAdd cAdd := k46_mk W xAdd (A14 := none) (c14 := 0) (Nat.le_refl 0) (nil_C _ W) (A20 := none) (c20 := 0) (Nat.le_refl 0) (nil_C _ W) (A22 := none) (c22 := 0) (Nat.le_refl 0) (nil_C _ W) (A23 := none) (c23 := 0) (Nat.le_refl 0) (nil_C _ W) (A24 := none) (c24 := 0) (Nat.le_refl 0) (nil_C _ W) (A32 := none) (c32 := 0) (Nat.le_refl 0) (nil_C _ W) (A34 := none) (c34 := 0) (Nat.le_refl 0) (nil_C _ W) (A35 := none) (c35 := 0) (Nat.le_refl 0) (nil_C _ W) (A36 := none) (c36 := 0) (Nat.le_refl 0) (nil_C _ W)
theorem revoke_K (W : World) : EvA W xRevoke cRevoke := k46_mk W xRevoke (A14 := none) (c14 := 0) (Nat.le_refl 0) (nil_C _ W) (A20 := none) (c20 := 0) (Nat.le_refl 0) (nil_C _ W) (A22 := none) (c22 := 0) (Nat.le_refl 0) (nil_C _ W) (A23 := none) (c23 := 0) (Nat.le_refl 0) (nil_C _ W) (A24 := none) (c24 := 0) (Nat.le_refl 0) (nil_C _ W) (A32 := none) (c32 := 0) (Nat.le_refl 0) (nil_C _ W) (A34 := none) (c34 := 0) (Nat.le_refl 0) (nil_C _ W) (A35 := none) (c35 := 0) (Nat.le_refl 0) (nil_C _ W) (A36 := none) (c36 := 0) (Nat.le_refl 0) (nil_C _ W)
theorem issue_K {W : World} {r s : Nat} (t n : Int) (hr : Kd.C k32 W (some ⟨r, 0, none⟩) 1 [rA]) (hs : Kd.C k30 W (some ⟨s, 0, none⟩) 1 [⟨1, 1⟩]) : EvA W (xIssueAt t n) (cIssueAt t n r s) := k46_mk W (xIssueAt t n) (A14 := some ⟨r, 0, none⟩) (c14 := 1) (Nat.le_refl 1) hr (A20 := none) (c20 := 0) (Nat.le_refl 0) (nil_C _ W) (A22 := none) (c22 := 0) (Nat.le_refl 0) (nil_C _ W) (A23 := none) (c23 := 0) (Nat.le_refl 0) (nil_C _ W) (A24 := none) (c24 := 0) (Nat.le_refl 0) (nil_C _ W) (A32 := some ⟨r, 0, none⟩) (c32 := 1) (Nat.le_refl 1) hr (A34 := some ⟨s, 0, none⟩) (c34 := 1) (Nat.le_refl 1) hs (A35 := none) (c35 := 0) (Nat.le_refl 0) (nil_C _ W) (A36 := none) (c36 := 0) (Nat.le_refl 0) (nil_C _ W)
theorem evOk_small {x : Evt} (h : x = xAdd ∨ x = xRevoke ∨ ∃ t n, okI t ∧ okI n ∧ x = xIssueAt t n) : EvOk x := by
  have c0 : okCred ⟨⟨0, 0⟩, ⟨#[]⟩, 0, ⟨#[]⟩, ⟨⟨#[]⟩, ⟨#[]⟩⟩, ⟨⟨#[]⟩, ⟨#[]⟩⟩⟩ := by unfold okCred; decide
  have c1 : okCred ⟨⟨0, 0⟩, ⟨#[97]⟩, 1, ⟨#[97, 110, 110]⟩, ⟨⟨#[]⟩, ⟨#[]⟩⟩, ⟨⟨#[]⟩, ⟨#[]⟩⟩⟩ := by unfold okCred; decide
  rcases h with rfl | rfl | ⟨t, n, ht, hn, rfl⟩
  · exact ⟨rfl, rfl, rfl, rfl, c1, by decide, by decide, (fun i h => by cases h), (fun i h => by cases h)⟩
  · exact ⟨rfl, rfl, rfl, rfl, c0, by decide, by decide, (fun i h => by cases h), (fun i h => by cases h)⟩
  · exact ⟨ht, rfl, rfl, rfl, c0, by show (0 : Nat) < 21; decide, by show (1 : Nat) < 21; decide, (fun i h => by cases h), (fun i h => by obtain rfl := List.mem_singleton.mp h; exact ⟨rfl, rfl⟩)⟩
set_option maxRecDepth 100000 in
set_option maxHeartbeats 8000000 in
theorem lives_calls (w : World) :
    Calls Tryd.prog 8 #[] w fun e w' => e = .returned (.bool true) ∧ Below w.heap.size w w' := by
  go_enter Tryd.func8, Tryd.ntmps8
  go_upto_region 2 with fail
  have hB1 := Qav w (.cells #[.string ⟨#[100, 49]⟩, .string ⟨#[97]⟩] 32); have hL1 : Below w.heap.size w (w.alloc (.cells #[.string ⟨#[100, 49]⟩, .string ⟨#[97]⟩] 32)) := Qac (Below.refl _ _) _
  generalize w.alloc (.cells #[.string ⟨#[100, 49]⟩, .string ⟨#[97]⟩] 32) = W1 at hB1 hL1 ⊢
  have HB1 := Lib.hid hB1; have HL1 := Lib.hid hL1; clear hB1 hL1
  go_upto_region 3 with (refine QaV rfl 46 _ _ rfl rfl (by first | rfl | exact congrArg (fun n => Value.pointer (some ⟨n, 0, none⟩)) (Array.size_push _).symm) cAdd rfl (by kernel_rfl) (by kernel_rfl) (by kernel_rfl) ?_)
  have hB2 := Qav W1 (.cells cAdd 46); have hL2 : Below W1.heap.size W1 (W1.alloc (.cells cAdd 46)) := Qac (Below.refl _ _) _
  generalize W1.alloc (.cells cAdd 46) = W2 at hB2 hL2 ⊢
  have HB2 := Lib.hid hB2; have HL2 := Lib.hid hL2; clear hB2 hL2
  go_upto_region 4 with (refine QaV rfl 46 _ _ rfl rfl (by first | rfl | exact congrArg (fun n => Value.pointer (some ⟨n, 0, none⟩)) (Array.size_push _).symm) (cIssue w.heap.size W2.heap.size) rfl (by kernel_rfl) (by kernel_rfl) (by kernel_rfl) ?_)
  have hB3 := Qau (Qav W2 (.cells #[.int .i64 1, .int .i64 1] 30)) (.cells (cIssue w.heap.size W2.heap.size) 46); have hB4 := Qav (W2.alloc (.cells #[.int .i64 1, .int .i64 1] 30)) (.cells (cIssue w.heap.size W2.heap.size) 46); rw [show (W2.alloc (.cells #[.int .i64 1, .int .i64 1] 30)).heap.size = W2.heap.size + 1 from Array.size_push _] at hB4; have hL3 : Below W2.heap.size W2 ((W2.alloc (.cells #[.int .i64 1, .int .i64 1] 30)).alloc (.cells (cIssue w.heap.size W2.heap.size) 46)) := Qac (Qac (Below.refl _ _) _) _
  generalize (W2.alloc (.cells #[.int .i64 1, .int .i64 1] 30)).alloc (.cells (cIssue w.heap.size W2.heap.size) 46) = W3 at hB3 hB4 hL3 ⊢
  have HB3 := Lib.hid hB3; have HB4 := Lib.hid hB4; have HL3 := Lib.hid hL3; clear hB3 hB4 hL3
  go_upto_region 5 with (refine QaV rfl 46 _ _ rfl rfl (by first | rfl | exact congrArg (fun n => Value.pointer (some ⟨n, 0, none⟩)) (Array.size_push _).symm) cRevoke rfl (by kernel_rfl) (by kernel_rfl) (by kernel_rfl) ?_)
  have hB5 := Qav W3 (.cells cRevoke 46); have hL4 : Below W3.heap.size W3 (W3.alloc (.cells cRevoke 46)) := Qac (Below.refl _ _) _; have hB4' := Qau HB4.out (.cells cRevoke 46)
  generalize W3.alloc (.cells cRevoke 46) = W4 at hB5 hL4 hB4' ⊢
  have HB5 := Lib.hid hB5; have HB4' := Lib.hid hB4'; have HL4 := Lib.hid hL4; clear hB5 hL4 hB4'
  go_upto_region 8 with (first | (refine Qah rfl 46 (.tmp 3) rfl _ rfl (cIssue w.heap.size W2.heap.size) _ (range0 HB4'.out) Tryd.underlying46 rfl (by kernel_rfl) ?_) | (refine QaV rfl 46 _ _ rfl rfl (by first | rfl | exact congrArg (fun n => Value.pointer (some ⟨n, 0, none⟩)) (Array.size_push _).symm) (cIssue w.heap.size W2.heap.size) rfl (by kernel_rfl) (by kernel_rfl) (by kernel_rfl) ?_))
  have hB6 := Qav W4 (.cells (cAgain w.heap.size W2.heap.size) 46); have hL5 : Below W4.heap.size W4 (W4.alloc (.cells (cAgain w.heap.size W2.heap.size) 46)) := Qac (Below.refl _ _) _
  generalize W4.alloc (.cells (cAgain w.heap.size W2.heap.size) 46) = W5 at hB6 hL5 ⊢
  have o1 : Below w.heap.size w W2 := Qaa HL1.out HL2.out; have o2 : Below w.heap.size w W3 := Qaa o1 HL3.out; have o3 : Below w.heap.size w W4 := Qaa o2 HL4.out; have o4 : Below w.heap.size w W5 := Qaa o3 hL5; have hR : Kd.C k32 W5 (some ⟨w.heap.size, 0, none⟩) 1 [rA] := role_C (Qab (Qab (Qab (Qab HB1.out HL2.out) HL3.out) HL4.out) hL5); have hI : Kd.C k30 W5 (some ⟨W2.heap.size, 0, none⟩) 1 [⟨1, 1⟩] := id_C (Qab (Qab HB3.out HL4.out) hL5); have k1 := add_K W5; have k2 := issue_K 2 1 hR hI; have k3 := revoke_K W5; have k4 := issue_K 3 2 hR hI; have a1 := Qab (Qab (Qab HB2.out HL3.out) HL4.out) hL5; have a2 : W5.heap[W2.heap.size + 1]? = some (.cells (cIssueAt 2 1 w.heap.size W2.heap.size) 46 (0, 0)) := Qab HB4'.out hL5; have a4 : W5.heap[W4.heap.size]? = some (.cells (cIssueAt 3 2 w.heap.size W2.heap.size) 46 (0, 0)) := hB6; have a3 := Qab HB5.out hL5
  have hE1 : ∃ E, E = cAdd := ⟨_, rfl⟩
  obtain ⟨E1, hE1⟩ := hE1; rw [← hE1] at k1 a1
  have hE2 : ∃ E, E = cIssueAt 2 1 w.heap.size W2.heap.size := ⟨_, rfl⟩
  obtain ⟨E2, hE2⟩ := hE2; rw [← hE2] at k2 a2
  have hE3 : ∃ E, E = cRevoke := ⟨_, rfl⟩
  obtain ⟨E3, hE3⟩ := hE3; rw [← hE3] at k3 a3
  have hE4 : ∃ E, E = cIssueAt 3 2 w.heap.size W2.heap.size := ⟨_, rfl⟩
  obtain ⟨E4, hE4⟩ := hE4; rw [← hE4] at k4 a4; clear hE1 hE2 hE3 hE4 hR hI; have sE1 := k1.size; have sE2 := k2.size; have sE3 := k3.size; have sE4 := k4.size; have HA1 := Lib.hid a1; have HA2 := Lib.hid a2; have HA3 := Lib.hid a3; have HA4 := Lib.hid a4; have HO5 := Lib.hid o4; have HK := Lib.hid (And.intro k1 (And.intro k2 (And.intro k3 k4))); have ok1 : EvOk xAdd := evOk_small (.inl rfl); have ok2 : EvOk (xIssueAt 2 1) := evOk_small (.inr (.inr ⟨2, 1, rfl, rfl, rfl⟩)); have ok3 : EvOk xRevoke := evOk_small (.inr (.inl rfl)); have ok4 : EvOk (xIssueAt 3 2) := evOk_small (.inr (.inr ⟨3, 2, rfl, rfl, rfl⟩)); have HOk1 := Lib.hid (show ∀ x ∈ [xAdd, xIssueAt 2 1, xRevoke], EvOk x by simp [ok1, ok2, ok3]); have HOk2 := Lib.hid (show ∀ x ∈ [xAdd, xIssueAt 2 1, xRevoke, xIssueAt 3 2], EvOk x by simp [ok1, ok2, ok3, ok4]); have HOk3 := Lib.hid (show ∀ x ∈ [xIssueAt 2 1], EvOk x by simp [ok2])
  have HX1 := Lib.hid (show ∀ (i : Nat) (x : Evt) (E : Array Value), [xAdd, xIssueAt 2 1, xRevoke][i]? = some x → [E1, E2, E3][i]? = some E → EvA W5 x E from fun i x E h1 h2 => by
    rcases i with _ | _ | _ | i <;> first | (obtain rfl := Option.some.inj h1; obtain rfl := Option.some.inj h2; assumption) | (simp at h1))
  clear k1 k2 k3 k4 a1 a2 a3 a4 hB6 o1 o2 o3 o4 ok1 ok2 ok3 ok4 HB1 HB2 HB3 HB4 HB5 HL1 HL2 HL3 HL4 hL5 HB4'
  go_upto_region 9 with (first | (refine Qah rfl 46 (.tmp 2) rfl _ rfl E1 _ (range0 HA1.out) Tryd.underlying46 rfl (by rw [sE1]; kernel_rfl) ?_) | (refine Qah rfl 46 (.tmp 3) rfl _ rfl E2 _ (range0 HA2.out) Tryd.underlying46 rfl (by rw [sE2]; kernel_rfl) ?_) | (refine Qah rfl 46 (.tmp 4) rfl _ rfl E3 _ (range0 HA3.out) Tryd.underlying46 rfl (by rw [sE3]; kernel_rfl) ?_) | (refine wpList_buildEv rfl 3 _ rfl [E1, E2, E3] [xAdd, xIssueAt 2 1, xRevoke] (fun i => 34 + i) rfl rfl (by decide) (by decide) rfl (HX1.out) (by rintro (_ | _ | _ | _ | i) E h <;> first | (obtain rfl := Option.some.inj h; rfl) | (simp at h)) ?_; intro W6 hC hb; have HC1 := Lib.hid hC; have HL1 := Lib.hid hb; clear hC hb) | (go_at_call 7; refine (check_calls W6 _ _ [xAdd, xIssueAt 2 1, xRevoke] HC1.out (by decide) (by decide) (HOk1.out)).mono ?_; rintro e W7 ⟨rfl, hb⟩; rw [lives1]; have HM1 := Lib.hid hb; clear hb))
  have b7 : Below W5.heap.size W5 W7 := Qaa HL1.out HM1.out; have HA1' := Lib.hid (Qab HA1.out b7); have HA2' := Lib.hid (Qab HA2.out b7); have HA3' := Lib.hid (Qab HA3.out b7); have HA4' := Lib.hid (Qab HA4.out b7)
  have HX2 := Lib.hid (show ∀ (i : Nat) (x : Evt) (E : Array Value), [xAdd, xIssueAt 2 1, xRevoke, xIssueAt 3 2][i]? = some x → [E1, E2, E3, E4][i]? = some E → EvA W7 x E from fun i x E h1 h2 => by
    obtain ⟨k1, k2, k3, k4⟩ := HK.out
    rcases i with _ | _ | _ | _ | i <;> first | (obtain rfl := Option.some.inj h1; obtain rfl := Option.some.inj h2; apply EvA.below _ b7; assumption) | (simp at h1))
  have HB7 := Lib.hid b7; clear b7 HA1 HA2 HA3 HA4 HX1 HC1 HL1 HM1
  go_upto_region 10 with (first | (refine Qah rfl 46 (.tmp 2) rfl _ rfl E1 _ (range0 HA1'.out) Tryd.underlying46 rfl (by rw [sE1]; kernel_rfl) ?_) | (refine Qah rfl 46 (.tmp 3) rfl _ rfl E2 _ (range0 HA2'.out) Tryd.underlying46 rfl (by rw [sE2]; kernel_rfl) ?_) | (refine Qah rfl 46 (.tmp 4) rfl _ rfl E3 _ (range0 HA3'.out) Tryd.underlying46 rfl (by rw [sE3]; kernel_rfl) ?_) | (refine Qah rfl 46 (.tmp 5) rfl _ rfl E4 _ (range0 HA4'.out) Tryd.underlying46 rfl (by rw [sE4]; kernel_rfl) ?_) | (refine wpList_buildEv rfl 4 _ rfl [E1, E2, E3, E4] [xAdd, xIssueAt 2 1, xRevoke, xIssueAt 3 2] (fun i => 42 + i) rfl rfl (by decide) (by decide) rfl (HX2.out) (by rintro (_ | _ | _ | _ | i) E h <;> first | (obtain rfl := Option.some.inj h; rfl) | (simp at h)) ?_; intro W8 hC hb; have HC2 := Lib.hid hC; have HL2 := Lib.hid hb; clear hC hb) | (go_at_call 7; refine (check_calls W8 _ _ [xAdd, xIssueAt 2 1, xRevoke, xIssueAt 3 2] HC2.out (by decide) (by decide) (HOk2.out)).mono ?_; rintro e W9 ⟨rfl, hb⟩; rw [lives2]; have HM2 := Lib.hid hb; clear hb))
  have b9 : Below W5.heap.size W5 W9 := Qaa (Qaa HB7.out HL2.out) HM2.out; have HA2 := Lib.hid (Qab HA2'.out (Qaa HL2.out HM2.out))
  have HX3 := Lib.hid (show ∀ (i : Nat) (x : Evt) (E : Array Value), [xIssueAt 2 1][i]? = some x → [E2][i]? = some E → EvA W9 x E from fun i x E h1 h2 => by
    obtain ⟨k1, k2, k3, k4⟩ := HK.out
    rcases i with _ | _ | _ | _ | i <;> first | (obtain rfl := Option.some.inj h1; obtain rfl := Option.some.inj h2; apply EvA.below _ b9; assumption) | (simp at h1))
  have HB9 := Lib.hid b9; clear b9 HA1' HA2' HA3' HA4' HX2 HC2 HL2 HM2 HB7
  go_wp2_with (first | (refine Qah rfl 46 (.tmp 3) rfl _ rfl E2 _ (range0 HA2.out) Tryd.underlying46 rfl (by rw [sE2]; kernel_rfl) ?_) | (refine wpList_buildEv rfl 1 _ rfl [E2] [xIssueAt 2 1] (fun i => 51 + i) rfl rfl (by decide) (by decide) rfl (HX3.out) (by rintro (_ | _ | _ | _ | i) E h <;> first | (obtain rfl := Option.some.inj h; rfl) | (simp at h)) ?_; intro W10 hC hb; have HC3 := Lib.hid hC; have HL3 := Lib.hid hb; clear hC hb) | (go_at_call 7; refine (check_calls W10 _ _ [xIssueAt 2 1] HC3.out (by decide) (by decide) (HOk3.out)).mono ?_; rintro e W11 ⟨rfl, hb⟩; rw [lives3]; have HM3 := Lib.hid hb; clear hb))
  have hfin : Below w.heap.size w W11 := Qaa (Qaa (Qaa HO5.out HB9.out) HL3.out) HM3.out; refine bodyPost_ret (results_tmp rfl _ _ _) rfl ?_; exact ⟨rfl, hfin⟩
theorem few_len (l : List Evt) : (few l).length ≤ 30 := by
  unfold few; rw [List.length_map, List.length_take]; omega
theorem few_ok {l : List Evt} (h : ∀ x ∈ l, okI x.f0 ∧ okI x.f1 ∧ (okCred x.f2.f1 ∧ okI x.f2.f2 ∧ ∀ i ∈ x.f2.f6.f6, okID i) ∧ okI x.f3.f1 ∧ ∀ i ∈ x.f3.f2.f6, okID i) : ∀ x ∈ few l, EvOk x := by
  intro x hx; obtain ⟨y, hy, rfl⟩ := List.mem_map.mp hx; obtain ⟨h0, h1, ⟨hc, h2, h6⟩, h3, h7⟩ := h y (List.mem_of_mem_take hy); refine ⟨h0, h1, h2, h3, hc, ?_, ?_, ?_, ?_⟩
  · show (List.take 12 _).length < 21
    rw [List.length_take]; omega
  · show (List.take 12 _).length < 21
    rw [List.length_take]; omega
  · intro i hi
    exact h6 i (List.mem_of_mem_take (List.mem_of_mem_take hi))
  · intro i hi
    exact h7 i (List.mem_of_mem_take (List.mem_of_mem_take hi))
theorem few_callsL (w : World) (A : Option Addr) (c : Nat) (l L : List Evt) (hL : few l = L) (hc : l.length ≤ c) (h : Kd.C kEvt w A l.length l) :
    Calls Tryd.prog 6 #[.slice A l.length c] w fun e w' => ∃ A' c', e = .returned (.slice A' L.length c') ∧ L.length ≤ c' ∧ Kd.C kEvt w' A' L.length L ∧ Below w.heap.size w w' := by
  subst hL; exact few_calls w A c l hc h
theorem check_callsN (w : World) (A : Option Addr) (c : Nat) (l : List Evt) (n : Nat) (r : Option Nat) (hn : l.length = n) (hC : Kd.C kEvt w A n l) (hc : n ≤ c) (hl : n ≤ 1000) (hok : ∀ x ∈ l, EvOk x) (hr : checkF am0 l 0 = r) :
    Calls Tryd.prog 7 #[.slice A n c] w fun e w' => e = .returned (.tuple #[.int .i64 (resI r), .int .i64 (resE r)]) ∧ Below w.heap.size w w' := by
  subst hn hr; exact check_calls w A c l hC hc hl hok
theorem evs_ok {l : List Evt} (h : ∀ x ∈ l, okEvent x) : ∀ x ∈ few l, EvOk x := few_ok (fun x hx => by
  obtain ⟨h0, h1, ⟨h2, h3, h4⟩, h5, h6⟩ := h x hx
  exact ⟨h0, h1, ⟨h2, h3, h4⟩, h5, h6⟩)
open Classical in
def rolesOf (l : List Evt) : List Role := l.flatMap fun x => x.f2.f4
theorem few_roles (l : List Evt) : ∀ x ∈ few l, x.f2.f4.length ≤ 6 := by
  intro x hx; obtain ⟨y, hy, rfl⟩ := List.mem_map.mp hx
  show (List.take 6 _).length ≤ 6
  rw [List.length_take]; omega
theorem rolesOf_len : ∀ (l : List Evt), (∀ x ∈ l, x.f2.f4.length ≤ 6) → (rolesOf l).length ≤ 6 * l.length
  | [], _ => Nat.zero_le _
  | x :: xs, h => by
    have h1 := h x (List.mem_cons_self ..); have h2 := rolesOf_len xs (fun y hy => h y (List.mem_cons_of_mem _ hy))
    show (x.f2.f4 ++ rolesOf xs).length ≤ _
    rw [List.length_append, List.length_cons]; omega
theorem rolesOf_snoc (l : List Evt) (x : Evt) : rolesOf (l ++ [x]) = rolesOf l ++ x.f2.f4 := by simp [rolesOf]
theorem roles_at {α : Type} {R A B C : List α} (h : R = A ++ (B ++ C)) {p j : Nat} (hp : p = A.length + j) (hj : j < B.length) : p < R.length ∧ R[p]? = some (B[j]'hj) := by
  subst h hp; refine ⟨by simp only [List.length_append]; omega, ?_⟩; rw [List.getElem?_append_right (Nat.le_add_right _ _), Nat.add_sub_cancel_left, List.getElem?_append_left hj, List.getElem?_eq_getElem hj]
theorem infoRole : (Tryd.prog.info? 32).map (fun i => (i.zero, i.size, i.bytes)) = some (some (.agg #[.string ⟨#[]⟩, .string ⟨#[]⟩]), 2, 32) := by kernel_rfl
set_option maxRecDepth 100000 in
set_option maxHeartbeats 2000000 in
theorem owns_walk (w : World) (A : Option Addr) (c : Nat) (l : List Evt) (hC : Kd.C kEvt w A l.length l) (hc : l.length ≤ c) (hok : ∀ x ∈ few l, EvOk x) :
    Calls Tryd.prog 5 #[.slice A l.length c] w fun e w' => e = .returned (.bool true) ∧ Below w.heap.size w w' := by
  have HC := Lib.hid hC; have HCc := Lib.hid hc; have HOk := Lib.hid hok; have HLen := Lib.hid (few_len l); clear hC hc hok
  obtain ⟨L, hL⟩ : ∃ L, few l = L := ⟨_, rfl⟩
  rw [hL] at HOk HLen; have HL := Lib.hid hL; clear hL; go_enter Tryd.func5, Tryd.ntmps5
  go_wp2_with (go_at_call 6; refine (few_callsL w A c l L HL.out HCc.out HC.out).mono ?_; rintro e w1 ⟨A1, c1, rfl, hc1, hC1, hb1⟩; have HC1 := Lib.hid hC1; have HCc1 := Lib.hid hc1; have HB1 := Lib.hid hb1; clear hC1 hc1 hb1)
  go_loopg [3, 4] (L.length + 1) (fun kq v3 v4 w' => ∃ (i : Nat), v4 = .int .i64 i ∧ Hid (kq = L.length + 1 - i) ∧ Hid (i ≤ L.length) ∧ Hid (Kd.R k32 32 w' w1.heap.size (fun _ => True) v3 (rolesOf (L.take i))) ∧ Hid (Below w1.heap.size w1 w'))
  case atStart => exact ⟨0, rfl, Lib.hid rfl, Lib.hid (Nat.zero_le _), Lib.hid (Kd.R_nil _ _ _ _ _), Lib.hid (Below.refl _ _)⟩
  case round =>
    obtain ⟨i, rfl, HKq, HI, HR, HB⟩ := hrel
    by_cases hi : i < L.length
    · have d1 : decide ((i : Int) < (L.length : Int)) = true := decide_eq_true (by omega)
      have d2 : decide (i < L.length) = true := decide_eq_true hi
      have wrapI : wrap64 ((i : Int) + 1) = ((i + 1 : Nat) : Int) := by have := HLen.out; unfold wrap64; omega
      obtain ⟨ad, cs, rfl, -, hK, hcell0⟩ := Kd.C_get HC1.out z46 (i : Int) (by omega) (by omega)
      have hx : L.getD (i : Int).toNat z46 = L[i] := by
        rw [show (i : Int).toNat = i from rfl]; simp [List.getD, List.getElem?_eq_getElem hi]
      obtain ⟨x, hxe⟩ : ∃ x, x = L.getD (i : Int).toNat z46 := ⟨_, rfl⟩
      rw [← hxe] at hK
      have htk : L.take (i + 1) = L.take i ++ [x] := by rw [hxe, hx, List.take_add_one, List.getElem?_eq_getElem hi]; rfl
      have hmem : x ∈ L := by rw [hxe, hx]; exact List.getElem_mem hi
      have hx6 : x.f2.f4.length ≤ 6 := few_roles l x (by rw [HL.out]; exact hmem)
      have hr6 : (rolesOf (L.take i)).length ≤ 180 := by
        have := rolesOf_len (L.take i) (fun y hy => few_roles l y (by rw [HL.out]; exact List.mem_of_mem_take hy)); rw [List.length_take] at this; have := HLen.out; omega
      obtain ⟨A14, c14, A20, c20, A22, c22, A23, c23, A24, c24, A32, c32, A34, c34, A35, c35, A36, c36, rfl, l14, g14, -⟩ := Qa5 hK
      have r14 : wr.cell? ⟨(ad.add (i * 37)).block, (ad.add (i * 37)).off + 14, none⟩ = some (.slice A14 x.f2.f4.length c14) := by rw [← QaH _ _ 14 (by omega)]; exact Qam HB.out (hcell0 14 _ rfl)
      have q1 : (0 : Int) ≤ (i : Int) := by omega
      have q2 : (i : Int) < (L.length : Int) := by omega
      have HI2 := Lib.hid hi; have HTk := Lib.hid htk; have HX6 := Lib.hid (And.intro hx6 hr6); have HG := Lib.hid (And.intro l14 (Kd.QaI g14 HB.out)); have HRd := Lib.hid (show ReadsRow (fun (r : Role) (cs : List Value) => cs = [.string r.f0, .string r.f1]) 2 wr A14 x.f2.f4.length x.f2.f4 from ReadsRow.imp_ g14 HB.out (fun r cs h => k32_open h)); clear hi hx hxe htk hmem hx6 hr6 hK hcell0 g14
      go_wp2_with ((with_reducible refine QaL (b := .append) (xs := #[.tmp 20, .tmp 26]) rfl ?_); at_builtin; refine Kd.R_append_rows k32 (Rr := fun (r : Role) (cs : List Value) => cs = [.string r.f0, .string r.f1]) (w0 := w1) w1.heap.size rfl (.tmp 20) (.tmp 26) 35 32 (.agg #[.string ⟨#[]⟩, .string ⟨#[]⟩]) 32 rfl Tryd.underlying35 infoRole rfl (by decide) (by omega) _ (rolesOf (L.take i)) x.f2.f4 A14 x.f2.f4.length c14 (fun _ => True) (fun _ => False) rfl rfl HR.out HRd.out (fun r cs h => by subst h; exact k32_mkM _ _ _ r) (fun _ hk => hk.elim) (fun _ _ => trivial) HB.out (QaU HB.out) (by have := HX6.out; omega) ?_; intro v2 w2 ho hb hg hat; have HO := Lib.hid ho; have HBo := Lib.hid hb; clear ho hb hg hat)
      go_roundg (L.length + 1 - (i + 1))
      case measure => have := HKq.out; have := HI2.out; omega
      case rel => exact ⟨i + 1, by first | rfl | exact congrArg _ wrapI, Lib.hid rfl, Lib.hid HI2.out, Lib.hid (by rw [HTk.out, rolesOf_snoc]; exact HO.out), HBo⟩
    · have hiL : i = L.length := by have := HI.out; omega
      subst hiL; have d1 : decide ((L.length : Int) < (L.length : Int)) = false := decide_eq_false (by omega); have d2 : decide (L.length < L.length) = false := decide_eq_false (by omega); rw [List.take_length] at HR
      go_upto_region 8 with (go_at_call 7; refine (check_callsN wr A1 c1 L L.length _ rfl (Kd.QaI HC1.out HB.out) HCc1.out (by have := HLen.out; omega) HOk.out rfl).mono ?_; rintro e w2 ⟨rfl, hb2⟩; have HB2 := Lib.hid hb2; clear hb2)
      obtain ⟨A3, c3, rfl, hc3, hC3⟩ := Kd.R_reads HR.out; have HC3 := Lib.hid (Kd.QaI hC3 HB2.out); have HBB := Lib.hid (Qaa HB.out HB2.out)
      have HR6 := Lib.hid (show (rolesOf L).length ≤ 180 from by
        have := rolesOf_len L (fun y hy => few_roles l y (by rw [HL.out]; exact hy)); have := HLen.out
        omega)
      clear hc3 hC3 HR d1 d2 HI
      obtain ⟨z1, hz1⟩ : ∃ z, z = resI (checkF am0 L 0) := ⟨_, rfl⟩
      obtain ⟨z2, hz2⟩ : ∃ z, z = resE (checkF am0 L 0) := ⟨_, rfl⟩
      rw [← hz1, ← hz2]; have HZ := Lib.hid hz1; clear hz1 hz2
      go_wp2_with fail
      go_loopg [7, 8] (L.length + 1) (fun kq v7 v8 w' => ∃ (i p : Nat), v7 = .int .i64 p ∧ v8 = .int .i64 i ∧ Hid (kq = L.length + 1 - i) ∧ Hid (i ≤ L.length) ∧ Hid (p = (rolesOf (L.take i)).length) ∧ Hid (Below w2.heap.size w2 w'))
      case atStart => exact ⟨0, 0, rfl, rfl, Lib.hid rfl, Lib.hid (Nat.zero_le _), Lib.hid rfl, Lib.hid (Below.refl _ _)⟩
      case round =>
        obtain ⟨i, p, rfl, rfl, HKq2, HI, HP, HBr⟩ := hrel
        by_cases hi : i < L.length
        · have d1 : decide ((i : Int) < (L.length : Int)) = true := decide_eq_true (by omega)
          have d2 : decide (i < L.length) = true := decide_eq_true hi
          have wrapI : wrap64 ((i : Int) + 1) = ((i + 1 : Nat) : Int) := by have := HLen.out; unfold wrap64; omega
          obtain ⟨ad, cs, rfl, -, hK, hcell0⟩ := Kd.C_get HC1.out z46 (i : Int) (by omega) (by omega)
          have hx : L.getD (i : Int).toNat z46 = L[i] := by
            rw [show (i : Int).toNat = i from rfl]; simp [List.getD, List.getElem?_eq_getElem hi]
          obtain ⟨x, hxe⟩ : ∃ x, x = L.getD (i : Int).toNat z46 := ⟨_, rfl⟩
          rw [← hxe] at hK
          have htk : L.take (i + 1) = L.take i ++ [x] := by rw [hxe, hx, List.take_add_one, List.getElem?_eq_getElem hi]; rfl
          have hdr : L = L.take i ++ x :: L.drop (i + 1) := by
            rw [hxe, hx, ← List.drop_eq_getElem_cons hi, List.take_append_drop]
          have hroles : rolesOf L = rolesOf (L.take i) ++ (x.f2.f4 ++ rolesOf (L.drop (i + 1))) := by
            conv => lhs; rw [hdr]
            simp [rolesOf]
          obtain ⟨A14, c14, A20, c20, A22, c22, A23, c23, A24, c24, A32, c32, A34, c34, A35, c35, A36, c36, rfl, l14, g14, -⟩ := Qa5 hK; have HBw := Lib.hid (Qaa HBB.out HBr.out); have HR14 := Lib.hid (show ∀ W, Below w1.heap.size w1 W → W.cell? ⟨(ad.add (i * 37)).block, (ad.add (i * 37)).off + 14, none⟩ = some (.slice A14 x.f2.f4.length c14) from fun W hW => by rw [← QaH _ _ 14 (by omega)]; exact Qam hW (hcell0 14 _ rfl))
          have q1 : (0 : Int) ≤ (i : Int) := by omega
          have q2 : (i : Int) < (L.length : Int) := by omega
          have HI2 := Lib.hid hi; have HTk := Lib.hid htk; have HG := Lib.hid g14; have HRo := Lib.hid hroles; have hmx := g14.2.1; clear hi hx hxe htk hdr hroles hK hcell0 g14 l14
          go_wp2_with fail
          go_loopg [7, 9] (x.f2.f4.length + 1) (fun kq v7 v9 w' => ∃ (j p2 : Nat), v7 = .int .i64 p2 ∧ v9 = .int .i64 j ∧ Hid (kq = x.f2.f4.length + 1 - j) ∧ Hid (j ≤ x.f2.f4.length) ∧ Hid (p2 = p + j) ∧ Hid (Below wr.heap.size wr w'))
          case atStart => exact ⟨0, p, rfl, rfl, Lib.hid rfl, Lib.hid (Nat.zero_le _), Lib.hid rfl, Lib.hid (Below.refl _ _)⟩
          case round =>
            obtain ⟨j, p2, rfl, rfl, HKq3, HJ, HP2, HBs⟩ := hrel; have hBi : Below w1.heap.size w1 wr := Qaa HBw.out HBs.out; have r14 := HR14.out wr hBi
            by_cases hj : j < x.f2.f4.length
            · have e1 : decide ((j : Int) < (x.f2.f4.length : Int)) = true := decide_eq_true (by omega)
              have e2 : decide (j < x.f2.f4.length) = true := decide_eq_true hj
              have wrapJ : wrap64 ((j : Int) + 1) = ((j + 1 : Nat) : Int) := by unfold wrap64; omega
              obtain ⟨hp2, hget⟩ := roles_at HRo.out (p := p2) (by rw [HP2.out, HP.out]) hj
              have wrapP : wrap64 ((p2 : Int) + 1) = ((p2 + 1 : Nat) : Int) := by have := HR6.out; unfold wrap64; omega
              obtain ⟨r, hr⟩ : ∃ r, r = x.f2.f4[j]'hj := ⟨_, rfl⟩
              obtain ⟨ad14, cs, rfl, -, hK, hc14⟩ := Kd.C_get HG.out rA (j : Int) (by omega) (by omega); obtain ⟨ad3, cs3, rfl, -, hK3, hc3⟩ := Kd.C_get HC3.out rA (p2 : Int) (by omega) (by omega)
              have hx1 : x.f2.f4.getD (j : Int).toNat rA = r := by
                rw [show (j : Int).toNat = j from rfl, hr]; simp [List.getD, List.getElem?_eq_getElem hj]
              have hx3 : (rolesOf L).getD (p2 : Int).toNat rA = r := by
                rw [show (p2 : Int).toNat = p2 from rfl, hr]; simp [List.getD, hget]
              rw [hx1] at hK; rw [hx3] at hK3; obtain rfl := k32_open hK; obtain rfl := k32_open hK3; have hB2 : Below w2.heap.size w2 wr := Qaa HBr.out HBs.out; have ra0 : wr.cell? (ad14.add (j * 2)) = some (.string r.f0) := Qam hBi (hc14 0 _ rfl)
              have ra1 : wr.cell? ⟨(ad14.add (j * 2)).block, (ad14.add (j * 2)).off + 1, none⟩ = some (.string r.f1) := by rw [← QaH _ _ 1 (by omega)]; exact Qam hBi (hc14 1 _ rfl)
              have rb0 : wr.cell? (ad3.add (p2 * 2)) = some (.string r.f0) := Qam hB2 (hc3 0 _ rfl)
              have rb1 : wr.cell? ⟨(ad3.add (p2 * 2)).block, (ad3.add (p2 * 2)).off + 1, none⟩ = some (.string r.f1) := by rw [← QaH _ _ 1 (by omega)]; exact Qam hB2 (hc3 1 _ rfl)
              have t1 : (0 : Int) ≤ (j : Int) := by omega
              have t2 : (j : Int) < (x.f2.f4.length : Int) := by omega
              have t3 : (0 : Int) ≤ (p2 : Int) := by omega
              have t4 : (p2 : Int) < ((rolesOf L).length : Int) := by omega
              have HJ2 := Lib.hid hj; have HBi := Lib.hid hBi; clear hr hK hK3 hc14 hc3 hx1 hx3 hget hp2 hj hB2 hBi
              go_upto_region 15 with fail
              have g0 := Qaf r14; have g1 := Qaf ra0; have g2 := Qaf ra1; have g3 := Qaf rb0; have g4 := Qaf rb1; clear r14 ra0 ra1 rb0 rb1; refine Qai (by kernel_rfl) (by kernel_rfl) ?_
              repeat (go_big_quiet_step (fail))
              refine wpQuiet_nil ?_; rintro _ ⟨u, rfl⟩
              go_wp2_with fail
              trace_state
              go_roundg (x.f2.f4.length + 1 - (j + 1))
              case measure => have := HKq3.out; have := HJ2.out; omega
              case rel => exact ⟨j + 1, p2 + 1, by first | rfl | exact congrArg _ wrapP, by first | rfl | exact congrArg _ wrapJ, Lib.hid rfl, Lib.hid HJ2.out, Lib.hid (by have := HP2.out; omega), Lib.hid (Qaa HBs.out u.ok)⟩
            · have hjL : j = x.f2.f4.length := by have := HJ.out; omega
              have e1 : decide ((j : Int) < (x.f2.f4.length : Int)) = false := decide_eq_false (by omega); have e2 : decide (j < x.f2.f4.length) = false := decide_eq_false hj; have HJL := Lib.hid hjL; clear hj hjL
              go_wp2_with fail
              go_roundg (L.length + 1 - (i + 1))
              case measure => have := HKq2.out; have := HI2.out; omega
              case rel => exact ⟨i + 1, p2, rfl, by first | rfl | exact congrArg _ wrapI, Lib.hid rfl, Lib.hid HI2.out, Lib.hid (by rw [HTk.out, rolesOf_snoc, List.length_append, HP2.out, HP.out, HJL.out]), Lib.hid (Qaa HBr.out HBs.out)⟩
        · have e1 : decide ((i : Int) < (L.length : Int)) = false := decide_eq_false (by omega)
          have e2 : decide (i < L.length) = false := decide_eq_false hi; have HBe := Lib.hid (Qaa HBB.out HBr.out); have zz : (z1 == z1) = true := beq_self_eq_true z1; clear hi
          go_wp2_with (first | (go_at_call 7; (with_reducible show Calls _ _ #[.slice A1 L.length c1] wr _); refine (check_callsN wr A1 c1 L L.length _ rfl (Kd.QaI HC1.out HBe.out) HCc1.out (by have := HLen.out; omega) HOk.out rfl).mono ?_; rintro e w4 ⟨rfl, hb4⟩; rw [← HZ.out]; have HB4 := Lib.hid hb4; clear hb4) | (go_at_call 8; refine (lives_calls w4).mono ?_; rintro e w5 ⟨rfl, hb5⟩; have HB5 := Lib.hid hb5; clear hb5))
          refine bodyPost_ret (results_tmp rfl _ _ _) rfl ?_; exact ⟨rfl, Qaa (Qaa (Qaa HB1.out HBe.out) HB4.out) HB5.out⟩
section
open Classical in
noncomputable def QaK.f (k : Nat) (l0 : List Evt) : Option Bool := if (∀ x ∈ l0, okEvent x) then some true else none
theorem QaK.calls (k : Nat) (A0 : Option Addr) (c0 : Nat) (l0 : List Evt) (r : Bool) (w : World) (hr0 : Kd.C kEvt w A0 l0.length l0) (hc0 : l0.length ≤ c0) (h : QaK.f k l0 = some r) :
    Calls Tryd.prog 5 #[.slice A0 l0.length c0] w fun e w' => e = .returned (.bool r) ∧ Below w.heap.size w w' := by
  unfold QaK.f at h
  split at h
  · rename_i hok
    obtain rfl := Option.some.inj h; exact owns_walk w A0 c0 l0 hr0 hc0 (evs_ok hok)
  · cases h
theorem auditOwns_true (l0 : List Evt) (h : ∀ x ∈ l0, okEvent x) : ∃ K, ∀ k, K ≤ k → QaK.f k l0 = some true := ⟨0, fun k _ => if_pos h⟩
end
end Go.Proofs.YtbjjonpkmplhbaaDoor.Pr
end
