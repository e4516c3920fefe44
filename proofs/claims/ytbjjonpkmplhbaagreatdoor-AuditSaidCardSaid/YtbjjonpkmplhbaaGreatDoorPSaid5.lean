/- The proof's own texts, joined: part 5. No conditions. -/
import Derived.Lib.Hide
import Derived.ChangeMaps4
import Derived.Maps.OwnSet
import Derived.Deep.MidRow
import Derived.Deep.WholeRow
import Derived.WalkKit
import Derived.WalkSpells
import Derived.WalkLawsBesides
import Derived.Deep.QuietTactic
import Derived.Deep.RegionWith
import Derived.BigQuiet
import Derived.RegionTactic
import Derived.ChangeAlike
import Derived.Deep.RegionLaw
import Derived.Lib.SmallJoins
import Derived.Lib.SlicesS
import Derived.StillTailTactics
import Derived.Test.YtbjjonpkmplhbaaGreatDoorProg
import Derived.Below
import Derived.Outline
import Derived.DeepKeys4
import Derived.KernelRfl
import Derived.Sort.LotA
import Derived.Laws.RangeAny
import Derived.Laws.Closers25
import Derived.Sort.Walk0
import Derived.Laws.Strings
import Derived.Deep.Draws
import Derived.Deep.AppendLies
import Derived.Maps.AppendAt
import Derived.OwnWalk
import Derived.Laws.BytesArg
import Derived.Laws.MakeOwn
import Derived.Laws.OwnMore
import Derived.Deep.OwnRows
import Derived.Tactics
import Derived.Lib.ConvBytes
import Derived.Laws.Slices
import Derived.RowKit3
import Derived.Deep.LoopGhost
import Derived.WideLaws
import Derived.Deep.DeepCutAuto
import Derived.Deep.CutBlock
import Derived.Deep.RegionHeld3
import Derived.Laws.Rows
import Derived.Lib.AppendStr
import Derived.ArgAppend
import Derived.Laws.IdiomCopy
import Derived.OrdersHeld
import Derived.Laws.BitsLemmas
import Derived.RowKit
import Derived.Shelf.SlSortCmp.NoneTotal
import Derived.Shelf.SlicesE.Clone
import Derived.Sort.Grow
import Derived.Shelf.SlicesG.Cmp
import Derived.Shelf.GgSortFunc.InsertionK
import Derived.Shelf.SlSortCmp.WholeK
import Derived.Ground.SlsfProg
import Derived.Ground.SlgnProg
import Derived.Ground.SlgcProg
import Derived.Maps.RangeRun
import Derived.Maps.Range
import Derived.Carry
import Derived.Laws.StructEq
import Derived.Great.CaseRows
import Derived.ProofKit
import Derived.ChangeSlices
import Derived.DataElems
import Derived.Test.YtbjjonpkmplhbaaGreatDoorPSaid0
import Derived.Test.YtbjjonpkmplhbaaGreatDoorPSaid1
import Derived.Test.YtbjjonpkmplhbaaGreatDoorPSaid2
import Derived.Test.YtbjjonpkmplhbaaGreatDoorPSaid3
import Derived.Test.YtbjjonpkmplhbaaGreatDoorPSaid4
section
namespace Go.Proofs.YtbjjonpkmplhbaaGreatDoor.Pr
open Go.RowKit Go.Proofs.YtbjjonpkmplhbaaGreatDoorW.PrintWords Go.Proofs.YtbjjonpkmplhbaaGreatDoorW.PrintLast Go.Proofs.YtbjjonpkmplhbaaGreatDoorW.PrintMore
set_option linter.unusedVariables false
set_option linter.unusedSimpArgs false
section
open Go.ChangeMaps (setBlock)
set_option maxRecDepth 100000 in
set_option maxHeartbeats 8000000 in
theorem add_calls (w0 w : World) (c0 bg bl bn : Nat) (v : Value) (n : Nat) (m : AM) (x : Evt) (E : Array Value) (hM : CAt w0 w c0 bg bl bn v n m) (hE : EvA w x E) (hx : EvOk x) (hn : n + 2 ≤ 1000000) :
    Calls Tryz.prog 17 #[.pointer (some ⟨c0, 0, none⟩), .agg E] w fun e w' => e = .returned (.bool (addF m x).1) ∧ CRan w0 c0 bg bl bn (n + 2) (addF m x).2 w' := by
  obtain ⟨A14, c14, A20, c20, A22, c22, A23, c23, A24, c24, A32, c32, A34, c34, A35, c35, A36, c36, rfl, -, -, -⟩ := hE.form; have HM := Lib.hid hM; have HX := Lib.hid hx; have HN := Lib.hid hn; clear hM hE hx hn; go_enter Tryz.func17, Tryz.ntmps17
  go_wp2_with fail
  obtain ⟨y, hy⟩ : ∃ y, y = gaveC x := ⟨_, rfl⟩
  generalize hW : (w.alloc (Obj.cells (evV x A14 c14 A20 c20 A22 c22 A23 c23 A24 c24 A32 c32 A34 c34 A35 c35 A36 c36) 47)).alloc _ = W
  obtain ⟨BE, BY, HB⟩ := made2 hW
  replace BY : W.heap[w.heap.size + 1]? = some (.cells (credV y) 35 (0, 0)) := by rw [hy]; exact BY
  have HM1 := Lib.hid (HM.out.below HB); have HBY := Lib.hid BY; have HBE := Lib.hid BE; have hmay : cred_May.f y.f0.f0 y.f0.f1 y.f1 y.f2 y.f3 y.f4.f0 y.f4.f1 y.f5.f0 y.f5.f1 = some (credMay y) := credMay_is y (by rw [hy]; exact HX.out.gave); have HMay := Lib.hid (fun V => cred_May.calls _ _ _ _ _ _ _ _ _ _ V hmay); have hd := HX.out.d; have g0 := Qaz (QbB HM1.out.blk).2.2.1; have g1 := Qaz (QaH BE 1 rfl); obtain ⟨y0, y1, y2, y3, y4, y5, y6, y7, y8⟩ := cred_cells BY; have g2 := Qaz y0; have g3 := Qaz y1; have g4 := Qaz y2; have g5 := Qaz y3; have g6 := Qaz y4; have g7 := Qaz y5; have g8 := Qaz y6; have g9 := Qaz y7; have g10 := Qaz y8; have g11 := bw_num HM1.out.l hd
  have hy1 : y.f0.f1 = x.f3.f1 := by rw [hy]; rfl
  have HY := Lib.hid hy; have HY1 := Lib.hid hy1
  have hcs : (decide (y.f0.f1 ≤ m.last x.f1) = true ∧ addF m x = (false, m)) ∨ (decide (y.f0.f1 ≤ m.last x.f1) = false ∧ credMay y = false ∧ addF m x = (false, m)) ∨ (decide (y.f0.f1 ≤ m.last x.f1) = false ∧ credMay y = true ∧ addF m x = (true, { m with last := updI m.last x.f1 x.f3.f1, given := updG m.given ⟨x.f1, x.f3.f1⟩ (y, -1) })) := by
    rw [hy1]; unfold addF; rw [← hy]
    by_cases h1 : x.f3.f1 ≤ m.last x.f1
    · exact .inl ⟨decide_eq_true h1, if_pos (.inl h1)⟩
    · cases h2 : credMay y with
      | false => exact .inr (.inl ⟨decide_eq_false h1, rfl, if_pos (.inr rfl)⟩)
      | true => exact .inr (.inr ⟨decide_eq_false h1, rfl, if_neg (by simp [h1])⟩)
  clear hW BE BY HB hmay hd hy hy1 y0 y1 y2 y3 y4 y5 y6 y7 y8
  rcases hcs with ⟨p0, hf⟩ | ⟨p0, p1, hf⟩ | ⟨p0, p1, hf⟩
  · have HF := Lib.hid hf
    clear hf; refine QaL (by kernel_rfl) (by kernel_rfl) ?_
    repeat (go_big_quiet_step (with_reducible refine QbF (HMay.out _)))
    refine wpQuiet_nil ?_; rintro _ ⟨u, rfl⟩
    go_wp2_with fail
    go_ret; exact ⟨by rw [HF.out]; rfl, by rw [HF.out]; exact ⟨_, (HM1.out.below u.ok).mono (Nat.le_add_right n 2)⟩⟩
  · have HF := Lib.hid hf
    rw [p1] at HMay; clear hf p1; refine QaL (by kernel_rfl) (by kernel_rfl) ?_
    repeat (go_big_quiet_step (with_reducible refine QbF (HMay.out _)))
    refine wpQuiet_nil ?_; rintro _ ⟨u, rfl⟩
    go_wp2_with fail
    go_ret; exact ⟨by rw [HF.out]; rfl, by rw [HF.out]; exact ⟨_, (HM1.out.below u.ok).mono (Nat.le_add_right n 2)⟩⟩
  · have HF := Lib.hid hf
    rw [p1] at HMay; clear hf p1; refine QaL (by kernel_rfl) (by kernel_rfl) ?_
    repeat (go_big_quiet_step (with_reducible refine QbF (HMay.out _)))
    refine wpQuiet_nil ?_; rintro _ ⟨u, rfl⟩
    go_wp2_with fail
    have HMv := Lib.hid (HM1.out.below u.ok); have HBEv := Lib.hid (Qad HBE.out u.ok); have HBYv := Lib.hid (Qad HBY.out u.ok); clear g0 g1 g2 g3 g4 g5 g6 g7 g8 g9 g10 g11
    generalize u.now = V at HMv HBEv HBYv ⊢
    clear u; have g0 := Qaz (QbB HMv.out.blk).2.2.1; have g1 := Qaz (QaH HBEv.out 1 (v := .int .i64 x.f1) rfl); have g2 := Qaz (cred_cells HBYv.out).2.1; obtain ⟨O, hr, hc⟩ := HMv.out.putL HX.out.d y.f0.f1 (small_maxA (by have := HN.out; omega)); have HC := Lib.hid hc; have HR := Lib.hid hr; clear hr hc; refine Qbo (n := 10) (S := fun w' => ∃ u : BW V, w' = u.now) (ds := [9]) #[ff,ff,ff,ff,ff,ff,ff,ff,ff,ff] (by kernel_rfl) rfl rfl ⟨⟨_, Qau (Below.refl _ _)⟩, rfl⟩ (fun hHeld => ?_); obtain ⟨u0, hu0⟩ := hHeld; rw [hu0]; clear hu0
    have hHeld : ∃ u : BW V, u0.now = u.now := ⟨u0, rfl⟩
    refine kz 0 32 ?_; refine kz 1 33 ?_; refine kz 2 34 ?_; refine kb 3 35 ?_; refine kz 4 36 ?_; refine kb 5 37 ?_; refine kz 6 38 ?_; refine kz 7 39 ?_; refine kb 8 40 ?_; have hr := HR.out _ u0.ok; refine ks 9 ?_; refine QbS (by kernel_rfl) ?_; have HM2 := Lib.hid (HC.out _ u0.ok)
    have hne : w.heap.size ≠ bl ∧ w.heap.size + 1 ≠ bl := by have := HM.out.l.lt; omega
    have HBY2 := Lib.hid ((Qa4 hne.2).trans (Qad HBYv.out u0.ok) : (setBlock u0.now bl O).heap[w.heap.size + 1]? = _); clear hr hne g0 g1 g2 HR HC; clear hHeld
    generalize setBlock u0.now bl O = V2 at HM2 HBY2 ⊢
    go_wp2_with fail
    obtain ⟨y0, y1, y2, y3, y4, y5, y6, y7, y8⟩ := cred_cells HBY2.out; have g0 := Qaz (QbB HM2.out.blk).2.1; have g2 := Qaz y0; have g3 := Qaz y1; have g4 := Qaz y2; have g5 := Qaz y3; have g6 := Qaz y4; have g7 := Qaz y5; have g8 := Qaz y6; have g9 := Qaz y7; have g10 := Qaz y8; clear y0 y1 y2 y3 y4 y5 y6 y7 y8; obtain ⟨O2, hr, hc⟩ := HM2.out.putG (i := y.f0) (by rw [HY.out]; exact ⟨HX.out.d, HX.out.rs⟩) (y, -1) (small_maxA (by have := HN.out; omega)); unfold encID encG at hr; have HC := Lib.hid hc; have HR := Lib.hid hr; clear hr hc; refine Qbo (n := 9) (S := fun w' => ∃ u : BW V2, w' = u.now) (ds := [8]) #[ff,ff,ff,ff,ff,ff,ff,ff,ff] (by kernel_rfl) rfl rfl ⟨⟨_, Qau (Below.refl _ _)⟩, rfl⟩ (fun hHeld => ?_); obtain ⟨u1, hu1⟩ := hHeld; rw [hu1]; clear hu1
    have hHeld : ∃ u : BW V2, u1.now = u.now := ⟨u1, rfl⟩
    refine kz 0 41 ?_; refine kz 1 42 ?_; refine kz 2 43 ?_; refine kb 3 44 ?_; refine kz 4 45 ?_; refine kb 5 46 ?_; refine kb 6 47 ?_; refine kz 7 48 ?_; have hr := HR.out _ u1.ok; refine ks 8 ?_; refine QbS (by kernel_rfl) ?_; have HM3 := Lib.hid (HC.out _ u1.ok); clear hr g0 g2 g3 g4 g5 g6 g7 g8 g9 g10 hHeld
    go_wp2_with fail
    go_ret; refine ⟨by rw [HF.out]; rfl, ?_⟩; rw [HF.out]; have h3 := HM3.out; rw [HY1.out, show y.f0 = (⟨x.f1, x.f3.f1⟩ : ID) by rw [HY.out]; rfl] at h3; exact ⟨_, h3⟩

set_option maxRecDepth 100000 in
set_option maxHeartbeats 8000000 in
theorem revoke_calls (w0 w : World) (c0 bg bl bn : Nat) (v : Value) (n : Nat) (m : AM) (x : Evt) (E : Array Value) (hM : CAt w0 w c0 bg bl bn v n m) (hE : EvA w x E) (hx : EvOk x) (hn : n + 2 ≤ 1000000) :
    Calls Tryz.prog 18 #[.pointer (some ⟨c0, 0, none⟩), .agg E] w fun e w' => e = .returned (.bool (revokeF m x).1) ∧ CRan w0 c0 bg bl bn (n + 2) (revokeF m x).2 w' := by
  obtain ⟨A14, c14, A20, c20, A22, c22, A23, c23, A24, c24, A32, c32, A34, c34, A35, c35, A36, c36, rfl, h14, hT6, hT2⟩ := hE.form; have HM := Lib.hid hM; have HX := Lib.hid hx; have HN := Lib.hid hn; clear hM hE hx hn h14 hT6 hT2; go_enter Tryz.func18, Tryz.ntmps18
  go_wp2_with fail
  obtain ⟨id, hid⟩ : ∃ id, id = (⟨x.f1, x.f2.f2⟩ : ID) := ⟨_, rfl⟩
  generalize hW : (w.alloc (Obj.cells (evV x A14 c14 A20 c20 A22 c22 A23 c23 A24 c24 A32 c32 A34 c34 A35 c35 A36 c36) 47)).alloc _ = W
  obtain ⟨BE, BI, HB⟩ := made2 hW
  replace BI : W.heap[w.heap.size + 1]? = some (.cells (idV id) 31 (0, 0)) := by rw [hid]; exact BI
  have HM1 := Lib.hid (HM.out.below HB); have HBI := Lib.hid BI; have x0 := QaH BE 0 (v := .int .i64 x.f0) rfl; have HX0 := Lib.hid x0
  obtain ⟨gg, hgg⟩ : ∃ gg, gg = (m.given id).getD zG := ⟨_, rfl⟩
  obtain ⟨U, hU, sU, oU⟩ := encG_agg gg
  have hok : okID id := by rw [hid]; exact ⟨HX.out.d, HX.out.s⟩
  have HOK := Lib.hid hok; have f0 := Qaz (QbB HM1.out.blk).2.1; have f1 := Qaz (QaH BI 0 (v := .int .i64 id.f0) rfl); have f2 := Qaz (QaH BI 1 (v := .int .i64 id.f1) rfl); have f3 := bw_look HM1.out.g hok; rw [← hgg, hU] at f3
  have hrv : revokeF m x = match m.given id with
    | none => (false, m)
    | some g => if 0 ≤ g.2 then (false, m) else (true, { m with given := updG m.given id (g.1, x.f0) }) := by rw [hid]; rfl
  have HRV := Lib.hid hrv; clear hW BE BI HB hid hok x0 hrv; refine Qbo (n := 12) (S := fun w' => ∃ u : BW W, w' = u.now) (ds := [10]) #[ff,ff,ff,ff,ff,ff,ff,ff,ff,ff,ff,ff] (by kernel_rfl) rfl rfl ⟨⟨_, Qau (Below.refl _ _)⟩, rfl⟩ (fun hHeld => ?_); obtain ⟨u0, hu0⟩ := hHeld; rw [hu0]; clear hu0
  have hHeld : ∃ u : BW W, u0.now = u.now := ⟨u0, rfl⟩
  refine kz 0 15 ?_; refine kz 1 16 ?_; refine kz 2 17 ?_; refine kb 3 18 ?_; refine kb 4 19 ?_; refine kb 5 20 ?_; refine kz 6 14 ?_; refine kz 7 21 ?_; refine kz 8 22 ?_; refine kv 9 6 ⟨⟨_, Qai u0.ok _⟩, rfl⟩ ?_; refine ks 10 ?_ (hr := run_putNew rfl rfl U rfl (by rw [sU]; kernel_rfl) (by rw [sU]; try rfl) oU); refine kz 11 7 ?_; refine QbS (by kernel_rfl) ?_; have hlt : W.heap.size ≤ u0.now.heap.size := u0.ok.size
  generalize hb6 : u0.now.heap.size = b6 at hlt ⊢
  generalize hW6 : u0.now.alloc (Obj.cells U 81) = W6
  have B6 : W6.heap[b6]? = some (.cells U 81 (0, 0)) := by rw [← hW6, ← hb6]; exact Qa1 _ _
  have HB6 := Lib.hid (show Below W.heap.size W W6 by rw [← hW6]; exact Qai u0.ok _); have HM6 := Lib.hid (HM1.out.below HB6.out); have HBI6 := Lib.hid (Qad HBI.out HB6.out); have x0 := Qa0 HB6.out HX0.out; obtain ⟨-, -, -, -, -, -, -, -, -, k9⟩ := given_cells hU B6; have kf9 := QaP B6 9; have HB6b := Lib.hid B6; have HLT := Lib.hid hlt; clear hW6 f0 f1 f2 f3 hHeld B6 hb6 hlt
  cases h0 : m.given id with
  | none =>
    have hs := HRV.out; rw [h0] at hs; have HS := Lib.hid (show revokeF m x = (false, m) from hs); clear hs; rw [show (none : Option (Cred × Int)).isSome = false from rfl]; clear hgg h0
    go_wp2_with fail
    go_ret; exact ⟨by rw [HS.out]; rfl, by rw [HS.out]; exact ⟨_, HM6.out.mono (Nat.le_add_right n 2)⟩⟩
  | some g =>
    obtain rfl : gg = g := by rw [hgg, h0]; rfl
    rw [show (some gg).isSome = true from rfl]; have hs := HRV.out; rw [h0] at hs; clear hgg h0
    by_cases h1 : 0 ≤ gg.2
    · have p0 : decide (0 ≤ gg.2) = true := decide_eq_true h1
      have HS := Lib.hid (show revokeF m x = (false, m) from hs.trans (if_pos h1)); clear h1 hs
      go_wp2_with fail
      go_ret; exact ⟨by rw [HS.out]; rfl, by rw [HS.out]; exact ⟨_, HM6.out.mono (Nat.le_add_right n 2)⟩⟩
    · have p0 : decide (0 ≤ gg.2) = false := decide_eq_false h1
      have HS := Lib.hid (show revokeF m x = (true, { m with given := updG m.given id (gg.1, x.f0) }) from hs.trans (if_neg h1)); clear h1 hs
      go_wp2_with fail
      obtain ⟨U2, hU2, -, -⟩ := encG_agg (gg.1, x.f0)
      have B7 : (W6.setCell ⟨b6, 9, none⟩ (.int .i64 x.f0)).heap[b6]? = some (.cells U2 81 (0, 0)) := Qbl HB6b.out 9 _ (by
        unfold encG at hU hU2
        injection hU with hU
        injection hU2 with hU2
        subst hU; subst hU2
        rfl)
      have hW7 : Below W.heap.size W (W6.setCell ⟨b6, 9, none⟩ (.int .i64 x.f0)) := HB6.out.setCell (p := ⟨b6, 9, none⟩) HLT.out _; have HM7 := Lib.hid (HM1.out.below hW7); have HBI7 := Lib.hid (Qad HBI.out hW7); have HB7 := Lib.hid B7; clear hW7 B7 x0 k9 kf9 hU
      generalize W6.setCell ⟨b6, 9, none⟩ (.int .i64 x.f0) = W7 at HM7 HBI7 HB7 ⊢
      obtain ⟨k0, k1, k2, k3, k4, k5, k6, k7, k8, k9⟩ := given_cells hU2 HB7.out; have f0 := Qaz (QbB HM7.out.blk).2.1; have f1 := Qaz (QaH HBI7.out 0 (v := .int .i64 id.f0) rfl); have f2 := Qaz (QaH HBI7.out 1 (v := .int .i64 id.f1) rfl); have g0 := Qaz k0; have g1 := Qaz k1; have g2 := Qaz k2; have g3 := Qaz k3; have g4 := Qaz k4; have g5 := Qaz k5; have g6 := Qaz k6; have g7 := Qaz k7; have g8 := Qaz k8; have g9 := Qaz k9; obtain ⟨O2, hr, hc⟩ := HM7.out.putG (i := id) HOK.out (gg.1, x.f0) (small_maxA (by have := HN.out; omega)); unfold encID encG at hr; have HC := Lib.hid hc; have HR := Lib.hid hr; clear hr hc k0 k1 k2 k3 k4 k5 k6 k7 k8 k9 hU2; refine Qbo (n := 7) (S := fun w' => ∃ u : BW W7, w' = u.now) (ds := [6]) #[ff,ff,ff,ff,ff,ff,ff] (by kernel_rfl) rfl rfl ⟨⟨_, Qau (Below.refl _ _)⟩, rfl⟩ (fun hHeld => ?_); obtain ⟨u1, hu0⟩ := hHeld; rw [hu0]; clear hu0
      have hHeld : ∃ u : BW W7, u1.now = u.now := ⟨u1, rfl⟩
      refine kz 0 33 ?_; refine kz 1 34 ?_; refine kz 2 35 ?_; refine kb 3 36 ?_; refine kb 4 37 ?_; refine kb 5 38 ?_; have hr := HR.out _ u1.ok; refine ks 6 ?_; refine QbS (by kernel_rfl) ?_; have HM8 := Lib.hid (HC.out _ u1.ok); clear hr f0 f1 f2 g0 g1 g2 g3 g4 g5 g6 g7 g8 g9 hHeld
      go_wp2_with fail
      go_ret; exact ⟨by rw [HS.out]; rfl, by rw [HS.out]; exact ⟨_, HM8.out.mono (Nat.le_succ _)⟩⟩

set_option maxRecDepth 100000 in
set_option maxHeartbeats 8000000 in
theorem verify_calls (w0 w : World) (c0 bg bl bn : Nat) (v : Value) (n : Nat) (m : AM) (x : Evt) (E : Array Value) (hM : CAt w0 w c0 bg bl bn v n m) (hE : EvA w x E) (hx : EvOk x) (hn : n + 2 ≤ 1000000) (hg : GOk m) :
    Calls Tryz.prog 20 #[.pointer (some ⟨c0, 0, none⟩), .agg E] w fun e w' => e = .returned (.bool (verifyF m x)) ∧ CRan w0 c0 bg bl bn (n + 2) m w' := by
  obtain ⟨A14, c14, A20, c20, A22, c22, A23, c23, A24, c24, A32, c32, A34, c34, A35, c35, A36, c36, rfl, h14, hT6, hT2⟩ := hE.form; have HM := Lib.hid hM; have HX := Lib.hid hx; have HN := Lib.hid hn; have HG := Lib.hid hg; have HE := Lib.hid hE; have H14 := Lib.hid h14; have HT6 := Lib.hid hT6; obtain ⟨Ts, hR, hn1, hn2, hTs⟩ := hM.t; obtain ⟨A9, c9, rfl, hc9, hC9⟩ := Kd.R_reads hR; have HC9 := Lib.hid hC9; have HTs := Lib.hid hTs; have HN2 := Lib.hid hn2; clear hM hE hx hn h14 hT6 hT2 hg hR hn1 hTs hC9; go_enter Tryz.func20, Tryz.ntmps20
  go_upto_region 2 with fail
  generalize hW : (w.alloc (Obj.cells (evV x A14 c14 A20 c20 A22 c22 A23 c23 A24 c24 A32 c32 A34 c34 A35 c35 A36 c36) 47)).alloc _ = W
  obtain ⟨BE, BT, HB⟩ := made2 hW; replace BT : W.heap[w.heap.size + 1]? = some (.cells (tokV x.f2.f6 A20 c20 A22 c22 A23 c23 A24 c24) 41 (0, 0)) := BT; have HM1 := Lib.hid (HM.out.below HB); have hT6W : TokA W x.f2.f6 (tokV x.f2.f6 A20 c20 A22 c22 A23 c23 A24 c24) := HT6.out.below HB
  have HCo := Lib.hid (containsTok_calls W A9 c9 (w.heap.size + 1) Ts (m.issued.map fun u => headB x.f2.f6 u) (by rw [List.length_map, HN2.out]) (Kd.Qa8 HC9.out HB) hc9 (fun V hV k T y hT hy => by
    rw [List.getElem?_map] at hy; obtain ⟨u, hu, rfl⟩ := Option.map_eq_some_iff.mp hy
    exact verify1_calls V _ x.f2.f6 u _ T (Qad BT hV) (hT6W.below hV) ((HTs.out k u T hu hT).below (Qac (Qac HM.out.old HB) hV))))
  rw [List.any_map] at HCo; have hc4 := (QbB HM1.out.blk).2.2.2.2; rw [show Ts.length = m.issued.length from HN2.out] at hc4 HCo; have x1 := QaH BE 1 (v := .int .i64 x.f1) rfl; obtain ⟨t0, -⟩ := tok_cells BT; have HBw := Lib.hid HB; have HBE := Lib.hid BE; have HBT := Lib.hid BT; have HT6W := Lib.hid hT6W
  have hcs : (x.f2.f6.f0 ≠ x.f1 ∧ verifyF m x = true) ∨ (x.f2.f6.f0 = x.f1 ∧ m.issued.any (id ∘ fun u => headB x.f2.f6 u) = false ∧ verifyF m x = true) ∨ (x.f2.f6.f0 = x.f1 ∧ m.issued.any (id ∘ fun u => headB x.f2.f6 u) = true ∧ verifyF m x = (match x.f2.f4 with | [] => false | r :: _ => decide (r ∈ x.f2.f6.f4) && standsF m x.f2.f6 x)) := by
    unfold verifyF
    by_cases h1 : x.f2.f6.f0 = x.f1
    · cases h2 : m.issued.any (id ∘ fun u => headB x.f2.f6 u) with
      | false => exact .inr (.inl ⟨h1, rfl, if_neg (fun h => by rw [show (m.issued.any fun u => headB x.f2.f6 u) = false from h2] at h; exact absurd h.2 (by decide))⟩)
      | true => exact .inr (.inr ⟨h1, rfl, if_pos ⟨h1, h2⟩⟩)
    · exact .inl ⟨h1, if_neg (fun h => h1 h.1)⟩
  clear hW BE BT HB hT6W
  rcases hcs with ⟨h1, hf⟩ | ⟨h1, h2, hf⟩ | ⟨h1, h2, hf⟩
  · have p0 : (x.f2.f6.f0 != x.f1) = true := by simpa using h1
    have HF := Lib.hid hf; clear h1 hf
    go_wp2_with fail
    go_ret; exact ⟨by rw [HF.out]; rfl, ⟨_, HM1.out.mono (Nat.le_add_right n 2)⟩⟩
  · have p0 : (x.f2.f6.f0 != x.f1) = false := by simp [h1]
    have HF := Lib.hid hf; rw [h2] at HCo; clear h1 h2 hf
    go_wp2_with (go_at_call 37; refine HCo.out.mono ?_; rintro e w3 ⟨rfl, hb3⟩; have HB3 := Lib.hid hb3; clear hb3)
    go_ret; exact ⟨by rw [HF.out]; rfl, ⟨_, (HM1.out.below HB3.out).mono (Nat.le_add_right n 2)⟩⟩
  have p0 : (x.f2.f6.f0 != x.f1) = false := by simp [h1]
  rw [h2] at HCo; clear h1 h2
  go_wp2_with (go_at_call 37; refine HCo.out.mono ?_; rintro e w3 ⟨rfl, hb3⟩; have HB3 := Lib.hid hb3; clear hb3)
  have BE3 := Qad HBE.out HB3.out; have BT3 := Qad HBT.out HB3.out; have HM3 := Lib.hid (HM1.out.below HB3.out); have HT3 := Lib.hid (HT6W.out.below HB3.out); have HSt := Lib.hid (fun u : BW w3 => stands_calls w0 u.now c0 bg bl bn _ n m x.f2.f6 x _ (evV x A14 c14 A20 c20 A22 c22 A23 c23 A24 c24 A32 c32 A34 c34 A35 c35 A36 c36) (HM3.out.below u.ok) (HT3.out.below u.ok) ((HE.out.below (Qac HBw.out HB3.out)).below u.ok) HX.out.n1 HX.out.i1 (fun i _ => HG.out.cred i)); have e1 := Qaz (QaH BE3 1 rfl); have e14 := Qaz (QaH BE3 14 rfl); have a4 := Qaz (QaH BT3 4 rfl)
  have hlE := fun (u : BW w3) => Qbn (Qad BE3 u.ok)
  have hlT := fun (u : BW w3) => Qbn (Qad BT3 u.ok)
  have HLE := Lib.hid hlE; have HLT := Lib.hid hlT; obtain ⟨l14, g14⟩ := H14.out; have g14' := Kd.Qa8 g14 (Qac HBw.out HB3.out); clear hlE hlT BE3 BT3 hc4 x1 t0 p0 g14
  cases hx4 : x.f2.f4 with
  | nil =>
    have d0 : decide ((0 : Int) < (x.f2.f4.length : Int)) = false := by rw [hx4]; rfl
    have d1 : decide (0 < x.f2.f4.length) = false := by rw [hx4]; rfl
    have HF2 := Lib.hid (show verifyF m x = false by rw [hf, hx4]); clear hf hx4 g14' l14; refine QaL (by kernel_rfl) (by kernel_rfl) ?_
    repeat (go_big_quiet_step (fail))
    refine wpQuiet_nil ?_; rintro _ ⟨u, rfl⟩
    go_wp2_with fail
    go_ret; exact ⟨by rw [HF2.out]; rfl, ⟨_, (HM3.out.below u.ok).mono (Nat.le_add_right n 2)⟩⟩
  | cons r rest =>
    have hlen : 0 < x.f2.f4.length := by rw [hx4]; simp
    have d0 : decide ((0 : Int) < (x.f2.f4.length : Int)) = true := decide_eq_true (by omega); have d1 : decide (0 < x.f2.f4.length) = true := decide_eq_true hlen
    have d2 : (0 : Int) < (x.f2.f4.length : Int) := by omega
    obtain ⟨ad, rfl, r0, r1⟩ := at_T33 g14' 0 (by omega) d2
    have hr : Qa7 x.f2.f4 0 = r := by rw [hx4]; rfl
    rw [hr, show (0 : Int).toNat * 2 = 0 from rfl] at r0 r1; rw [addr_zeroA] at r0 r1; have q0 := Qaz r0; have q1 := Qaz r1; obtain ⟨K, k⟩ := containsRole_ev x.f2.f6.f4 HT3.out.rows.1.2.2.1 r; have k := k K (Nat.le_refl _); obtain ⟨⟨m4, h4⟩, -⟩ := HT3.out.rows; have HC2 := Lib.hid (fun u : BW w3 => api_Role_40.calls K A20 c20 x.f2.f6.f4 r.f0 r.f1 _ u.now (Kd.Qa8 h4 u.ok) m4 k)
    have hv : verifyF m x = (decide (r ∈ x.f2.f6.f4) && standsF m x.f2.f6 x) := by rw [hf, hx4]
    clear hf g14' l14 hlen r0 r1 hr k h4 m4 hx4
    cases hm : decide (r ∈ x.f2.f6.f4) with
    | false =>
      have HF2 := Lib.hid (show verifyF m x = false by rw [hv, hm]; rfl); rw [hm] at HC2; clear hv hm; refine QaL (by kernel_rfl) (by kernel_rfl) ?_
      repeat (go_big_quiet_step (with_reducible refine QbF (HC2.out _)))
      refine wpQuiet_nil ?_; rintro _ ⟨u, rfl⟩
      go_wp2_with fail
      go_ret; exact ⟨by rw [HF2.out]; rfl, ⟨_, (HM3.out.below u.ok).mono (Nat.le_add_right n 2)⟩⟩
    | true =>
      have HF2 := Lib.hid (show verifyF m x = standsF m x.f2.f6 x by rw [hv, hm]; rfl); rw [hm] at HC2; clear hv hm; refine QaL (by kernel_rfl) (by kernel_rfl) ?_
      repeat (first | (refine QbX 40 41 (.tmp 5) (tokV x.f2.f6 A20 c20 A22 c22 A23 c23 A24 c24) _ HLT.out _ Tryz.underlying41 rfl (by kernel_rfl) rfl rfl rfl rfl (by simp only [Act.put, put_]; rfl) ?_) | (refine QbX 41 47 (.tmp 3) (evV x (some ad) c14 A20 c20 A22 c22 A23 c23 A24 c24 A32 c32 A34 c34 A35 c35 A36 c36) _ HLE.out _ Tryz.underlying47 rfl (by kernel_rfl) rfl rfl rfl rfl (by simp only [Act.put, put_]; rfl) ?_) | go_big_quiet_step (first | (with_reducible refine QbF (HC2.out _)) | (with_reducible refine QbF (HSt.out _))))
      refine wpQuiet_nil ?_; rintro _ ⟨u, rfl⟩
      go_wp2_with fail
      go_ret; exact ⟨by rw [HF2.out]; rfl, ⟨_, (HM3.out.below u.ok).mono (Nat.le_add_right n 2)⟩⟩

theorem infoTok : (Tryz.prog.info? 41).map (fun i => (i.zero, i.size, i.bytes)) = some (some (.agg #[.int .i64 0, .int .i64 0, .int .i64 0, .string ⟨#[]⟩, .slice none 0 0, .int .i64 0, .slice none 0 0, .slice none 0 0, .slice none 0 0]), 9, 144) := by kernel_rfl
set_option maxRecDepth 100000 in
set_option maxHeartbeats 8000000 in
theorem issue_calls (w0 w : World) (c0 bg bl bn : Nat) (v : Value) (n : Nat) (m : AM) (x : Evt) (E : Array Value) (hM : CAt w0 w c0 bg bl bn v n m) (hE0 : EvA w0 x E) (hx : EvOk x) (hn : n + 2 ≤ 1000000) (hg : GOk m) :
    Calls Tryz.prog 19 #[.pointer (some ⟨c0, 0, none⟩), .agg E] w fun e w' => e = .returned (.bool (issueF m x).1) ∧ CRan w0 c0 bg bl bn (n + 2) (issueF m x).2 w' := by
  have hE := hE0.below hM.old; obtain ⟨A14, c14, A20, c20, A22, c22, A23, c23, A24, c24, A32, c32, A34, c34, A35, c35, A36, c36, rfl, h14, hT6, hT2⟩ := hE.form; have HM := Lib.hid hM; have HX := Lib.hid hx; have HN := Lib.hid hn
  have hT0 : TokA w0 x.f3.f2 (tokV x.f3.f2 A32 c32 A34 c34 A35 c35 A36 c36) := by
    obtain ⟨_, _, _, _, _, _, _, _, _, _, _, _, _, _, _, _, _, _, he, _, _, h⟩ := hE0.form; have e4 : some (Value.slice A32 x.f3.f2.f4.length c32) = some _ := congrArg (fun T : Array Value => T[32]?) he; have e6 : some (Value.slice A34 x.f3.f2.f6.length c34) = some _ := congrArg (fun T : Array Value => T[34]?) he; have e7 : some (Value.slice A35 x.f3.f2.f7.length c35) = some _ := congrArg (fun T : Array Value => T[35]?) he; have e8 : some (Value.slice A36 x.f3.f2.f8.length c36) = some _ := congrArg (fun T : Array Value => T[36]?) he
    injection e4 with e4
    injection e4 with a4 _ b4
    injection e6 with e6
    injection e6 with a6 _ b6
    injection e7 with e7
    injection e7 with a7 _ b7
    injection e8 with e8
    injection e8 with a8 _ b8
    subst a4 b4 a6 b6 a7 b7 a8 b8; exact h
  have HT0 := Lib.hid hT0; have HG := Lib.hid hg; have HE := Lib.hid hE; have H14 := Lib.hid h14; have HT2 := Lib.hid hT2; clear hM hE hE0 hx hn h14 hT6 hT2 hg hT0; go_enter Tryz.func19, Tryz.ntmps19
  go_wp2_with fail
  generalize hW : (w.alloc (Obj.cells (evV x A14 c14 A20 c20 A22 c22 A23 c23 A24 c24 A32 c32 A34 c34 A35 c35 A36 c36) 47)).alloc _ = W
  obtain ⟨BE, BT, HB⟩ := made2 hW; replace BT : W.heap[w.heap.size + 1]? = some (.cells (tokV x.f3.f2 A32 c32 A34 c34 A35 c35 A36 c36) 41 (0, 0)) := BT; have HM1 := Lib.hid (HM.out.below HB); have HT1 := Lib.hid (HT2.out.below HB); have HBE := Lib.hid BE; have HBT := Lib.hid BT; have HLE := Lib.hid (fun (u : BW W) => Qbn (Qad BE u.ok)); have HLT := Lib.hid (fun (u : BW W) => Qbn (Qad BT u.ok)); have HSt := Lib.hid (fun u : BW W => stands_calls w0 u.now c0 bg bl bn v n m x.f3.f2 x _ (evV x A14 c14 A20 c20 A22 c22 A23 c23 A24 c24 A32 c32 A34 c34 A35 c35 A36 c36) (HM1.out.below u.ok) (HT1.out.below u.ok) ((HE.out.below HB).below u.ok) HX.out.n2 HX.out.i2 (fun i _ => HG.out.cred i)); obtain ⟨K, k⟩ := equalRole_ev x.f3.f2.f4 x.f2.f4 HT1.out.rows.1.2.2.1; have k := k K (Nat.le_refl _); have HEq := Lib.hid (fun u : BW W => (Qbc.calls K A32 c32 x.f3.f2.f4 A14 c14 x.f2.f4 _ u.now (Kd.Qa8 HT1.out.rows.1.2 u.ok) HT1.out.rows.1.1 (Kd.Qa8 (Kd.Qa8 H14.out.2 HB) u.ok) H14.out.1 k).mono (fun e w' ⟨he, j, hj⟩ => (⟨he, by rw [hj]; exact QaK (Below.refl _ _) j⟩ : e = _ ∧ Below u.now.heap.size u.now w'))); have g0 := Qaz (QbB HM1.out.blk).2.2.2.1; have g1 := bw_num HM1.out.k HX.out.d; have g2 := Qaz (QaH BE 1 (v := .int .i64 x.f1) rfl); have g3 := Qaz (QaH BE 13 (v := .string x.f2.f3) rfl); have g4 := Qaz (QaH BE 14 (v := .slice A14 x.f2.f4.length c14) rfl); obtain ⟨t0, -, t2, t3, t4, -⟩ := tok_cells BT
  have g5 := Qaz t0; have g6 := Qaz t2; have g7 := Qaz t3; have g8 := Qaz t4; clear hW BE BT HB t0 t2 t3 t4 k
  by_cases h0 : x.f3.f2.f0 = x.f1
  rotate_left
  · have p0 : (x.f3.f2.f0 != x.f1) = true := by simpa using h0
    have HF := Lib.hid (show issueF m x = (false, m) from if_neg (fun h => h0 h.1)); clear h0; refine QaL (by kernel_rfl) (by kernel_rfl) ?_
    repeat (go_big_quiet_step (fail))
    refine wpQuiet_nil ?_; rintro _ ⟨u, rfl⟩
    go_wp2_with fail
    go_ret; exact ⟨by rw [HF.out]; rfl, by rw [HF.out]; exact ⟨_, (HM1.out.below u.ok).mono (Nat.le_add_right n 2)⟩⟩
  have p0 : (x.f3.f2.f0 != x.f1) = false := by simp [h0]
  by_cases h1 : m.number x.f1 < x.f3.f2.f2
  rotate_left
  · have p1 : decide (x.f3.f2.f2 ≤ m.number x.f1) = true := decide_eq_true (by omega)
    have HF := Lib.hid (show issueF m x = (false, m) from if_neg (fun h => h1 h.2.1)); clear h0 h1; refine QaL (by kernel_rfl) (by kernel_rfl) ?_
    repeat (go_big_quiet_step (fail))
    refine wpQuiet_nil ?_; rintro _ ⟨u, rfl⟩
    go_wp2_with fail
    go_ret; exact ⟨by rw [HF.out]; rfl, by rw [HF.out]; exact ⟨_, (HM1.out.below u.ok).mono (Nat.le_add_right n 2)⟩⟩
  have p1 : decide (x.f3.f2.f2 ≤ m.number x.f1) = false := decide_eq_false (by omega)
  by_cases h2 : x.f3.f2.f3 = x.f2.f3
  rotate_left
  · have p2 : (x.f3.f2.f3.toList == x.f2.f3.toList) = false := (Lib.bytes_beq_false_iff _ _).mpr h2
    have HF := Lib.hid (show issueF m x = (false, m) from if_neg (fun h => h2 h.2.2.1)); clear h0 h1 h2; refine QaL (by kernel_rfl) (by kernel_rfl) ?_
    repeat (go_big_quiet_step (fail))
    refine wpQuiet_nil ?_; rintro _ ⟨u, rfl⟩
    go_wp2_with fail
    go_ret; exact ⟨by rw [HF.out]; rfl, by rw [HF.out]; exact ⟨_, (HM1.out.below u.ok).mono (Nat.le_add_right n 2)⟩⟩
  have p2 : (x.f3.f2.f3.toList == x.f2.f3.toList) = true := by rw [Lib.bytes_beq_iff]; exact h2
  by_cases h3 : x.f3.f2.f4 = x.f2.f4
  rotate_left
  · rw [decide_eq_false h3] at HEq
    have HF := Lib.hid (show issueF m x = (false, m) from if_neg (fun h => h3 h.2.2.2.1)); clear h0 h1 h2 h3; refine QaL (by kernel_rfl) (by kernel_rfl) ?_
    repeat (go_big_quiet_step (with_reducible refine QbF (HEq.out _)))
    refine wpQuiet_nil ?_; rintro _ ⟨u, rfl⟩
    go_wp2_with fail
    go_ret; exact ⟨by rw [HF.out]; rfl, by rw [HF.out]; exact ⟨_, (HM1.out.below u.ok).mono (Nat.le_add_right n 2)⟩⟩
  rw [decide_eq_true h3] at HEq
  cases h4 : standsF m x.f3.f2 x with
  | false =>
    have HF := Lib.hid (show issueF m x = (false, m) from if_neg (fun h => by rw [h4] at h; exact absurd h.2.2.2.2 (by decide))); rw [h4] at HSt; clear h0 h1 h2 h3 h4; refine QaL (by kernel_rfl) (by kernel_rfl) ?_
    repeat (first | (refine QbX 45 41 (.tmp 5) (tokV x.f3.f2 A32 c32 A34 c34 A35 c35 A36 c36) _ HLT.out _ Tryz.underlying41 rfl (by kernel_rfl) rfl rfl rfl rfl (by simp only [Act.put, put_]; rfl) ?_) | (refine QbX 46 47 (.tmp 3) (evV x A14 c14 A20 c20 A22 c22 A23 c23 A24 c24 A32 c32 A34 c34 A35 c35 A36 c36) _ HLE.out _ Tryz.underlying47 rfl (by kernel_rfl) rfl rfl rfl rfl (by simp only [Act.put, put_]; rfl) ?_) | go_big_quiet_step (first | (with_reducible refine QbF (HEq.out _)) | (with_reducible refine QbF (HSt.out _))))
    refine wpQuiet_nil ?_; rintro _ ⟨u, rfl⟩
    go_wp2_with fail
    go_ret; exact ⟨by rw [HF.out]; rfl, by rw [HF.out]; exact ⟨_, (HM1.out.below u.ok).mono (Nat.le_add_right n 2)⟩⟩
  | true =>
    have HF := Lib.hid (show issueF m x = (true, { m with number := updI m.number x.f1 x.f3.f2.f2, issued := m.issued ++ [x.f3.f2] }) from if_pos ⟨h0, h1, h2, h3, h4⟩); rw [h4] at HSt; clear h0 h1 h2 h3 h4; refine QaL (by kernel_rfl) (by kernel_rfl) ?_
    repeat (first | (refine QbX 45 41 (.tmp 5) (tokV x.f3.f2 A32 c32 A34 c34 A35 c35 A36 c36) _ HLT.out _ Tryz.underlying41 rfl (by kernel_rfl) rfl rfl rfl rfl (by simp only [Act.put, put_]; rfl) ?_) | (refine QbX 46 47 (.tmp 3) (evV x A14 c14 A20 c20 A22 c22 A23 c23 A24 c24 A32 c32 A34 c34 A35 c35 A36 c36) _ HLE.out _ Tryz.underlying47 rfl (by kernel_rfl) rfl rfl rfl rfl (by simp only [Act.put, put_]; rfl) ?_) | go_big_quiet_step (first | (with_reducible refine QbF (HEq.out _)) | (with_reducible refine QbF (HSt.out _))))
    refine wpQuiet_nil ?_; rintro _ ⟨u, rfl⟩
    go_wp2_with fail
    have HMv := Lib.hid (HM1.out.below u.ok); have HBEv := Lib.hid (Qad HBE.out u.ok); have HBTv := Lib.hid (Qad HBT.out u.ok); clear g0 g1 g2 g3 g4 g5 g6 g7 g8; clear HSt HEq HLE HLT HBE HBT
    generalize u.now = V at HMv HBEv HBTv ⊢
    clear u; have g0 := Qaz (QbB HMv.out.blk).2.2.2.1; have g1 := Qaz (QaH HBEv.out 1 (v := .int .i64 x.f1) rfl); have g2 := Qaz (tok_cells HBTv.out).2.2.1; obtain ⟨O, hr, hc⟩ := HMv.out.putK HX.out.d x.f3.f2.f2 (small_maxA (by have := HN.out; omega)); have HC := Lib.hid hc; have HR := Lib.hid hr; clear hr hc; refine Qbo (n := 9) (S := fun w' => ∃ u : BW V, w' = u.now) (ds := [8]) #[ff,ff,ff,ff,ff,ff,ff,ff,ff] (by kernel_rfl) rfl rfl ⟨⟨_, Qau (Below.refl _ _)⟩, rfl⟩ (fun hHeld => ?_); obtain ⟨u0, hu0⟩ := hHeld; rw [hu0]; clear hu0
    have hHeld : ∃ u : BW V, u0.now = u.now := ⟨u0, rfl⟩
    refine kz 0 50 ?_; refine kz 1 51 ?_; refine kz 2 52 ?_; refine kb 3 53 ?_; refine kz 4 54 ?_; refine kb 5 55 ?_; refine kz 6 56 ?_; refine kb 7 57 ?_; have hr := HR.out _ u0.ok; refine ks 8 ?_; refine QbS (by kernel_rfl) ?_; have HM2 := Lib.hid (HC.out _ u0.ok)
    have hne : w.heap.size + 1 ≠ bn := by have := HM.out.k.lt; omega
    have HBT2 := Lib.hid ((Qa4 hne).trans (Qad HBTv.out u0.ok) : (setBlock u0.now bn O).heap[w.heap.size + 1]? = _); clear hr hne g0 g1 g2 HR HC hHeld
    generalize setBlock u0.now bn O = V2 at HM2 HBT2 ⊢
    go_wp2_with fail
    have g0 := Qaz (QbB HM2.out.blk).2.2.2.2; have HLT := Lib.hid (fun (u : BW V2) => Qbn (Qad HBT2.out u.ok)); obtain ⟨Ts, hR, hn1, hl1, hTs⟩ := HM2.out.t; have HR2 := Lib.hid hR; have HTs := Lib.hid hTs; have HN1 := Lib.hid hn1; have HL1 := Lib.hid hl1; clear hR hn1 hl1 hTs; refine Qbo (n := 11) (S := fun w' => ∃ u : BW V2, w' = u.now) (ds := [7, 10]) #[ff,ff,ff,ff,ff,ff,ff,ff,ff,ff,ff] (by kernel_rfl) rfl rfl ⟨⟨_, Qau (Below.refl _ _)⟩, rfl⟩ (fun hHeld => ?_); obtain ⟨u0, hu0⟩ := hHeld; rw [hu0]; clear hu0
    have hHeld : ∃ u : BW V2, u0.now = u.now := ⟨u0, rfl⟩
    refine kz 0 58 ?_; refine kz 1 59 ?_; refine kz 2 60 ?_; refine kz 3 61 ?_; refine kb 4 62 ?_; refine kb 5 63 ?_ (v := .agg (tokV x.f3.f2 A32 c32 A34 c34 A35 c35 A36 c36)) (hy := by rintro _ ⟨u, rfl⟩; exact run_load (HLT.out u) rfl rfl Tryz.underlying41 rfl (by kernel_rfl)); refine kv 6 64 ⟨⟨_, Qai u0.ok _⟩, rfl⟩ ?_; refine last_ (i := 7) (N := some 65) #[tt,tt,tt,tt,tt,tt,tt,tt,ff,ff,ff] rfl rfl (by kernel_rfl) (by decide) (fun K hK => ?_); refine Kd.R_append_step (kRaw 9) (w0 := w0) w0.heap.size (by rfl) (.tmp 62) (.tmp 64) 53 41 (.agg #[.int .i64 0, .int .i64 0, .int .i64 0, .string ⟨#[]⟩, .slice none 0 0, .int .i64 0, .slice none 0 0, .slice none 0 0, .slice none 0 0]) 144 rfl Tryz.underlying53 infoTok rfl (by decide) (by omega) v Ts (tokV x.f3.f2 A32 c32 A34 c34 A35 c35 A36 c36) [.int .i64 x.f3.f2.f0, .int .i64 x.f3.f2.f1, .int .i64 x.f3.f2.f2, .string x.f3.f2.f3, .slice A32 x.f3.f2.f4.length c32, .int .i64 x.f3.f2.f5, .slice A34 x.f3.f2.f6.length c34, .slice A35 x.f3.f2.f7.length c35, .slice A36 x.f3.f2.f8.length c36] (fun _ => True) (fun _ => False) rfl rfl ?aP (fun _ hk => hk.elim) (fun _ _ => trivial) ?aO ?aB ?aS ?aL ?_
    (case aP => exact ⟨rfl, rfl, by simp [Value.oneCell']⟩)
    (case aO => exact Kd.Qa3 HR2.out u0.ok)
    (case aB => exact Qac HM2.out.old u0.ok)
    (case aS => exact QaI (Qac HM2.out.old u0.ok))
    (case aL => have := HN1.out; have := HN.out; omega)
    intro v6 w6 ho hb hg hat
    obtain ⟨hc6, HMi⟩ := (HM2.out.below u0.ok).putI HN1.out HL1.out HTs.out ho hg hb HT0.out; obtain ⟨A6x, n6, c6, rfl⟩ := slice_of ho; have B6 := hc6.trans (HM2.out.below u0.ok).blk; have k4 := (QbB B6).2.2.2.2; have kf := QaP B6 4; have HMi := Lib.hid HMi; clear ho hb hg hat hc6 B6 g0 hHeld; refine hK.out _ _ ?_; clear hK K; refine norm_ (a' := ?_) ?_ ?_; rotate_left
    · show Act.put _ (some 65) _ = _
      simp only [Act.put, put_]; rfl
    refine kz 8 66 ?_; refine kz 9 67 ?_; refine ks 10 ?_; refine QbS (by kernel_rfl) ?_; clear k4 kf
    go_wp2_with fail
    go_ret; exact ⟨by rw [HF.out]; rfl, by rw [HF.out]; exact ⟨_, HMi.out⟩⟩

abbrev Rep := S45
def nothingB (r : Rep) : Bool := decide (r.f1 = 0) && (decide (r.f2.f0 = 0) && (decide (r.f2.f1 = 0) && (decide (r.f2.f2 = 0) && (decide (r.f2.f3.toList = []) && (decide (r.f2.f5 = 0) && (wrap64 (wrap64 (wrap64 ((r.f2.f4.length : Int) + (r.f2.f6.length : Int)) + (r.f2.f7.length : Int)) + (r.f2.f8.length : Int)) == 0))))))
set_option maxRecDepth 100000 in
set_option maxHeartbeats 4000000 in
theorem nothing_calls (w : World) (r : Rep) (A4 : Option Addr) (c4 : Nat) (A6 : Option Addr) (c6 : Nat) (A7 : Option Addr) (c7 : Nat) (A8 : Option Addr) (c8 : Nat) :
    Calls Tryz.prog 16 #[.agg #[.int .i64 r.f0, .int .i64 r.f1, .int .i64 r.f2.f0, .int .i64 r.f2.f1, .int .i64 r.f2.f2, .string r.f2.f3, .slice A4 r.f2.f4.length c4, .int .i64 r.f2.f5, .slice A6 r.f2.f6.length c6, .slice A7 r.f2.f7.length c7, .slice A8 r.f2.f8.length c8]] w fun e w' => e = .returned (.bool (nothingB r)) ∧ Below w.heap.size w w' := by
  go_enter Tryz.func16, Tryz.ntmps16
  go_wp2_with fail
  all_goals
    go_ret; refine ⟨?_, by repeat (first | exact Below.refl _ _ | apply Qai)⟩
    first
      | (show Ending.returned (Value.bool false) = _
         rw [show nothingB r = false by unfold nothingB; simp [*]])
      | (show Ending.returned (Value.bool (wrap64 (wrap64 (wrap64 ((r.f2.f4.length : Int) + (r.f2.f6.length : Int)) + (r.f2.f7.length : Int)) + (r.f2.f8.length : Int)) == 0)) = _
         rw [show nothingB r = (wrap64 (wrap64 (wrap64 ((r.f2.f4.length : Int) + (r.f2.f6.length : Int)) + (r.f2.f7.length : Int)) + (r.f2.f8.length : Int)) == 0) by unfold nothingB; simp [*]])
noncomputable def soundF (m : AM) (x : Evt) : Bool × AM :=
  if x.f0 < m.time ∨ (domName x.f1).toList = [] then (false, m)
  else if x.f3.f0 ≠ 0 then (nothingB x.f3, { m with time := x.f0 })
  else if x.f2.f0 = 1 then addF { m with time := x.f0 } x
  else if x.f2.f0 = 2 then revokeF { m with time := x.f0 } x
  else if x.f2.f0 = 3 then issueF { m with time := x.f0 } x
  else if x.f2.f0 = 4 then (verifyF { m with time := x.f0 } x, { m with time := x.f0 })
  else (true, { m with time := x.f0 })
theorem CAt.putT {w0 w : World} {c0 bg bl bn n : Nat} {v : Value} {m : AM} (h : CAt w0 w c0 bg bl bn v n m) (t : Int) : CAt w0 (w.setCell ⟨c0, 0, none⟩ (.int .i64 t)) c0 bg bl bn v n { m with time := t } :=
  { h with
    blk := Qbl h.blk 0 _ rfl
    g := h.g.same (Below.heap_setCell _ _ _ bg (Ne.symm h.c_ne_g))
    l := h.l.same (Below.heap_setCell _ _ _ bl (Ne.symm h.c_ne_l))
    k := h.k.same (Below.heap_setCell _ _ _ bn (Ne.symm h.c_ne_k))
    t := h.t.same (fun k hk => Below.heap_setCell _ _ _ k (h.v_ne hk).1)
    old := h.old.setCell (p := ⟨c0, 0, none⟩) h.c0l _ }
set_option maxRecDepth 100000 in
set_option maxHeartbeats 8000000 in
theorem sound_calls (w0 w : World) (c0 bg bl bn : Nat) (v : Value) (n : Nat) (m : AM) (x : Evt) (E : Array Value) (hM : CAt w0 w c0 bg bl bn v n m) (hE0 : EvA w0 x E) (hx : EvOk x) (hn : n + 2 ≤ 1000000) (hg : GOk m) :
    Calls Tryz.prog 11 #[.pointer (some ⟨c0, 0, none⟩), .agg E] w fun e w' => e = .returned (.bool (soundF m x).1) ∧ CRan w0 c0 bg bl bn (n + 2) (soundF m x).2 w' := by
  have hE := hE0.below hM.old; obtain ⟨A14, c14, A20, c20, A22, c22, A23, c23, A24, c24, A32, c32, A34, c34, A35, c35, A36, c36, rfl, h14, hT6, hT2⟩ := hE.form; have HM := Lib.hid hM; have HX := Lib.hid hx; have HN := Lib.hid hn; have HG := Lib.hid hg; have HE0 := Lib.hid hE0; clear hM hE hE0 hx hn h14 hT6 hT2 hg; go_enter Tryz.func11, Tryz.ntmps11
  go_wp2_with fail
  generalize hW : w.alloc (Obj.cells (evV x A14 c14 A20 c20 A22 c22 A23 c23 A24 c24 A32 c32 A34 c34 A35 c35 A36 c36) 47) = W
  have BE : W.heap[w.heap.size]? = some (.cells (evV x A14 c14 A20 c20 A22 c22 A23 c23 A24 c24 A32 c32 A34 c34 A35 c35 A36 c36) 47 (0, 0)) := by rw [← hW]; exact Qa1 _ _
  have HB : Below w.heap.size w W := by rw [← hW]; exact Qai (Below.refl _ _) _
  have HM1 := Lib.hid (HM.out.below HB); have HBE := Lib.hid BE; have HD := Lib.hid (fun u : BW W => (Qbu.calls x.f1 _ u.now rfl).mono (fun e w' ⟨he, j, hj⟩ => (⟨he, by rw [hj]; exact QaK (Below.refl _ _) j⟩ : e = _ ∧ Below u.now.heap.size u.now w'))); have g0 := Qaz (QbB HM1.out.blk).1; have g1 := Qaz (QaH BE 0 (v := .int .i64 x.f0) rfl); have g2 := Qaz (QaH BE 1 (v := .int .i64 x.f1) rfl); clear hW BE HB
  by_cases h0 : x.f0 < m.time
  · have p0 : decide (x.f0 < m.time) = true := decide_eq_true h0
    have HF := Lib.hid (show soundF m x = (false, m) from if_pos (.inl h0)); clear h0; refine QaL (by kernel_rfl) (by kernel_rfl) ?_
    repeat (go_big_quiet_step (with_reducible refine QbF (HD.out _)))
    refine wpQuiet_nil ?_; rintro _ ⟨u, rfl⟩
    go_wp2_with fail
    go_ret; exact ⟨by rw [HF.out]; rfl, by rw [HF.out]; exact ⟨_, (HM1.out.below u.ok).mono (Nat.le_add_right n 2)⟩⟩
  have p0 : decide (x.f0 < m.time) = false := decide_eq_false h0
  by_cases h1 : (domName x.f1).toList = []
  · have HF := Lib.hid (show soundF m x = (false, m) from if_pos (.inr h1))
    have p1 : ((domName x.f1).toList == []) = true := by rw [h1]; rfl
    clear h0; refine QaL (by kernel_rfl) (by kernel_rfl) ?_
    repeat (go_big_quiet_step (with_reducible refine QbF (HD.out _)))
    refine wpQuiet_nil ?_; rintro _ ⟨u, rfl⟩
    go_wp2_with fail
    go_ret; exact ⟨by rw [HF.out]; rfl, by rw [HF.out]; exact ⟨_, (HM1.out.below u.ok).mono (Nat.le_add_right n 2)⟩⟩
  have p1 : ((domName x.f1).toList == []) = false := by simpa using h1
  have HS := Lib.hid (show soundF m x = _ from if_neg (fun h => h.elim h0 h1)); clear h0; refine QaL (by kernel_rfl) (by kernel_rfl) ?_
  repeat (go_big_quiet_step (with_reducible refine QbF (HD.out _)))
  refine wpQuiet_nil ?_; rintro _ ⟨u, rfl⟩; have HMu := Lib.hid (HM1.out.below u.ok); have HBEu := Lib.hid (Qad HBE.out u.ok); clear g0 g1 g2 p0 p1 h1 HD
  generalize u.now = V at HMu HBEu ⊢
  clear u; have k0 := (QbB HMu.out.blk).1; have kf := QaP HMu.out.blk 0; have x0 := QaH HBEu.out 0 (v := .int .i64 x.f0) rfl
  go_upto_region 4 with fail
  have hne : w.heap.size ≠ c0 := by have := Qbi HM.out.blk; omega
  have HM3 := Lib.hid (HMu.out.putT x.f0); have HBE3 := Lib.hid ((Below.heap_setCell V ⟨c0, 0, none⟩ (.int .i64 x.f0) w.heap.size hne).trans HBEu.out); clear hne k0 kf x0
  generalize V.setCell ⟨c0, 0, none⟩ (.int .i64 x.f0) = V3 at HM3 HBE3 ⊢
  obtain ⟨m1, hm1⟩ : ∃ m1, m1 = { m with time := x.f0 } := ⟨_, rfl⟩
  have HG1 := Lib.hid (show GOk m1 by rw [hm1]; exact HG.out); rw [← hm1] at HM3 HS; clear hm1; have x26 := QaH HBE3.out 26 (v := .int .i64 x.f3.f0) rfl; have x2 := QaH HBE3.out 2 (v := .int .i64 x.f2.f0) rfl
  by_cases h2 : x.f3.f0 = 0
  rotate_left
  · have p2 : (x.f3.f0 != 0) = true := by simpa using h2
    have HF := Lib.hid (HS.out.trans (if_pos h2)); have x27 := QaH HBE3.out 27 (v := .int .i64 x.f3.f1) rfl; have x28 := QaH HBE3.out 28 (v := .int .i64 x.f3.f2.f0) rfl; have x29 := QaH HBE3.out 29 (v := .int .i64 x.f3.f2.f1) rfl; have x30 := QaH HBE3.out 30 (v := .int .i64 x.f3.f2.f2) rfl; have x31 := QaH HBE3.out 31 (v := .string x.f3.f2.f3) rfl; have x32 := QaH HBE3.out 32 (v := .slice A32 x.f3.f2.f4.length c32) rfl; have x33 := QaH HBE3.out 33 (v := .int .i64 x.f3.f2.f5) rfl; have x34 := QaH HBE3.out 34 (v := .slice A34 x.f3.f2.f6.length c34) rfl; have x35 := QaH HBE3.out 35 (v := .slice A35 x.f3.f2.f7.length c35) rfl; have x36 := QaH HBE3.out 36 (v := .slice A36 x.f3.f2.f8.length c36) rfl; clear h2
    go_wp2_with (go_at_call 16; refine (nothing_calls V3 x.f3 A32 c32 A34 c34 A35 c35 A36 c36).mono ?_; rintro e w9 ⟨rfl, hb9⟩; have HB9 := Lib.hid hb9; clear hb9)
    go_ret; exact ⟨by rw [HF.out]; rfl, by rw [HF.out]; exact ⟨_, (HM3.out.below HB9.out).mono (Nat.le_add_right n 2)⟩⟩
  have p2 : (x.f3.f0 != 0) = false := by simp [h2]
  have HS2 := Lib.hid (HS.out.trans (if_neg (fun h => h h2))); clear h2
  by_cases k1 : x.f2.f0 = 1
  · have q1 : (x.f2.f0 == 1) = true := beq_iff_eq.mpr k1
    have HF := Lib.hid (HS2.out.trans (if_pos k1)); clear k1
    go_wp2_with (first | (refine QaF rfl 47 (.tmp 3) rfl _ rfl (evV x A14 c14 A20 c20 A22 c22 A23 c23 A24 c24 A32 c32 A34 c34 A35 c35 A36 c36) _ (Qbn HBE3.out) Tryz.underlying47 rfl (by kernel_rfl) ?_) | (go_at_call 17; refine (add_calls w0 V3 c0 bg bl bn v n _ x _ HM3.out (HE0.out.below HM3.out.old) HX.out HN.out).mono ?_; rintro e w9 ⟨rfl, hr9⟩; have HR9 := Lib.hid hr9; clear hr9))
    go_ret; exact ⟨by rw [HF.out]; rfl, by rw [HF.out]; exact HR9.out⟩
  have q1 : (x.f2.f0 == 1) = false := beq_eq_false_iff_ne.mpr k1
  by_cases k2 : x.f2.f0 = 2
  · have q2 : (x.f2.f0 == 2) = true := beq_iff_eq.mpr k2
    have HF := Lib.hid (HS2.out.trans ((if_neg k1).trans (if_pos k2))); clear k1 k2
    go_wp2_with (first | (refine QaF rfl 47 (.tmp 3) rfl _ rfl (evV x A14 c14 A20 c20 A22 c22 A23 c23 A24 c24 A32 c32 A34 c34 A35 c35 A36 c36) _ (Qbn HBE3.out) Tryz.underlying47 rfl (by kernel_rfl) ?_) | (go_at_call 18; refine (revoke_calls w0 V3 c0 bg bl bn v n _ x _ HM3.out (HE0.out.below HM3.out.old) HX.out HN.out).mono ?_; rintro e w9 ⟨rfl, hr9⟩; have HR9 := Lib.hid hr9; clear hr9))
    go_ret; exact ⟨by rw [HF.out]; rfl, by rw [HF.out]; exact HR9.out⟩
  have q2 : (x.f2.f0 == 2) = false := beq_eq_false_iff_ne.mpr k2
  by_cases k3 : x.f2.f0 = 3
  · have q3 : (x.f2.f0 == 3) = true := beq_iff_eq.mpr k3
    have HF := Lib.hid (HS2.out.trans ((if_neg k1).trans ((if_neg k2).trans (if_pos k3)))); clear k1 k2 k3
    go_wp2_with (first | (refine QaF rfl 47 (.tmp 3) rfl _ rfl (evV x A14 c14 A20 c20 A22 c22 A23 c23 A24 c24 A32 c32 A34 c34 A35 c35 A36 c36) _ (Qbn HBE3.out) Tryz.underlying47 rfl (by kernel_rfl) ?_) | (go_at_call 19; refine (issue_calls w0 V3 c0 bg bl bn v n _ x _ HM3.out HE0.out HX.out HN.out HG1.out).mono ?_; rintro e w9 ⟨rfl, hr9⟩; have HR9 := Lib.hid hr9; clear hr9))
    go_ret; exact ⟨by rw [HF.out]; rfl, by rw [HF.out]; exact HR9.out⟩
  have q3 : (x.f2.f0 == 3) = false := beq_eq_false_iff_ne.mpr k3
  by_cases k4 : x.f2.f0 = 4
  · have q4 : (x.f2.f0 == 4) = true := beq_iff_eq.mpr k4
    have HF := Lib.hid (HS2.out.trans ((if_neg k1).trans ((if_neg k2).trans ((if_neg k3).trans (if_pos k4))))); clear k1 k2 k3 k4
    go_wp2_with (first | (refine QaF rfl 47 (.tmp 3) rfl _ rfl (evV x A14 c14 A20 c20 A22 c22 A23 c23 A24 c24 A32 c32 A34 c34 A35 c35 A36 c36) _ (Qbn HBE3.out) Tryz.underlying47 rfl (by kernel_rfl) ?_) | (go_at_call 20; refine (verify_calls w0 V3 c0 bg bl bn v n _ x _ HM3.out (HE0.out.below HM3.out.old) HX.out HN.out HG1.out).mono ?_; rintro e w9 ⟨rfl, hr9⟩; have HR9 := Lib.hid hr9; clear hr9))
    go_ret; exact ⟨by rw [HF.out]; rfl, by rw [HF.out]; exact HR9.out⟩
  have q4 : (x.f2.f0 == 4) = false := beq_eq_false_iff_ne.mpr k4; have HF := Lib.hid (HS2.out.trans ((if_neg k1).trans ((if_neg k2).trans ((if_neg k3).trans (if_neg k4))))); clear k1 k2 k3 k4
  go_wp2_with fail
  go_ret; exact ⟨by rw [HF.out]; rfl, by rw [HF.out]; exact ⟨_, HM3.out.mono (Nat.le_add_right n 2)⟩⟩

theorem updG_ok {m : AM} (h : GOk m) (i : ID) {g : Cred × Int} (hg : okCred g.1) : ∀ j y, updG m.given i g j = some y → okCred y.1 := by
  intro j y hy; unfold updG at hy
  split at hy
  · obtain rfl := Option.some.inj hy
    exact hg
  · exact h j y hy
theorem soundF_ok {m : AM} {x : Evt} (h : GOk m) (hx : EvOk x) : GOk (soundF m x).2 := by
  have h1 : GOk { m with time := x.f0 } := h; unfold soundF
  split
  · exact h
  split
  · exact h1
  split
  · unfold addF
    split
    · exact h1
    · exact updG_ok h1 _ hx.gave
  split
  · unfold revokeF
    split
    · exact h1
    · rename_i g hg
      split
      · exact h1
      · exact updG_ok h1 _ (g := (g.1, x.f0)) (h _ g hg)
  split
  · unfold issueF
    split
    · exact h1
    · exact h1
  split
  · exact h1
  · exact h1
noncomputable def checkF : AM → List Evt → Nat → Option Nat
  | _, [], _ => none
  | m, x :: xs, i => if (soundF m x).1 = true then checkF (soundF m x).2 xs (i + 1) else some i
def am0 : AM := ⟨0, fun _ => none, fun _ => 0, fun _ => 0, []⟩
def resI (o : Option Nat) : Int := match o with | none => -1 | some i => i
def resE (o : Option Nat) : Int := match o with | none => 0 | some _ => 13
theorem made4 {w W : World} {O : Obj} (h : ((((w.alloc (.map #[] 0)).alloc (.map #[] 0)).alloc (.map #[] 0)).alloc O) = W) : GTab W w.heap.size 0 (fun _ => none) ∧ NTab W (w.heap.size + 1) 0 (fun _ => 0) ∧ NTab W (w.heap.size + 1 + 1) 0 (fun _ => 0) ∧ W.heap[w.heap.size + 1 + 1 + 1]? = some O ∧ Below w.heap.size w W := by
  subst h; have z1 : (w.alloc (.map #[] 0)).heap.size = w.heap.size + 1 := Array.size_push _; have z2 : ((w.alloc (.map #[] 0)).alloc (.map #[] 0)).heap.size = w.heap.size + 1 + 1 := (Array.size_push _).trans (by rw [z1]); have z3 : (((w.alloc (.map #[] 0)).alloc (.map #[] 0)).alloc (.map #[] 0)).heap.size = w.heap.size + 1 + 1 + 1 := (Array.size_push _).trans (by rw [z2]); have b2 := NTab.made (w.alloc (.map #[] 0)); have b3 := NTab.made ((w.alloc (.map #[] 0)).alloc (.map #[] 0)); have b4 := Qa1 (((w.alloc (.map #[] 0)).alloc (.map #[] 0)).alloc (.map #[] 0)) O; rw [z1] at b2; rw [z2] at b3; rw [z3] at b4; refine ⟨(((GTab.made w).same (Below.heap_alloc _ _ _ (by omega))).same (Below.heap_alloc _ _ _ (by omega))).same (Below.heap_alloc _ _ _ (by omega)), (b2.same (Below.heap_alloc _ _ _ (by omega))).same (Below.heap_alloc _ _ _ (by omega)), b3.same (Below.heap_alloc _ _ _ (by omega)), b4, Qai (Qai (Qai (Qai (Below.refl _ _) _) _) _) _⟩
set_option maxRecDepth 100000 in
set_option maxHeartbeats 8000000 in
theorem check_calls (w : World) (A : Option Addr) (c : Nat) (l : List Evt) (hC : Kd.C kEvt w A l.length l) (hc : l.length ≤ c) (hl : l.length ≤ 1000) (hok : ∀ x ∈ l, EvOk x) :
    Calls Tryz.prog 6 #[.slice A l.length c] w fun e w' => e = .returned (.tuple #[.int .i64 (resI (checkF am0 l 0)), .int .i64 (resE (checkF am0 l 0))]) ∧ Below w.heap.size w w' := by
  have hmk1 := fun W => run_makeMap (P := Tryz.prog) 51 W
  have hmk2 := fun W => run_makeMap (P := Tryz.prog) 52 W
  have HC := Lib.hid hC; have HOK := Lib.hid hok; clear hC hok; go_enter Tryz.func6, Tryz.ntmps6
  go_wp2_with fail
  generalize hW : (((w.alloc (Obj.map #[] 0)).alloc (Obj.map #[] 0)).alloc (Obj.map #[] 0)).alloc _ = W
  obtain ⟨b1, b2, b3, b4, b5⟩ := made4 hW; have HM := Lib.hid (show CAt w W (w.heap.size + 1 + 1 + 1) w.heap.size (w.heap.size + 1) (w.heap.size + 1 + 1) (.slice none 0 0) 0 am0 from ⟨b4, by omega, by omega, by omega, by omega, by omega, by omega, by omega, b1, b2, b3, ⟨[], Kd.R_nil _ _ _ _ _, Nat.le_refl _, rfl, fun i t T h => by simp [am0] at h⟩, b5⟩); clear hW b1 b2 b3 b4 b5 hmk1 hmk2
  go_loopg [14] (l.length + 1) (fun kq v14 w' => ∃ (i : Nat) (m : AM) (v : Value), v14 = .int .i64 i ∧ Hid (kq = l.length + 1 - i) ∧ Hid (i ≤ l.length) ∧ Hid (CAt w w' (w.heap.size + 1 + 1 + 1) w.heap.size (w.heap.size + 1) (w.heap.size + 1 + 1) v (2 * i) m) ∧ Hid (GOk m) ∧ Hid (checkF am0 l 0 = checkF m (l.drop i) i))
  case atStart => exact ⟨0, am0, _, rfl, Lib.hid rfl, Lib.hid (Nat.zero_le _), HM, Lib.hid (fun i g h => by cases h), Lib.hid rfl⟩
  case round =>
    clear HM; obtain ⟨i, m, v, rfl, HKq, HI, HMi, HG, HF⟩ := hrel
    by_cases hi : i < l.length
    · have d1 : decide ((i : Int) < (l.length : Int)) = true := decide_eq_true (by omega)
      have d2 : decide (i < l.length) = true := decide_eq_true hi
      have wrapI : wrap64 ((i : Int) + 1) = ((i + 1 : Nat) : Int) := by unfold wrap64; omega
      obtain ⟨ad, cs, rfl, hlen, hK, hcell0⟩ := Kd.C_get HC.out z47 (i : Int) (by omega) (by omega)
      have hx : l.getD (i : Int).toNat z47 = l[i] := by
        rw [show (i : Int).toNat = i from rfl]; simp [List.getD, List.getElem?_eq_getElem hi]
      obtain ⟨x, hxe⟩ : ∃ x, x = l.getD (i : Int).toNat z47 := ⟨_, rfl⟩
      rw [← hxe] at hK
      have hdrop : l.drop i = x :: l.drop (i + 1) := by rw [hxe, hx]; exact List.drop_eq_getElem_cons hi
      have hmem : x ∈ l := by rw [hxe, hx]; exact List.getElem_mem hi
      obtain ⟨E, rfl⟩ : ∃ E : Array Value, cs = E.toList := ⟨cs.toArray, by simp⟩
      have hE : EvA w x E := hK; have HE := Lib.hid hE; have sE := hE.size; have oE := hE.one
      have HCell := Lib.hid (show ∀ j v, E[j]? = some v → wr.cell? ((ad.add (i * 37)).add j) = some v from fun j v hv => by
        rw [Addr.add_add]
        exact Qa0 HMi.out.old (hcell0 j v (by rw [Array.getElem?_toList]; exact hv)))
      have HX := Lib.hid (HOK.out x hmem)
      have q1 : (0 : Int) ≤ (i : Int) := by omega
      have q2 : (i : Int) < (l.length : Int) := by omega
      have HI2 := Lib.hid hi; have hf := HF.out; rw [hdrop, checkF] at hf; have HMa := Lib.hid (HMi.out.below (Qai (Below.refl wr.heap.size wr) (.cells E 47))); have HCl := Lib.hid (sound_calls w (wr.alloc (.cells E 47)) _ _ _ _ v (2 * i) m x E HMa.out hE HX.out (by omega) HG.out); have HG2 := Lib.hid (soundF_ok HG.out HX.out); have HBn := Lib.hid (Qbn (Qa1 wr (.cells E 47)))
      obtain ⟨⟨y, m2⟩, hy⟩ : ∃ y, y = soundF m x := ⟨_, rfl⟩
      rw [← hy] at hf HCl HG2; have HFf := Lib.hid hf; clear hy hf hdrop hmem hK hE hx hxe hcell0 hlen hi
      cases y with
      | true =>
        go_wp2_with (first | (refine QaF rfl 47 (.tmp 17) rfl _ rfl E _ HCell.out Tryz.underlying47 rfl (by rw [sE]; kernel_rfl) ?_) | (refine Qbm rfl 47 (.tmp 6) (.tmp 18) rfl rfl rfl E rfl (by rw [sE]; kernel_rfl) (by rw [sE]; try rfl) oE ?_) | (refine QaF rfl 47 (.tmp 6) rfl _ rfl E _ HBn.out Tryz.underlying47 rfl (by rw [sE]; kernel_rfl) ?_) | (go_at_call 11; refine HCl.out.mono ?_; rintro e w9 ⟨rfl, v9, hM9⟩; have HM9 := Lib.hid hM9; clear hM9))
        go_roundg (l.length + 1 - (i + 1))
        case measure => have := HKq.out; have := HI2.out; omega
        case rel => exact ⟨i + 1, m2, v9, by first | rfl | exact congrArg _ wrapI, Lib.hid rfl, Lib.hid HI2.out, HM9, HG2, Lib.hid (HFf.out.trans (if_pos (by first | rfl | trivial)))⟩
      | false =>
        go_wp2_with (first | (refine QaF rfl 47 (.tmp 17) rfl _ rfl E _ HCell.out Tryz.underlying47 rfl (by rw [sE]; kernel_rfl) ?_) | (refine Qbm rfl 47 (.tmp 6) (.tmp 18) rfl rfl rfl E rfl (by rw [sE]; kernel_rfl) (by rw [sE]; try rfl) oE ?_) | (refine QaF rfl 47 (.tmp 6) rfl _ rfl E _ HBn.out Tryz.underlying47 rfl (by rw [sE]; kernel_rfl) ?_) | (go_at_call 11; refine HCl.out.mono ?_; rintro e w9 ⟨rfl, v9, hM9⟩; have HM9 := Lib.hid hM9; clear hM9))
        refine bodyPost_ret (results_tmp2 rfl _ _ _) rfl ?_; exact ⟨by rw [HFf.out.trans (if_neg (by decide))]; rfl, HM9.out.old⟩
    · have d1 : decide ((i : Int) < (l.length : Int)) = false := decide_eq_false (by omega)
      have d2 : decide (i < l.length) = false := decide_eq_false hi; have hf := HF.out; rw [List.drop_of_length_le (by omega), checkF] at hf; have HFf := Lib.hid hf; clear hi hf
      go_wp2_with fail
      refine bodyPost_ret (results_tmp2 rfl _ _ _) rfl ?_; exact ⟨by rw [HFf.out]; rfl, HMi.out.old⟩
end
def rA : Role := ⟨⟨#[100, 49]⟩, ⟨#[97]⟩⟩
def zTokL : Tok := ⟨0, 0, 0, ⟨#[]⟩, [], 0, [], [], []⟩
def xAdd : Evt := ⟨1, 1, ⟨1, ⟨⟨0, 0⟩, ⟨#[97]⟩, 1, ⟨#[97, 110, 110]⟩, ⟨⟨#[]⟩, ⟨#[]⟩⟩, ⟨⟨#[]⟩, ⟨#[]⟩⟩⟩, 0, ⟨#[]⟩, [], ⟨#[]⟩, zTokL, 0⟩, ⟨0, 1, zTokL⟩⟩
def xIssueAt (t n : Int) : Evt := ⟨t, 1, ⟨3, ⟨⟨0, 0⟩, ⟨#[]⟩, 0, ⟨#[]⟩, ⟨⟨#[]⟩, ⟨#[]⟩⟩, ⟨⟨#[]⟩, ⟨#[]⟩⟩⟩, 0, ⟨#[97, 110, 110]⟩, [rA], ⟨#[]⟩, zTokL, 0⟩, ⟨0, 0, ⟨1, 1, n, ⟨#[97, 110, 110]⟩, [rA], 0, [⟨1, 1⟩], [], []⟩⟩⟩
def xRevoke : Evt := ⟨3, 1, ⟨2, ⟨⟨0, 0⟩, ⟨#[]⟩, 0, ⟨#[]⟩, ⟨⟨#[]⟩, ⟨#[]⟩⟩, ⟨⟨#[]⟩, ⟨#[]⟩⟩⟩, 1, ⟨#[]⟩, [], ⟨#[]⟩, zTokL, 0⟩, ⟨0, 0, zTokL⟩⟩
def cA : Cred := ⟨⟨1, 1⟩, ⟨#[97]⟩, 1, ⟨#[97, 110, 110]⟩, ⟨⟨#[]⟩, ⟨#[]⟩⟩, ⟨⟨#[]⟩, ⟨#[]⟩⟩⟩
theorem cA_may : credMay cA = true := by kernel_rfl
theorem cA_has : hasF [cA] ⟨#[97, 110, 110]⟩ rA = true := by
  rw [hasF_iff]; have hm : cA ∈ counts [cA] := ((counts_spec [cA]).mem cA).mpr (by unfold First; simp [List.find?, cA_may, sameID]); have h := Said.member hm rfl; exact h
def mOne : AM := ⟨1, updG (fun _ => none) ⟨1, 1⟩ (cA, -1), updI (fun _ => 0) 1 1, fun _ => 0, []⟩
theorem dom1 {x : Evt} {m : AM} (t u : Int) (hd : x.f1 = 1) (ht : x.f0 = t) (hu : m.time = u) (h : ¬ t < u) : ¬ (x.f0 < m.time ∨ (domName x.f1).toList = []) := by
  rw [hd, ht, hu]; rintro (h' | h')
  · exact h h'
  · have : (domName 1).toList = [100, 49] := by kernel_rfl
    rw [this] at h'; cases h'
theorem sd1 : soundF am0 xAdd = (true, mOne) := by
  unfold soundF; rw [if_neg (dom1 1 0 rfl rfl rfl (by decide)), if_neg (show ¬ (xAdd.f3.f0 ≠ 0) from fun h => h rfl), if_pos (show xAdd.f2.f0 = 1 from rfl)]; unfold addF
  rw [if_neg (show ¬ (xAdd.f3.f1 ≤ _ ∨ credMay (gaveC xAdd) = false) from by
    rintro (h | h)
    · exact absurd (show (1 : Int) ≤ 0 from h) (by decide)
    · rw [show gaveC xAdd = cA from rfl, cA_may] at h
      cases h)]
  rfl
theorem given1 (g : ID → Option (Cred × Int)) (c : Cred × Int) : updG g ⟨1, 1⟩ c ⟨1, 1⟩ = some c := if_pos rfl
theorem stands_ok {m : AM} {t : Tok} {x : Evt} {k : Int} (h : m.given ⟨1, 1⟩ = some (cA, k)) (hk : ¬ 0 ≤ k) (h6 : t.f6 = [⟨1, 1⟩]) (h4 : t.f4 = [rA]) (h3 : t.f3 = ⟨#[97, 110, 110]⟩) : standsF m t x = true := by
  unfold standsF
  have hb : badF m x ⟨1, 1⟩ = false := by
    unfold badF; rw [h]; simp [hk]
  have hc : credOf m ⟨1, 1⟩ = cA := by
    unfold credOf; rw [h]; rfl
  rw [h6, h4, h3]; simp only [List.all_cons, List.all_nil, List.map_cons, List.map_nil, hb, hc, cA_has]; rfl
def mTwo : AM := { mOne with time := 2, number := updI (fun _ => 0) 1 1, issued := [(xIssueAt 2 1).f3.f2] }
theorem sd2 : soundF mOne (xIssueAt 2 1) = (true, mTwo) := by
  unfold soundF; rw [if_neg (dom1 2 1 rfl rfl rfl (by decide)), if_neg (show ¬ ((xIssueAt 2 1).f3.f0 ≠ 0) from fun h => h rfl), if_neg (show ¬ (xIssueAt 2 1).f2.f0 = 1 from by show ¬ (3 : Int) = 1; decide), if_neg (show ¬ (xIssueAt 2 1).f2.f0 = 2 from by show ¬ (3 : Int) = 2; decide), if_pos (show (xIssueAt 2 1).f2.f0 = 3 from rfl)]; unfold issueF; refine (if_pos ⟨rfl, by show (0 : Int) < 1; decide, rfl, rfl, stands_ok (k := -1) (given1 (fun _ => none) (cA, -1)) (by decide) rfl rfl rfl⟩).trans rfl
def mThree : AM := { mTwo with time := 3, given := updG mTwo.given ⟨1, 1⟩ (cA, 3) }
theorem sd3 : soundF mTwo xRevoke = (true, mThree) := by
  unfold soundF; rw [if_neg (dom1 3 2 rfl rfl rfl (by decide)), if_neg (show ¬ (xRevoke.f3.f0 ≠ 0) from fun h => h rfl), if_neg (show ¬ xRevoke.f2.f0 = 1 from by show ¬ (2 : Int) = 1; decide), if_pos (show xRevoke.f2.f0 = 2 from rfl)]; unfold revokeF; have hg : ({ mTwo with time := xRevoke.f0 } : AM).given ⟨xRevoke.f1, xRevoke.f2.f2⟩ = some (cA, -1) := given1 (fun _ => none) (cA, -1); rw [hg]
  show (if (0 : Int) ≤ -1 then _ else _) = _
  rw [if_neg (by decide)]; rfl
theorem sd4 : (soundF mThree (xIssueAt 3 2)).1 = false := by
  unfold soundF; rw [if_neg (dom1 3 3 rfl rfl rfl (by decide)), if_neg (show ¬ ((xIssueAt 3 2).f3.f0 ≠ 0) from fun h => h rfl), if_neg (show ¬ (xIssueAt 3 2).f2.f0 = 1 from by show ¬ (3 : Int) = 1; decide), if_neg (show ¬ (xIssueAt 3 2).f2.f0 = 2 from by show ¬ (3 : Int) = 2; decide), if_pos (show (xIssueAt 3 2).f2.f0 = 3 from rfl)]; unfold issueF
  have hb : badF { mThree with time := (xIssueAt 3 2).f0 } (xIssueAt 3 2) ⟨1, 1⟩ = true := by
    unfold badF; have hg : ({ mThree with time := (xIssueAt 3 2).f0 } : AM).given ⟨1, 1⟩ = some (cA, 3) := given1 mTwo.given (cA, 3); rw [hg]
    show (decide ((0 : Int) ≤ 3) && (decide ((64 : Int) ≤ wrap64 (3 - 3)) || decide ((1 : Int) = 1))) = true
    simp
  rw [if_neg (fun h => by
    have := stands_bad (m := { mThree with time := (xIssueAt 3 2).f0 }) (x := xIssueAt 3 2) (t := (xIssueAt 3 2).f3.f2) (List.mem_singleton.mpr rfl) hb; rw [h.2.2.2.2] at this
    cases this)]
theorem sd5 : (soundF am0 (xIssueAt 2 1)).1 = false := by
  unfold soundF; rw [if_neg (dom1 2 0 rfl rfl rfl (by decide)), if_neg (show ¬ ((xIssueAt 2 1).f3.f0 ≠ 0) from fun h => h rfl), if_neg (show ¬ (xIssueAt 2 1).f2.f0 = 1 from by show ¬ (3 : Int) = 1; decide), if_neg (show ¬ (xIssueAt 2 1).f2.f0 = 2 from by show ¬ (3 : Int) = 2; decide), if_pos (show (xIssueAt 2 1).f2.f0 = 3 from rfl)]; unfold issueF; have hb : badF { am0 with time := (xIssueAt 2 1).f0 } (xIssueAt 2 1) ⟨1, 1⟩ = true := rfl
  rw [if_neg (fun h => by
    have := stands_bad (m := { am0 with time := (xIssueAt 2 1).f0 }) (x := xIssueAt 2 1) (t := (xIssueAt 2 1).f3.f2) (List.mem_singleton.mpr rfl) hb; rw [h.2.2.2.2] at this
    cases this)]
theorem lives1 : checkF am0 [xAdd, xIssueAt 2 1, xRevoke] 0 = none := by
  rw [checkF, sd1, if_pos rfl, checkF, sd2, if_pos rfl, checkF, sd3, if_pos rfl, checkF]
theorem lives2 : checkF am0 [xAdd, xIssueAt 2 1, xRevoke, xIssueAt 3 2] 0 = some 3 := by
  rw [checkF, sd1, if_pos rfl, checkF, sd2, if_pos rfl, checkF, sd3, if_pos rfl, checkF, sd4, if_neg (by decide)]
theorem lives3 : checkF am0 [xIssueAt 2 1] 0 = some 0 := by
  rw [checkF, sd5, if_neg (by decide)]
abbrev cAdd : Array Value := #[.int .i64 1, .int .i64 1, .int .i64 1, .int .i64 0, .int .i64 0, .string ⟨#[97]⟩, .int .i64 1, .string ⟨#[97, 110, 110]⟩, .string ⟨#[]⟩, .string ⟨#[]⟩, .string ⟨#[]⟩, .string ⟨#[]⟩, .int .i64 0, .string ⟨#[]⟩, .slice none 0 0, .string ⟨#[]⟩, .int .i64 0, .int .i64 0, .int .i64 0, .string ⟨#[]⟩, .slice none 0 0, .int .i64 0, .slice none 0 0, .slice none 0 0, .slice none 0 0, .int .i64 0, .int .i64 0, .int .i64 1, .int .i64 0, .int .i64 0, .int .i64 0, .string ⟨#[]⟩, .slice none 0 0, .int .i64 0, .slice none 0 0, .slice none 0 0, .slice none 0 0]
abbrev cIssueAt (t n : Int) (r s : Nat) : Array Value := #[.int .i64 t, .int .i64 1, .int .i64 3, .int .i64 0, .int .i64 0, .string ⟨#[]⟩, .int .i64 0, .string ⟨#[]⟩, .string ⟨#[]⟩, .string ⟨#[]⟩, .string ⟨#[]⟩, .string ⟨#[]⟩, .int .i64 0, .string ⟨#[97, 110, 110]⟩, .slice (some ⟨r, 0, none⟩) 1 1, .string ⟨#[]⟩, .int .i64 0, .int .i64 0, .int .i64 0, .string ⟨#[]⟩, .slice none 0 0, .int .i64 0, .slice none 0 0, .slice none 0 0, .slice none 0 0, .int .i64 0, .int .i64 0, .int .i64 0, .int .i64 1, .int .i64 1, .int .i64 n, .string ⟨#[97, 110, 110]⟩, .slice (some ⟨r, 0, none⟩) 1 1, .int .i64 0, .slice (some ⟨s, 0, none⟩) 1 1, .slice none 0 0, .slice none 0 0]
abbrev cIssue (r s : Nat) : Array Value := #[.int .i64 2, .int .i64 1, .int .i64 3, .int .i64 0, .int .i64 0, .string ⟨#[]⟩, .int .i64 0, .string ⟨#[]⟩, .string ⟨#[]⟩, .string ⟨#[]⟩, .string ⟨#[]⟩, .string ⟨#[]⟩, .int .i64 0, .string ⟨#[97, 110, 110]⟩, .slice (some ⟨r, 0, none⟩) 1 1, .string ⟨#[]⟩, .int .i64 0, .int .i64 0, .int .i64 0, .string ⟨#[]⟩, .slice none 0 0, .int .i64 0, .slice none 0 0, .slice none 0 0, .slice none 0 0, .int .i64 0, .int .i64 0, .int .i64 0, .int .i64 1, .int .i64 1, .int .i64 1, .string ⟨#[97, 110, 110]⟩, .slice (some ⟨r, 0, none⟩) 1 1, .int .i64 0, .slice (some ⟨s, 0, none⟩) 1 1, .slice none 0 0, .slice none 0 0]
abbrev cAgain (r s : Nat) : Array Value := #[.int .i64 3, .int .i64 1, .int .i64 3, .int .i64 0, .int .i64 0, .string ⟨#[]⟩, .int .i64 0, .string ⟨#[]⟩, .string ⟨#[]⟩, .string ⟨#[]⟩, .string ⟨#[]⟩, .string ⟨#[]⟩, .int .i64 0, .string ⟨#[97, 110, 110]⟩, .slice (some ⟨r, 0, none⟩) 1 1, .string ⟨#[]⟩, .int .i64 0, .int .i64 0, .int .i64 0, .string ⟨#[]⟩, .slice none 0 0, .int .i64 0, .slice none 0 0, .slice none 0 0, .slice none 0 0, .int .i64 0, .int .i64 0, .int .i64 0, .int .i64 1, .int .i64 1, .int .i64 2, .string ⟨#[97, 110, 110]⟩, .slice (some ⟨r, 0, none⟩) 1 1, .int .i64 0, .slice (some ⟨s, 0, none⟩) 1 1, .slice none 0 0, .slice none 0 0]
abbrev cRevoke : Array Value := #[.int .i64 3, .int .i64 1, .int .i64 2, .int .i64 0, .int .i64 0, .string ⟨#[]⟩, .int .i64 0, .string ⟨#[]⟩, .string ⟨#[]⟩, .string ⟨#[]⟩, .string ⟨#[]⟩, .string ⟨#[]⟩, .int .i64 1, .string ⟨#[]⟩, .slice none 0 0, .string ⟨#[]⟩, .int .i64 0, .int .i64 0, .int .i64 0, .string ⟨#[]⟩, .slice none 0 0, .int .i64 0, .slice none 0 0, .slice none 0 0, .slice none 0 0, .int .i64 0, .int .i64 0, .int .i64 0, .int .i64 0, .int .i64 0, .int .i64 0, .string ⟨#[]⟩, .slice none 0 0, .int .i64 0, .slice none 0 0, .slice none 0 0, .slice none 0 0]
theorem rows_C {W : World} {Es : List (Array Value)} {xs : List Evt} (hl : Es.length = xs.length) (hp : 0 < xs.length) (hm : xs.length ≤ 9223372036854775807) (hE : ∀ (i : Nat) (x : Evt) (E : Array Value), xs[i]? = some x → Es[i]? = some E → EvA W x E) :
    Kd.C kEvt (W.alloc (.cells ((Es.map Value.agg).flatMap fun v => v.cells.toList).toArray 47)) (some ⟨W.heap.size, 0, none⟩) xs.length xs := by
  refine ⟨rfl, hm, fun _ => ⟨_, rfl, fun j p hj => ?_⟩⟩
  have hjl : j < Es.length := by rw [hl]; exact (List.getElem?_eq_some_iff.mp hj).1
  have hEj := hE j p _ hj (List.getElem?_eq_getElem hjl); refine ⟨Es[j].toList, by have := hEj.size; rw [Array.length_toList]; exact this, kEvt.K_below (Qai (Below.refl _ _) _) hEj, fun k u hk => ?_⟩
  have hs : ∀ v ∈ Es.map Value.agg, v.cells.size = 37 := fun v hv => by
    obtain ⟨E, hEm, rfl⟩ := List.mem_map.mp hv; obtain ⟨i, hi, rfl⟩ := List.getElem_of_mem hEm; exact (hE i _ _ (List.getElem?_eq_getElem (by omega)) (List.getElem?_eq_getElem hi)).size
  have hk37 : k < 37 := by
    have := (List.getElem?_eq_some_iff.mp hk).1; have h2 := hEj.size; simp only [Array.length_toList] at this; omega
  show (W.alloc _).cell? ((⟨W.heap.size, 0, none⟩ : Addr).add (j * 37 + k)) = some u
  rw [Addr.add_mid, cell_of_row _ W.heap.size _ _ _ (0, 0) (Qa1 W _), Nat.zero_add]; rw [List.getElem?_toArray, Go.Great.flat_get (by decide) _ hs]; rw [show (j * 37 + k) / 37 = j by omega, show (j * 37 + k) % 37 = k by omega, List.getElem?_map, List.getElem?_eq_getElem hjl]
  show (Value.agg Es[j]).cells[k]? = some u
  rw [Array.getElem?_toList] at hk; exact hk
theorem infoSz : (Tryz.prog.info? 47).map (·.size) = some 37 := by kernel_rfl
theorem infoZ : ((Tryz.prog.info? 47).bind (·.zero)).isSome = true := by kernel_rfl
theorem wpList_buildEv {rest : List Oper} {ops : Array Oper} {o : Oper} {a : Act} {w : World} {Q : Exit → Act → World → Prop} (hg : o.guard = none) (n : Nat) (parts : Array (Nat × Operand)) (ho : o.op = .buildSlice 22 n parts) (Es : List (Array Value)) (xs : List Evt) (ix : Nat → Nat) (hn : n = Es.length) (hl : Es.length = xs.length) (hp : 0 < n) (hm : n ≤ 100) (hparts : parts.toList = (List.range n).map fun i => (i, Operand.tmp (ix i)))
    (hE : ∀ (i : Nat) (x : Evt) (E : Array Value), xs[i]? = some x → Es[i]? = some E → EvA w x E) (hev : ∀ (i : Nat) (E : Array Value), Es[i]? = some E → a.eval (.tmp (ix i)) = .agg E)
    (h : ∀ W' : World, Kd.C kEvt W' (some ⟨w.heap.size, 0, none⟩) xs.length xs → Below w.heap.size w W' → wpList Tryz.prog ops Q rest (a.put o.dst (.slice (some ⟨w.heap.size, 0, none⟩) xs.length xs.length)) W') : wpList Tryz.prog ops Q (o :: rest) a w := by
  have hml : (Es.map Value.agg).length = n := by rw [List.length_map, hn]
  refine Go.Great.wpList_buildRows hg 22 47 parts 37 (Es.map Value.agg) (by rw [hml]; exact ho) ix _ rfl _ rfl Tryz.underlying22 infoSz infoZ (by decide) (by omega) (by rw [hml]; omega) (by rw [hml]; exact hparts) ?_ ?_ ?_
  · intro v hv
    obtain ⟨E, hEm, rfl⟩ := List.mem_map.mp hv; obtain ⟨i, hi, rfl⟩ := List.getElem_of_mem hEm; exact (hE i _ _ (List.getElem?_eq_getElem (by omega)) (List.getElem?_eq_getElem hi)).size
  · intro i hi
    rw [List.getElem_map]; exact hev i _ (List.getElem?_eq_getElem (by rw [hml] at hi; omega))
  · rw [hml, show n = xs.length by omega]
    exact h _ (rows_C hl (by omega) (by omega) hE) (Qai (Below.refl _ _) _)
theorem role_C {W : World} {r : Nat} {t : TypeId} (hb : W.heap[r]? = some (.cells #[.string ⟨#[100, 49]⟩, .string ⟨#[97]⟩] t (0, 0))) : Kd.C k33 W (some ⟨r, 0, none⟩) 1 [rA] := by
  refine ⟨rfl, by decide, fun _ => ⟨_, rfl, fun j p hj => ?_⟩⟩
  match j, hj with
  | 0, hj =>
    obtain rfl := Option.some.inj hj; refine ⟨[.string ⟨#[100, 49]⟩, .string ⟨#[97]⟩], rfl, k33_mk W rA, fun k u hk => ?_⟩
    show W.cell? ((⟨r, 0, none⟩ : Addr).add (0 * 2 + k)) = some u
    rw [Addr.add_mid, cell_of_row W r _ _ _ (0, 0) hb, show 0 + (0 * 2 + k) = k by omega, ← Array.getElem?_toList]; exact hk
theorem id_C {W : World} {r : Nat} {t : TypeId} (hb : W.heap[r]? = some (.cells #[.int .i64 1, .int .i64 1] t (0, 0))) : Kd.C k31 W (some ⟨r, 0, none⟩) 1 [⟨1, 1⟩] := by
  refine ⟨rfl, by decide, fun _ => ⟨_, rfl, fun j p hj => ?_⟩⟩
  match j, hj with
  | 0, hj =>
    obtain rfl := Option.some.inj hj; refine ⟨[.int .i64 1, .int .i64 1], rfl, k31_mk W ⟨1, 1⟩, fun k u hk => ?_⟩
    show W.cell? ((⟨r, 0, none⟩ : Addr).add (0 * 2 + k)) = some u
    rw [Addr.add_mid, cell_of_row W r _ _ _ (0, 0) hb, show 0 + (0 * 2 + k) = k by omega, ← Array.getElem?_toList]; exact hk
theorem nil_C {α : Type} (d : Kd α) (W : World) : d.C W none ([] : List α).length [] := Kd.C_nil d W
theorem add_K (W : World) : EvA W xAdd cAdd := k47_mk W xAdd (A14 := none) (c14 := 0) (Nat.le_refl 0) (nil_C _ W) (A20 := none) (c20 := 0) (Nat.le_refl 0) (nil_C _ W) (A22 := none) (c22 := 0) (Nat.le_refl 0) (nil_C _ W) (A23 := none) (c23 := 0) (Nat.le_refl 0) (nil_C _ W) (A24 := none) (c24 := 0) (Nat.le_refl 0) (nil_C _ W) (A32 := none) (c32 := 0) (Nat.le_refl 0) (nil_C _ W) (A34 := none) (c34 := 0) (Nat.le_refl 0) (nil_C _ W) (A35 := none) (c35 := 0) (Nat.le_refl 0) (nil_C _ W) (A36 := none) (c36 := 0) (Nat.le_refl 0) (nil_C _ W)
theorem revoke_K (W : World) : EvA W xRevoke cRevoke := k47_mk W xRevoke (A14 := none) (c14 := 0) (Nat.le_refl 0) (nil_C _ W) (A20 := none) (c20 := 0) (Nat.le_refl 0) (nil_C _ W) (A22 := none) (c22 := 0) (Nat.le_refl 0) (nil_C _ W) (A23 := none) (c23 := 0) (Nat.le_refl 0) (nil_C _ W) (A24 := none) (c24 := 0) (Nat.le_refl 0) (nil_C _ W) (A32 := none) (c32 := 0) (Nat.le_refl 0) (nil_C _ W) (A34 := none) (c34 := 0) (Nat.le_refl 0) (nil_C _ W) (A35 := none) (c35 := 0) (Nat.le_refl 0) (nil_C _ W) (A36 := none) (c36 := 0) (Nat.le_refl 0) (nil_C _ W)
theorem issue_K {W : World} {r s : Nat} (t n : Int) (hr : Kd.C k33 W (some ⟨r, 0, none⟩) 1 [rA]) (hs : Kd.C k31 W (some ⟨s, 0, none⟩) 1 [⟨1, 1⟩]) : EvA W (xIssueAt t n) (cIssueAt t n r s) := k47_mk W (xIssueAt t n) (A14 := some ⟨r, 0, none⟩) (c14 := 1) (Nat.le_refl 1) hr (A20 := none) (c20 := 0) (Nat.le_refl 0) (nil_C _ W) (A22 := none) (c22 := 0) (Nat.le_refl 0) (nil_C _ W) (A23 := none) (c23 := 0) (Nat.le_refl 0) (nil_C _ W) (A24 := none) (c24 := 0) (Nat.le_refl 0) (nil_C _ W) (A32 := some ⟨r, 0, none⟩) (c32 := 1) (Nat.le_refl 1) hr (A34 := some ⟨s, 0, none⟩) (c34 := 1) (Nat.le_refl 1) hs (A35 := none) (c35 := 0) (Nat.le_refl 0) (nil_C _ W) (A36 := none) (c36 := 0) (Nat.le_refl 0) (nil_C _ W)
theorem evOk_small {x : Evt} (h : x = xAdd ∨ x = xRevoke ∨ ∃ t n, okI t ∧ okI n ∧ x = xIssueAt t n) : EvOk x := by
  have c0 : okCred ⟨⟨0, 0⟩, ⟨#[]⟩, 0, ⟨#[]⟩, ⟨⟨#[]⟩, ⟨#[]⟩⟩, ⟨⟨#[]⟩, ⟨#[]⟩⟩⟩ := by unfold okCred; decide
  have c1 : okCred ⟨⟨0, 0⟩, ⟨#[97]⟩, 1, ⟨#[97, 110, 110]⟩, ⟨⟨#[]⟩, ⟨#[]⟩⟩, ⟨⟨#[]⟩, ⟨#[]⟩⟩⟩ := by unfold okCred; decide
  rcases h with rfl | rfl | ⟨t, n, ht, hn, rfl⟩
  · exact ⟨rfl, rfl, rfl, rfl, c1, by decide, by decide, (fun i h => by cases h), (fun i h => by cases h)⟩
  · exact ⟨rfl, rfl, rfl, rfl, c0, by decide, by decide, (fun i h => by cases h), (fun i h => by cases h)⟩
  · exact ⟨ht, rfl, rfl, rfl, c0, by show (0 : Nat) < 21; decide, by show (1 : Nat) < 21; decide, (fun i h => by cases h), (fun i h => by obtain rfl := List.mem_singleton.mp h; exact ⟨rfl, rfl⟩)⟩
set_option maxRecDepth 100000 in
set_option maxHeartbeats 8000000 in
theorem lives_calls (w : World) :
    Calls Tryz.prog 8 #[] w fun e w' => e = .returned (.bool true) ∧ Below w.heap.size w w' := by
  go_enter Tryz.func8, Tryz.ntmps8
  go_upto_region 2 with fail
  have hB1 := Qa1 w (.cells #[.string ⟨#[100, 49]⟩, .string ⟨#[97]⟩] 33); have hL1 : Below w.heap.size w (w.alloc (.cells #[.string ⟨#[100, 49]⟩, .string ⟨#[97]⟩] 33)) := Qai (Below.refl _ _) _
  generalize w.alloc (.cells #[.string ⟨#[100, 49]⟩, .string ⟨#[97]⟩] 33) = W1 at hB1 hL1 ⊢
  have HB1 := Lib.hid hB1; have HL1 := Lib.hid hL1; clear hB1 hL1
  go_upto_region 3 with (refine Qbm rfl 47 _ _ rfl rfl (by first | rfl | exact congrArg (fun n => Value.pointer (some ⟨n, 0, none⟩)) (Array.size_push _).symm) cAdd rfl (by kernel_rfl) (by kernel_rfl) (by kernel_rfl) ?_)
  have hB2 := Qa1 W1 (.cells cAdd 47); have hL2 : Below W1.heap.size W1 (W1.alloc (.cells cAdd 47)) := Qai (Below.refl _ _) _
  generalize W1.alloc (.cells cAdd 47) = W2 at hB2 hL2 ⊢
  have HB2 := Lib.hid hB2; have HL2 := Lib.hid hL2; clear hB2 hL2
  go_upto_region 4 with (refine Qbm rfl 47 _ _ rfl rfl (by first | rfl | exact congrArg (fun n => Value.pointer (some ⟨n, 0, none⟩)) (Array.size_push _).symm) (cIssue w.heap.size W2.heap.size) rfl (by kernel_rfl) (by kernel_rfl) (by kernel_rfl) ?_)
  have hB3 := Qam (Qa1 W2 (.cells #[.int .i64 1, .int .i64 1] 31)) (.cells (cIssue w.heap.size W2.heap.size) 47); have hB4 := Qa1 (W2.alloc (.cells #[.int .i64 1, .int .i64 1] 31)) (.cells (cIssue w.heap.size W2.heap.size) 47); rw [show (W2.alloc (.cells #[.int .i64 1, .int .i64 1] 31)).heap.size = W2.heap.size + 1 from Array.size_push _] at hB4; have hL3 : Below W2.heap.size W2 ((W2.alloc (.cells #[.int .i64 1, .int .i64 1] 31)).alloc (.cells (cIssue w.heap.size W2.heap.size) 47)) := Qai (Qai (Below.refl _ _) _) _
  generalize (W2.alloc (.cells #[.int .i64 1, .int .i64 1] 31)).alloc (.cells (cIssue w.heap.size W2.heap.size) 47) = W3 at hB3 hB4 hL3 ⊢
  have HB3 := Lib.hid hB3; have HB4 := Lib.hid hB4; have HL3 := Lib.hid hL3; clear hB3 hB4 hL3
  go_upto_region 5 with (refine Qbm rfl 47 _ _ rfl rfl (by first | rfl | exact congrArg (fun n => Value.pointer (some ⟨n, 0, none⟩)) (Array.size_push _).symm) cRevoke rfl (by kernel_rfl) (by kernel_rfl) (by kernel_rfl) ?_)
  have hB5 := Qa1 W3 (.cells cRevoke 47); have hL4 : Below W3.heap.size W3 (W3.alloc (.cells cRevoke 47)) := Qai (Below.refl _ _) _; have hB4' := Qam HB4.out (.cells cRevoke 47)
  generalize W3.alloc (.cells cRevoke 47) = W4 at hB5 hL4 hB4' ⊢
  have HB5 := Lib.hid hB5; have HB4' := Lib.hid hB4'; have HL4 := Lib.hid hL4; clear hB5 hL4 hB4'
  go_upto_region 8 with (first | (refine QaF rfl 47 (.tmp 3) rfl _ rfl (cIssue w.heap.size W2.heap.size) _ (range0 HB4'.out) Tryz.underlying47 rfl (by kernel_rfl) ?_) | (refine Qbm rfl 47 _ _ rfl rfl (by first | rfl | exact congrArg (fun n => Value.pointer (some ⟨n, 0, none⟩)) (Array.size_push _).symm) (cIssue w.heap.size W2.heap.size) rfl (by kernel_rfl) (by kernel_rfl) (by kernel_rfl) ?_))
  have hB6 := Qa1 W4 (.cells (cAgain w.heap.size W2.heap.size) 47); have hL5 : Below W4.heap.size W4 (W4.alloc (.cells (cAgain w.heap.size W2.heap.size) 47)) := Qai (Below.refl _ _) _
  generalize W4.alloc (.cells (cAgain w.heap.size W2.heap.size) 47) = W5 at hB6 hL5 ⊢
  have o1 : Below w.heap.size w W2 := Qac HL1.out HL2.out; have o2 : Below w.heap.size w W3 := Qac o1 HL3.out; have o3 : Below w.heap.size w W4 := Qac o2 HL4.out; have o4 : Below w.heap.size w W5 := Qac o3 hL5; have hR : Kd.C k33 W5 (some ⟨w.heap.size, 0, none⟩) 1 [rA] := role_C (Qad (Qad (Qad (Qad HB1.out HL2.out) HL3.out) HL4.out) hL5); have hI : Kd.C k31 W5 (some ⟨W2.heap.size, 0, none⟩) 1 [⟨1, 1⟩] := id_C (Qad (Qad HB3.out HL4.out) hL5); have k1 := add_K W5; have k2 := issue_K 2 1 hR hI; have k3 := revoke_K W5; have k4 := issue_K 3 2 hR hI; have a1 := Qad (Qad (Qad HB2.out HL3.out) HL4.out) hL5; have a2 : W5.heap[W2.heap.size + 1]? = some (.cells (cIssueAt 2 1 w.heap.size W2.heap.size) 47 (0, 0)) := Qad HB4'.out hL5; have a4 : W5.heap[W4.heap.size]? = some (.cells (cIssueAt 3 2 w.heap.size W2.heap.size) 47 (0, 0)) := hB6; have a3 := Qad HB5.out hL5
  have hE1 : ∃ E, E = cAdd := ⟨_, rfl⟩
  obtain ⟨E1, hE1⟩ := hE1; rw [← hE1] at k1 a1
  have hE2 : ∃ E, E = cIssueAt 2 1 w.heap.size W2.heap.size := ⟨_, rfl⟩
  obtain ⟨E2, hE2⟩ := hE2; rw [← hE2] at k2 a2
  have hE3 : ∃ E, E = cRevoke := ⟨_, rfl⟩
  obtain ⟨E3, hE3⟩ := hE3; rw [← hE3] at k3 a3
  have hE4 : ∃ E, E = cIssueAt 3 2 w.heap.size W2.heap.size := ⟨_, rfl⟩
  obtain ⟨E4, hE4⟩ := hE4; rw [← hE4] at k4 a4; clear hE1 hE2 hE3 hE4 hR hI; have sE1 := k1.size; have sE2 := k2.size; have sE3 := k3.size; have sE4 := k4.size; have HA1 := Lib.hid a1; have HA2 := Lib.hid a2; have HA3 := Lib.hid a3; have HA4 := Lib.hid a4; have HO5 := Lib.hid o4; have HK := Lib.hid (And.intro k1 (And.intro k2 (And.intro k3 k4))); have ok1 : EvOk xAdd := evOk_small (.inl rfl); have ok2 : EvOk (xIssueAt 2 1) := evOk_small (.inr (.inr ⟨2, 1, rfl, rfl, rfl⟩)); have ok3 : EvOk xRevoke := evOk_small (.inr (.inl rfl)); have ok4 : EvOk (xIssueAt 3 2) := evOk_small (.inr (.inr ⟨3, 2, rfl, rfl, rfl⟩)); have HOk1 := Lib.hid (show ∀ x ∈ [xAdd, xIssueAt 2 1, xRevoke], EvOk x by simp [ok1, ok2, ok3]); have HOk2 := Lib.hid (show ∀ x ∈ [xAdd, xIssueAt 2 1, xRevoke, xIssueAt 3 2], EvOk x by simp [ok1, ok2, ok3, ok4]); have HOk3 := Lib.hid (show ∀ x ∈ [xIssueAt 2 1], EvOk x by simp [ok2])
  have HX1 := Lib.hid (show ∀ (i : Nat) (x : Evt) (E : Array Value), [xAdd, xIssueAt 2 1, xRevoke][i]? = some x → [E1, E2, E3][i]? = some E → EvA W5 x E from fun i x E h1 h2 => by
    rcases i with _ | _ | _ | i <;> first | (obtain rfl := Option.some.inj h1; obtain rfl := Option.some.inj h2; assumption) | (simp at h1))
  clear k1 k2 k3 k4 a1 a2 a3 a4 hB6 o1 o2 o3 o4 ok1 ok2 ok3 ok4 HB1 HB2 HB3 HB4 HB5 HL1 HL2 HL3 HL4 hL5 HB4'
  go_upto_region 9 with (first | (refine QaF rfl 47 (.tmp 2) rfl _ rfl E1 _ (range0 HA1.out) Tryz.underlying47 rfl (by rw [sE1]; kernel_rfl) ?_) | (refine QaF rfl 47 (.tmp 3) rfl _ rfl E2 _ (range0 HA2.out) Tryz.underlying47 rfl (by rw [sE2]; kernel_rfl) ?_) | (refine QaF rfl 47 (.tmp 4) rfl _ rfl E3 _ (range0 HA3.out) Tryz.underlying47 rfl (by rw [sE3]; kernel_rfl) ?_) | (refine wpList_buildEv rfl 3 _ rfl [E1, E2, E3] [xAdd, xIssueAt 2 1, xRevoke] (fun i => 34 + i) rfl rfl (by decide) (by decide) rfl (HX1.out) (by rintro (_ | _ | _ | _ | i) E h <;> first | (obtain rfl := Option.some.inj h; rfl) | (simp at h)) ?_; intro W6 hC hb; have HC1 := Lib.hid hC; have HL1 := Lib.hid hb; clear hC hb) | (go_at_call 6; refine (check_calls W6 _ _ [xAdd, xIssueAt 2 1, xRevoke] HC1.out (by decide) (by decide) (HOk1.out)).mono ?_; rintro e W7 ⟨rfl, hb⟩; rw [lives1]; have HM1 := Lib.hid hb; clear hb))
  have b7 : Below W5.heap.size W5 W7 := Qac HL1.out HM1.out; have HA1' := Lib.hid (Qad HA1.out b7); have HA2' := Lib.hid (Qad HA2.out b7); have HA3' := Lib.hid (Qad HA3.out b7); have HA4' := Lib.hid (Qad HA4.out b7)
  have HX2 := Lib.hid (show ∀ (i : Nat) (x : Evt) (E : Array Value), [xAdd, xIssueAt 2 1, xRevoke, xIssueAt 3 2][i]? = some x → [E1, E2, E3, E4][i]? = some E → EvA W7 x E from fun i x E h1 h2 => by
    obtain ⟨k1, k2, k3, k4⟩ := HK.out
    rcases i with _ | _ | _ | _ | i <;> first | (obtain rfl := Option.some.inj h1; obtain rfl := Option.some.inj h2; apply EvA.below _ b7; assumption) | (simp at h1))
  have HB7 := Lib.hid b7; clear b7 HA1 HA2 HA3 HA4 HX1 HC1 HL1 HM1
  go_upto_region 10 with (first | (refine QaF rfl 47 (.tmp 2) rfl _ rfl E1 _ (range0 HA1'.out) Tryz.underlying47 rfl (by rw [sE1]; kernel_rfl) ?_) | (refine QaF rfl 47 (.tmp 3) rfl _ rfl E2 _ (range0 HA2'.out) Tryz.underlying47 rfl (by rw [sE2]; kernel_rfl) ?_) | (refine QaF rfl 47 (.tmp 4) rfl _ rfl E3 _ (range0 HA3'.out) Tryz.underlying47 rfl (by rw [sE3]; kernel_rfl) ?_) | (refine QaF rfl 47 (.tmp 5) rfl _ rfl E4 _ (range0 HA4'.out) Tryz.underlying47 rfl (by rw [sE4]; kernel_rfl) ?_) | (refine wpList_buildEv rfl 4 _ rfl [E1, E2, E3, E4] [xAdd, xIssueAt 2 1, xRevoke, xIssueAt 3 2] (fun i => 42 + i) rfl rfl (by decide) (by decide) rfl (HX2.out) (by rintro (_ | _ | _ | _ | i) E h <;> first | (obtain rfl := Option.some.inj h; rfl) | (simp at h)) ?_; intro W8 hC hb; have HC2 := Lib.hid hC; have HL2 := Lib.hid hb; clear hC hb) | (go_at_call 6; refine (check_calls W8 _ _ [xAdd, xIssueAt 2 1, xRevoke, xIssueAt 3 2] HC2.out (by decide) (by decide) (HOk2.out)).mono ?_; rintro e W9 ⟨rfl, hb⟩; rw [lives2]; have HM2 := Lib.hid hb; clear hb))
  have b9 : Below W5.heap.size W5 W9 := Qac (Qac HB7.out HL2.out) HM2.out; have HA2 := Lib.hid (Qad HA2'.out (Qac HL2.out HM2.out))
  have HX3 := Lib.hid (show ∀ (i : Nat) (x : Evt) (E : Array Value), [xIssueAt 2 1][i]? = some x → [E2][i]? = some E → EvA W9 x E from fun i x E h1 h2 => by
    obtain ⟨k1, k2, k3, k4⟩ := HK.out
    rcases i with _ | _ | _ | _ | i <;> first | (obtain rfl := Option.some.inj h1; obtain rfl := Option.some.inj h2; apply EvA.below _ b9; assumption) | (simp at h1))
  have HB9 := Lib.hid b9; clear b9 HA1' HA2' HA3' HA4' HX2 HC2 HL2 HM2 HB7
  go_wp2_with (first | (refine QaF rfl 47 (.tmp 3) rfl _ rfl E2 _ (range0 HA2.out) Tryz.underlying47 rfl (by rw [sE2]; kernel_rfl) ?_) | (refine wpList_buildEv rfl 1 _ rfl [E2] [xIssueAt 2 1] (fun i => 51 + i) rfl rfl (by decide) (by decide) rfl (HX3.out) (by rintro (_ | _ | _ | _ | i) E h <;> first | (obtain rfl := Option.some.inj h; rfl) | (simp at h)) ?_; intro W10 hC hb; have HC3 := Lib.hid hC; have HL3 := Lib.hid hb; clear hC hb) | (go_at_call 6; refine (check_calls W10 _ _ [xIssueAt 2 1] HC3.out (by decide) (by decide) (HOk3.out)).mono ?_; rintro e W11 ⟨rfl, hb⟩; rw [lives3]; have HM3 := Lib.hid hb; clear hb))
  have hfin : Below w.heap.size w W11 := Qac (Qac (Qac HO5.out HB9.out) HL3.out) HM3.out; refine bodyPost_ret (results_tmp rfl _ _ _) rfl ?_; exact ⟨rfl, hfin⟩
theorem few_len (l : List Evt) : (few l).length ≤ 30 := by
  unfold few; rw [List.length_map, List.length_take]; omega
theorem few_ok {l : List Evt} (h : ∀ x ∈ l, okI x.f0 ∧ okI x.f1 ∧ (okCred x.f2.f1 ∧ okI x.f2.f2 ∧ ∀ i ∈ x.f2.f6.f6, okID i) ∧ okI x.f3.f1 ∧ ∀ i ∈ x.f3.f2.f6, okID i) : ∀ x ∈ few l, EvOk x := by
  intro x hx; obtain ⟨y, hy, rfl⟩ := List.mem_map.mp hx; obtain ⟨h0, h1, ⟨hc, h2, h6⟩, h3, h7⟩ := h y (List.mem_of_mem_take hy); refine ⟨h0, h1, h2, h3, hc, ?_, ?_, ?_, ?_⟩
  · show (List.take 12 _).length < 21
    rw [List.length_take]; omega
  · show (List.take 12 _).length < 21
    rw [List.length_take]; omega
  · intro i hi
    exact h6 i (List.mem_of_mem_take (List.mem_of_mem_take hi))
  · intro i hi
    exact h7 i (List.mem_of_mem_take (List.mem_of_mem_take hi))
theorem few_callsL (w : World) (A : Option Addr) (c : Nat) (l L : List Evt) (hL : few l = L) (hc : l.length ≤ c) (h : Kd.C kEvt w A l.length l) :
    Calls Tryz.prog 5 #[.slice A l.length c] w fun e w' => ∃ A' c', e = .returned (.slice A' L.length c') ∧ L.length ≤ c' ∧ Kd.C kEvt w' A' L.length L ∧ Below w.heap.size w w' := by
  subst hL; exact few_calls w A c l hc h
theorem check_callsN (w : World) (A : Option Addr) (c : Nat) (l : List Evt) (n : Nat) (r : Option Nat) (hn : l.length = n) (hC : Kd.C kEvt w A n l) (hc : n ≤ c) (hl : n ≤ 1000) (hok : ∀ x ∈ l, EvOk x) (hr : checkF am0 l 0 = r) :
    Calls Tryz.prog 6 #[.slice A n c] w fun e w' => e = .returned (.tuple #[.int .i64 (resI r), .int .i64 (resE r)]) ∧ Below w.heap.size w w' := by
  subst hn hr; exact check_calls w A c l hC hc hl hok
noncomputable def restF (m : AM) (x : Evt) : Bool × AM :=
  if x.f3.f0 ≠ 0 then (nothingB x.f3, { m with time := x.f0 })
  else if x.f2.f0 = 1 then addF { m with time := x.f0 } x
  else if x.f2.f0 = 2 then revokeF { m with time := x.f0 } x
  else if x.f2.f0 = 3 then issueF { m with time := x.f0 } x
  else if x.f2.f0 = 4 then (verifyF { m with time := x.f0 } x, { m with time := x.f0 })
  else (true, { m with time := x.f0 })
def noneT (t : Tok) : Bool := decide (t.f4.length = 0) && decide (t.f6.length = 0) && decide (t.f8.length = 0) && decide (t.f0 = 0) && decide (t.f1 = 0) && decide (t.f2 = 0) && decide (t.f3.toList = []) && decide (t.f5 = 0) && decide (t.f7.length = 0)
def addB (i : ID) (x : Evt) : Bool := decide (x.f2.f0 = 1) && (decide (x.f3.f0 = 0) && (decide (x.f1 = i.f0) && decide (x.f3.f1 = i.f1)))
def revB (i : ID) (x : Evt) : Bool := decide (x.f2.f0 = 2) && (decide (x.f3.f0 = 0) && (decide (x.f1 = i.f0) && decide (x.f2.f2 = i.f1)))
theorem addB_iff {i : ID} {x : Evt} : addB i x = true ↔ x.f2.f0 = 1 ∧ x.f3.f0 = 0 ∧ x.f1 = i.f0 ∧ x.f3.f1 = i.f1 := by simp [addB]
theorem revB_iff {i : ID} {x : Evt} : revB i x = true ↔ x.f2.f0 = 2 ∧ x.f3.f0 = 0 ∧ x.f1 = i.f0 ∧ x.f2.f2 = i.f1 := by simp [revB]
def gaveR (l : List Evt) (i : ID) : Option Cred := (l.find? (addB i)).map gaveC
def revokedR (l : List Evt) (i : ID) : Int := match l.find? (revB i) with
  | some x => x.f0
  | none => -1
def badR (l : List Evt) (x : Evt) (i : ID) : Bool := match gaveR l i with
  | none => true
  | some _ => decide (0 ≤ revokedR l i) && (decide (i.f0 = x.f1) || decide (64 ≤ wrap64 (x.f0 - revokedR l i)))
def credR (l : List Evt) (i : ID) : Cred := (gaveR l i).getD zG.1
noncomputable def standsR (l : List Evt) (x : Evt) (t : Tok) : Bool := t.f6.all (fun i => !badR l x i) && t.f4.all fun r => hasF (t.f6.map (credR l)) t.f3 r
def tookB (x : Evt) : Bool := decide (x.f2.f0 = 3) && decide (x.f3.f0 = 0)
def issuedR (l : List Evt) (d : Int) (t : Tok) : Bool := l.any fun x => tookB x && (decide (x.f1 = d) && headB x.f3.f2 t)
def numR (k : Int) (x : Evt) : Int := if k = 3 then x.f3.f2.f2 else x.f3.f1
def kindB (k d : Int) (x : Evt) : Bool := decide (x.f2.f0 = k) && (decide (x.f3.f0 = 0) && decide (x.f1 = d))
def aboveR (l : List Evt) (k d n : Int) : Bool := (l.all fun x => !kindB k d x || decide (numR k x < n)) && decide (0 < n)
def lateR (l : List Evt) (x : Evt) : Bool := match l.getLast? with
  | some y => decide (x.f0 < y.f0)
  | none => false
noncomputable def soundR (l : List Evt) (x : Evt) : Bool :=
  if (x.f0 < 0 ∨ lateR l x = true) ∨ x.f1 < 1 ∨ 16 < x.f1 then false
  else if x.f3.f0 ≠ 0 then noneT x.f3.f2 && decide (x.f3.f1 = 0)
  else if x.f2.f0 = 1 then credMay (gaveC x) && aboveR l 1 x.f1 x.f3.f1
  else if x.f2.f0 = 2 then (gaveR l ⟨x.f1, x.f2.f2⟩).isSome && decide (revokedR l ⟨x.f1, x.f2.f2⟩ < 0)
  else if x.f2.f0 = 3 then decide (x.f3.f2.f4 = x.f2.f4) && (decide (x.f3.f2.f0 = x.f1) && (decide (x.f3.f2.f3 = x.f2.f3) && (aboveR l 3 x.f1 x.f3.f2.f2 && standsR l x x.f3.f2)))
  else if x.f2.f0 = 4 then !issuedR l x.f1 x.f2.f6 || (match x.f2.f4 with | [] => false | r :: _ => decide (r ∈ x.f2.f6.f4) && standsR l x x.f2.f6)
  else true
noncomputable def checkR : List Evt → List Evt → Nat → Option Nat
  | _, [], _ => none
  | d, x :: xs, i => if soundR d x = true then checkR (d ++ [x]) xs (i + 1) else some i
structure Inv (l : List Evt) (m : AM) : Prop where
  time0 : 0 ≤ m.time
  time : ∀ x : Evt, 0 ≤ x.f0 → (x.f0 < m.time ↔ lateR l x = true)
  given : ∀ i, m.given i = (gaveR l i).map fun c => (c, revokedR l i)
  last : ∀ d s, aboveR l 1 d s = decide (m.last d < s)
  number : ∀ d s, aboveR l 3 d s = decide (m.number d < s)
  issued : m.issued = (l.filter tookB).map fun x => x.f3.f2
  own : ∀ x ∈ l, tookB x = true → x.f3.f2.f0 = x.f1
  pos : ∀ x ∈ l, 0 ≤ x.f0
  revg : ∀ i, (l.find? (revB i)).isSome = true → (gaveR l i).isSome = true
theorem Inv.zero : Inv [] am0 where
  time0 := Int.le_refl 0
  time := fun x hx => by
    show x.f0 < 0 ↔ false = true
    exact ⟨fun h => absurd h (by omega), fun h => by cases h⟩
  given := fun i => rfl
  last := fun d s => rfl
  number := fun d s => rfl
  issued := rfl
  own := fun x hx => by cases hx
  pos := fun x hx => by cases hx
  revg := fun i h => by cases h
theorem revokedR_neg {l : List Evt} {i : ID} (hp : ∀ x ∈ l, 0 ≤ x.f0) : revokedR l i < 0 ↔ l.find? (revB i) = none := by
  unfold revokedR
  cases h : l.find? (revB i) with
  | none => simp
  | some x =>
    have := hp x (List.mem_of_find?_eq_some h); constructor
    · intro h'
      have h' : x.f0 < 0 := h'; omega
    · intro h'; cases h'
theorem badR_is {l : List Evt} {m : AM} (h : Inv l m) (x : Evt) (i : ID) : badF m x i = badR l x i := by
  unfold badF badR; rw [h.given i]
  cases gaveR l i with
  | none => rfl
  | some c =>
    show (decide (0 ≤ revokedR l i) && (decide (64 ≤ wrap64 (x.f0 - revokedR l i)) || decide (i.f0 = x.f1))) = _
    rw [Bool.or_comm]
theorem credR_is {l : List Evt} {m : AM} (h : Inv l m) (i : ID) : credOf m i = credR l i := by
  unfold credOf credR; rw [h.given i]
  cases gaveR l i <;> rfl
theorem standsR_is {l : List Evt} {m : AM} (h : Inv l m) (t : Tok) (x : Evt) : standsF m t x = standsR l x t := by
  unfold standsF standsR; rw [show (fun i => !badF m x i) = fun i => !badR l x i from funext fun i => by rw [badR_is h], show credOf m = credR l from funext fun i => credR_is h i]
theorem headB_comm (t u : Tok) : headB t u = headB u t := by
  unfold headB
  have e : ∀ (α : Type) [DecidableEq α] (a b : α), decide (a = b) = decide (b = a) := fun α _ a b => by rw [decide_eq_decide]; exact eq_comm
  rw [e _ t.f0, e _ t.f1, e _ t.f2, e _ t.f5, e _ t.f3, e _ t.f4, e _ t.f6]
theorem headB_f0 {t u : Tok} (h : headB t u = true) : t.f0 = u.f0 := by
  unfold headB at h; rw [Bool.and_eq_true] at h; exact of_decide_eq_true h.1
theorem issuedR_is {l : List Evt} {m : AM} (h : Inv l m) (x : Evt) (t : Tok) : (t.f0 = x.f1 ∧ (m.issued.any fun u => headB t u) = true) ↔ issuedR l x.f1 t = true := by
  unfold issuedR; rw [h.issued, List.any_map, List.any_eq_true, List.any_eq_true]; constructor
  · rintro ⟨h0, y, hy, hh⟩
    rw [List.mem_filter] at hy; have hh : headB t y.f3.f2 = true := hh; have o := h.own y hy.1 hy.2; have f := headB_f0 hh; refine ⟨y, hy.1, ?_⟩; rw [hy.2, Bool.true_and, Bool.and_eq_true]; exact ⟨decide_eq_true (by rw [← o, ← f, h0]), by rw [headB_comm]; exact hh⟩
  · rintro ⟨y, hy, hh⟩
    rw [Bool.and_eq_true, Bool.and_eq_true] at hh; have o := h.own y hy hh.1; have f := headB_f0 hh.2.2; have d := of_decide_eq_true hh.2.1; refine ⟨by rw [← f, o, d], y, List.mem_filter.mpr ⟨hy, hh.1⟩, ?_⟩
    show headB t y.f3.f2 = true
    rw [headB_comm]; exact hh.2.2
theorem domName_some {n : Int} (h : 1 ≤ n ∧ n ≤ 16) : ¬ (domName n).toList = [] := by
  intro h'
  have hne : ∀ k : Nat, k < 16 → ¬ (domName ((k : Int) + 1)).toList = [] := by
    intro k hk
    match k, hk with
    | 0, _ | 1, _ | 2, _ | 3, _ | 4, _ | 5, _ | 6, _ | 7, _ | 8, _ | 9, _ | 10, _ | 11, _ | 12, _ | 13, _ | 14, _ | 15, _ => exact fun h => by have := congrArg List.length h; revert this; decide +kernel
    | k + 16, hk => omega
  have hx1 : ((n - 1).toNat : Int) + 1 = n := by omega
  exact hne (n - 1).toNat (by omega) (by rw [hx1]; exact h')
theorem dom_iff (n : Int) : (domName n).toList = [] ↔ n < 1 ∨ 16 < n := by
  constructor
  · intro h
    by_cases h1 : 1 ≤ n ∧ n ≤ 16
    · exact absurd h (domName_some h1)
    · omega
  · intro h
    rw [domName_out n h]; exact (by decide +kernel)
theorem aboveR_snoc (l : List Evt) (x : Evt) (k d n : Int) : aboveR (l ++ [x]) k d n = (aboveR l k d n && (!kindB k d x || decide (numR k x < n))) := by
  unfold aboveR; rw [List.all_append]; simp only [List.all_cons, List.all_nil, Bool.and_true]
  cases (l.all fun x => !kindB k d x || decide (numR k x < n)) <;> cases decide (0 < n) <;> cases (!kindB k d x || decide (numR k x < n)) <;> rfl
theorem gaveR_no {l : List Evt} {x : Evt} {i : ID} (h : addB i x = false) : gaveR (l ++ [x]) i = gaveR l i := by
  unfold gaveR; rw [List.find?_append]; simp [List.find?_cons, h]
theorem gaveR_yes {l : List Evt} {x : Evt} {i : ID} (h : addB i x = true) (h0 : gaveR l i = none) : gaveR (l ++ [x]) i = some (gaveC x) := by
  unfold gaveR at h0 ⊢; rw [List.find?_append]
  have : l.find? (addB i) = none := by
    cases hq : l.find? (addB i) with
    | none => rfl
    | some y => rw [hq] at h0; cases h0
  rw [this]; simp [List.find?_cons, h]
theorem revokedR_no {l : List Evt} {x : Evt} {i : ID} (h : revB i x = false) : revokedR (l ++ [x]) i = revokedR l i := by
  unfold revokedR; rw [List.find?_append]; simp [List.find?_cons, h]
theorem revokedR_yes {l : List Evt} {x : Evt} {i : ID} (h : revB i x = true) (h0 : l.find? (revB i) = none) : revokedR (l ++ [x]) i = x.f0 := by
  unfold revokedR; rw [List.find?_append, h0]; simp [List.find?_cons, h]
theorem findRev_no {l : List Evt} {x : Evt} {i : ID} (h : revB i x = false) : (l ++ [x]).find? (revB i) = l.find? (revB i) := by
  rw [List.find?_append]; simp [List.find?_cons, h]
theorem lateR_snoc (l : List Evt) (x y : Evt) : lateR (l ++ [x]) y = decide (y.f0 < x.f0) := by
  unfold lateR; rw [List.getLast?_append]; rfl
theorem Inv.posS {l : List Evt} {m : AM} (h : Inv l m) {x : Evt} (h0 : 0 ≤ x.f0) : ∀ y ∈ l ++ [x], 0 ≤ y.f0 := fun y hy => by
  rcases List.mem_append.mp hy with hy | hy
  · exact h.pos y hy
  · rw [List.mem_singleton.mp hy]; exact h0
theorem above_no {l : List Evt} {x : Evt} {k : Int} (h : ∀ d, kindB k d x = false) (d s : Int) : aboveR (l ++ [x]) k d s = aboveR l k d s := by
  rw [aboveR_snoc, h d]; simp
theorem Inv.issuedN {l : List Evt} {m : AM} (h : Inv l m) {x : Evt} (ht : tookB x = false) : m.issued = ((l ++ [x]).filter tookB).map fun x => x.f3.f2 := by
  rw [List.filter_append, List.filter_cons_of_neg (by simpa using ht), List.filter_nil, List.append_nil]; exact h.issued
theorem Inv.ownN {l : List Evt} {m : AM} (h : Inv l m) {x : Evt} (ht : tookB x = true → x.f3.f2.f0 = x.f1) : ∀ y ∈ l ++ [x], tookB y = true → y.f3.f2.f0 = y.f1 := fun y hy hb => by
  rcases List.mem_append.mp hy with hy | hy
  · exact h.own y hy hb
  · rw [List.mem_singleton.mp hy] at hb ⊢; exact ht hb
theorem Inv.idle {l : List Evt} {m : AM} (h : Inv l m) {x : Evt} (h0 : 0 ≤ x.f0) (ha : ∀ i, addB i x = false) (hr : ∀ i, revB i x = false) (ht : tookB x = false) (h1 : ∀ d, kindB 1 d x = false) (h3 : ∀ d, kindB 3 d x = false) : Inv (l ++ [x]) { m with time := x.f0 } where
  time0 := h0
  time := fun y hy => by rw [lateR_snoc]; exact decide_eq_true_iff.symm
  given := fun i => by rw [gaveR_no (ha i), revokedR_no (hr i)]; exact h.given i
  last := fun d s => by rw [above_no h1]; exact h.last d s
  number := fun d s => by rw [above_no h3]; exact h.number d s
  issued := h.issuedN ht
  own := h.ownN (fun hb => by rw [ht] at hb; cases hb)
  pos := h.posS h0
  revg := fun i hi => by rw [findRev_no (hr i)] at hi; rw [gaveR_no (ha i)]; exact h.revg i hi
theorem kindB_other {k d : Int} {x : Evt} (h : x.f2.f0 ≠ k ∨ x.f3.f0 ≠ 0) : kindB k d x = false := by
  unfold kindB
  rcases h with h | h <;> simp [h]
theorem addB_other {i : ID} {x : Evt} (h : x.f2.f0 ≠ 1 ∨ x.f3.f0 ≠ 0) : addB i x = false := by
  unfold addB
  rcases h with h | h <;> simp [h]
theorem revB_other {i : ID} {x : Evt} (h : x.f2.f0 ≠ 2 ∨ x.f3.f0 ≠ 0) : revB i x = false := by
  unfold revB
  rcases h with h | h <;> simp [h]
theorem tookB_other {x : Evt} (h : x.f2.f0 ≠ 3 ∨ x.f3.f0 ≠ 0) : tookB x = false := by
  unfold tookB
  rcases h with h | h <;> simp [h]
theorem Inv.rest {l : List Evt} {m : AM} (h : Inv l m) {x : Evt} (h0 : 0 ≤ x.f0) (hk : x.f3.f0 ≠ 0 ∨ (x.f2.f0 ≠ 1 ∧ x.f2.f0 ≠ 2 ∧ x.f2.f0 ≠ 3)) : Inv (l ++ [x]) { m with time := x.f0 } :=
  h.idle h0 (fun i => addB_other (by omega)) (fun i => revB_other (by omega)) (tookB_other (by omega)) (fun d => kindB_other (by omega)) (fun d => kindB_other (by omega))
theorem Inv.add {l : List Evt} {m : AM} (h : Inv l m) {x : Evt} (h0 : 0 ≤ x.f0) (hk : x.f2.f0 = 1) (he : x.f3.f0 = 0) (hs : m.last x.f1 < x.f3.f1) : Inv (l ++ [x]) { m with time := x.f0, last := updI m.last x.f1 x.f3.f1, given := updG m.given ⟨x.f1, x.f3.f1⟩ (gaveC x, -1) } := by
  have hr : ∀ i, revB i x = false := fun i => revB_other (by omega)
  have ht : tookB x = false := tookB_other (by omega)
  have hab : aboveR l 1 x.f1 x.f3.f1 = true := by rw [h.last]; exact decide_eq_true hs
  have hg0 : gaveR l ⟨x.f1, x.f3.f1⟩ = none := by
    unfold gaveR; rw [show l.find? (addB ⟨x.f1, x.f3.f1⟩) = none from ?_]
    · rfl
    rw [List.find?_eq_none]; intro y hy hb; obtain ⟨e1, e2, e3, e4⟩ := addB_iff.mp hb; unfold aboveR at hab; rw [Bool.and_eq_true, List.all_eq_true] at hab; have := hab.1 y hy; have e3 : y.f1 = x.f1 := e3; have e4 : y.f3.f1 = x.f3.f1 := e4; simp [kindB, numR, e1, e2, e3, e4] at this
  refine ⟨h0, fun y hy => by rw [lateR_snoc]; exact decide_eq_true_iff.symm, fun i => ?_, fun d s => ?_, fun d s => by rw [above_no (fun d => kindB_other (by omega))]; exact h.number d s, h.issuedN ht, h.ownN (fun hb => by rw [ht] at hb; cases hb), h.posS h0, fun i hi => ?_⟩
  · show updG m.given ⟨x.f1, x.f3.f1⟩ (gaveC x, -1) i = _
    unfold updG
    by_cases hi : (⟨x.f1, x.f3.f1⟩ : ID) = i
    · subst hi
      rw [if_pos rfl, gaveR_yes (addB_iff.mpr ⟨hk, he, rfl, rfl⟩) hg0, revokedR_no (hr _)]
      have : l.find? (revB ⟨x.f1, x.f3.f1⟩) = none := by
        cases hq : l.find? (revB ⟨x.f1, x.f3.f1⟩) with
        | none => rfl
        | some y =>
          have := h.revg ⟨x.f1, x.f3.f1⟩ (by rw [hq]; rfl); rw [hg0] at this; cases this
      unfold revokedR; rw [this]; rfl
    · rw [if_neg hi, gaveR_no, revokedR_no (hr _)]
      · exact h.given i
      · cases hb : addB i x with
        | false => rfl
        | true =>
          obtain ⟨-, -, e3, e4⟩ := addB_iff.mp hb; exact absurd (by rw [e3, e4]) hi
  · rw [aboveR_snoc, h.last d s]
    show _ = decide (updI m.last x.f1 x.f3.f1 d < s)
    unfold updI
    by_cases hd : x.f1 = d
    · subst hd
      rw [if_pos rfl]
      have : kindB 1 x.f1 x = true := by simp [kindB, hk, he]
      rw [this]; have hn : numR 1 x = x.f3.f1 := rfl; rw [hn]
      by_cases hq : x.f3.f1 < s
      · have : m.last x.f1 < s := by omega
        simp [hq, this]
      · simp [hq]
    · rw [if_neg hd]
      have : kindB 1 d x = false := by simp [kindB, hd]
      rw [this]; simp
  · rw [findRev_no (hr i)] at hi
    have := h.revg i hi
    cases hb : addB i x with
    | false => rw [gaveR_no hb]; exact this
    | true =>
      cases hq : gaveR l i with
      | none => rw [gaveR_yes hb hq]; rfl
      | some c => rw [hq] at this; unfold gaveR at hq ⊢; rw [List.find?_append]; cases hw : l.find? (addB i) with
        | none => rw [hw] at hq; cases hq
        | some y => rfl
theorem Inv.revoke {l : List Evt} {m : AM} (h : Inv l m) {x : Evt} (h0 : 0 ≤ x.f0) (hk : x.f2.f0 = 2) (he : x.f3.f0 = 0) {c : Cred} (hc : gaveR l ⟨x.f1, x.f2.f2⟩ = some c) (hn : revokedR l ⟨x.f1, x.f2.f2⟩ < 0) : Inv (l ++ [x]) { m with time := x.f0, given := updG m.given ⟨x.f1, x.f2.f2⟩ (c, x.f0) } := by
  have ha : ∀ i, addB i x = false := fun i => addB_other (by omega)
  have ht : tookB x = false := tookB_other (by omega); refine ⟨h0, fun y hy => by rw [lateR_snoc]; exact decide_eq_true_iff.symm, fun i => ?_, fun d s => by rw [above_no (fun d => kindB_other (by omega))]; exact h.last d s, fun d s => by rw [above_no (fun d => kindB_other (by omega))]; exact h.number d s, h.issuedN ht, h.ownN (fun hb => by rw [ht] at hb; cases hb), h.posS h0, fun i hi => ?_⟩
  · show updG m.given ⟨x.f1, x.f2.f2⟩ (c, x.f0) i = _
    unfold updG; rw [gaveR_no (ha i)]
    by_cases hi : (⟨x.f1, x.f2.f2⟩ : ID) = i
    · subst hi
      rw [if_pos rfl, hc, revokedR_yes (revB_iff.mpr ⟨hk, he, rfl, rfl⟩) ((revokedR_neg h.pos).mp hn)]; rfl
    · rw [if_neg hi, revokedR_no]
      · exact h.given i
      · cases hb : revB i x with
        | false => rfl
        | true =>
          obtain ⟨-, -, e3, e4⟩ := revB_iff.mp hb; exact absurd (by rw [e3, e4]) hi
  · rw [gaveR_no (ha i)]
    cases hb : revB i x with
    | false => rw [findRev_no hb] at hi; exact h.revg i hi
    | true =>
      obtain ⟨-, -, e3, e4⟩ := revB_iff.mp hb
      have : i = ⟨x.f1, x.f2.f2⟩ := by rw [e3, e4]
      rw [this, hc]; rfl
theorem Inv.issue {l : List Evt} {m : AM} (h : Inv l m) {x : Evt} (h0 : 0 ≤ x.f0) (hk : x.f2.f0 = 3) (he : x.f3.f0 = 0) (ho : x.f3.f2.f0 = x.f1) (hs : m.number x.f1 < x.f3.f2.f2) : Inv (l ++ [x]) { m with time := x.f0, number := updI m.number x.f1 x.f3.f2.f2, issued := m.issued ++ [x.f3.f2] } := by
  have ha : ∀ i, addB i x = false := fun i => addB_other (by omega)
  have hr : ∀ i, revB i x = false := fun i => revB_other (by omega)
  have ht : tookB x = true := by simp [tookB, hk, he]
  refine ⟨h0, fun y hy => by rw [lateR_snoc]; exact decide_eq_true_iff.symm, fun i => by rw [gaveR_no (ha i), revokedR_no (hr i)]; exact h.given i, fun d s => by rw [above_no (fun d => kindB_other (by omega))]; exact h.last d s, fun d s => ?_, ?_, h.ownN (fun _ => ho), h.posS h0, fun i hi => by rw [findRev_no (hr i)] at hi; rw [gaveR_no (ha i)]; exact h.revg i hi⟩
  · rw [aboveR_snoc, h.number d s]
    show _ = decide (updI m.number x.f1 x.f3.f2.f2 d < s)
    unfold updI
    by_cases hd : x.f1 = d
    · subst hd
      rw [if_pos rfl]
      have : kindB 3 x.f1 x = true := by simp [kindB, hk, he]
      rw [this]; have hn : numR 3 x = x.f3.f2.f2 := rfl; rw [hn]
      by_cases hq : x.f3.f2.f2 < s
      · have : m.number x.f1 < s := by omega
        simp [hq, this]
      · simp [hq]
    · rw [if_neg hd]
      have : kindB 3 d x = false := by simp [kindB, hd]
      rw [this]; simp
  · show m.issued ++ [x.f3.f2] = _
    rw [List.filter_append, List.filter_cons_of_pos ht, List.filter_nil, List.map_append, ← h.issued]; rfl
def SmallT (t : Tok) : Prop := t.f4.length ≤ 1000 ∧ t.f6.length ≤ 1000 ∧ t.f7.length ≤ 1000 ∧ t.f8.length ≤ 1000
theorem nothing_none {r : S45} (h : SmallT r.f2) : nothingB r = (noneT r.f2 && decide (r.f1 = 0)) := by
  obtain ⟨a, b, c, d⟩ := h
  have e : (wrap64 (wrap64 (wrap64 ((r.f2.f4.length : Int) + (r.f2.f6.length : Int)) + (r.f2.f7.length : Int)) + (r.f2.f8.length : Int)) == 0) = (decide (r.f2.f4.length = 0) && (decide (r.f2.f6.length = 0) && (decide (r.f2.f7.length = 0) && decide (r.f2.f8.length = 0)))) := by
    have w1 : wrap64 ((r.f2.f4.length : Int) + (r.f2.f6.length : Int)) = (r.f2.f4.length : Int) + (r.f2.f6.length : Int) := by unfold wrap64; omega
    rw [w1]
    have w2 : wrap64 ((r.f2.f4.length : Int) + (r.f2.f6.length : Int) + (r.f2.f7.length : Int)) = (r.f2.f4.length : Int) + (r.f2.f6.length : Int) + (r.f2.f7.length : Int) := by unfold wrap64; omega
    rw [w2]
    have w3 : wrap64 ((r.f2.f4.length : Int) + (r.f2.f6.length : Int) + (r.f2.f7.length : Int) + (r.f2.f8.length : Int)) = (r.f2.f4.length : Int) + (r.f2.f6.length : Int) + (r.f2.f7.length : Int) + (r.f2.f8.length : Int) := by unfold wrap64; omega
    rw [w3]; rw [Bool.eq_iff_iff]; simp only [beq_iff_eq, Bool.and_eq_true, decide_eq_true_eq]; omega
  unfold nothingB noneT; rw [e, Bool.eq_iff_iff]; simp only [Bool.and_eq_true, decide_eq_true_eq]; constructor
  · rintro ⟨a1, a2, a3, a4, a5, a6, a7, a8, a9, b1⟩
    exact ⟨⟨⟨⟨⟨⟨⟨⟨⟨a7, a8⟩, b1⟩, a2⟩, a3⟩, a4⟩, a5⟩, a6⟩, a9⟩, a1⟩
  · rintro ⟨⟨⟨⟨⟨⟨⟨⟨⟨a7, a8⟩, b1⟩, a2⟩, a3⟩, a4⟩, a5⟩, a6⟩, a9⟩, a1⟩
    exact ⟨a1, a2, a3, a4, a5, a6, a7, a8, a9, b1⟩
theorem sound_step {l : List Evt} {m : AM} (h : Inv l m) (x : Evt) (hx : SmallT x.f3.f2) : (soundF m x).1 = soundR l x ∧ ((soundF m x).1 = true → Inv (l ++ [x]) (soundF m x).2) := by
  have hc : (x.f0 < m.time ∨ (domName x.f1).toList = []) ↔ ((x.f0 < 0 ∨ lateR l x = true) ∨ x.f1 < 1 ∨ 16 < x.f1) := by
    rw [dom_iff]
    have : x.f0 < m.time ↔ x.f0 < 0 ∨ lateR l x = true := by
      by_cases h0 : x.f0 < 0
      · exact ⟨fun _ => .inl h0, fun _ => by have := h.time0; omega⟩
      · rw [h.time x (by omega)]
        exact ⟨.inr, fun h => h.resolve_left h0⟩
    rw [this]
  by_cases hq : x.f0 < m.time ∨ (domName x.f1).toList = []
  · have e : soundF m x = (false, m) := if_pos hq
    rw [e]; refine ⟨?_, fun h => by cases h⟩; unfold soundR; rw [if_pos (hc.mp hq)]
  have h0 : 0 ≤ x.f0 := by
    rcases Int.lt_or_le x.f0 0 with h | h
    · exact absurd (hc.mpr (.inl (.inl h))) hq
    · exact h
  have e : soundF m x = restF m x := if_neg hq
  have e' : soundR l x = if x.f3.f0 ≠ 0 then noneT x.f3.f2 && decide (x.f3.f1 = 0)
      else if x.f2.f0 = 1 then credMay (gaveC x) && aboveR l 1 x.f1 x.f3.f1
      else if x.f2.f0 = 2 then (gaveR l ⟨x.f1, x.f2.f2⟩).isSome && decide (revokedR l ⟨x.f1, x.f2.f2⟩ < 0)
      else if x.f2.f0 = 3 then decide (x.f3.f2.f4 = x.f2.f4) && (decide (x.f3.f2.f0 = x.f1) && (decide (x.f3.f2.f3 = x.f2.f3) && (aboveR l 3 x.f1 x.f3.f2.f2 && standsR l x x.f3.f2)))
      else if x.f2.f0 = 4 then !issuedR l x.f1 x.f2.f6 || (match x.f2.f4 with | [] => false | r :: _ => decide (r ∈ x.f2.f6.f4) && standsR l x x.f2.f6)
      else true := if_neg (fun h => hq (hc.mpr h))
  rw [e, e']; unfold restF
  by_cases k0 : x.f3.f0 ≠ 0
  · rw [if_pos k0, if_pos k0]
    exact ⟨nothing_none hx, fun _ => h.rest h0 (.inl k0)⟩
  rw [if_neg k0, if_neg k0]
  have he : x.f3.f0 = 0 := by omega
  by_cases k1 : x.f2.f0 = 1
  · rw [if_pos k1, if_pos k1, h.last]
    by_cases hb : x.f3.f1 ≤ m.last x.f1 ∨ credMay (gaveC x) = false
    · have : addF { m with time := x.f0 } x = (false, { m with time := x.f0 }) := if_pos hb
      rw [this]; refine ⟨?_, fun h => by cases h⟩
      rcases hb with hb | hb
      · have : decide (m.last x.f1 < x.f3.f1) = false := decide_eq_false (by omega)
        rw [this, Bool.and_false]
      · rw [hb, Bool.false_and]
    · have : addF { m with time := x.f0 } x = (true, { m with time := x.f0, last := updI m.last x.f1 x.f3.f1, given := updG m.given ⟨x.f1, x.f3.f1⟩ (gaveC x, -1) }) := if_neg hb
      rw [this]
      have hs : m.last x.f1 < x.f3.f1 := by
        rcases Int.lt_or_le (m.last x.f1) x.f3.f1 with h | h
        · exact h
        · exact absurd (.inl h) hb
      have hm : credMay (gaveC x) = true := by
        cases hq : credMay (gaveC x) with
        | true => rfl
        | false => exact absurd (.inr hq) hb
      refine ⟨?_, fun _ => h.add h0 k1 he hs⟩; rw [hm, decide_eq_true hs]; rfl
  rw [if_neg k1, if_neg k1]
  by_cases k2 : x.f2.f0 = 2
  · rw [if_pos k2, if_pos k2]
    unfold revokeF
    show (match m.given ⟨x.f1, x.f2.f2⟩ with | none => _ | some g => _ : Bool × AM).1 = _ ∧ ((match m.given ⟨x.f1, x.f2.f2⟩ with | none => _ | some g => _ : Bool × AM).1 = true → Inv _ (match m.given ⟨x.f1, x.f2.f2⟩ with | none => _ | some g => _ : Bool × AM).2)
    rw [h.given]
    cases hg : gaveR l ⟨x.f1, x.f2.f2⟩ with
    | none => exact ⟨rfl, fun h => by cases h⟩
    | some c =>
      by_cases hn : 0 ≤ revokedR l ⟨x.f1, x.f2.f2⟩
      · have d : decide (revokedR l ⟨x.f1, x.f2.f2⟩ < 0) = false := decide_eq_false (by omega)
        simp only [Option.map_some]; rw [if_pos hn, d]; exact ⟨rfl, fun h => by cases h⟩
      · have d : decide (revokedR l ⟨x.f1, x.f2.f2⟩ < 0) = true := decide_eq_true (by omega)
        simp only [Option.map_some]; rw [if_neg hn, d]; exact ⟨rfl, fun _ => h.revoke h0 k2 he hg (by omega)⟩
  rw [if_neg k2, if_neg k2]
  by_cases k3 : x.f2.f0 = 3
  · rw [if_pos k3, if_pos k3, h.number]
    have hst : standsF { m with time := x.f0 } x.f3.f2 x = standsR l x x.f3.f2 := standsR_is h x.f3.f2 x
    by_cases hb : x.f3.f2.f0 = x.f1 ∧ m.number x.f1 < x.f3.f2.f2 ∧ x.f3.f2.f3 = x.f2.f3 ∧ x.f3.f2.f4 = x.f2.f4 ∧ standsF { m with time := x.f0 } x.f3.f2 x = true
    · have : issueF { m with time := x.f0 } x = (true, { m with time := x.f0, number := updI m.number x.f1 x.f3.f2.f2, issued := m.issued ++ [x.f3.f2] }) := if_pos hb
      rw [this]; obtain ⟨b0, b1, b2, b3, b4⟩ := hb; refine ⟨?_, fun _ => h.issue h0 k3 he b0 b1⟩; rw [← hst, b4, decide_eq_true b0, decide_eq_true b1, decide_eq_true b2, decide_eq_true b3]; rfl
    · have : issueF { m with time := x.f0 } x = (false, { m with time := x.f0 }) := if_neg hb
      rw [this]; refine ⟨?_, fun h => by cases h⟩; rw [hst] at hb; symm
      cases hq : (decide (x.f3.f2.f4 = x.f2.f4) && (decide (x.f3.f2.f0 = x.f1) && (decide (x.f3.f2.f3 = x.f2.f3) && (decide (m.number x.f1 < x.f3.f2.f2) && standsR l x x.f3.f2)))) with
      | false => rfl
      | true =>
        simp only [Bool.and_eq_true, decide_eq_true_eq] at hq; obtain ⟨b3, b0, b2, b1, b4⟩ := hq; exact absurd ⟨b0, b1, b2, b3, b4⟩ hb
  rw [if_neg k3, if_neg k3]
  by_cases k4 : x.f2.f0 = 4
  · rw [if_pos k4, if_pos k4]
    refine ⟨?_, fun _ => h.rest h0 (.inr ⟨k1, k2, k3⟩)⟩
    show verifyF { m with time := x.f0 } x = _
    unfold verifyF; have hst : standsF { m with time := x.f0 } x.f2.f6 x = standsR l x x.f2.f6 := standsR_is h x.f2.f6 x; have hi := issuedR_is h x x.f2.f6; rw [hst]
    by_cases hb : issuedR l x.f1 x.f2.f6 = true
    · rw [if_pos (hi.mpr hb), hb]
      rfl
    · rw [if_neg (fun h => hb (hi.mp h))]
      rw [Bool.not_eq_true] at hb; rw [hb]; rfl
  rw [if_neg k4, if_neg k4]; exact ⟨rfl, fun _ => h.rest h0 (.inr ⟨k1, k2, k3⟩)⟩
theorem check_same : ∀ (xs l : List Evt) (m : AM) (i : Nat), Inv l m → (∀ x ∈ xs, SmallT x.f3.f2) → checkF m xs i = checkR l xs i
  | [], l, m, i, _, _ => rfl
  | x :: xs, l, m, i, h, hs => by
    obtain ⟨e, g⟩ := sound_step h x (hs x (List.mem_cons_self ..)); rw [checkF, checkR, ← e]
    split
    · exact check_same xs _ _ (i + 1) (g ‹_›) (fun y hy => hs y (List.mem_cons_of_mem _ hy))
    · rfl
theorem ev_at {w : World} {A : Option Addr} {l : List Evt} (hC : Kd.C kEvt w A l.length l) {i : Nat} (hi : i < l.length) : ∃ ad x A14 c14 A20 c20 A22 c22 A23 c23 A24 c24 A32 c32 A34 c34 A35 c35 A36 c36, A = some ad ∧ l[i]? = some x ∧ (EvA w x (evV x A14 c14 A20 c20 A22 c22 A23 c23 A24 c24 A32 c32 A34 c34 A35 c35 A36 c36) ∧ (x.f2.f4.length ≤ c14 ∧ k33.C w A14 x.f2.f4.length x.f2.f4) ∧ TokA w x.f2.f6 (tokV x.f2.f6 A20 c20 A22 c22 A23 c23 A24 c24) ∧ TokA w x.f3.f2 (tokV x.f3.f2 A32 c32 A34 c34 A35 c35 A36 c36)) ∧ ∀ W, Below w.heap.size w W → ∀ j v, (evV x A14 c14 A20 c20 A22 c22 A23 c23 A24 c24 A32 c32 A34 c34 A35 c35 A36 c36)[j]? = some v → W.cell? ((ad.add (i * 37)).add j) = some v := by
  obtain ⟨ad, cs, rfl, -, hK, hcell0⟩ := Kd.C_get hC z47 (i : Int) (by omega) (by omega)
  have hx : l.getD (i : Int).toNat z47 = l[i] := by
    rw [show (i : Int).toNat = i from rfl]; simp [List.getD, List.getElem?_eq_getElem hi]
  rw [hx] at hK
  have hE : EvA w l[i] cs.toArray := by
    show kEvt.K w l[i] cs.toArray.toList
    exact hK
  obtain ⟨A14, c14, A20, c20, A22, c22, A23, c23, A24, c24, A32, c32, A34, c34, A35, c35, A36, c36, he, hF⟩ := hE.form; rw [he] at hE; refine ⟨ad, l[i], A14, c14, A20, c20, A22, c22, A23, c23, A24, c24, A32, c32, A34, c34, A35, c35, A36, c36, rfl, List.getElem?_eq_getElem hi, ⟨hE, hF⟩, fun W hW j v hv => ?_⟩; rw [Addr.add_add]; exact Qa0 hW (hcell0 j v (by rw [← he] at hv; simpa using hv))
abbrev RPair := S62
theorem rpair_ext {a b : RPair} (h0 : a.f0 = b.f0) (h1 : a.f1 = b.f1) : a = b := by cases a; cases b; simp_all
instance rpairDec : DecidableEq RPair := fun a b => decidable_of_iff (a.f0 = b.f0 ∧ a.f1 = b.f1) ⟨fun h => rpair_ext h.1 h.2, fun h => by rw [h]; exact ⟨rfl, rfl⟩⟩
instance : Inhabited RPair := ⟨z62⟩
theorem rdR (l : List RPair) (i : Nat) : Qah l (i : Int) = l[i]! := by
  unfold Qah; rw [Int.toNat_natCast, List.getElem!_eq_getElem?_getD, List.getD_eq_getElem?_getD]; rfl
theorem beq_dec (a b : ByteArray) : (a.toList == b.toList) = decide (a = b) := by
  rw [Bool.eq_iff_iff, Lib.bytes_beq_iff, decide_eq_true_eq]
theorem role_beq (r : Role) (a b : ByteArray) : (r.f0.toList == a.toList && (r.f1.toList == b.toList)) = decide (r = ⟨a, b⟩) := by
  rw [beq_dec, beq_dec, Bool.eq_iff_iff, Bool.and_eq_true, decide_eq_true_eq, decide_eq_true_eq, decide_eq_true_eq]; exact ⟨fun h => role_ext h.1 h.2, fun h => by rw [h]; exact ⟨rfl, rfl⟩⟩
theorem rpair_beq (p : RPair) (a b c : ByteArray) : ((p.f0.f0.toList == a.toList && (p.f0.f1.toList == b.toList)) && (p.f1.toList == c.toList)) = decide (p = ⟨⟨a, b⟩, c⟩) := by
  rw [role_beq, beq_dec, Bool.eq_iff_iff, Bool.and_eq_true, decide_eq_true_eq, decide_eq_true_eq, decide_eq_true_eq]; exact ⟨fun h => rpair_ext h.1 h.2, fun h => by rw [h]; exact ⟨rfl, rfl⟩⟩
theorem in_l0 (l : List RPair) (hl : l.length < 1000000000) (a b c : ByteArray) : ∀ (n i : Nat), n + i = l.length → Ev (fun k => Qay.l0 k l (i : Int) a b c) (decide ((⟨⟨a, b⟩, c⟩ : RPair) ∈ l.drop i))
  | 0, i, hn => by
    rw [show l.drop i = [] from List.drop_eq_nil_of_le (by omega)]; refine Ev.step (fun k => ?_) (Ev.pure _); rw [Qay.l0, if_neg (by omega)]; rfl
  | n + 1, i, hn => by
    rw [drop_bang (by omega : i < l.length)]
    by_cases e : l[i]! = ⟨⟨a, b⟩, c⟩
    · refine Ev.step (fun k => ?_) (Ev.pure _)
      rw [Qay.l0, if_pos (by omega), if_pos (by omega), rdR, rpair_beq, decide_eq_true e, if_pos rfl, decide_eq_true (by rw [e]; exact List.mem_cons_self ..)]
    · have h : decide ((⟨⟨a, b⟩, c⟩ : RPair) ∈ l[i]! :: l.drop (i + 1)) = decide ((⟨⟨a, b⟩, c⟩ : RPair) ∈ l.drop (i + 1)) := by
        rw [Bool.eq_iff_iff, decide_eq_true_eq, decide_eq_true_eq, List.mem_cons]; exact ⟨fun h => h.resolve_left (fun h => e h.symm), .inr⟩
      rw [h]; refine Ev.step (fun k => ?_) (in_l0 l hl a b c n (i + 1) (by omega)); rw [Qay.l0, if_pos (by omega), if_pos (by omega), rdR, rpair_beq, decide_eq_false e, if_neg (by decide), Qbt (by omega)]
theorem in_ev (l : List RPair) (hl : l.length < 1000000000) (a b c : ByteArray) : Ev (fun k => Qay.f k l a b c) (decide ((⟨⟨a, b⟩, c⟩ : RPair) ∈ l)) :=
  in_l0 l hl a b c l.length 0 (by omega)
def bringOne (c : Cred) (l : List RPair) (p : RPair) : List RPair :=
  if c.f2 = 2 then (if p.f0 = c.f4 then [⟨credRole c, p.f1⟩] else [])
  else if c.f2 = 4 then (if p.f0 = c.f4 then (if (⟨c.f5, p.f1⟩ : RPair) ∈ l then [⟨credRole c, p.f1⟩] else []) else [])
  else if c.f2 = 3 then (if p.f0 = linkFirst c then (if numName p.f1 > 0 then (l.filter fun q => decide (q.f0 = ⟨p.f1, c.f5.f1⟩)).map fun q => (⟨credRole c, q.f1⟩ : RPair) else []) else [])
  else []
def bringsL (c : Cred) (l : List RPair) : List RPair := if c.f2 = 1 then [⟨credRole c, c.f3⟩] else l.flatMap (bringOne c l)
theorem brings_l1 (c : Cred) (r sec : Role) (l : List RPair) (hl : l.length ≤ 1000) (i : Nat) (hi : i < l.length) (R : List RPair) : ∀ (n j : Nat) (out : List RPair), n + j = l.length → out.length ≤ 100000000 + j →
    Ev (fun k => Qab.l0 k l (out ++ ((l.drop j).filter fun q => decide (q.f0 = sec)).map fun q => (⟨r, q.f1⟩ : RPair)) ((i + 1 : Nat) : Int) c.f0.f0 c.f0.f1 c.f1 c.f2 c.f3 c.f4.f0 c.f4.f1 c.f5.f0 c.f5.f1 r.f0 r.f1) R →
    Ev (fun k => Qab.l1 k l out (i : Int) (j : Int) c.f0.f0 c.f0.f1 c.f1 c.f2 c.f3 c.f4.f0 c.f4.f1 c.f5.f0 c.f5.f1 r.f0 r.f1 sec.f0 sec.f1) R
  | 0, j, out, hn, ho, h => by
    rw [show l.drop j = [] from List.drop_eq_nil_of_le (by omega)] at h; refine Ev.step (fun k => ?_) h; rw [Qab.l1, if_neg (by omega), Qbt (by omega), List.filter_nil, List.map_nil, List.append_nil]
  | n + 1, j, out, hn, ho, h => by
    rw [drop_bang (by omega : j < l.length), List.filter_cons] at h
    by_cases e : l[j]!.f0 = sec
    · rw [decide_eq_true e, if_pos rfl, List.map_cons] at h
      refine Ev.step (fun k => ?_) (brings_l1 c r sec l hl i hi R n (j + 1) (out ++ [⟨r, l[j]!.f1⟩]) (by omega) (by simp; omega) (by rw [List.append_assoc]; exact h)); rw [Qab.l1, if_pos (by omega), if_pos (by omega), rdR, role_beq, decide_eq_true e, if_pos rfl, if_pos (by omega), Qbt (by omega)]
    · rw [decide_eq_false e, if_neg (by decide)] at h
      refine Ev.step (fun k => ?_) (brings_l1 c r sec l hl i hi R n (j + 1) out (by omega) (by omega) h); rw [Qab.l1, if_pos (by omega), if_pos (by omega), rdR, role_beq, decide_eq_false e, if_neg (by decide), Qbt (by omega)]
theorem brings_j3 (c : Cred) (r : Role) (l : List RPair) (hl : l.length ≤ 1000) (i : Nat) (hi : i < l.length) (t : Bool) (R out : List RPair) (ho : out.length ≤ 100000000)
    (h : Ev (fun k => Qab.l0 k l (out ++ (if t then (l.filter fun q => decide (q.f0 = ⟨l[i]!.f1, c.f5.f1⟩)).map fun q => (⟨r, q.f1⟩ : RPair) else [])) ((i + 1 : Nat) : Int) c.f0.f0 c.f0.f1 c.f1 c.f2 c.f3 c.f4.f0 c.f4.f1 c.f5.f0 c.f5.f1 r.f0 r.f1) R) :
    Ev (fun k => Qab.j3 k l out (i : Int) t c.f0.f0 c.f0.f1 c.f1 c.f2 c.f3 c.f4.f0 c.f4.f1 c.f5.f0 c.f5.f1 r.f0 r.f1) R := by
  cases t
  · rw [if_neg (by decide), List.append_nil] at h
    refine Ev.step (fun k => ?_) h; rw [Qab.j3, if_neg (by decide), Qbt (by omega)]
  · rw [if_pos rfl] at h
    refine Ev.step (fun k => ?_) (brings_l1 c r ⟨l[i]!.f1, c.f5.f1⟩ l hl i hi R l.length 0 out (by omega) (by omega) (by rw [List.drop_zero]; exact h)); rw [Qab.j3, if_pos rfl, if_pos (by omega), if_pos (by omega), rdR]; rfl
theorem brings_j2 (c : Cred) (r : Role) (l : List RPair) (hl : l.length ≤ 1000) (i : Nat) (hi : i < l.length) (R out : List RPair) (ho : out.length ≤ 100000000)
    (h : Ev (fun k => Qab.l0 k l (out ++ (if c.f2 = 3 then (if l[i]!.f0 = linkFirst c then (if numName l[i]!.f1 > 0 then (l.filter fun q => decide (q.f0 = ⟨l[i]!.f1, c.f5.f1⟩)).map fun q => (⟨r, q.f1⟩ : RPair) else []) else []) else [])) ((i + 1 : Nat) : Int) c.f0.f0 c.f0.f1 c.f1 c.f2 c.f3 c.f4.f0 c.f4.f1 c.f5.f0 c.f5.f1 r.f0 r.f1) R) :
    Ev (fun k => Qab.j2 k l out (i : Int) c.f0.f0 c.f0.f1 c.f1 c.f2 c.f3 c.f4.f0 c.f4.f1 c.f5.f0 c.f5.f1 r.f0 r.f1) R := by
  by_cases k3 : c.f2 = 3
  · rw [if_pos k3] at h
    by_cases e : l[i]!.f0 = linkFirst c
    · rw [if_pos e] at h
      have h3 := brings_j3 c r l hl i hi (decide (numName l[i]!.f1 > 0)) R out ho (by simpa only [decide_eq_true_eq] using h); refine Ev.step (g := fun k => (QaJ.f k c.f0.f0 c.f0.f1 c.f1 c.f2 c.f3 c.f4.f0 c.f4.f1 c.f5.f0 c.f5.f1).bind fun bt => if ((l[i]!.f0.f0.toList == bt.1.toList && (l[i]!.f0.f1.toList == bt.2.toList))) = true then ((Qaj.f k l[i]!.f1).bind fun t => Qab.j3 k l out (i : Int) (decide (t > 0)) c.f0.f0 c.f0.f1 c.f1 c.f2 c.f3 c.f4.f0 c.f4.f1 c.f5.f0 c.f5.f1 r.f0 r.f1) else Qab.j3 k l out (i : Int) false c.f0.f0 c.f0.f1 c.f1 c.f2 c.f3 c.f4.f0 c.f4.f1 c.f5.f0 c.f5.f1 r.f0 r.f1) (fun k => ?_) ?_
      · rw [Qab.j2, if_pos k3, if_pos (by omega), if_pos (by omega), rdR]
      · refine Ev.bind (a := (domName c.f0.f0, c.f4.f1)) (.from 1 fun k hk => ?_) ?_
        · obtain ⟨j, rfl⟩ : ∃ j, k = j + 1 := ⟨k - 1, by omega⟩
          unfold QaJ.f; rw [refDomain_is]; rfl
        · rw [role_beq, decide_eq_true (p := l[i]!.f0 = ⟨domName c.f0.f0, c.f4.f1⟩) e]
          simp only [if_true]; exact Ev.bind (.from 2 fun k hk => by obtain ⟨j, rfl⟩ : ∃ j, k = j + 2 := ⟨k - 2, by omega⟩; exact refNumber_is _ _) h3
    · rw [if_neg e, List.append_nil] at h
      have h3 := brings_j3 c r l hl i hi false R out ho (by simpa using h); refine Ev.step (g := fun k => (QaJ.f k c.f0.f0 c.f0.f1 c.f1 c.f2 c.f3 c.f4.f0 c.f4.f1 c.f5.f0 c.f5.f1).bind fun bt => if ((l[i]!.f0.f0.toList == bt.1.toList && (l[i]!.f0.f1.toList == bt.2.toList))) = true then ((Qaj.f k l[i]!.f1).bind fun t => Qab.j3 k l out (i : Int) (decide (t > 0)) c.f0.f0 c.f0.f1 c.f1 c.f2 c.f3 c.f4.f0 c.f4.f1 c.f5.f0 c.f5.f1 r.f0 r.f1) else Qab.j3 k l out (i : Int) false c.f0.f0 c.f0.f1 c.f1 c.f2 c.f3 c.f4.f0 c.f4.f1 c.f5.f0 c.f5.f1 r.f0 r.f1) (fun k => ?_) ?_
      · rw [Qab.j2, if_pos k3, if_pos (by omega), if_pos (by omega), rdR]
      · refine Ev.bind (a := (domName c.f0.f0, c.f4.f1)) (.from 1 fun k hk => ?_) ?_
        · obtain ⟨j, rfl⟩ : ∃ j, k = j + 1 := ⟨k - 1, by omega⟩
          unfold QaJ.f; rw [refDomain_is]; rfl
        · rw [role_beq, decide_eq_false (p := l[i]!.f0 = ⟨domName c.f0.f0, c.f4.f1⟩) e]
          simpa only [Bool.false_eq_true, if_false] using h3
  · rw [if_neg k3, List.append_nil] at h
    have h3 := brings_j3 c r l hl i hi false R out ho (by simpa using h); refine Ev.step (fun k => ?_) h3; rw [Qab.j2, if_neg k3]
theorem brings_j1 (c : Cred) (l : List RPair) (hl : l.length ≤ 1000) (i : Nat) (hi : i < l.length) (R out : List RPair) (ho : out.length < 100000000)
    (h : Ev (fun k => Qab.l0 k l (out ++ bringOne c l l[i]!) ((i + 1 : Nat) : Int) c.f0.f0 c.f0.f1 c.f1 c.f2 c.f3 c.f4.f0 c.f4.f1 c.f5.f0 c.f5.f1 (credRole c).f0 (credRole c).f1) R) :
    Ev (fun k => Qab.j1 k l out (i : Int) ((decide (c.f2 = 2) || decide (c.f2 = 4)) && decide (l[i]!.f0 = c.f4)) c.f0.f0 c.f0.f1 c.f1 c.f2 c.f3 c.f4.f0 c.f4.f1 c.f5.f0 c.f5.f1 (credRole c).f0 (credRole c).f1) R := by
  unfold bringOne at h
  by_cases k24 : c.f2 = 2 ∨ c.f2 = 4
  · have hk : (decide (c.f2 = 2) || decide (c.f2 = 4)) = true := by rw [Bool.or_eq_true, decide_eq_true_eq, decide_eq_true_eq]; exact k24
    rw [hk, Bool.true_and]
    by_cases e : l[i]!.f0 = c.f4
    · rw [decide_eq_true e]
      simp only [if_pos e] at h; refine Ev.step (g := fun k => (Qay.f k l c.f5.f0 c.f5.f1 l[i]!.f1).bind fun t => if c.f2 = 2 then Qab.j2 k l (out ++ [⟨credRole c, l[i]!.f1⟩]) (i : Int) c.f0.f0 c.f0.f1 c.f1 c.f2 c.f3 c.f4.f0 c.f4.f1 c.f5.f0 c.f5.f1 (credRole c).f0 (credRole c).f1 else if t = true then Qab.j2 k l (out ++ [⟨credRole c, l[i]!.f1⟩]) (i : Int) c.f0.f0 c.f0.f1 c.f1 c.f2 c.f3 c.f4.f0 c.f4.f1 c.f5.f0 c.f5.f1 (credRole c).f0 (credRole c).f1 else Qab.j2 k l out (i : Int) c.f0.f0 c.f0.f1 c.f1 c.f2 c.f3 c.f4.f0 c.f4.f1 c.f5.f0 c.f5.f1 (credRole c).f0 (credRole c).f1) (fun k => ?_) (Ev.bind (in_ev l (by omega) _ _ _) ?_)
      · rw [Qab.j1, if_pos rfl, if_pos (by omega), if_pos (by omega), rdR]
        simp only [if_pos (show out.length < 2932031007402 by omega)]
      · by_cases k2 : c.f2 = 2
        · simp only [if_pos k2] at h ⊢
          refine brings_j2 c _ l hl i hi R _ (by simp; omega) ?_; rw [if_neg (by omega), List.append_nil]; exact h
        · have k4 : c.f2 = 4 := by omega
          simp only [if_neg k2, if_pos k4] at h ⊢
          by_cases m : (⟨c.f5, l[i]!.f1⟩ : RPair) ∈ l
          · rw [if_pos m] at h
            rw [decide_eq_true (p := (⟨⟨c.f5.f0, c.f5.f1⟩, l[i]!.f1⟩ : RPair) ∈ l) m]; simp only [if_true]; refine brings_j2 c _ l hl i hi R _ (by simp; omega) ?_; rw [if_neg (by omega), List.append_nil]; exact h
          · rw [if_neg m, List.append_nil] at h
            rw [decide_eq_false (p := (⟨⟨c.f5.f0, c.f5.f1⟩, l[i]!.f1⟩ : RPair) ∈ l) m]; simp only [Bool.false_eq_true, if_false]; refine brings_j2 c _ l hl i hi R _ (by omega) ?_; rw [if_neg (by omega), List.append_nil]; exact h
    · rw [decide_eq_false e]
      refine Ev.step (fun k => ?_) (brings_j2 c (credRole c) l hl i hi R out (by omega) ?_)
      · rw [Qab.j1, if_neg (by decide)]
      · rw [if_neg (by omega)]
        simp only [if_neg e] at h
        rcases k24 with k | k
        · rw [if_pos k] at h
          exact h
        · rw [if_neg (by omega), if_pos k] at h
          exact h
  · have hk : (decide (c.f2 = 2) || decide (c.f2 = 4)) = false := by rw [decide_eq_false (by omega), decide_eq_false (by omega)]; rfl
    rw [hk, Bool.false_and]; rw [if_neg (by omega), if_neg (by omega)] at h; refine Ev.step (fun k => ?_) (brings_j2 c (credRole c) l hl i hi R out (by omega) h); rw [Qab.j1, if_neg (by decide)]
theorem bringOne_length (c : Cred) (l : List RPair) (p : RPair) (hl : l.length ≤ 1000) : (bringOne c l p).length ≤ 1000 := by
  unfold bringOne; have := List.length_filter_le (fun q : RPair => decide (q.f0 = ⟨p.f1, c.f5.f1⟩)) l
  split
  · split <;> simp
  · split
    · split
      · split <;> simp
      · simp
    · split
      · split
        · split
          · rw [List.length_map]; omega
          · simp
        · simp
      · simp
theorem brings_l0 (c : Cred) (l : List RPair) (hl : l.length ≤ 1000) : ∀ (n i : Nat) (out : List RPair), n + i = l.length → out.length ≤ i * 1000 → Ev (fun k => Qab.l0 k l out (i : Int) c.f0.f0 c.f0.f1 c.f1 c.f2 c.f3 c.f4.f0 c.f4.f1 c.f5.f0 c.f5.f1 (credRole c).f0 (credRole c).f1) (out ++ (l.drop i).flatMap (bringOne c l))
  | 0, i, out, hn, ho => by
    rw [show l.drop i = [] from List.drop_eq_nil_of_le (by omega), List.flatMap_nil, List.append_nil]; refine Ev.step (fun k => ?_) (Ev.pure _); rw [Qab.l0, if_neg (by omega)]
  | n + 1, i, out, hn, ho => by
    have hi : i < l.length := by omega
    rw [drop_bang hi, List.flatMap_cons, ← List.append_assoc]; have hlen := bringOne_length c l l[i]! hl; refine Ev.step (fun k => ?_) (brings_j1 c l hl i hi _ out (by omega) (brings_l0 c l hl n (i + 1) _ (by omega) (by rw [List.length_append]; omega))); rw [Qab.l0, if_pos (by omega)]
    by_cases k2 : c.f2 = 2
    · rw [if_pos k2, if_pos (by omega), rdR, role_beq, decide_eq_true k2]
      rfl
    · rw [if_neg k2, decide_eq_false k2]
      by_cases k4 : c.f2 = 4
      · rw [if_pos k4, if_pos (by omega), rdR, role_beq, decide_eq_true k4]
        rfl
      · rw [if_neg k4, decide_eq_false k4]
        rfl
theorem brings_ev (c : Cred) (l : List RPair) (hl : l.length ≤ 1000) : Ev (fun k => Qab.f k c.f0.f0 c.f0.f1 c.f1 c.f2 c.f3 c.f4.f0 c.f4.f1 c.f5.f0 c.f5.f1 l) (bringsL c l) := by
  unfold Qab.f bringsL; refine Ev.bind (a := (domName c.f0.f0, c.f1)) (.from 1 fun k hk => ?_) ?_
  · obtain ⟨j, rfl⟩ : ∃ j, k = j + 1 := ⟨k - 1, by omega⟩
    unfold QaU.f; rw [refDomain_is]; rfl
  · by_cases k1 : c.f2 = 1
    · simp only [if_pos k1]
      exact Ev.pure _
    · simp only [if_neg k1]
      have := brings_l0 c l hl l.length 0 [] (by omega) (by simp); rw [List.drop_zero, List.nil_append] at this; exact this
theorem bringsL_length (c : Cred) (l : List RPair) (hl : l.length ≤ 1000) : (bringsL c l).length ≤ 1000001 := by
  have key : ∀ m : List RPair, (m.flatMap (bringOne c l)).length ≤ m.length * 1000 := fun m => by
    induction m with
    | nil => simp
    | cons a m ih =>
      have := bringOne_length c l a hl; rw [List.flatMap_cons, List.length_append, List.length_cons]; omega
  unfold bringsL; have := key l
  split
  · simp
  · omega
def addNew (out : List RPair) (p : RPair) : List RPair := if p ∈ out then out else out ++ [p]
theorem round_l1 (cs : List Cred) (hcs : cs.length ≤ 1000) (l more : List RPair) (hm : more.length ≤ 1000001) (i : Nat) (hi : i < cs.length) (R : List RPair) : ∀ (n j : Nat) (out : List RPair), n + j = more.length → out.length + n ≤ 900000000 →
    Ev (fun k => Qar.l0 k cs l ((more.drop j).foldl addNew out) ((i + 1 : Nat) : Int)) R → Ev (fun k => Qar.l1 k cs l out (i : Int) more (j : Int)) R
  | 0, j, out, hn, ho, h => by
    rw [show more.drop j = [] from List.drop_eq_nil_of_le (by omega)] at h; refine Ev.step (fun k => ?_) h; rw [Qar.l1, if_neg (by omega), Qbt (by omega), List.foldl_nil]
  | n + 1, j, out, hn, ho, h => by
    rw [drop_bang (by omega : j < more.length), List.foldl_cons] at h; refine Ev.step (g := fun k => (Qay.f k out more[j]!.f0.f0 more[j]!.f0.f1 more[j]!.f1).bind fun t => if t = true then Qar.l1 k cs l out (i : Int) more ((j + 1 : Nat) : Int) else Qar.l1 k cs l (out ++ [more[j]!]) (i : Int) more ((j + 1 : Nat) : Int)) (fun k => ?_) ?_
    · rw [Qar.l1, if_pos (by omega), if_pos (by omega), rdR, Qbt (by omega)]
      simp only [if_pos (show out.length < 2932031007402 by omega)]
    · by_cases e : more[j]! ∈ out
      · rw [addNew, if_pos e] at h
        refine Ev.bind (a := true) ?_ ?_
        · by_cases hb : out.length < 1000000000
          · have := in_ev out hb more[j]!.f0.f0 more[j]!.f0.f1 more[j]!.f1
            rw [decide_eq_true (p := (⟨⟨more[j]!.f0.f0, more[j]!.f0.f1⟩, more[j]!.f1⟩ : RPair) ∈ out) e] at this; exact this
          · exact absurd hb (by omega)
        · simp only [if_true]
          exact round_l1 cs hcs l more hm i hi R n (j + 1) out (by omega) (by omega) h
      · rw [addNew, if_neg e] at h
        refine Ev.bind (a := false) ?_ ?_
        · have := in_ev out (by omega) more[j]!.f0.f0 more[j]!.f0.f1 more[j]!.f1
          rw [decide_eq_false (p := (⟨⟨more[j]!.f0.f0, more[j]!.f0.f1⟩, more[j]!.f1⟩ : RPair) ∈ out) e] at this; exact this
        · simp only [Bool.false_eq_true, if_false]
          exact round_l1 cs hcs l more hm i hi R n (j + 1) (out ++ [more[j]!]) (by omega) (by simp; omega) h
theorem addAll_length : ∀ (more out : List RPair), (more.foldl addNew out).length ≤ out.length + more.length
  | [], out => by simp
  | a :: m, out => by
    rw [List.foldl_cons]; have := addAll_length m (addNew out a)
    have h2 : (addNew out a).length ≤ out.length + 1 := by
      unfold addNew
      split <;> simp
    simp only [List.length_cons]; omega
def roundL (cs : List Cred) (l : List RPair) : List RPair := cs.foldl (fun o c => (bringsL c l).foldl addNew o) l
theorem round_l0 (cs : List Cred) (hcs : cs.length ≤ 100) (l : List RPair) (hl : l.length ≤ 1000) : ∀ (n i : Nat) (out : List RPair), n + i = cs.length → out.length ≤ 1000 + i * 1000001 → Ev (fun k => Qar.l0 k cs l out (i : Int)) ((cs.drop i).foldl (fun o c => (bringsL c l).foldl addNew o) out)
  | 0, i, out, hn, ho => by
    rw [show cs.drop i = [] from List.drop_eq_nil_of_le (by omega)]; refine Ev.step (fun k => ?_) (Ev.pure _); rw [Qar.l0, if_neg (by omega)]; rfl
  | n + 1, i, out, hn, ho => by
    have hi : i < cs.length := by omega
    rw [drop_bang hi, List.foldl_cons]; have h1 := bringsL_length cs[i]! l hl; have h2 := addAll_length (bringsL cs[i]! l) out; refine Ev.step (g := fun k => (Qab.f k cs[i]!.f0.f0 cs[i]!.f0.f1 cs[i]!.f1 cs[i]!.f2 cs[i]!.f3 cs[i]!.f4.f0 cs[i]!.f4.f1 cs[i]!.f5.f0 cs[i]!.f5.f1 l).bind fun t => Qar.l1 k cs l out (i : Int) t 0) (fun k => ?_) (Ev.bind (brings_ev cs[i]! l hl) (round_l1 cs (by omega) l _ h1 i hi _ (bringsL cs[i]! l).length 0 out (by omega) (by omega) ?_))
    · rw [Qar.l0, if_pos (by omega), if_pos (by omega), rdCred]
    · rw [List.drop_zero]
      exact round_l0 cs hcs l hl n (i + 1) _ (by omega) (by omega)
theorem round_ev (cs : List Cred) (hcs : cs.length ≤ 100) (l : List RPair) (hl : l.length ≤ 1000) : Ev (fun k => Qar.f k cs l) (roundL cs l) := by
  have := round_l0 cs hcs l hl cs.length 0 l (by omega) (by omega); rw [List.drop_zero] at this; refine Ev.congr (fun k => ?_) this; unfold Qar.f; rw [if_pos (by simp; omega), List.nil_append]; rfl
def Ext (out res : List RPair) (M : RPair → Prop) : Prop := ∃ e, res = out ++ e ∧ e.Nodup ∧ (∀ x ∈ e, x ∉ out) ∧ ∀ x, x ∈ res ↔ x ∈ out ∨ M x
theorem ext_none (out : List RPair) {M : RPair → Prop} (h : ∀ x, M x → x ∈ out) : Ext out out M := ⟨[], by simp, List.nodup_nil, fun x hx => by (cases hx), fun x => ⟨.inl, fun h' => h'.elim id (h x)⟩⟩
theorem Ext.trans {a b c : List RPair} {M M' : RPair → Prop} (h : Ext a b M) (h' : Ext b c M') : Ext a c (fun x => M x ∨ M' x) := by
  obtain ⟨e, rfl, h1, h2, h3⟩ := h; obtain ⟨e', rfl, h4, h5, h6⟩ := h'; refine ⟨e ++ e', by rw [List.append_assoc], ?_, ?_, fun x => ?_⟩
  · rw [List.nodup_append]
    exact ⟨h1, h4, fun x hx y hy e => h5 y hy (List.mem_append_right _ (e ▸ hx))⟩
  · intro x hx
    rcases List.mem_append.mp hx with h | h
    · exact h2 x h
    · exact fun hxa => h5 x h (List.mem_append_left _ hxa)
  · rw [h6, h3]
    constructor
    · rintro ((h | h) | h)
      · exact .inl h
      · exact .inr (.inl h)
      · exact .inr (.inr h)
    · rintro (h | h | h)
      · exact .inl (.inl h)
      · exact .inl (.inr h)
      · exact .inr h
theorem Ext.imp {a b : List RPair} {M M' : RPair → Prop} (h : Ext a b M) (hM : ∀ x, M x ↔ M' x) : Ext a b M' := by
  obtain ⟨e, h0, h1, h2, h3⟩ := h; exact ⟨e, h0, h1, h2, fun x => (h3 x).trans ⟨fun h => h.imp id (hM x).mp, fun h => h.imp id (hM x).mpr⟩⟩
theorem addNew_ext (out : List RPair) (p : RPair) : Ext out (addNew out p) (fun x => x = p) := by
  unfold addNew
  by_cases h : p ∈ out
  · rw [if_pos h]
    exact ext_none out (fun x e => e ▸ h)
  · rw [if_neg h]
    exact ⟨[p], rfl, by simp, fun x hx => by rw [List.mem_singleton.mp hx]; exact h, fun x => by simp⟩
theorem addAll_ext : ∀ (more out : List RPair), Ext out (more.foldl addNew out) (fun x => x ∈ more)
  | [], out => ext_none out (fun x h => by cases h)
  | a :: m, out => by
    rw [List.foldl_cons]; exact ((addNew_ext out a).trans (addAll_ext m _)).imp (fun x => by rw [List.mem_cons])
theorem round_ext (l : List RPair) : ∀ (cs : List Cred) (out : List RPair), Ext out (cs.foldl (fun o c => (bringsL c l).foldl addNew o) out) (fun x => ∃ c ∈ cs, x ∈ bringsL c l)
  | [], out => ext_none out (fun x h => by obtain ⟨c, hc, _⟩ := h; cases hc)
  | c :: cs, out => by
    rw [List.foldl_cons]; refine ((addAll_ext (bringsL c l) out).trans (round_ext l cs _)).imp (fun x => ?_); constructor
    · rintro (h | ⟨c', hc', h⟩)
      · exact ⟨c, List.mem_cons_self .., h⟩
      · exact ⟨c', List.mem_cons_of_mem _ hc', h⟩
    · rintro ⟨c', hc', h⟩
      rcases List.mem_cons.mp hc' with e | e
      · exact .inl (e ▸ h)
      · exact .inr ⟨c', e, h⟩
theorem bringsL_mem (c : Cred) (l : List RPair) (x : RPair) : x ∈ bringsL c l ↔ x.f0 = credRole c ∧ ((c.f2 = 1 ∧ x.f1 = c.f3) ∨ (c.f2 = 2 ∧ (⟨c.f4, x.f1⟩ : RPair) ∈ l) ∨ (c.f2 = 3 ∧ ∃ u, (⟨linkFirst c, u⟩ : RPair) ∈ l ∧ numName u > 0 ∧ (⟨⟨u, c.f5.f1⟩, x.f1⟩ : RPair) ∈ l) ∨ (c.f2 = 4 ∧ (⟨c.f4, x.f1⟩ : RPair) ∈ l ∧ (⟨c.f5, x.f1⟩ : RPair) ∈ l)) := by
  unfold bringsL
  by_cases k1 : c.f2 = 1
  · rw [if_pos k1, List.mem_singleton]
    constructor
    · rintro rfl
      exact ⟨rfl, .inl ⟨k1, rfl⟩⟩
    · rintro ⟨h0, h⟩
      rcases h with h | h | h | h
      · exact rpair_ext h0 h.2
      · omega
      · omega
      · omega
  rw [if_neg k1, List.mem_flatMap]; unfold bringOne
  by_cases k2 : c.f2 = 2
  · simp only [if_pos k2]
    constructor
    · rintro ⟨p, hp, h⟩
      by_cases e : p.f0 = c.f4
      · rw [if_pos e, List.mem_singleton] at h
        subst h; exact ⟨rfl, .inr (.inl ⟨k2, by rw [← e]; exact hp⟩)⟩
      · rw [if_neg e] at h
        cases h
    · rintro ⟨h0, h⟩
      rcases h with h | h | h | h
      · omega
      · refine ⟨_, h.2, ?_⟩
        rw [if_pos rfl, List.mem_singleton]; exact rpair_ext h0 rfl
      · omega
      · omega
  simp only [if_neg k2]
  by_cases k4 : c.f2 = 4
  · simp only [if_pos k4]
    constructor
    · rintro ⟨p, hp, h⟩
      by_cases e : p.f0 = c.f4
      · rw [if_pos e] at h
        by_cases m : (⟨c.f5, p.f1⟩ : RPair) ∈ l
        · rw [if_pos m, List.mem_singleton] at h
          subst h; exact ⟨rfl, .inr (.inr (.inr ⟨k4, by rw [← e]; exact hp, m⟩))⟩
        · rw [if_neg m] at h
          cases h
      · rw [if_neg e] at h
        cases h
    · rintro ⟨h0, h⟩
      rcases h with h | h | h | h
      · omega
      · omega
      · omega
      · refine ⟨_, h.2.1, ?_⟩
        rw [if_pos rfl, if_pos h.2.2, List.mem_singleton]; exact rpair_ext h0 rfl
  simp only [if_neg k4]
  by_cases k3 : c.f2 = 3
  · simp only [if_pos k3]
    constructor
    · rintro ⟨p, hp, h⟩
      by_cases e : p.f0 = linkFirst c
      · rw [if_pos e] at h
        by_cases m : numName p.f1 > 0
        · rw [if_pos m, List.mem_map] at h
          obtain ⟨q, hq, rfl⟩ := h; rw [List.mem_filter, decide_eq_true_eq] at hq; exact ⟨rfl, .inr (.inr (.inl ⟨k3, p.f1, by rw [← e]; exact hp, m, by rw [← hq.2]; exact hq.1⟩))⟩
        · rw [if_neg m] at h
          cases h
      · rw [if_neg e] at h
        cases h
    · rintro ⟨h0, h⟩
      rcases h with h | h | h | h
      · omega
      · omega
      · obtain ⟨_, u, h1, h2, h3⟩ := h
        refine ⟨_, h1, ?_⟩; rw [if_pos rfl, if_pos h2, List.mem_map]; refine ⟨_, List.mem_filter.mpr ⟨h3, by simp⟩, rpair_ext h0.symm rfl⟩
      · omega
  simp only [if_neg k3]; constructor
  · rintro ⟨p, hp, h⟩
    cases h
  · rintro ⟨h0, h⟩
    omega
def SaidR (cs : List Cred) (p : RPair) : Prop := Said cs ⟨p.f0, p.f1⟩
theorem brings_said {cs : List Cred} {c : Cred} (hc : c ∈ cs) {l : List RPair} (hl : ∀ p ∈ l, SaidR cs p) {x : RPair} (hx : x ∈ bringsL c l) : SaidR cs x := by
  rw [bringsL_mem] at hx; obtain ⟨h0, h⟩ := hx; unfold SaidR; rw [h0]
  rcases h with h | h | h | h
  · rw [h.2]
    exact .member hc h.1
  · exact .incl hc h.1 (hl _ h.2)
  · obtain ⟨k, u, h1, h2, h3⟩ := h
    exact .link hc k (hl _ h1) h2 (hl _ h3)
  · exact .both hc h.1 (hl _ h.2.1) (hl _ h.2.2)
theorem closed_said {cs : List Cred} {l : List RPair} (h : ∀ c ∈ cs, ∀ x ∈ bringsL c l, x ∈ l) {p : Pair} (hp : Said cs p) : (⟨p.f0, p.f1⟩ : RPair) ∈ l := by
  induction hp with
  | @member c hc k => exact h c hc _ ((bringsL_mem c l _).mpr ⟨rfl, .inl ⟨k, rfl⟩⟩)
  | @incl c u hc k _ ih => exact h c hc _ ((bringsL_mem c l _).mpr ⟨rfl, .inr (.inl ⟨k, ih⟩)⟩)
  | @link c u v hc k _ n _ ih1 ih2 => exact h c hc _ ((bringsL_mem c l _).mpr ⟨rfl, .inr (.inr (.inl ⟨k, u, ih1, n, ih2⟩))⟩)
  | @both c u hc k _ _ ih1 ih2 => exact h c hc _ ((bringsL_mem c l _).mpr ⟨rfl, .inr (.inr (.inr ⟨k, ih1, ih2⟩))⟩)
theorem round_fix {cs : List Cred} {l : List RPair} (h : (roundL cs l).length = l.length) : roundL cs l = l ∧ ∀ c ∈ cs, ∀ x ∈ bringsL c l, x ∈ l := by
  obtain ⟨e, h0, h1, h2, h3⟩ := round_ext l cs l; have h0' : roundL cs l = l ++ e := h0; rw [h0', List.length_append] at h; have he : e = [] := List.eq_nil_of_length_eq_zero (by omega); rw [he, List.append_nil] at h0'; refine ⟨h0', fun c hc x hx => ?_⟩; have := (h3 x).mpr (.inr ⟨c, hc, hx⟩); have h4 : x ∈ roundL cs l := this; rw [h0'] at h4; exact h4
def rLess (a b : RPair) : Bool := pairLess ⟨a.f0, a.f1⟩ ⟨b.f0, b.f1⟩
theorem rLess_irrefl (a : RPair) : rLess a a = false := by
  rw [Bool.eq_false_iff]; exact Qby _
theorem rLess_trans (a b c : RPair) (h : rLess a b = true) (h' : rLess b c = true) : rLess a c = true := QbO h h'
theorem rLess_total (a b : RPair) (h : a ≠ b) : rLess a b = true ∨ rLess b a = true := by
  by_cases h1 : rLess a b = true
  · exact .inl h1
  · by_cases h2 : rLess b a = true
    · exact .inr h2
    · have := QbP h1 h2
      exact absurd (rpair_ext (congrArg S102.f0 this) (congrArg S102.f1 this)) h
theorem refLess_is (a b : RPair) : Qbk.f a.f0.f0 a.f0.f1 a.f1 b.f0.f0 b.f0.f1 b.f1 = some (rLess a b) := by
  unfold Qbk.f Qbs.f rLess
  by_cases e0 : a.f0.f0 = b.f0.f0
  · rw [(Lib.bytes_beq_iff _ _).mpr e0, if_pos ((toList_iff _ _).mpr e0)]
    by_cases e1 : a.f0.f1 = b.f0.f1
    · rw [(Lib.bytes_beq_iff _ _).mpr e1, if_neg (by decide)]
      congr 1
      rw [Bool.eq_iff_iff, QbZ, roleLess_iff]
      show _ ↔ ((sLess a.f0.f0 b.f0.f0 = true ∨ (a.f0.f0 = b.f0.f0 ∧ sLess a.f0.f1 b.f0.f1 = true)) ∨ (a.f0 = b.f0 ∧ sLess a.f1 b.f1 = true))
      rw [e0, e1, QbY, QbY, show a.f0 = b.f0 from role_ext e0 e1]; simp [sLess]
    · have hb : (a.f0.f1.toList == b.f0.f1.toList) = false := by rw [beq_dec]; exact decide_eq_false e1
      rw [hb, if_pos (by rfl), Option.bind_some]
      congr 1
      rw [Bool.eq_iff_iff, QbZ, roleLess_iff]
      show _ ↔ ((sLess a.f0.f0 b.f0.f0 = true ∨ (a.f0.f0 = b.f0.f0 ∧ sLess a.f0.f1 b.f0.f1 = true)) ∨ (a.f0 = b.f0 ∧ sLess a.f1 b.f1 = true))
      have hne : a.f0 ≠ b.f0 := fun e => e1 (by rw [e])
      rw [e0, QbY]; simp [hne, sLess]
  · have hb : (a.f0.f0.toList == b.f0.f0.toList) = false := by rw [beq_dec]; exact decide_eq_false e0
    rw [hb, if_pos (by rfl), if_neg (fun h => e0 ((toList_iff _ _).mp h)), Option.bind_some]
    congr 1
    rw [Bool.eq_iff_iff, QbZ, roleLess_iff]
    show _ ↔ ((sLess a.f0.f0 b.f0.f0 = true ∨ (a.f0.f0 = b.f0.f0 ∧ sLess a.f0.f1 b.f0.f1 = true)) ∨ (a.f0 = b.f0 ∧ sLess a.f1 b.f1 = true))
    have hne : a.f0 ≠ b.f0 := fun e => e0 (by rw [e])
    simp [hne, e0, sLess]
theorem refAll_l2 (x : List RPair) (hx : x.length < 1000000) (out : List RPair) (ho : out.length < 1000000) (R : List RPair) : ∀ (n m i : Nat), n + i = x.length → m < x.length →
    Ev (fun k => Qaf.l1 k (x.take (selLeast rLess x n m i) ++ x.drop (selLeast rLess x n m i + 1)) (out ++ [x[selLeast rLess x n m i]!])) R → Ev (fun k => Qaf.l2 k x out (m : Int) (i : Int)) R
  | 0, m, i, hn, hm, h => by
    rw [selLeast] at h; refine Ev.step (fun k => ?_) h; rw [Qaf.l2, if_neg (by omega), if_pos (by omega), if_pos (by omega), if_pos (by omega), if_pos (by omega), Option.bind_some, if_pos (by simp; omega), Option.bind_some, Qbt (by omega), if_pos (by omega), if_pos (by omega), Option.bind_some, if_pos (by simp; omega), rdR]; rfl
  | n + 1, m, i, hn, hm, h => by
    rw [selLeast] at h
    have e : ∀ k, Qaf.l2 (k + 1) x out (m : Int) (i : Int) = Qaf.l2 k x out ((if rLess x[i]! x[m]! then i else m : Nat) : Int) ((i + 1 : Nat) : Int) := fun k => by
      rw [Qaf.l2, if_pos (by omega), if_pos (by omega), if_pos (by omega), if_pos (by omega), rdR, rdR, refLess_is, Option.bind_some, Qbt (by omega)]
      cases rLess x[i]! x[m]! <;> rfl
    exact Ev.step e (refAll_l2 x hx out ho R n _ (i + 1) (by omega) (by split <;> omega) h)
theorem refAll_l1 : ∀ (n : Nat) (x out : List RPair), x.length ≤ n → x.length + out.length < 1000000 → Ev (fun k => Qaf.l1 k x out) (selSort rLess n x out)
  | 0, x, out, hn, hl => by
    rw [selSort]; refine Ev.step (fun k => ?_) (Ev.pure _); rw [Qaf.l1, if_neg (by omega)]
  | n + 1, x, out, hn, hl => by
    rw [selSort]
    by_cases c : x.length > 0
    · rw [if_pos c]
      have hm := selLeast_lt rLess x (x.length - 1) 0 1 (by omega) c; refine Ev.step (fun k => ?_) (refAll_l2 x (by omega) out (by omega) _ (x.length - 1) 0 1 (by omega) c (refAll_l1 n _ _ ?_ ?_))
      · rw [Qaf.l1, if_pos (by omega)]
        rfl
      · simp
        omega
      · simp
        omega
    · rw [if_neg c]
      refine Ev.step (fun k => ?_) (Ev.pure _); rw [Qaf.l1, if_neg (by omega)]
theorem drop_at {α : Type} {l : List α} {i : Nat} {x : α} (h : l[i]? = some x) : l.drop i = x :: l.drop (i + 1) ∧ l.take (i + 1) = l.take i ++ [x] := by
  obtain ⟨hi, rfl⟩ := List.getElem?_eq_some_iff.mp h; exact ⟨List.drop_eq_getElem_cons hi, by rw [List.take_add_one, h]; rfl⟩
theorem few_small (l : List Evt) : ∀ x ∈ few l, SmallT x.f3.f2 ∧ x.f2.f6.f6.length ≤ 20 ∧ x.f3.f2.f6.length ≤ 20 := by
  intro x hx; obtain ⟨y, hy, rfl⟩ := List.mem_map.mp hx; refine ⟨⟨?_, ?_, ?_, ?_⟩, ?_, ?_⟩
  · show (List.take 6 _).length ≤ 1000
    rw [List.length_take]; omega
  · show (List.take 12 _).length ≤ 1000
    rw [List.length_take]; omega
  · show (List.map _ (List.take 8 _)).length ≤ 1000
    rw [List.length_map, List.length_take]; omega
  · show (List.take 40 _).length ≤ 1000
    rw [List.length_take]; omega
  · show (List.take 12 _).length ≤ 20
    rw [List.length_take]; omega
  · show (List.take 12 _).length ≤ 20
    rw [List.length_take]; omega
theorem evs_ok {l : List Evt} (h : ∀ x ∈ l, okEvent x) : ∀ x ∈ few l, EvOk x := few_ok (fun x hx => by
  obtain ⟨h0, h1, ⟨h2, h3, h4⟩, h5, h6⟩ := h x hx
  exact ⟨h0, h1, ⟨h2, h3, h4⟩, h5, h6⟩)
open Classical in
theorem saidR_900 {cs : List Cred} (hl : cs.length ≤ 30) {l : List RPair} (hn : l.Nodup) (h : ∀ p ∈ l, SaidR cs p) : l.length ≤ 900 := by
  have := said_all (cs := cs) (l := l.map fun p => (⟨p.f0, p.f1⟩ : Pair)) (by
    unfold List.Nodup; rw [List.pairwise_map]
    exact hn.imp fun {a b} hab e => hab (rpair_ext (congrArg S102.f0 e) (congrArg S102.f1 e))) (fun p hp => by
    obtain ⟨q, hq, rfl⟩ := List.mem_map.mp hp
    exact h q hq)
  rw [List.length_map] at this; exact Nat.le_trans this (Nat.le_trans (Nat.mul_le_mul hl hl) (by decide))
theorem refAll30_l0 {cs : List Cred} (hcs : cs.length ≤ 30) : ∀ (n : Nat) (now : List RPair), now.Nodup → (∀ p ∈ now, SaidR cs p) → 901 - now.length ≤ n → ∃ fin : List RPair, fin.Nodup ∧ (∀ p, p ∈ fin ↔ SaidR cs p) ∧ Ev (fun k => Qaf.l0 k cs now) (selSort rLess fin.length fin [])
  | 0, now, hn, hs, h => by
    have := saidR_900 hcs hn hs; omega
  | n + 1, now, hn, hs, h => by
    have h400 := saidR_900 hcs hn hs; have hr := round_ev cs (by omega) now (by omega)
    by_cases e : (roundL cs now).length = now.length
    · have hf := round_fix e
      refine ⟨now, hn, fun p => ⟨hs p, fun hp => closed_said hf.2 hp⟩, ?_⟩; refine Ev.step (g := fun k => (Qar.f k cs now).bind fun t => if (t.length : Int) = (now.length : Int) then Qaf.l1 k now [] else Qaf.l0 k cs t) (fun k => by rw [Qaf.l0]) (Ev.bind hr ?_); simp only [if_pos (show ((roundL cs now).length : Int) = (now.length : Int) by omega)]; exact refAll_l1 now.length now [] (Nat.le_refl _) (by simp; omega)
    · obtain ⟨ex, h0, h1, h2, h3⟩ := round_ext now cs now
      have h0' : roundL cs now = now ++ ex := h0
      have hs' : ∀ p ∈ roundL cs now, SaidR cs p := fun p hp => by
        rcases (h3 p).mp hp with hp | ⟨c, hc, hp⟩
        · exact hs p hp
        · exact brings_said hc hs hp
      have hn' : (roundL cs now).Nodup := by
        rw [h0', List.nodup_append]; exact ⟨hn, h1, fun a ha b hb e => h2 b hb (e ▸ ha)⟩
      have hlt : now.length < (roundL cs now).length := by
        rw [h0', List.length_append] at e ⊢; omega
      obtain ⟨fin, f1, f2, f3⟩ := refAll30_l0 hcs n (roundL cs now) hn' hs' (by omega); refine ⟨fin, f1, f2, ?_⟩; refine Ev.step (g := fun k => (Qar.f k cs now).bind fun t => if (t.length : Int) = (now.length : Int) then Qaf.l1 k now [] else Qaf.l0 k cs t) (fun k => by rw [Qaf.l0]) (Ev.bind hr ?_); simp only [if_neg (show ¬ ((roundL cs now).length : Int) = (now.length : Int) by omega)]; exact f3
theorem refHas30_ev {l : List Cred} (hl : l.length ≤ 30) (who : ByteArray) (r : Role) : Ev (fun k => QbM.f k l who r.f0 r.f1) (hasF l who r) := by
  have hc := counts_length l; obtain ⟨fin, f1, f2, f3⟩ := refAll30_l0 (cs := counts l) (by omega) 901 [] List.nodup_nil (fun p hp => by cases hp) (by simp)
  obtain ⟨s1, s2⟩ := selSort_spec rLess rLess_irrefl rLess_trans fin.length fin [] (Nat.le_refl _) (by
    rw [List.nil_append]
    exact f1.imp fun {a b} hab => rLess_total a b hab) List.Pairwise.nil (fun a ha => by cases ha)
  have hlen : (selSort rLess fin.length fin []).length ≤ 900 := saidR_900 (cs := counts l) (by omega) (s1.imp fun {a b} h e => by rw [e, rLess_irrefl] at h; cases h) (fun p hp => (f2 p).mp (((s2 p).mp hp).resolve_left (by simp))); unfold QbM.f
  have hA : Ev (fun k => Qaf.f k l) (selSort rLess fin.length fin []) := by
    unfold Qaf.f; exact Ev.bind (refCounts_is l (by omega)) f3
  refine Ev.bind hA (Ev.bind (in_ev _ (by omega) r.f0 r.f1 who) ?_)
  have e : decide ((⟨⟨r.f0, r.f1⟩, who⟩ : RPair) ∈ selSort rLess fin.length fin []) = hasF l who r := by
    rw [Bool.eq_iff_iff, decide_eq_true_eq, hasF_iff, s2]; simp only [List.not_mem_nil, false_or]; exact f2 _
  rw [e]; exact Ev.pure _
theorem refHas30_calls (w : World) (A : Option Addr) (c : Nat) (l : List Cred) (hC : Kd.C k35 w A l.length l) (hc : l.length ≤ c) (hl : l.length ≤ 30) (who : ByteArray) (r : Role) :
    Calls Tryz.prog 9 #[.slice A l.length c, .string who, .agg #[.string r.f0, .string r.f1]] w fun e w' => e = .returned (.bool (hasF l who r)) ∧ Below w.heap.size w w' := by
  obtain ⟨K, k⟩ := refHas30_ev hl who r; exact QbM.calls K A c l who r.f0 r.f1 _ w hC hc (k K (Nat.le_refl _))
def gaveB (x : Evt) : Bool := decide (x.f2.f0 = 1) && decide (x.f3.f0 = 0)
def givenL (l : List Evt) : List Cred := (l.filter gaveB).map gaveC
theorem givenL_yes (l : List Evt) {x : Evt} (h1 : x.f2.f0 = 1) (h0 : x.f3.f0 = 0) : givenL (l ++ [x]) = givenL l ++ [gaveC x] := by
  unfold givenL; rw [List.filter_append, List.filter_cons_of_pos (by simp [gaveB, h1, h0]), List.filter_nil, List.map_append]; rfl
theorem givenL_no (l : List Evt) {x : Evt} (h : ¬ x.f2.f0 = 1 ∨ ¬ x.f3.f0 = 0) : givenL (l ++ [x]) = givenL l := by
  unfold givenL; rw [List.filter_append, List.filter_cons_of_neg (by rcases h with h | h <;> simp [gaveB, h]), List.filter_nil, List.append_nil]
theorem givenL_le (l : List Evt) : (givenL l).length ≤ l.length := by
  unfold givenL; rw [List.length_map]; exact List.length_filter_le ..
theorem sound_all : ∀ (xs l : List Evt) (i : Nat), checkR l xs i = none → ∀ j x, xs[j]? = some x → soundR (l ++ xs.take j) x = true
  | [], l, i, h, j, x, hx => by simp at hx
  | y :: ys, l, i, h, j, x, hx => by
    rw [checkR] at h
    split at h
    · rename_i hs
      cases j with
      | zero =>
        obtain rfl := Option.some.inj hx; rw [List.take_zero, List.append_nil]; exact hs
      | succ j =>
        have := sound_all ys (l ++ [y]) (i + 1) h j x (by simpa using hx); rw [List.append_assoc] at this; exact this
    · cases h
theorem sound_add {l : List Evt} {x : Evt} (h : soundR l x = true) (hb : gaveB x = true) : credMay (gaveC x) = true := by
  simp only [gaveB, Bool.and_eq_true, decide_eq_true_eq] at hb; unfold soundR at h
  split at h
  · cases h
  rw [if_neg (by simp [hb.2]), if_pos hb.1, Bool.and_eq_true] at h; exact h.1
theorem find_congr {α : Type} {p q : α → Bool} : ∀ {l : List α}, (∀ x ∈ l, p x = q x) → l.find? p = l.find? q
  | [], _ => rfl
  | x :: xs, h => by
    rw [List.find?_cons, List.find?_cons, h x (List.mem_cons_self ..), find_congr (fun y hy => h y (List.mem_cons_of_mem _ hy))]
theorem gaveR_counts {l : List Evt} (hm : ∀ x ∈ l, gaveB x = true → credMay (gaveC x) = true) {i : ID} {c : Cred} (h : gaveR l i = some c) : c ∈ counts (givenL l) := by
  refine ((counts_spec (givenL l)).mem c).mpr ?_; obtain ⟨y, hy, rfl⟩ := Option.map_eq_some_iff.mp h; have hy2 := List.find?_some hy; obtain ⟨-, -, e1, e2⟩ := addB_iff.mp hy2; unfold First givenL; rw [List.find?_map, List.find?_filter]
  have e : l.find? (fun a => gaveB a && ((fun d => credMay d && sameID d (gaveC y)) ∘ gaveC) a) = l.find? (addB i) := by
    refine find_congr fun x hx => ?_
    show (gaveB x && (credMay (gaveC x) && sameID (gaveC x) (gaveC y))) = addB i x
    cases hb : gaveB x with
    | false =>
      rw [Bool.false_and]; symm
      cases hq : addB i x with
      | false => rfl
      | true =>
        obtain ⟨a1, a2, -, -⟩ := addB_iff.mp hq; rw [show gaveB x = true by simp [gaveB, a1, a2]] at hb; cases hb
    | true =>
      rw [hm x hx hb, Bool.true_and, Bool.true_and, Bool.eq_iff_iff, Qbr, addB_iff]; simp only [gaveB, Bool.and_eq_true, decide_eq_true_eq] at hb
      show x.f1 = y.f1 ∧ x.f3.f1 = y.f3.f1 ↔ _
      rw [e1, e2]; exact ⟨fun h => ⟨hb.1, hb.2, h.1, h.2⟩, fun h => ⟨h.2.2.1, h.2.2.2⟩⟩
  have hy' : l.find? (fun a => gaveB a && ((fun d => credMay d && sameID d (gaveC y)) ∘ gaveC) a) = some y := e.trans hy; simp only [Bool.decide_and, Bool.decide_eq_true] at hy' ⊢; rw [hy']; rfl
theorem said_given {L : List Evt} (h : checkR [] L 0 = none) {i : Nat} {x : Evt} (hx : L[i]? = some x) (h0 : x.f3.f0 = 0) (h3 : x.f2.f0 = 3) : ∀ r ∈ x.f2.f4, hasF (givenL (L.take i)) x.f2.f3 r = true := by
  intro r hr; have hs := sound_all L [] 0 h; have hsx := hs i x hx; rw [List.nil_append] at hsx
  have hm : ∀ y ∈ L.take i, gaveB y = true → credMay (gaveC y) = true := by
    intro y hy hb; obtain ⟨j, hj⟩ := List.getElem?_of_mem (List.mem_of_mem_take hy); exact sound_add (hs j y hj) hb
  unfold soundR at hsx
  split at hsx
  · cases hsx
  rw [if_neg (by simp [h0]), if_neg (by omega), if_neg (by omega)] at hsx
  try rw [if_pos h3] at hsx
  simp only [Bool.and_eq_true, decide_eq_true_eq] at hsx; obtain ⟨r4, -, r3, -, hst⟩ := hsx; unfold standsR at hst; rw [Bool.and_eq_true, List.all_eq_true, List.all_eq_true] at hst; have hh := hst.2 r (by rw [r4]; exact hr); rw [r3] at hh; rw [hasF_iff] at hh ⊢; refine Said.mono (fun c hc => ?_) hh; have hf := ((counts_spec _).mem c).mp hc; obtain ⟨i', hi', rfl⟩ := List.mem_map.mp hf.mem; have hb := hst.1 i' hi'; unfold badR at hb; unfold credR
  cases hq : gaveR (L.take i) i' with
  | none => rw [hq] at hb; cases hb
  | some c => exact gaveR_counts hm hq
set_option maxRecDepth 100000 in
set_option maxHeartbeats 4000000 in
theorem said_walk (w : World) (A : Option Addr) (c : Nat) (l : List Evt) (hC : Kd.C kEvt w A l.length l) (hc : l.length ≤ c) (hok : ∀ x ∈ few l, EvOk x) :
    Calls Tryz.prog 4 #[.slice A l.length c] w fun e w' => e = .returned (.bool true) ∧ Below w.heap.size w w' := by
  have HC := Lib.hid hC; have HCc := Lib.hid hc; have HOk := Lib.hid hok; have HLen := Lib.hid (few_len l); have HSm := Lib.hid (few_small l); clear hC hc hok
  obtain ⟨L, hL⟩ : ∃ L, few l = L := ⟨_, rfl⟩
  rw [hL] at HOk HLen HSm; have HL := Lib.hid hL; clear hL; have HRS := Lib.hid (check_same L [] am0 0 Inv.zero (fun x hx => (HSm.out x hx).1))
  obtain ⟨r, hr⟩ : ∃ r, checkF am0 L 0 = r := ⟨_, rfl⟩
  rw [hr] at HRS; have HR := Lib.hid hr; clear hr; go_enter Tryz.func4, Tryz.ntmps4
  go_upto_region 3 with (first | (go_at_call 5; refine (few_callsL w A c l L HL.out HCc.out HC.out).mono ?_; rintro e w1 ⟨A1, c1, rfl, hc1, hC1, hb1⟩; have HC1 := Lib.hid hC1; have HCc1 := Lib.hid hc1; have HB1 := Lib.hid hb1; clear hC1 hc1 hb1) | (go_at_call 6; refine (check_callsN w1 A1 c1 L L.length r rfl HC1.out HCc1.out (by have := HLen.out; omega) HOk.out HR.out).mono ?_; rintro e w2 ⟨rfl, hb2⟩; have HB2 := Lib.hid (Qac HB1.out hb2); have HC2 := Lib.hid (Kd.Qa8 HC1.out hb2); clear hb2))
  cases r with
  | some j =>
    have e1 : (resE (some j) != 0) = true := rfl
    go_wp2_with (go_at_call 8; refine (lives_calls w2).mono ?_; rintro e w4 ⟨rfl, hb4⟩; have HB4 := Lib.hid (Qac HB2.out hb4); clear hb4)
    refine bodyPost_ret (results_tmp rfl _ _ _) rfl ?_; exact ⟨rfl, HB4.out⟩
  | none =>
  have e1 : (resE none != 0) = false := rfl
  go_wp2_with fail
  go_loopg [5, 6] (L.length + 1) (fun kq v5 v6 w' => ∃ i : Nat, v6 = .int .i64 i ∧ Hid (kq = L.length + 1 - i) ∧ Hid (i ≤ L.length) ∧ Hid (Kd.R k35 35 w' w2.heap.size (fun _ => True) v5 (givenL (L.take i))) ∧ Hid (Below w2.heap.size w2 w'))
  case atStart => exact ⟨0, rfl, Lib.hid rfl, Lib.hid (Nat.zero_le _), Lib.hid (Kd.R_nil _ _ _ _ _), Lib.hid (Below.refl _ _)⟩
  case round =>
    obtain ⟨i, rfl, HKq, HI, HG, HB⟩ := hrel; have HBw := Lib.hid (Qac HB2.out HB.out)
    by_cases hi : i < L.length
    · have d1 : decide ((i : Int) < (L.length : Int)) = true := decide_eq_true (by omega)
      have d2 : decide (i < L.length) = true := decide_eq_true hi
      have wrapI : wrap64 ((i : Int) + 1) = ((i + 1 : Nat) : Int) := by have := HLen.out; unfold wrap64; omega
      obtain ⟨ad, x, A14, c14, A20, c20, A22, c22, A23, c23, A24, c24, A32, c32, A34, c34, A35, c35, A36, c36, rfl, hx, hE, hcell⟩ := ev_at HC2.out hi
      have q1 : (0 : Int) ≤ (i : Int) := by omega
      have q2 : (i : Int) < (L.length : Int) := by omega
      have HX := Lib.hid hx; have HI2 := Lib.hid hi; have HE := Lib.hid hE; have HTk := Lib.hid (drop_at hx).2; have HCell := Lib.hid hcell; clear hi hx hE hcell
      go_upto_region 10 with (first | (refine QaF rfl 47 (.tmp 29) rfl _ rfl (evV x A14 c14 A20 c20 A22 c22 A23 c23 A24 c24 A32 c32 A34 c34 A35 c35 A36 c36) _ (HCell.out wr HB.out) Tryz.underlying47 rfl (by kernel_rfl) ?_) | (refine Qbm rfl 47 (.tmp 7) (.tmp 30) rfl rfl rfl (evV x A14 c14 A20 c20 A22 c22 A23 c23 A24 c24 A32 c32 A34 c34 A35 c35 A36 c36) rfl (by kernel_rfl) rfl (by simp [Value.oneCell']) ?_))
      have z1 := Qa1 wr (.cells (evV x A14 c14 A20 c20 A22 c22 A23 c23 A24 c24 A32 c32 A34 c34 A35 c35 A36 c36) 47); have z3 : Below wr.heap.size wr (wr.alloc (.cells (evV x A14 c14 A20 c20 A22 c22 A23 c23 A24 c24 A32 c32 A34 c34 A35 c35 A36 c36) 47)) := Qai (Below.refl _ _) _
      generalize wr.alloc (.cells (evV x A14 c14 A20 c20 A22 c22 A23 c23 A24 c24 A32 c32 A34 c34 A35 c35 A36 c36) 47) = W at z1 z3 ⊢
      have HZ := Lib.hid z1; have HBW := Lib.hid (Qac HB.out z3); have HGW := Lib.hid (Kd.Qa3 HG.out z3); have HSz := Lib.hid (show wr.heap.size < W.heap.size from Qbi z1); have x26 := Qbp z1 26 (v := .int .i64 x.f3.f0) rfl; have x2 := Qbp z1 2 (v := .int .i64 x.f2.f0) rfl; clear z1 z3; simp only [Act.put]
      by_cases b0 : x.f3.f0 = 0
      case neg =>
        have m0 : (x.f3.f0 != 0) = true := by simpa using b0
        have HN := Lib.hid (givenL_no (L.take i) (.inr b0)); clear b0
        go_wp2_with fail
        go_roundg (L.length + 1 - (i + 1))
        case measure => have := HKq.out; have := HI2.out; omega
        case rel => exact ⟨i + 1, by first | rfl | exact congrArg _ wrapI, Lib.hid rfl, Lib.hid HI2.out, Lib.hid (by rw [HTk.out, HN.out]; exact HGW.out), HBW⟩
      have m0 : (x.f3.f0 != 0) = false := by simpa using b0
      by_cases b1 : x.f2.f0 = 1
      case pos =>
        have m1 : (x.f2.f0 == 1) = true := by simpa using b1
        have m3 : (x.f2.f0 == 3) = false := by simp [b1]
        have HN := Lib.hid (givenL_yes (L.take i) b1 b0); clear b0 b1
        go_upto_region 13 with (first | (refine QaF rfl 35 (.tmp 40) rfl _ rfl (credV x.f2.f1) _ (seg_range HZ.out 3 9 (credV x.f2.f1) rfl) Tryz.underlying35 rfl (by kernel_rfl) ?_) | (refine Qbm rfl 35 (.tmp 8) (.tmp 41) rfl rfl rfl (credV x.f2.f1) rfl (by kernel_rfl) rfl (by simp [Value.oneCell']) ?_))
        have y1 := Qa1 W (.cells (credV x.f2.f1) 35); have y2 : Below W.heap.size W (W.alloc (.cells (credV x.f2.f1) 35)) := Qai (Below.refl _ _) _
        generalize W.alloc (.cells (credV x.f2.f1) 35) = W5 at y1 y2 ⊢
        have HY1 := Lib.hid y1; have HY2 := Lib.hid y2; have HZ5 := Lib.hid (Qad HZ.out y2); clear y1 y2 x26 x2; have x1 := Qbp HZ5.out 1 (v := .int .i64 x.f1) rfl; have x27 := Qbp HZ5.out 27 (v := .int .i64 x.f3.f1) rfl
        go_upto_region 14 with (refine wpList_putSeg rfl 31 (.tmp 48) (.tmp 47) rfl HY1.out rfl #[.int .i64 x.f1, .int .i64 x.f3.f1] rfl (by kernel_rfl) (by simp) (by simp [Value.oneCell']) (credV (gaveC x)) rfl ?_)
        have y1 := setRow_heap W5 W.heap.size (credV x.f2.f1) (credV (gaveC x)) 35 (0, 0) HY1.out
        have y3 : (W5.setRow W.heap.size (credV (gaveC x))).heap[wr.heap.size]? = some (.cells (evV x A14 c14 A20 c20 A22 c22 A23 c23 A24 c24 A32 c32 A34 c34 A35 c35 A36 c36) 47 (0, 0)) := by
          rw [setRow_other W5 _ _ _ (by have := HSz.out; omega)]; exact HZ5.out
        have y2 : Below W.heap.size W (W5.setRow W.heap.size (credV (gaveC x))) := below_setRowW HY2.out (Nat.le_refl _) _
        generalize W5.setRow W.heap.size (credV (gaveC x)) = W6 at y1 y2 y3 ⊢
        have HQ1 := Lib.hid y1; have HB6 := Lib.hid (Qac HBW.out y2); have HG6 := Lib.hid (Kd.Qa3 HGW.out y2); have HZ6 := Lib.hid y3; clear y1 y2 y3 x1 x27
        go_wp2_with (first | (refine QaF rfl 35 (.tmp 8) rfl _ rfl (credV (gaveC x)) _ (range0 HQ1.out) Tryz.underlying35 rfl (by kernel_rfl) ?_) | ((with_reducible refine QaY (b := .append) (xs := #[.tmp 49, .tmp 51]) rfl ?_); at_builtin; refine Kd.QbG k35 (w0 := w2) w2.heap.size rfl (.tmp 49) (.tmp 51) 29 35 (.agg #[.int .i64 0, .int .i64 0, .string ⟨#[]⟩, .int .i64 0, .string ⟨#[]⟩, .string ⟨#[]⟩, .string ⟨#[]⟩, .string ⟨#[]⟩, .string ⟨#[]⟩]) 120 rfl Tryz.underlying29 infoCredS rfl (by decide) (by omega) _ (givenL (L.take i)) (gaveC x) (credV (gaveC x)).toList (fun _ => True) (fun _ => False) rfl (by first | rfl | exact congrArg (fun n => Value.slice (some ⟨n, 0, none⟩) 1 1) (Array.size_push _).symm) ?aP (fun _ hk => hk.elim) (fun _ _ => trivial) ?aO ?aB ?aS ?aL ?_; (case aP => exact k35_mkM _ _ _ (gaveC x)); (case aB => exact HB6.out); (case aO => exact HG6.out); (case aS => exact QaI HB6.out); (case aL => have := givenL_le (L.take i); rw [List.length_take] at this; have := HLen.out; omega); intro v2 w3 ho hb hg hat; have HO := Lib.hid ho; have HBo := Lib.hid hb; have BU := (hg.block _ (Qbi HZ6.out) (Kd.R_ne HG6.out HZ6.out (by decide))).trans HZ6.out; have x2 := Qbp BU 2 (v := .int .i64 x.f2.f0) rfl; clear ho hb hg hat BU))
        go_roundg (L.length + 1 - (i + 1))
        case measure => have := HKq.out; have := HI2.out; omega
        case rel => exact ⟨i + 1, by first | rfl | exact congrArg _ wrapI, Lib.hid rfl, Lib.hid HI2.out, Lib.hid (by rw [HTk.out, HN.out]; exact HO.out), HBo⟩
      have m1 : (x.f2.f0 == 1) = false := by simpa using b1
      have HN := Lib.hid (givenL_no (L.take i) (.inl b1))
      by_cases b3 : x.f2.f0 = 3
      case neg =>
        have m3 : (x.f2.f0 == 3) = false := by simpa using b3
        clear b0 b1 b3
        go_wp2_with fail
        go_roundg (L.length + 1 - (i + 1))
        case measure => have := HKq.out; have := HI2.out; omega
        case rel => exact ⟨i + 1, by first | rfl | exact congrArg _ wrapI, Lib.hid rfl, Lib.hid HI2.out, Lib.hid (by rw [HTk.out, HN.out]; exact HGW.out), HBW⟩
      have m3 : (x.f2.f0 == 3) = true := by simpa using b3
      have HSaid := Lib.hid (said_given HRS.out.symm HX.out b0 b3); clear b0 b1 b3
      obtain ⟨M, hM⟩ : ∃ M, givenL (L.take i) = M := ⟨_, rfl⟩
      have HM30 := Lib.hid (show M.length ≤ 30 by rw [← hM]; have := givenL_le (L.take i); rw [List.length_take] at this; have := HLen.out; omega); rw [hM] at HGW HSaid HN; have HM := Lib.hid hM; clear hM; obtain ⟨A5, c5, rfl, hc5, hC5⟩ := Kd.R_reads HGW.out; have HC5 := Lib.hid hC5; have HCc5 := Lib.hid hc5; have hmx := HE.out.2.1.2.2.1; clear hc5 hC5
      go_wp2_with fail
      go_loopg [9] (x.f2.f4.length + 1) (fun kq v9 w' => ∃ j : Nat, v9 = .int .i64 j ∧ Hid (kq = x.f2.f4.length + 1 - j) ∧ Hid (j ≤ x.f2.f4.length) ∧ Hid (Below W.heap.size W w'))
      case atStart => exact ⟨0, rfl, Lib.hid rfl, Lib.hid (Nat.zero_le _), Lib.hid (Below.refl _ _)⟩
      case round =>
        obtain ⟨j, rfl, HKq2, HJ, HBj⟩ := hrel; have HB3 := Lib.hid (Qac HBW.out HBj.out); have HZr := Lib.hid (Qad HZ.out HBj.out); have s14 := Qbp HZr.out 14 (v := .slice A14 x.f2.f4.length c14) rfl
        by_cases hj : j < x.f2.f4.length
        · have e1 : decide ((j : Int) < (x.f2.f4.length : Int)) = true := decide_eq_true (by omega)
          have e2 : decide (j < x.f2.f4.length) = true := decide_eq_true hj
          have wrapJ : wrap64 ((j : Int) + 1) = ((j + 1 : Nat) : Int) := by unfold wrap64; omega
          obtain ⟨ad4, rfl, r0, r1⟩ := at_T33 (Kd.Qa8 HE.out.2.1.2 HB3.out) (j : Int) (by omega) (by omega)
          have hx : Qa7 x.f2.f4 (j : Int) = x.f2.f4[j] := by
            unfold Qa7; rw [show (j : Int).toNat = j from rfl]; simp [List.getD, List.getElem?_eq_getElem hj]
          obtain ⟨r, hr⟩ : ∃ r, r = Qa7 x.f2.f4 (j : Int) := ⟨_, rfl⟩
          have hh : hasF M x.f2.f3 r = true := HSaid.out r (by rw [hr, hx]; exact List.getElem_mem hj); have HJ2 := Lib.hid hj; rw [show (j : Int).toNat = j from rfl, ← hr] at r0 r1
          have q1 : (0 : Int) ≤ (j : Int) := by omega
          have q2 : (j : Int) < (x.f2.f4.length : Int) := by omega
          have HHas := Lib.hid (fun (u : BW wr) => refHas30_calls u.now A5 c5 M (Kd.Qa8 HC5.out (Qac HBj.out u.ok)) HCc5.out HM30.out x.f2.f3 r); rw [hh] at HHas; clear hx hr hj hh
          go_upto_region 19 with fail
          have g3 := Qaz (Qbp HZr.out 13 (v := .string x.f2.f3) rfl); have g4 := Qaz s14; have g5 := Qaz r0; have g6 := Qaz r1; clear s14 r0 r1; refine QaL (by kernel_rfl) (by kernel_rfl) ?_
          repeat (go_big_quiet_step (with_reducible refine QbF (HHas.out _)))
          refine wpQuiet_nil ?_; rintro _ ⟨u, rfl⟩
          go_wp2_with fail
          go_roundg (x.f2.f4.length + 1 - (j + 1))
          case measure => have := HKq2.out; have := HJ2.out; omega
          case rel => exact ⟨j + 1, by first | rfl | exact congrArg _ wrapJ, Lib.hid rfl, Lib.hid HJ2.out, Lib.hid (Qac HBj.out u.ok)⟩
        · have hjl : j = x.f2.f4.length := by have := HJ.out; omega
          subst hjl; have e1 : decide ((x.f2.f4.length : Int) < (x.f2.f4.length : Int)) = false := decide_eq_false (by omega); have e2 : decide (x.f2.f4.length < x.f2.f4.length) = false := decide_eq_false hj; clear hj
          go_wp2_with fail
          go_roundg (L.length + 1 - (i + 1))
          case measure => have := HKq.out; have := HI2.out; omega
          case rel => exact ⟨i + 1, by first | rfl | exact congrArg _ wrapI, Lib.hid rfl, Lib.hid HI2.out, Lib.hid (by rw [HTk.out, HN.out]; exact Kd.Qa3 HGW.out HBj.out), HB3⟩
    · have hil : i = L.length := by have := HI.out; omega
      subst hil; have d1 : decide ((L.length : Int) < (L.length : Int)) = false := decide_eq_false (by omega); have d2 : decide (L.length < L.length) = false := decide_eq_false hi; clear hi
      go_wp2_with (go_at_call 8; refine (lives_calls wr).mono ?_; rintro e w4 ⟨rfl, hb4⟩; have HB4 := Lib.hid (Qac HBw.out hb4); clear hb4)
      refine bodyPost_ret (results_tmp rfl _ _ _) rfl ?_; exact ⟨rfl, HB4.out⟩
section
open Classical in
noncomputable def Qbg.f (k : Nat) (l0 : List Evt) : Option Bool := if (∀ x ∈ l0, okEvent x) then some true else none
theorem Qbg.calls (k : Nat) (A0 : Option Addr) (c0 : Nat) (l0 : List Evt) (r : Bool) (w : World) (hr0 : Kd.C kEvt w A0 l0.length l0) (hc0 : l0.length ≤ c0) (h : Qbg.f k l0 = some r) :
    Calls Tryz.prog 4 #[.slice A0 l0.length c0] w fun e w' => e = .returned (.bool r) ∧ Below w.heap.size w w' := by
  unfold Qbg.f at h
  split at h
  · rename_i hok
    obtain rfl := Option.some.inj h; exact said_walk w A0 c0 l0 hr0 hc0 (evs_ok hok)
  · cases h
theorem auditSaid_true (l0 : List Evt) (h : ∀ x ∈ l0, okEvent x) : ∃ K, ∀ k, K ≤ k → Qbg.f k l0 = some true := ⟨0, fun k _ => if_pos h⟩
end
end Go.Proofs.YtbjjonpkmplhbaaGreatDoor.Pr
end
