-- A queue of timers, walked: Set.
import Derived.Test.YtjoemkmckabpjaaTmQ3
namespace Go.Proofs.Ytjoemkmckabpjaa.Pr
open Go.RowKit Go.Proofs.YtjoemkmckabpjaaW.PrintWords Go.Proofs.YtjoemkmckabpjaaW.PrintLast Go.Proofs.YtjoemkmckabpjaaW.PrintMore
open Go.ChangeMaps (setBlock)
set_option linter.unusedVariables false
set_option linter.unusedSimpArgs false
theorem tcells_due : ∀ (ts : List Tm) (i : Nat) (d : Int), i < ts.length → (tcells ts).set (i * 2) (.int .i64 d) = tcells (ts.set i ⟨d, ts[i]!.f1⟩)
  | [], i, d, h => absurd h (by simp)
  | t :: ts, 0, d, _ => rfl
  | t :: ts, i + 1, d, h => by
    have := tcells_due ts i d (by simpa using h)
    rw [List.set_cons_succ, tcells, tcells, show (i + 1) * 2 = i * 2 + 1 + 1 by omega, show (t :: ts)[i + 1]! = ts[i]! by rw [bang_get h, bang_get (by simpa using h)]; rfl, ← this]
    rfl
theorem QAt.due {w : World} {B p mb g c : Nat} {ts : List Tm} (h : QAt w B p mb (.slice (some ⟨g, 0, none⟩) ts.length c) ts) {i : Nat} (hi : i < ts.length) (hg : B ≤ g) (d : Int) :
    Ran w B p mb (.slice (some ⟨g, 0, none⟩) ts.length c) (ts.set i ⟨d, ts[i]!.f1⟩) (w.setCell ⟨g, i * 2, none⟩ (.int .i64 d)) := by
  obtain ⟨T, hP, hPl⟩ := h
  have r := (World.ownsRow.stored hP.row (i * 2) (.int .i64 d)).1
  rw [tcells_due ts i d hi] at r
  have r' : TRow (w.setCell ⟨g, i * 2, none⟩ (.int .i64 d)) B (.slice (some ⟨g, 0, none⟩) ts.length c) (ts.set i ⟨d, ts[i]!.f1⟩) := by
    unfold TRow
    rw [List.length_set]
    exact r
  have k1 : Kept w (w.setCell ⟨g, i * 2, none⟩ (.int .i64 d)) (fun k => k = g) := (Kept.refl w (fun k => k = g)).setCell (p := ⟨g, i * 2, none⟩) (.inl rfl) _
  exact ⟨⟨T, hP.stored k1 r', hPl.due hi d⟩, (Below.refl B w).setCell hg _, k1.mono (fun k hk => .inr (.inr (by rw [hk]; rfl)))⟩
set_option maxRecDepth 100000 in
set_option maxHeartbeats 4000000 in
theorem set_has (w : World) (B q p mb : Nat) (v : Value) (ts : List Tm) (kind due : Int) (i : Nat) (hi : i < ts.length) (hk : ts[i]!.f1 = kind) (hl : ts.length ≤ 1000000) (h : KAt w B q p mb v ts) :
    Calls Try.prog 14 #[.pointer (some ⟨q, 0, none⟩), .int .i64 kind, .int .i64 due] w fun e w' => e = .returned (.int .i64 0) ∧ KRan w B q p mb v (mendF (ts.set i ⟨due, kind⟩) i ts.length) w' := by
  have hok : okI kind := by
    obtain ⟨T, hP, hPl⟩ := h.pile
    rw [← hk]
    exact hPl.ok _ (bang_mem hi)
  have hrun := (stop_hrun h.pile kind hok).1 i hi hk
  have q0 := h.cell
  obtain ⟨T, hP, hPl⟩ := h.pile
  obtain ⟨g, c, cur, rfl, hgB, hg, hlc, hcm, hcur⟩ := hP.row.form (by omega)
  obtain ⟨p0, p1, pf0, pf1⟩ := hP.pcell
  obtain ⟨ic0, ic1, if0, if1⟩ := hP.row.cells hi
  obtain ⟨od, hod⟩ : ∃ od, w.cell? ⟨g, i * 2, none⟩ = some (.int .i64 od) := ⟨_, ic0⟩
  have hR := QAt.due h.pile hi hgB due
  rw [hk] at hR
  have hls : (ts.set i ⟨due, kind⟩).length = ts.length := List.length_set
  have hC := hfix_calls (w.setCell ⟨g, i * 2, none⟩ (.int .i64 due)) B p mb _ (ts.set i ⟨due, kind⟩) i (by rw [hls]; exact hi) (by rw [hls]; exact hl) hR.1
  rw [hls] at hC
  have hq1 : (w.setCell ⟨g, i * 2, none⟩ (.int .i64 due)).cell? ⟨q, 0, none⟩ = some (.pointer (some ⟨p, 0, none⟩)) := (blk_cell (blk_kept h.blk hR.2.2 h.off) 0).trans rfl
  have q1 : (0 : Int) ≤ (i : Int) := by omega
  have q2 : (i : Int) < (ts.length : Int) := by omega
  obtain ⟨rs, hrs⟩ : ∃ rs, rs = mendF (ts.set i ⟨due, kind⟩) i ts.length := ⟨_, rfl⟩
  rw [← hrs] at hC ⊢
  have HC := Lib.hid hC
  have HR := Lib.hid hR
  have H := Lib.hid h
  clear hrs hi hk hl h hok hP hPl pf0 pf1 hR hC hcur hg hlc hcm hgB if1 ic1 ic0 hls
  go_enter Try.func14, Try.ntmps14
  go_wp2_with (go_at_call 22; refine HC.out.mono ?_; rintro e w4 ⟨rfl, hr4⟩; have HR4 := Lib.hid hr4; clear hr4)
  go_ret
  exact ⟨rfl, H.out.ran (HR.out.step HR4.out).wide⟩
set_option maxRecDepth 100000 in
set_option maxHeartbeats 4000000 in
theorem set_full (w : World) (B q p mb : Nat) (v : Value) (ts : List Tm) (kind due : Int) (hok : okI kind) (hn : ∀ t ∈ ts, t.f1 ≠ kind) (hl : 64 ≤ ts.length) (h : KAt w B q p mb v ts) :
    Calls Try.prog 14 #[.pointer (some ⟨q, 0, none⟩), .int .i64 kind, .int .i64 due] w fun e w' => e = .returned (.int .i64 12) ∧ w' = w := by
  have hrun := (stop_hrun h.pile kind hok).2 hn
  have q0 := h.cell
  have HC := Lib.hid (qlen_calls w B q p mb v ts h)
  obtain ⟨T, hP, hPl⟩ := h.pile
  obtain ⟨p0, p1, pf0, pf1⟩ := hP.pcell
  have d1 : decide ((64 : Int) ≤ (ts.length : Int)) = true := decide_eq_true (by omega)
  have d2 : decide (64 ≤ ts.length) = true := decide_eq_true hl
  clear h hok hP hPl p0 pf0 pf1 hn hl
  go_enter Try.func14, Try.ntmps14
  go_wp2_with (go_at_call 9; refine HC.out.mono ?_; rintro e w' ⟨rfl, rfl⟩)
  go_ret
  exact ⟨rfl, rfl⟩
set_option maxRecDepth 100000 in
set_option maxHeartbeats 4000000 in
theorem set_new (w : World) (B q p mb : Nat) (v : Value) (ts : List Tm) (kind due : Int) (hok : okI kind) (hn : ∀ t ∈ ts, t.f1 ≠ kind) (hl : ts.length < 64) (h : KAt w B q p mb v ts) :
    Calls Try.prog 14 #[.pointer (some ⟨q, 0, none⟩), .int .i64 kind, .int .i64 due] w fun e w' => e = .returned (.int .i64 0) ∧ KRan w B q p mb v (pushF ts ⟨due, kind⟩) w' := by
  have hrun := (stop_hrun h.pile kind hok).2 hn
  have q0 := h.cell
  have HC := Lib.hid (qlen_calls w B q p mb v ts h)
  have hP := hpush_calls w B p mb v ts ⟨due, kind⟩ (by omega) h.pile hn hok
  unfold tval at hP
  obtain ⟨rs, hrs⟩ : ∃ rs, rs = pushF ts ⟨due, kind⟩ := ⟨_, rfl⟩
  rw [← hrs] at hP ⊢
  have HP := Lib.hid hP
  have H := Lib.hid h
  obtain ⟨T, hPP, hPl⟩ := h.pile
  obtain ⟨p0, p1, pf0, pf1⟩ := hPP.pcell
  have d1 : decide ((64 : Int) ≤ (ts.length : Int)) = false := decide_eq_false (by omega)
  have d2 : decide (64 ≤ ts.length) = false := decide_eq_false (by omega)
  clear h hok hPP hP hPl p0 pf0 pf1 hn hl hrs
  go_enter Try.func14, Try.ntmps14
  go_wp2_with (first | (go_at_call 9; refine HC.out.mono ?_; rintro e w' ⟨rfl, rfl⟩) | (go_at_call 23; refine HP.out.mono ?_; rintro e w4 ⟨rfl, hr4⟩; have HR4 := Lib.hid hr4; clear hr4))
  go_ret
  exact ⟨rfl, H.out.ran HR4.out⟩
end Go.Proofs.Ytjoemkmckabpjaa.Pr
