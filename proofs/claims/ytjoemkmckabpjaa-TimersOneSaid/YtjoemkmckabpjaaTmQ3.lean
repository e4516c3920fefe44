-- A queue of timers, walked: Set, Stop.
import Derived.Test.YtjoemkmckabpjaaTmQ2
namespace Go.Proofs.Ytjoemkmckabpjaa.Pr
open Go.RowKit Go.Proofs.YtjoemkmckabpjaaW.PrintWords Go.Proofs.YtjoemkmckabpjaaW.PrintLast Go.Proofs.YtjoemkmckabpjaaW.PrintMore
open Go.ChangeMaps (setBlock)
set_option linter.unusedVariables false
set_option linter.unusedSimpArgs false
theorem stop_hrun {w : World} {B p mb : Nat} {v : Value} {ts : List Tm} (h : QAt w B p mb v ts) (kind : Int) (hk : okI kind) :
    (∀ i, i < ts.length → ts[i]!.f1 = kind → (Instr.lookup 49 (.map (some mb)) (.int .i64 kind) true).run Try.prog w = .ok (.tuple #[.int .i64 i, .bool true]) w) ∧
    ((∀ t ∈ ts, t.f1 ≠ kind) → (Instr.lookup 49 (.map (some mb)) (.int .i64 kind) true).run Try.prog w = .ok (.tuple #[.int .i64 0, .bool false]) w) := by
  obtain ⟨T, hP, hPl⟩ := h
  have hl := hP.tbl.look intKey Try.underlying49 zeroI hk true w rfl
  refine ⟨fun i hi e => ?_, fun hn => ?_⟩
  · have g := hPl.get i hi
    rw [e] at g
    rw [g] at hl
    exact hl
  · rw [hPl.none kind hn] at hl
    exact hl
set_option maxRecDepth 100000 in
set_option maxHeartbeats 4000000 in
theorem stop_has (w : World) (B q p mb : Nat) (v : Value) (ts : List Tm) (kind : Int) (i : Nat) (hi : i < ts.length) (hk : ts[i]!.f1 = kind) (hl : ts.length ≤ 1000000) (h : KAt w B q p mb v ts) :
    Calls Try.prog 16 #[.pointer (some ⟨q, 0, none⟩), .int .i64 kind] w fun e w' => e = .returned (.bool true) ∧ KRan w B q p mb v ((remF ts i).take (ts.length - 1)) w' := by
  have hok : okI kind := by
    obtain ⟨T, hP, hPl⟩ := h.pile
    rw [← hk]
    exact hPl.ok _ (bang_mem hi)
  have hrun := (stop_hrun h.pile kind hok).1 i hi hk
  have q0 := h.cell
  obtain ⟨T, hP, hPl⟩ := h.pile
  obtain ⟨p0, p1, pf0, pf1⟩ := hP.pcell
  have HC := hrem_calls w B p mb v ts i (ts.length - 1) (by omega) hi hl h.pile
  obtain ⟨rs, hrs⟩ : ∃ rs, rs = (remF ts i).take (ts.length - 1) := ⟨_, rfl⟩
  obtain ⟨y, hy⟩ : ∃ y, y = tval (remF ts i)[ts.length - 1]! := ⟨_, rfl⟩
  rw [← hrs, ← hy] at HC
  rw [← hrs]
  have HC := Lib.hid HC
  have H := Lib.hid h
  clear hrs hy hi hk hl h hok hP hPl p0 pf0 pf1
  go_enter Try.func16, Try.ntmps16
  go_wp2_with (go_at_call 28; refine HC.out.mono ?_; rintro e w4 ⟨rfl, hr4⟩; have HR4 := Lib.hid hr4; clear hr4)
  go_ret
  exact ⟨rfl, H.out.ran HR4.out⟩
set_option maxRecDepth 100000 in
set_option maxHeartbeats 4000000 in
theorem stop_none (w : World) (B q p mb : Nat) (v : Value) (ts : List Tm) (kind : Int) (hok : okI kind) (hn : ∀ t ∈ ts, t.f1 ≠ kind) (h : KAt w B q p mb v ts) :
    Calls Try.prog 16 #[.pointer (some ⟨q, 0, none⟩), .int .i64 kind] w fun e w' => e = .returned (.bool false) ∧ w' = w := by
  have hrun := (stop_hrun h.pile kind hok).2 hn
  have q0 := h.cell
  obtain ⟨T, hP, hPl⟩ := h.pile
  obtain ⟨p0, p1, pf0, pf1⟩ := hP.pcell
  clear h hok hP hPl p0 pf0 pf1 hn
  go_enter Try.func16, Try.ntmps16
  go_wp2
  go_ret
  exact ⟨rfl, rfl⟩
end Go.Proofs.Ytjoemkmckabpjaa.Pr
