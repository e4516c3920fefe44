-- A pile of timers, walked: Pop.
import Derived.Test.YtjoemkmckabpjaaTmPush
namespace Go.Proofs.Ytjoemkmckabpjaa.Pr
open Go.RowKit Go.Proofs.YtjoemkmckabpjaaW.PrintWords Go.Proofs.YtjoemkmckabpjaaW.PrintLast Go.Proofs.YtjoemkmckabpjaaW.PrintMore
open Go.ChangeMaps (setBlock)
set_option linter.unusedVariables false
set_option linter.unusedSimpArgs false
theorem TRow.take {w : World} {B g n c : Nat} {ts : List Tm} (h : TRow w B (.slice (some ⟨g, 0, none⟩) n c) ts) (k : Nat) (hk : k ≤ ts.length) : TRow w B (.slice (some ⟨g, 0, none⟩) k c) (ts.take k) := by
  obtain ⟨h1, h2⟩ := h
  rcases h2 with ⟨e, _⟩ | ⟨g', c', cur, e, hb, hg, hnc, hcm, hcs, ht⟩
  · cases e
  · injection e with ha hn hc
    injection ha with ha
    injection ha with ha _ _
    subst ha
    subst hc
    refine ⟨by rw [tcells_length, List.length_take], .inr ⟨g, c, cur, by rw [List.length_take, Nat.min_eq_left hk], hb, hg, by rw [List.length_take]; omega, hcm, hcs, ?_⟩⟩
    rw [← tcells_take, ← ht, List.take_take, List.length_take, Nat.min_eq_left hk, Nat.min_eq_left (by omega)]
set_option maxRecDepth 100000 in
set_option maxHeartbeats 4000000 in
theorem pop_calls (w : World) (B p mb : Nat) (v : Value) (ts : List Tm) (T : List (Int × Value)) (n : Nat) (hn : ts.length = n + 1) (hl : ts.length ≤ 1000000) (h : PAt w B p mb v ts T) (hk : ∀ t ∈ ts, okI t.f1) (hB : B ≤ w.heap.size) :
    Calls Try.prog 68 #[.pointer (some ⟨p, 0, none⟩)] w fun e w' => e = .returned (.iface 34 (tval ts[n]!)) ∧ ∃ v', PAt w' B p mb v' (ts.take n) (tdel T ts[n]!.f1) ∧ Below B w w' ∧ Kept w w' (PFoot p mb v) ∧ v'.ownBlock = v.ownBlock := by
  obtain ⟨g, c, cur, rfl, hgB, hg, hlc, hcm, hcur⟩ := h.row.form (by omega)
  clear hcur
  obtain ⟨p0, p1, pf0, pf1⟩ := h.pcell
  have hi : n < ts.length := by omega
  obtain ⟨ic0, ic1, if0, if1⟩ := h.row.cells hi
  rw [← bang_get hi] at ic0 ic1
  obtain ⟨tn, htn⟩ : ∃ tn, tn = ts[n]! := ⟨_, rfl⟩
  rw [← htn] at ic0 ic1 ⊢
  have okk : okI tn.f1 := by
    rw [htn, bang_get hi]
    exact hk _ (List.getElem_mem hi)
  obtain ⟨x0, x1⟩ := tn
  have H := Lib.hid h
  have HL := Lib.hid hl
  have HN := Lib.hid hn
  have HK := Lib.hid okk
  have HB := Lib.hid hB
  have q1 : (0 : Int) ≤ (n : Int) := by omega
  have q2 : (n : Int) < (ts.length : Int) := by omega
  clear h hk hB htn hg okk if0 if1
  unfold tval
  rw [hn] at p0
  go_enter Try.func68, Try.ntmps68
  have r0 := cell_keep p0 (.cells #[.int .i64 x0, .int .i64 x1] 34 (0, 0))
  have rf0 : (w.alloc (.cells #[.int .i64 x0, .int .i64 x1] 34 (0, 0))).frozen? ⟨p, 0, none⟩ = false := blk_frozen (blk_alloc H.out.blk _) 0
  have q3 : (n : Int) ≤ (c : Int) := by omega
  go_wp2
  have X1 : ((w.alloc (.cells #[.int .i64 x0, .int .i64 x1] 34 (0, 0))).setCell ⟨p, 0, none⟩ (.slice (some ⟨g, 0, none⟩) n c)).heap[w.heap.size]? = some (.cells #[.int .i64 x0, .int .i64 x1] 34 (0, 0)) := blk_far (blk_new w _) (by have := blk_lt H.out.blk; show w.heap.size ≠ p; omega) _
  have P1 : PAt ((w.alloc (.cells #[.int .i64 x0, .int .i64 x1] 34 (0, 0))).setCell ⟨p, 0, none⟩ (.slice (some ⟨g, 0, none⟩) n c)) B p mb (.slice (some ⟨g, 0, none⟩) n c) (ts.take n) T := by
    obtain ⟨h1, h2, h3⟩ := H.out.apart
    have hA := H.out.below (below_alloc (Below.refl w.heap.size w) (.cells #[.int .i64 x0, .int .i64 x1] 34 (0, 0)))
    refine ⟨blk_put hA.blk 0 _ rfl, TRow.same (TRow.take hA.row n (by have := HN.out; omega)) (fun k hk => Below.heap_setCell _ _ _ k (fun e => h1 ?_)), hA.tbl.same (Below.heap_setCell _ _ _ mb (fun e => h3 e.symm)), hA.hp, hA.hm⟩
    injection hk with hk
    exact e.symm.trans hk.symm
  have B1 : Below B w ((w.alloc (.cells #[.int .i64 x0, .int .i64 x1] 34 (0, 0))).setCell ⟨p, 0, none⟩ (.slice (some ⟨g, 0, none⟩) n c)) := ((Below.refl B w).alloc HB.out _).setCell H.out.hp _
  have K1 : Kept w ((w.alloc (.cells #[.int .i64 x0, .int .i64 x1] 34 (0, 0))).setCell ⟨p, 0, none⟩ (.slice (some ⟨g, 0, none⟩) n c)) (PFoot p mb (.slice (some ⟨g, 0, none⟩) ts.length c)) := (Kept.of_below (below_alloc (Below.refl w.heap.size w) _) _).setCell (p := ⟨p, 0, none⟩) (.inl (.inl rfl)) _
  clear r0 rf0
  generalize hb : w.heap.size = b at X1 ⊢
  generalize ((w.alloc (.cells #[.int .i64 x0, .int .i64 x1] 34 (0, 0))).setCell ⟨p, 0, none⟩ (.slice (some ⟨g, 0, none⟩) n c)) = w1 at P1 X1 B1 K1 ⊢
  have HP1 := Lib.hid P1
  have HX1 := Lib.hid X1
  have HB1 := Lib.hid B1
  have HK1 := Lib.hid K1
  have Hb := Lib.hid hb
  clear p0 p1 pf0 pf1 ic0 ic1
  obtain ⟨p0, p1, pf0, pf1⟩ := HP1.out.pcell
  have xc1 : w1.cell? ⟨b, 1, none⟩ = some (.int .i64 x1) := (blk_cell HX1.out 1).trans rfl
  clear P1 X1 B1 K1 pf0 pf1 hb p0
  obtain ⟨O, hrun, htbl⟩ := HP1.out.tbl.del intKey Try.underlying49 HK.out 0
  have hr1 : (Builtin.delete_ #[49, 3] 0 #[.map (some mb), .int .i64 x1]).run Try.prog w1.drew = .ok (.tuple #[]) (setBlock w1.drew mb O) := hrun w1.drew rfl
  have P2 := HP1.out.tabled (W := w1.drew) rfl (htbl w1.drew HP1.out.tbl.lt)
  have X2 : (setBlock w1.drew mb O).heap[b]? = some (.cells #[.int .i64 x0, .int .i64 x1] 34 (0, 0)) := (heap_setBlock (by have := Hb.out; have := H.out.tbl.lt; omega)).trans HX1.out
  have K2 : Kept w (setBlock w1.drew mb O) (PFoot p mb (.slice (some ⟨g, 0, none⟩) ts.length c)) := HK1.out.then_ (S2 := fun k => k = mb) ⟨Nat.le_of_eq (size_setBlock ..).symm, fun k _ hk => heap_setBlock hk⟩ (fun k hk => .inl (.inr (.inl hk)))
  have B2 : Below B w (setBlock w1.drew mb O) := HB1.out.trans ⟨rfl, rfl, rfl, Nat.le_of_eq (size_setBlock ..).symm, fun k hk => heap_setBlock (by have := HP1.out.hm; omega)⟩
  have HP2 := Lib.hid P2
  have HX2 := Lib.hid X2
  have HK2 := Lib.hid K2
  have HB2 := Lib.hid B2
  clear P2 X2 K2 B2 hrun htbl
  refine start_ (n := 7) (S := (fun w' => w'.cell? ⟨p, 1, none⟩ = some (.map (some mb)) ∧ w'.cell? ⟨b, 1, none⟩ = some (.int .i64 x1))) (ds := [6]) #[false, false, false, false, false, false, false] (by kernel_rfl) rfl rfl ⟨p1, xc1⟩ (fun hHeld => ?_)
  refine kz 0 27 ?_
  refine kz 1 28 ?_
  refine kz 2 29 ?_
  refine kk2 3 30 ?_
  refine kz 4 31 ?_
  refine kk2 5 32 ?_
  refine lc 6 ?_
  refine done_ (by kernel_rfl) ?_
  generalize setBlock w1.drew mb O = w2 at HP2 HX2 HK2 HB2 hr1 ⊢
  clear hr1 p1 xc1 hHeld
  have xc0 : w2.cell? ⟨b, 0, none⟩ = some (.int .i64 x0) := (blk_cell HX2.out 0).trans rfl
  have xc1 : w2.cell? ⟨b, 1, none⟩ = some (.int .i64 x1) := (blk_cell HX2.out 1).trans rfl
  go_wp2
  go_ret
  exact ⟨rfl, .slice (some ⟨g, 0, none⟩) n c, HP2.out, HB2.out, HK2.out, rfl⟩
end Go.Proofs.Ytjoemkmckabpjaa.Pr
