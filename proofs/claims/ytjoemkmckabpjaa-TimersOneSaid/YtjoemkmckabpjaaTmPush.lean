-- A pile of timers, walked: Push.
import Derived.Test.YtjoemkmckabpjaaTmLess
import Derived.Maps.AppendAt
namespace Go.Proofs.Ytjoemkmckabpjaa.Pr
open Go.RowKit Go.Proofs.YtjoemkmckabpjaaW.PrintWords Go.Proofs.YtjoemkmckabpjaaW.PrintLast Go.Proofs.YtjoemkmckabpjaaW.PrintMore
open Go.ChangeMaps (setBlock)
set_option linter.unusedVariables false
set_option linter.unusedSimpArgs false
theorem TRow.len {w : World} {B : Nat} {v : Value} {ts : List Tm} (h : TRow w B v ts) : ∃ a c, v = .slice a ts.length c := by
  obtain ⟨_, h2⟩ := h
  rcases h2 with ⟨e, h0⟩ | ⟨g, c, cur, e, _⟩
  · exact ⟨none, 0, by rw [e, h0]⟩
  · exact ⟨_, _, e⟩
theorem PAt.same {w w' : World} {B p mb : Nat} {v : Value} {ts : List Tm} {T : List (Int × Value)} (h : PAt w B p mb v ts T) (hm : ∀ k, PFoot p mb v k → w'.heap[k]? = w.heap[k]?) : PAt w' B p mb v ts T :=
  ⟨(hm p (.inl rfl)).trans h.blk, TRow.same h.row (fun k hk => hm k (.inr (.inr hk))), h.tbl.same (hm mb (.inr (.inl rfl))), h.hp, h.hm⟩
theorem TRow.lt {w : World} {B : Nat} {v : Value} {ts : List Tm} (h : TRow w B v ts) {k : Nat} (hk : v.ownBlock = some k) : k < w.heap.size := by
  obtain ⟨cur, hcur⟩ := own_typed h k hk
  exact blk_lt hcur
theorem PAt.foot_lt {w : World} {B p mb : Nat} {v : Value} {ts : List Tm} {T : List (Int × Value)} (h : PAt w B p mb v ts T) {k : Nat} (hk : PFoot p mb v k) : k < w.heap.size := by
  rcases hk with rfl | rfl | hk
  · exact blk_lt h.blk
  · exact h.tbl.lt
  · exact h.row.lt hk
theorem PAt.below {w w' : World} {B p mb : Nat} {v : Value} {ts : List Tm} {T : List (Int × Value)} (h : PAt w B p mb v ts T) (hb : Below w.heap.size w w') : PAt w' B p mb v ts T := h.same (fun k hk => hb.block k (h.foot_lt hk))
theorem cell_keep {w : World} {a : Addr} {v : Value} (h : w.cell? a = some v) (o : Obj) : (w.alloc o).cell? a = some v := bw_alloc h o
theorem infoT : (Try.prog.info? 34).map (fun i => (i.zero, i.size, i.bytes)) = some (some (.agg #[.int .i64 0, .int .i64 0]), 2, 16) := by kernel_rfl
theorem TRow.base {w : World} {B : Nat} {v : Value} {ts : List Tm} (h : TRow w B v ts) {k : Nat} (hk : v.ownBlock = some k) : B ≤ k := by
  obtain ⟨_, h2⟩ := h
  rcases h2 with ⟨rfl, _⟩ | ⟨g, c, cur, rfl, hb, _⟩
  · cases hk
  · injection hk with hk
    subst hk
    exact hb
theorem TRow.append {w : World} {B nb : Nat} {v : Value} {ts : List Tm} (h : TRow w B v ts) (x : Tm) (hnew : w.heap[nb]? = some (.cells #[.int .i64 x.f0, .int .i64 x.f1] 34 (0, 0))) (hl : ts.length ≤ 1000000) (hB : B ≤ w.heap.size) :
    ∃ v' w', (Builtin.append_ #[44, 44] 44 #[v, .slice (some ⟨nb, 0, none⟩) 1 1]).run Try.prog w = .ok v' w' ∧ TRow w' B v' (ts ++ [x]) ∧ Kept w w' (fun k => v.ownBlock = some k) ∧ Below B w w' ∧ (v'.ownBlock = v.ownBlock ∨ v'.ownBlock = some w.heap.size) := by
  have hI := infoT
  obtain ⟨i, hi, hI⟩ := Option.map_eq_some_iff.mp hI
  simp only [Prod.mk.injEq] at hI
  obtain ⟨v', w', hr, ho, hg, _, hat⟩ := run_append_own_at (P := Try.prog) w B 44 44 34 i _ 2 16 Try.underlying44 hi hI.1 hI.2.1 hI.2.2 rfl (by decide) v ts.length (tcells ts) h ⟨nb, 0, none⟩ 1 1 [.int .i64 x.f0, .int .i64 x.f1] rfl (fun j u hj => by
    have hlt := (List.getElem?_eq_some_iff.mp hj).1
    match j, hlt, hj with
    | 0, _, hj => exact (blk_cell hnew 0).trans hj
    | 1, _, hj => exact (blk_cell hnew 1).trans hj) (fun u hu => by
    simp at hu
    rcases hu with rfl | rfl <;> rfl) (by unfold maxLen; omega) (by omega) hB
  refine ⟨v', w', hr, ?_, ⟨hg.size, fun k hk hn => hg.block k hk (fun e => hn e.symm)⟩, ⟨hg.os, hg.tape, hg.output, hg.size, fun k hk => hg.block k (by omega) (fun e => by have := h.base e.symm; omega)⟩, hat⟩
  unfold TRow
  rw [List.length_append, tcells_append]
  exact ho
set_option maxRecDepth 100000 in
set_option maxHeartbeats 4000000 in
theorem push_calls (w : World) (B p mb : Nat) (v : Value) (ts : List Tm) (T : List (Int × Value)) (x0 x1 : Int) (hl : ts.length ≤ 1000000) (h : PAt w B p mb v ts T) (hT : T.length ≤ 1000000) (hk : okI x1) (hB : B ≤ w.heap.size) :
    Calls Try.prog 69 #[.pointer (some ⟨p, 0, none⟩), .iface 34 (.agg #[.int .i64 x0, .int .i64 x1])] w fun e w' => e = .returned (.tuple #[]) ∧ ∃ v', PAt w' B p mb v' (ts ++ [⟨x0, x1⟩]) (tput T x1 (.int .i64 ts.length)) ∧ Below B w w' ∧ Kept w w' (PFoot p mb v) ∧ (v'.ownBlock = v.ownBlock ∨ ∃ k, v'.ownBlock = some k ∧ w.heap.size ≤ k) := by
  obtain ⟨a, c, rfl⟩ := h.len
  have hta : ∀ W, (Instr.typeAssert (.iface 34 (.agg #[.int .i64 x0, .int .i64 x1])) 20 34 true).run Try.prog W = .ok (.tuple #[.agg #[.int .i64 x0, .int .i64 x1], .bool true]) W := fun W => by kernel_rfl
  have H := Lib.hid h
  have HL := Lib.hid hl
  have HT := Lib.hid hT
  have HK := Lib.hid hk
  have HB := Lib.hid hB
  clear h hl hT hk hB
  go_enter Try.func69, Try.ntmps69
  go_wp2
  have P1 := H.out.below (below_alloc (Below.refl w.heap.size w) (.cells #[.int .i64 x0, .int .i64 x1] 34 (0, 0)))
  have X1 : (w.alloc (.cells #[.int .i64 x0, .int .i64 x1] 34 (0, 0))).heap[w.heap.size]? = some (.cells #[.int .i64 x0, .int .i64 x1] 34 (0, 0)) := heap_alloc_new w _
  have B1 := below_alloc (Below.refl w.heap.size w) (.cells #[.int .i64 x0, .int .i64 x1] 34 (0, 0))
  have Z1 : w.heap.size + 1 = (w.alloc (.cells #[.int .i64 x0, .int .i64 x1] 34 (0, 0))).heap.size := (Array.size_push _).symm
  generalize hb : w.heap.size = b at X1 ⊢
  generalize (w.alloc (.cells #[.int .i64 x0, .int .i64 x1] 34 (0, 0))) = w1 at P1 X1 B1 Z1 ⊢
  have HP1 := Lib.hid P1
  have HX1 := Lib.hid X1
  have HB1 := Lib.hid B1
  have HZ1 := Lib.hid Z1
  have Hb := Lib.hid hb
  obtain ⟨p0, p1, pf0, pf1⟩ := HP1.out.pcell
  have xc1 : w1.cell? ⟨b, 1, none⟩ = some (.int .i64 x1) := (blk_cell HX1.out 1).trans rfl
  clear P1 X1 B1 Z1 pf0 pf1 hb
  have HP := HP1.out
  obtain ⟨O, hrun, htbl⟩ := HP.tbl.store intKey Try.underlying49 HK.out (.int .i64 ts.length) (by have := HT.out; unfold maxLen; omega)
  have hr1 : (Instr.mapUpdate 49 (.map (some mb)) (.int .i64 x1) (.int .i64 ts.length)).run Try.prog w1.drew = .ok () (setBlock w1.drew mb O) := hrun w1.drew rfl
  have hmz : mb < w.heap.size := H.out.tbl.lt
  have hpz : p < w.heap.size := blk_lt H.out.blk
  have hag : ∀ k, (Value.slice a ts.length c).ownBlock = some k → k < w.heap.size ∧ k ≠ mb ∧ k ≠ p := fun k hk => by
    obtain ⟨cur, hcur⟩ := own_typed H.out.row k hk
    refine ⟨blk_lt hcur, fun e => ?_, fun e => ?_⟩
    · obtain ⟨es, clock, hb, _⟩ := H.out.tbl
      rw [e, hb] at hcur
      cases hcur
    · have := H.out.blk
      rw [← e, hcur] at this
      have := Option.some.inj this
      injection this with _ h2 _
      exact absurd h2 (by decide)
  have hpm : p ≠ mb := fun e => by
    obtain ⟨es, clock, hb, _⟩ := H.out.tbl
    have := H.out.blk
    rw [e, hb] at this
    cases this
  have P2 : PAt (setBlock w1.drew mb O) B p mb (.slice a ts.length c) ts (tput T x1 (.int .i64 ts.length)) := by
    refine ⟨(heap_setBlock hpm).trans HP.blk, TRow.same HP.row (fun k hk => heap_setBlock (hag k hk).2.1), htbl w1.drew HP.tbl.lt, HP.hp, HP.hm⟩
  have X2 : (setBlock w1.drew mb O).heap[b]? = some (.cells #[.int .i64 x0, .int .i64 x1] 34 (0, 0)) := (heap_setBlock (by have := Hb.out; omega)).trans HX1.out
  have K2 : Kept w (setBlock w1.drew mb O) (PFoot p mb (.slice a ts.length c)) := ⟨by rw [size_setBlock]; exact HB1.out.size, fun k hk hn => (heap_setBlock (fun e => hn (.inr (.inl e)))).trans (HB1.out.block k hk)⟩
  have B2 : Below B w (setBlock w1.drew mb O) := ⟨HB1.out.os, HB1.out.tape, HB1.out.output, by rw [size_setBlock]; exact HB1.out.size, fun k hk => (heap_setBlock (by have := HP.hm; omega)).trans (HB1.out.block k (by have := HB.out; omega))⟩
  have HP2 := Lib.hid P2
  have HX2 := Lib.hid X2
  have HK2 := Lib.hid K2
  have HB2 := Lib.hid B2
  have HAG := Lib.hid hag
  have Hpm := Lib.hid hpm
  clear P2 X2 K2 B2 hrun htbl HP hmz hpz hag hpm
  refine start_ (n := 12) (S := (fun w' => w'.cell? ⟨p, 1, none⟩ = some (.map (some mb)) ∧ w'.cell? ⟨b, 1, none⟩ = some (.int .i64 x1) ∧ w'.cell? ⟨p, 0, none⟩ = some (.slice a ts.length c))) (ds := [11]) #[false, false, false, false, false, false, false, false, false, false, false, false] (by kernel_rfl) rfl rfl ⟨p1, xc1, p0⟩ (fun hHeld => ?_)
  refine kz 0 12 ?_
  refine kz 1 13 ?_
  refine kz 2 14 ?_
  refine kk3 3 15 ?_
  refine kz 4 16 ?_
  refine kk3 5 17 ?_
  refine kz 6 18 ?_
  refine kz 7 19 ?_
  refine kz 8 20 ?_
  refine kk3 9 21 ?_
  refine kz 10 22 ?_
  refine ls 11 ?_
  refine done_ (by kernel_rfl) ?_
  generalize setBlock w1.drew mb O = w2 at HP2 HX2 HK2 HB2 hr1 ⊢
  clear hr1 p0 p1 xc1 hHeld
  go_wp2
  obtain ⟨p0, p1, pf0, pf1⟩ := HP2.out.pcell
  have xc0 : w2.cell? ⟨b, 0, none⟩ = some (.int .i64 x0) := (blk_cell HX2.out 0).trans rfl
  have xc1 : w2.cell? ⟨b, 1, none⟩ = some (.int .i64 x1) := (blk_cell HX2.out 1).trans rfl
  clear p1 pf0 pf1
  refine start_ (n := 11) (S := (fun w' => w'.cell? ⟨p, 0, none⟩ = some (.slice a ts.length c) ∧ w'.cell? ⟨b, 0, none⟩ = some (.int .i64 x0) ∧ w'.cell? ⟨b, 1, none⟩ = some (.int .i64 x1))) (ds := [7, 10]) #[false, false, false, false, false, false, false, false, false, false, false] (by kernel_rfl) rfl rfl ⟨p0, xc0, xc1⟩ (fun hHeld => ?_)
  refine kz 0 23 ?_
  refine kz 1 24 ?_
  refine kz 2 25 ?_
  refine kz 3 26 ?_
  refine kk3 4 27 ?_
  refine kk3 5 28 ?_
  refine ov (w' := w2.drew.alloc (.cells #[.int .i64 x0, .int .i64 x1] 34 (0, 0))) 6 29 (fun hHeld => ?_) ⟨cell_keep hHeld.1 _, cell_keep hHeld.2.1 _, cell_keep hHeld.2.2 _⟩
  have HP3 := Lib.hid (HP2.out.below (below_drew1 (Below.refl w2.heap.size w2)))
  refine last_ (i := 7) (N := some 30) #[true, true, true, true, true, true, true, true, false, false, false] rfl rfl (by kernel_rfl) (by decide) (fun K hK => ?_)
  refine step_append_cells B (w0 := w) (W := w2.drew) (by rfl) (.tmp 27) (.tmp 29) 44 34 _ 2 16 rfl Try.underlying44 infoT rfl (by decide) (by decide) (.slice a ts.length c) ts.length (tcells ts) [.int .i64 x0, .int .i64 x1] rfl rfl rfl (fun u hu => by simp at hu; rcases hu with rfl | rfl <;> rfl) HP3.out.row (below_drew1 HB2.out) (by have := HB.out; have := HB2.out.size; show B ≤ w2.heap.size; omega) (by have := HL.out; omega) ?_
  intro v' w3 ho hb hg hat
  refine hK.out _ _ ?_
  clear hK K
  refine norm_ (a' := ?_) ?_ ?_
  rotate_left
  · show Act.put _ (some 30) _ = _
    simp only [Act.put, List.setIfInBounds_toArray, List.set_cons_zero, List.set_cons_succ]
    rfl
  refine kz 8 31 ?_
  refine kz 9 32 ?_
  have hpn : some p ≠ (Value.slice a ts.length c).ownBlock := fun e => (HAG.out p e.symm).2.2 rfl
  have hmn : some mb ≠ (Value.slice a ts.length c).ownBlock := fun e => (HAG.out mb e.symm).2.1 rfl
  have BP3 : w3.heap[p]? = some (.cells #[.slice a ts.length c, .map (some mb)] 51 (0, 0)) := (hg.block p (blk_lt HP2.out.blk) hpn).trans HP2.out.blk
  have TB3 : Tbl encI okI w3 mb (tput T x1 (.int .i64 ts.length)) := HP2.out.tbl.same (hg.block mb HP2.out.tbl.lt hmn)
  have K3 : Kept w w3 (PFoot p mb (.slice a ts.length c)) := HK2.out.then_ (S2 := fun k => (Value.slice a ts.length c).ownBlock = some k) ⟨hg.size, fun k hk hn => hg.block k hk (fun e => hn e.symm)⟩ (fun k hk => .inl (.inr (.inr hk)))
  have hrow : TRow w3 B v' (ts ++ [⟨x0, x1⟩]) := by
    unfold TRow
    rw [List.length_append, tcells_append]
    exact ho
  obtain ⟨A', c', rfl⟩ := hrow.len
  generalize (ts ++ [(⟨x0, x1⟩ : Tm)]).length = n' at *
  have hvz : ∀ k, (Value.slice A' n' c').ownBlock = some k → k ≠ p := fun k hk e => by
    obtain ⟨cur, hcur⟩ := own_typed hrow k hk
    rw [e, BP3] at hcur
    have := Option.some.inj hcur
    injection this with _ h2 _
    exact absurd h2 (by decide)
  have hat' : (Value.slice A' n' c').ownBlock = (Value.slice a ts.length c).ownBlock ∨ ∃ k, (Value.slice A' n' c').ownBlock = some k ∧ w.heap.size ≤ k := hat.imp id (fun ⟨k, hk, hz⟩ => ⟨k, hk, Nat.le_trans HB2.out.size hz⟩)
  have q0 := (blk_cell BP3 0).trans rfl
  have q0' : w3.cell? ⟨p, 0, none⟩ = some (.slice a ts.length c) := q0
  have qf := blk_frozen BP3 0
  clear q0
  refine ls (w' := w3.setCell ⟨p, 0, none⟩ (.slice A' n' c')) 10 ?_
  refine done_ (by kernel_rfl) ?_
  have PF : PAt (w3.setCell ⟨p, 0, none⟩ (.slice A' n' c')) B p mb (.slice A' n' c') (ts ++ [⟨x0, x1⟩]) (tput T x1 (.int .i64 ts.length)) := by
    refine ⟨blk_put BP3 0 _ rfl, TRow.same hrow (fun k hk => Below.heap_setCell w3 _ _ k (hvz k hk)), TB3.same (Below.heap_setCell w3 _ _ mb (fun e => Hpm.out e.symm)), HP2.out.hp, HP2.out.hm⟩
  have KF := K3.setCell (p := ⟨p, 0, none⟩) (.inl (.inl rfl)) (.slice A' n' c')
  have BF := hb.setCell (p := ⟨p, 0, none⟩) HP2.out.hp (.slice A' n' c')
  generalize w3.setCell ⟨p, 0, none⟩ (.slice A' n' c') = w4 at PF KF BF ⊢
  go_wp2
  go_end0
  exact ⟨rfl, _, PF, BF, KF, hat'⟩
end Go.Proofs.Ytjoemkmckabpjaa.Pr
