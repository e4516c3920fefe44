-- A queue of timers, walked: New, Len, First.
import Derived.Test.YtjoemkmckabpjaaTmHeap3
import Derived.Laws.Rows
import Derived.Laws.ResultCell
namespace Go.Proofs.Ytjoemkmckabpjaa.Pr
open Go.RowKit Go.Proofs.YtjoemkmckabpjaaW.PrintWords Go.Proofs.YtjoemkmckabpjaaW.PrintLast Go.Proofs.YtjoemkmckabpjaaW.PrintMore
open Go.ChangeMaps (setBlock)
set_option linter.unusedVariables false
set_option linter.unusedSimpArgs false
/-- A queue: where its pile lies. -/
structure KAt (w : World) (B q p mb : Nat) (v : Value) (ts : List Tm) : Prop where
  blk : w.heap[q]? = some (.cells #[.pointer (some ⟨p, 0, none⟩)] 53 (0, 0))
  low : B ≤ q
  pile : QAt w B p mb v ts
theorem KAt.same {w w' : World} {B q p mb : Nat} {v : Value} {ts : List Tm} (h : KAt w B q p mb v ts) (hq : w'.heap[q]? = w.heap[q]?) (hm : ∀ k, PFoot p mb v k → w'.heap[k]? = w.heap[k]?) : KAt w' B q p mb v ts :=
  ⟨hq.trans h.blk, h.low, h.pile.same hm⟩
theorem QAt.foot_lt {w : World} {B p mb : Nat} {v : Value} {ts : List Tm} (h : QAt w B p mb v ts) {k : Nat} (hk : PFoot p mb v k) : k < w.heap.size := by
  obtain ⟨T, h, _⟩ := h
  exact h.foot_lt hk
theorem KAt.below {w w' : World} {B q p mb : Nat} {v : Value} {ts : List Tm} (h : KAt w B q p mb v ts) (hb : Below w.heap.size w w') : KAt w' B q p mb v ts :=
  ⟨blk_below h.blk hb, h.low, h.pile.below hb⟩
/-- A block of another type than the pile's is not the pile's. -/
theorem QAt.off {w : World} {B p mb : Nat} {v : Value} {ts : List Tm} (h : QAt w B p mb v ts) {k : Nat} {cs : Array Value} {t : TypeId} {f : Nat × Nat} (hk : w.heap[k]? = some (.cells cs t f)) (h1 : t ≠ 51) (h2 : t ≠ 34) : ¬ PFoot p mb v k := by
  obtain ⟨T, h, _⟩ := h
  rintro (rfl | rfl | e)
  · have := hk.symm.trans h.blk
    have := Option.some.inj this
    injection this with _ h3 _
    exact h1 h3
  · obtain ⟨es, clock, hb, _⟩ := h.tbl
    rw [hb] at hk
    cases hk
  · obtain ⟨cur, hcur⟩ := own_typed h.row k e
    have := hk.symm.trans hcur
    have := Option.some.inj this
    injection this with _ h3 _
    exact h2 h3
theorem KAt.off {w : World} {B q p mb : Nat} {v : Value} {ts : List Tm} (h : KAt w B q p mb v ts) : ¬ PFoot p mb v q := h.pile.off h.blk (by decide) (by decide)
theorem KAt.cell {w : World} {B q p mb : Nat} {v : Value} {ts : List Tm} (h : KAt w B q p mb v ts) : w.cell? ⟨q, 0, none⟩ = some (.pointer (some ⟨p, 0, none⟩)) := (blk_cell h.blk 0).trans rfl
theorem KAt.ran {w w' : World} {B q p mb : Nat} {v : Value} {ts ts' : List Tm} (h : KAt w B q p mb v ts) (r : Ran' w B p mb v ts' w') : ∃ v', KAt w' B q p mb v' ts' ∧ Below B w w' ∧ Kept w w' (PFoot p mb v) ∧ (v'.ownBlock = v.ownBlock ∨ ∃ k, v'.ownBlock = some k ∧ w.heap.size ≤ k) := by
  obtain ⟨v', hq, hb, hk, ho⟩ := r
  exact ⟨v', ⟨blk_kept h.blk hk h.off, h.low, hq⟩, hb, hk, ho⟩
theorem Plc.empty : Plc [] [] := ⟨fun i j hi => absurd hi (by simp), fun t ht => absurd ht (by simp), fun i hi => absurd hi (by simp), fun k _ => rfl, Nat.le_refl _⟩
theorem results_cell2 {P : Program} {fn : Func} {p u : Tmp} {ty : TypeId} (h : fn.results = #[.cell p ty, .tmp u]) (tmps : Array Value) (w : World) (g : Nat) (t : TypeId) (cs : Array Value) (fr : Nat × Nat) (d : TypeDesc)
    (hp : tmps.getD p undef = .pointer (some ⟨g, 0, none⟩)) (hg : w.heap[g]? = some (.cells cs t fr))
    (hu : P.underlying ty = some d) (hd : (match d with | .struct _ | .array _ _ => true | _ => false) = true) (hi : (P.info? ty).map (·.size) = some cs.size) :
    (results fn tmps).run P w = .ok (.tuple #[.agg cs, tmps.getD u undef]) w := by
  have hp' : tmps[p]?.getD undef = .pointer (some ⟨g, 0, none⟩) := by simpa using hp
  simp [results, h, hp', asAddr, run_loadVar_row w g t ty cs fr d hg hu hd hi]
abbrev tobj (t : Tm) : Obj := .cells #[.int .i64 t.f0, .int .i64 t.f1] 34 (0, 0)
theorem tstore {w : World} {g : Nat} {z : Tm} (h : w.heap[g]? = some (tobj z)) (x : Tm) : ((w.setCell ⟨g, 0, none⟩ (.int .i64 x.f0)).setCell ⟨g, 1, none⟩ (.int .i64 x.f1)).heap[g]? = some (tobj x) :=
  blk_put (cs' := #[.int .i64 x.f0, .int .i64 x.f1]) (blk_put (cs' := #[.int .i64 x.f0, .int .i64 z.f1]) h 0 _ rfl) 1 _ rfl
theorem tobj_cells {w : World} {g : Nat} {z : Tm} (h : w.heap[g]? = some (tobj z)) : w.cell? ⟨g, 0, none⟩ = some (.int .i64 z.f0) ∧ w.cell? ⟨g, 1, none⟩ = some (.int .i64 z.f1) ∧ w.frozen? ⟨g, 0, none⟩ = false ∧ w.frozen? ⟨g, 1, none⟩ = false :=
  ⟨(blk_cell h 0).trans rfl, (blk_cell h 1).trans rfl, blk_frozen h 0, blk_frozen h 1⟩
set_option maxRecDepth 100000 in
set_option maxHeartbeats 4000000 in
theorem new_calls (w : World) (B : Nat) (hB : B ≤ w.heap.size) :
    Calls Try.prog 7 #[] w fun e w' => ∃ q p mb v, e = .returned (.pointer (some ⟨q, 0, none⟩)) ∧ KAt w' B q p mb v [] ∧ Below w.heap.size w w' := by
  have hmk := fun W => run_makeMap (P := Try.prog) 49 W
  go_enter Try.func7, Try.ntmps7
  go_wp2
  go_ret
  have T0 := Tbl.made encI okI w
  have B1 := below_alloc (Below.refl w.heap.size w) (.map #[] 0)
  have Z1 : (w.alloc (.map #[] 0)).heap.size = w.heap.size + 1 := Array.size_push _
  have X2 := blk_new (w.alloc (.map #[] 0)) (.cells #[.slice none 0 0, .map (some w.heap.size)] 51 (0, 0))
  rw [Z1] at X2
  have B2 := below_alloc B1 (.cells #[.slice none 0 0, .map (some w.heap.size)] 51 (0, 0))
  have Z2 : ((w.alloc (.map #[] 0)).alloc (.cells #[.slice none 0 0, .map (some w.heap.size)] 51 (0, 0))).heap.size = w.heap.size + 2 := (Array.size_push _).trans (by rw [Z1])
  have X3 := blk_new ((w.alloc (.map #[] 0)).alloc (.cells #[.slice none 0 0, .map (some w.heap.size)] 51 (0, 0))) (.cells #[.pointer (some ⟨w.heap.size + 1, 0, none⟩)] 53 (0, 0))
  rw [Z2] at X3
  exact ⟨w.heap.size + 2, w.heap.size + 1, w.heap.size, .slice none 0 0, rfl, ⟨X3, by omega, [], ⟨blk_alloc X2 _, TRow.nil _ _, (T0.same (Below.heap_alloc _ _ _ (by rw [Z1]; omega))).same (Below.heap_alloc _ _ _ (by rw [Z2]; omega)), by omega, hB⟩, Plc.empty⟩, below_alloc B2 _⟩
set_option maxRecDepth 100000 in
set_option maxHeartbeats 4000000 in
theorem qlen_calls (w : World) (B q p mb : Nat) (v : Value) (ts : List Tm) (h : KAt w B q p mb v ts) :
    Calls Try.prog 9 #[.pointer (some ⟨q, 0, none⟩)] w fun e w' => e = .returned (.int .i64 ts.length) ∧ w' = w := by
  have q0 := h.cell
  have HC := Lib.hid (len_q w B p mb v ts h.pile)
  clear h
  go_enter Try.func9, Try.ntmps9
  go_wp2_with (go_at_call 20; refine HC.out.mono ?_; rintro e w' ⟨rfl, rfl⟩)
  go_ret
  exact ⟨rfl, rfl⟩
set_option maxRecDepth 100000 in
set_option maxHeartbeats 4000000 in
theorem first_calls (w : World) (B q p mb : Nat) (v : Value) (ts : List Tm) (h : KAt w B q p mb v ts) :
    Calls Try.prog 11 #[.pointer (some ⟨q, 0, none⟩)] w fun e w' => e = .returned (.tuple #[tval ts[0]!, .bool (decide (0 < ts.length))]) ∧ Below w.heap.size w w' := by
  have H := Lib.hid h
  have HK := Lib.hid (fun V (hV : Below w.heap.size w V) => qlen_calls V B q p mb v ts (h.below hV))
  by_cases h0 : ts.length = 0
  · have e1 : ts = [] := List.eq_nil_of_length_eq_zero h0
    subst e1
    clear h
    go_enter Try.func11, Try.ntmps11
    go_wp2_with (go_at_call 9; refine (HK.out _ (below_alloc (Below.refl _ _) _)).mono ?_; rintro e w' ⟨rfl, rfl⟩)
    refine bodyPost_ret (results_cell2 rfl _ _ w.heap.size 34 #[.int .i64 0, .int .i64 0] (0, 0) _ rfl (blk_new w (tobj ⟨0, 0⟩)) Try.underlying34 rfl (by kernel_rfl)) rfl ?_
    exact ⟨rfl, below_alloc (Below.refl _ _) _⟩
  · obtain ⟨T, hP, hPl⟩ := h.pile
    obtain ⟨g, c, cur, rfl, hgB, hg, hlc, hcm, hcur⟩ := hP.row.form (by omega)
    obtain ⟨p0, p1, pf0, pf1⟩ := hP.pcell
    obtain ⟨ic0, ic1, if0, if1⟩ := hP.row.cells (show 0 < ts.length by omega)
    rw [← bang_get (show 0 < ts.length by omega)] at ic0 ic1
    obtain ⟨⟨x0, x1⟩, hx⟩ : ∃ x, x = ts[0]! := ⟨_, rfl⟩
    rw [← hx] at ic0 ic1 ⊢
    have q0 := cell_keep h.cell (tobj ⟨0, 0⟩)
    have r0 := cell_keep p0 (tobj ⟨0, 0⟩)
    have i0 := cell_keep ic0 (tobj ⟨0, 0⟩)
    have i1 := cell_keep ic1 (tobj ⟨0, 0⟩)
    rw [Nat.zero_mul] at i0 i1
    have n0 : ((ts.length : Int) == 0) = false := beq_eq_false_iff_ne.mpr (by omega)
    have n1 : (0 : Int) < (ts.length : Int) := by omega
    have hd : decide (0 < ts.length) = true := decide_eq_true (by omega)
    rw [hd]
    clear hcur hg hlc hcm p0 p1 pf0 pf1 ic0 ic1 if0 if1 hP hPl hx h
    unfold tval
    go_enter Try.func11, Try.ntmps11
    go_wp2_with (go_at_call 9; refine (HK.out _ (below_alloc (Below.refl _ _) _)).mono ?_; rintro e w' ⟨rfl, rfl⟩)
    refine bodyPost_ret (results_cell2 rfl _ _ w.heap.size 34 #[.int .i64 x0, .int .i64 x1] (0, 0) _ rfl (blk_new w (tobj ⟨x0, x1⟩)) Try.underlying34 rfl (by kernel_rfl)) rfl ?_
    exact ⟨rfl, below_alloc (Below.refl _ _) _⟩
end Go.Proofs.Ytjoemkmckabpjaa.Pr
