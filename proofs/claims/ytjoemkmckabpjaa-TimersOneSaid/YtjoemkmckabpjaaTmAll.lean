-- All of a queue, in order.
import Derived.Test.YtjoemkmckabpjaaTmQ4
import Derived.Test.YtjoemkmckabpjaaRow
import Derived.Test.YtjoemkmckabpjaaShelf
import Derived.Shelf.SlSortCmp.NoneTotal
import Derived.Sort.Grow
namespace Go.Proofs.Ytjoemkmckabpjaa.Pr
open Go.RowKit Go.Proofs.YtjoemkmckabpjaaW.PrintWords Go.Proofs.YtjoemkmckabpjaaW.PrintLast Go.Proofs.YtjoemkmckabpjaaW.PrintMore
set_option linter.unusedVariables false
set_option linter.unusedSimpArgs false
def tCmp (x y : Tm) : Int := if tless x y = true then -1 else if tless y x = true then 1 else 0
theorem tless_iff (a b : Tm) : tless a b = true ↔ a.f0 < b.f0 ∨ (a.f0 = b.f0 ∧ a.f1 < b.f1) := by
  unfold tless
  rw [Bool.or_eq_true, Bool.and_eq_true, decide_eq_true_eq, decide_eq_true_eq, decide_eq_true_eq]
theorem tless_irrefl (a : Tm) : ¬ tless a a = true := by rw [tless_iff]; omega
theorem tless_trans {a b c : Tm} (h1 : tless a b = true) (h2 : tless b c = true) : tless a c = true := by
  rw [tless_iff] at *
  omega
theorem tless_total {a b : Tm} (h1 : ¬ tless a b = true) (h2 : ¬ tless b a = true) : a = b := by
  rw [tless_iff] at *
  exact tm_ext (by omega) (by omega)
theorem tCmp_lt (x y : Tm) : Go.Proofs.ltOf tCmp x y = tless x y := by
  unfold Go.Proofs.ltOf tCmp
  by_cases h2 : tless x y = true
  · rw [if_pos h2, h2]
    rfl
  · rw [if_neg h2]
    by_cases h : tless y x = true
    · rw [if_pos h]
      simp_all
    · rw [if_neg h]
      simp_all
theorem tSWO : Go.Sort.SWO (Go.Proofs.ltOf tCmp) where
  irrefl x := by rw [tCmp_lt]; have := tless_irrefl x; simp_all
  trans x y z h1 h2 := by rw [tCmp_lt] at *; exact tless_trans h1 h2
  ntrans x y z h1 h2 := by
    rw [tCmp_lt] at *
    rw [Bool.eq_false_iff] at *
    intro h3
    by_cases h4 : tless y x = true
    · exact h2 (tless_trans h4 h3)
    · rw [tless_total h1 h4] at h3
      exact h2 h3
def sortT (l : List Tm) : List Tm := l.mergeSort fun x y => !(Go.Proofs.ltOf tCmp) y x
def encTL (p : Tm) : List Value := [.int .i64 p.f0, .int .i64 p.f1]
abbrev kTm := k54
theorem flatTm : Flat kTm encTL where
  opens h := k54_openM h
  shuts w base ok x := k54_mkM w base ok x
  len _ := rfl
theorem tcells_flat : ∀ ts : List Tm, tcells ts = ts.flatMap encTL
  | [] => rfl
  | t :: ts => by rw [tcells, tcells_flat ts]; rfl
theorem R_of_T {w : World} {B : Nat} {v : Value} {ts : List Tm} (h : TRow w B v ts) : Kd.R kTm 34 w B (fun _ => True) v ts := by
  refine ⟨fun _ _ => trivial, tcells ts, h, ?_⟩
  rw [tcells_flat]
  exact flat_reps flatTm _ _ _ _
theorem T_of_R {w : World} {B : Nat} {v : Value} {ts : List Tm} (h : Kd.R kTm 34 w B (fun _ => True) v ts) : TRow w B v ts := by
  obtain ⟨_, inner, ho, hr⟩ := h
  have := reps_flat flatTm hr
  rw [← tcells_flat] at this
  subst this
  exact ho
theorem isAggTm (w : World) : (isAgg 34).run Try.prog w = .ok true w := by kernel_rfl
theorem sizeOfTm (w : World) : (Go.sizeOf 34).run Try.prog w = .ok 2 w := by kernel_rfl
set_option maxHeartbeats 1000000 in
theorem tless_grow (a b : Tm) (W : World) : Calls Try.prog 27 #[.agg #[.int .i64 a.f0, .int .i64 a.f1], .agg #[.int .i64 b.f0, .int .i64 b.f1]] W fun e w' => e = .returned (.bool (tless a b)) ∧ ∃ q os', w' = Sort.grow (W.drewN q) os' := by
  unfold tless
  generalize h1 : decide (a.f0 < b.f0) = b1
  generalize h2 : decide (a.f0 = b.f0) = b2
  have h2' : (a.f0 == b.f0) = b2 := by rw [← h2]; rfl
  generalize h3 : decide (a.f1 < b.f1) = b3
  clear h2
  cases b1 <;> cases b2 <;> cases b3 <;> (
    go_enter Try.func27, Try.ntmps27
    go_wp2
    go_ret
    exact ⟨rfl, 0, _, by rw [Sort.alloc_eq_grow, Sort.alloc_eq_grow, Sort.grow_grow]; rfl⟩)
theorem boxedT_grow {W w3 : World} {x y : Tm} {q : Nat} {os : Array Obj} (h : w3 = Sort.grow (((W.alloc (tobj x)).alloc (tobj y)).drewN q) os) : w3.heap[W.heap.size]? = some (tobj x) ∧ w3.heap[W.heap.size + 1]? = some (tobj y) ∧ ∃ q os', w3 = Sort.grow (W.drewN q) os' := by
  have hs : ((W.alloc (tobj x)).alloc (tobj y)).heap.size = W.heap.size + 2 := by
    rw [show ((W.alloc (tobj x)).alloc (tobj y)).heap.size = (W.alloc (tobj x)).heap.size + 1 from Array.size_push _, show (W.alloc (tobj x)).heap.size = W.heap.size + 1 from Array.size_push _]
  have hb : ∀ k, k < W.heap.size + 2 → w3.heap[k]? = ((W.alloc (tobj x)).alloc (tobj y)).heap[k]? := fun k hk => by
    rw [h]
    show (((W.alloc (tobj x)).alloc (tobj y)).heap ++ os)[k]? = _
    rw [Array.getElem?_append_left (by rw [hs]; exact hk)]
  refine ⟨(hb _ (by omega)).trans (blk_alloc (blk_new W _) _), (hb _ (by omega)).trans ?_, q, #[tobj x] ++ #[tobj y] ++ os, ?_⟩
  · have := blk_new (W.alloc (tobj x)) (tobj y)
    rw [show (W.alloc (tobj x)).heap.size = W.heap.size + 1 from Array.size_push _] at this
    exact this
  · rw [h, Sort.alloc_eq_grow, Sort.alloc_eq_grow, Sort.grow_grow]
    exact Sort.grow_grow (W.drewN q) _ os
theorem grow_more {W w3 w4 : World} {q q' : Nat} {os os' : Array Obj} (h : w3 = Sort.grow (W.drewN q) os) (k : w4 = Sort.grow (w3.drewN q') os') : ∃ q os', w4 = Sort.grow (W.drewN q) os' := by
  refine ⟨q + q', os ++ os', ?_⟩
  rw [k, h, ← Sort.grow_grow]
  have e : (Sort.grow (W.drewN q) os).drewN q' = Sort.grow (W.drewN (q + q')) os := by
    unfold World.drewN Sort.grow
    simp [Nat.add_assoc]
  rw [e]
set_option maxHeartbeats 2000000 in
theorem all1_calls (x y : Tm) (W : World) : Calls Try.prog 26 #[.agg #[.int .i64 x.f0, .int .i64 x.f1], .agg #[.int .i64 y.f0, .int .i64 y.f1]] W fun e w' => e = .returned (.int .i64 (tCmp x y)) ∧ ∃ q os', w' = Sort.grow (W.drewN q) os' := by
  have HL := fun W' => tless_grow x y W'
  have HM := fun W' => tless_grow y x W'
  unfold tCmp
  generalize tless x y = b1 at HL ⊢
  generalize tless y x = b2 at HM ⊢
  have HLL := Lib.hid HL
  have HMM := Lib.hid HM
  clear HL HM
  cases b1
  · cases b2 <;> (
      go_enter Try.func26, Try.ntmps26
      go_upto_region 1 with fail
      change Code.wp _ _ _ _ ((W.alloc (tobj x)).alloc (tobj y))
      go_wp2_with (go_at_call 27; first | ((with_reducible refine (HLL.out _).mono ?_); rintro e w3 ⟨rfl, q, os, hw3⟩; obtain ⟨BX, BY, hos⟩ := boxedT_grow hw3; have HW3 := Lib.hid hw3; clear hw3; obtain ⟨x0, x1, _, _⟩ := tobj_cells BX; obtain ⟨y0, y1, _, _⟩ := tobj_cells BY; clear BX BY hos) | ((with_reducible refine (HMM.out _).mono ?_); rintro e w4 ⟨rfl, q', os', hw4⟩; obtain ⟨q2, os2, hw5⟩ := grow_more HW3.out hw4; obtain ⟨_, _, hos⟩ := boxedT_grow hw5; clear hw4 hw5))
      go_ret
      exact ⟨rfl, hos⟩)
  · go_enter Try.func26, Try.ntmps26
    go_upto_region 1 with fail
    change Code.wp _ _ _ _ ((W.alloc (tobj x)).alloc (tobj y))
    go_wp2_with (go_at_call 27; refine (HLL.out _).mono ?_; rintro e w3 ⟨rfl, q, os, hw3⟩; obtain ⟨BX, BY, hos⟩ := boxedT_grow hw3; clear hw3; obtain ⟨x0, x1, _, _⟩ := tobj_cells BX; obtain ⟨y0, y1, _, _⟩ := tobj_cells BY; clear BX BY)
    go_ret
    exact ⟨rfl, hos⟩
instance : Inhabited Tm := ⟨⟨0, 0⟩⟩
theorem sortT_calls (w : World) (B : Nat) (v : Value) (l : List Tm) (hR : TRow w B v l) (hB : B ≤ w.heap.size) (hl : l.length < 4611686018427387904) : Calls Try.prog 25 #[v, .func (.func 26) #[] #[]] w fun e w' =>
    e = .returned (.tuple #[]) ∧ TRow w' B v (sortT l) ∧ Below B w w' := by
  have hR := R_of_T hR
  obtain ⟨A, c, rfl⟩ := Kd.R_slice hR
  cases A with
  | none =>
    have hl : l = [] := by
      obtain ⟨_, inner, ⟨_, ho⟩, hr⟩ := hR
      rcases ho with ⟨_, h0⟩ | ⟨g', cap', cur, hv, _⟩
      · exact List.eq_nil_of_length_eq_zero h0
      · cases hv
    subst hl
    refine (AnyF.slices_SortFunc_none Try.sortTm none c (.func (.func 26) #[] #[]) w).mono ?_
    rintro e w' ⟨rfl, rfl⟩
    exact ⟨rfl, T_of_R (by simpa [sortT] using hR), Below.refl _ _⟩
  | some a =>
    obtain ⟨g, off, fr⟩ := a
    have hfr : fr = none := by
      obtain ⟨_, inner, ⟨_, ho⟩, hr⟩ := hR
      rcases ho with ⟨h0, _⟩ | ⟨g', cap', cur, hv, _⟩
      · cases h0
      · simp only [Value.slice.injEq, Option.some.injEq, Addr.mk.injEq] at hv
        exact hv.1.2.2
    subst hfr
    obtain ⟨rfl, _, hg, hH, hlt, hmax⟩ := holds_of_R flatTm hR
    have eg : ∀ args w, (callFunc 26 args).run Try.prog w = .ok (.enter 26 args) w := enters_of Try.func26 (by kernel_rfl) rfl
    have hc : CmpLays Try.prog 26 #[] encTL 2 tCmp g 0 l.toArray.size w := fun _ _ _ _ x y => all1_calls x y _
    have hT : ∀ x y, (ltOf tCmp) x y = false → (ltOf tCmp) y x = false → x = y := fun x y h1 h2 => by
      rw [tCmp_lt] at *
      exact tless_total (by simp_all) (by simp_all)
    have hsz : l.toArray.size < 4611686018427387904 := by simpa using hl
    refine (AnyQ.slices_SortFunc_total Try.sortTm 2 isAggTm sizeOfTm encTL (fun _ => rfl) (fun x v hv => by simp [encTL] at hv; rcases hv with rfl | rfl <;> rfl) tCmp tSWO 26 #[] g 0 c l.toArray w eg hc hH hlt hsz hT).mono ?_
    rintro e w' ⟨rfl, n, os, rfl⟩
    exact ⟨rfl, T_of_R (R_of_sorted flatTm hR n (sortT l) os (List.length_mergeSort _)), sorted_below encTL w g 2 n (sortT l) os hB hg⟩
theorem cloneT_calls (w : World) (B : Nat) (v : Value) (l : List Tm) (hR : TRow w B v l) (hl : l.length ≤ 1000000) : Calls Try.prog 24 #[v] w fun e w' =>
    ∃ v', e = .returned v' ∧ TRow w' w.heap.size v' l ∧ Below w.heap.size w w' := by
  obtain ⟨h1, h2⟩ := hR
  rcases h2 with ⟨rfl, h0⟩ | ⟨g, c, cur, rfl, hb, hg, hnc, hcm, hcs, ht⟩
  · have hl : l = [] := List.eq_nil_of_length_eq_zero h0
    subst hl
    refine (AnyE.slices_Clone_nil Try.cloneTm 0 0 w).mono ?_
    rintro e w' ⟨rfl, rfl⟩
    exact ⟨_, rfl, TRow.nil _ _, Below.refl _ _⟩
  · obtain ⟨i, hi, hI⟩ := Option.map_eq_some_iff.mp infoT
    simp only [Prod.mk.injEq] at hI
    refine (AnyE.slices_Clone Try.cloneTm i (.agg #[.int .i64 0, .int .i64 0]) 2 16 hi hI.1 hI.2.1 hI.2.2 rfl (by decide) sizeOfTm g 0 l.length c (tcells l) w (tcells_length l) (by unfold maxLen; omega) (by omega) (fun j u hj => ?_) (fun u hu => ?_)).mono ?_
    · rw [Nat.zero_add, blk_cell hg j]
      rw [← ht] at hj
      have hlt := (List.getElem?_eq_some_iff.mp hj).1
      rw [List.length_take] at hlt
      rw [List.getElem?_take_of_lt (by omega), Array.getElem?_toList] at hj
      exact hj
    · rw [tcells_flat, List.mem_flatMap] at hu
      obtain ⟨x, _, hu⟩ := hu
      simp [encTL] at hu
      rcases hu with rfl | rfl <;> rfl
    · rintro e w' ⟨v', rfl, ho, _, hb⟩
      exact ⟨v', rfl, ho, hb⟩
set_option maxRecDepth 100000 in
set_option maxHeartbeats 4000000 in
theorem all_calls (w : World) (B q p mb : Nat) (v : Value) (ts : List Tm) (hl : ts.length ≤ 1000000) (h : KAt w B q p mb v ts) :
    Calls Try.prog 15 #[.pointer (some ⟨q, 0, none⟩)] w fun e w' => ∃ v', e = .returned v' ∧ TRow w' w.heap.size v' (sortT ts) ∧ Below w.heap.size w w' := by
  have q0 := h.cell
  obtain ⟨T, hP, hPl⟩ := h.pile
  obtain ⟨p0, p1, pf0, pf1⟩ := hP.pcell
  have HC := Lib.hid (cloneT_calls w B v ts hP.row hl)
  have HL := Lib.hid hl
  clear h hP hPl p1 pf0 pf1 hl
  go_enter Try.func15, Try.ntmps15
  go_wp2_with (first | (go_at_call 24; refine HC.out.mono ?_; rintro e w3 ⟨v3, rfl, hr3, hb3⟩; have HR3 := Lib.hid hr3; have HB3 := Lib.hid hb3; clear hr3 hb3) | (go_at_call 25; refine (sortT_calls _ w.heap.size v3 ts HR3.out HB3.out.size (by have := HL.out; omega)).mono ?_; rintro e w4 ⟨rfl, hr4, hb4⟩; have HR4 := Lib.hid hr4; have HB4 := Lib.hid (HB3.out.trans hb4); clear hr4 hb4))
  go_ret
  exact ⟨v3, rfl, HR4.out, HB4.out⟩
end Go.Proofs.Ytjoemkmckabpjaa.Pr
