-- The document's queue: Set where it is full, Stop, Pop.
import Derived.Test.YtjoemkmckabpjaaTmRef2
namespace Go.Proofs.Ytjoemkmckabpjaa.Pr
open Go.RowKit Go.Proofs.YtjoemkmckabpjaaW.PrintWords Go.Proofs.YtjoemkmckabpjaaW.PrintLast Go.Proofs.YtjoemkmckabpjaaW.PrintMore
set_option linter.unusedVariables false
set_option linter.unusedSimpArgs false
set_option maxRecDepth 100000 in
set_option maxHeartbeats 4000000 in
theorem rfull_calls (w : World) (B r : Nat) (v : Value) (l : List Tm) (kind due : Int) (h : RAt w B r v l) (h1 : (wo l kind).length = l.length) (h2 : l.length = 64) :
    Calls Try.prog 19 #[.pointer (some ⟨r, 0, none⟩), .int .i64 kind, .int .i64 due] w fun e w' => e = .returned (.int .i64 12) ∧ Below w.heap.size w w' := by
  have HC := Lib.hid (without_calls w B r v l kind (by omega) h)
  obtain ⟨rest, hrest⟩ : ∃ rest, rest = wo l kind := ⟨_, rfl⟩
  rw [← hrest] at HC h1
  obtain ⟨A, c, rfl, hc⟩ := h.row
  have H := Lib.hid h
  have e1 : ((rest.length : Int) == (l.length : Int)) = true := beq_iff_eq.mpr (by omega)
  have e2 : ((l.length : Int) == 64) = true := beq_iff_eq.mpr (by omega)
  clear h hc hrest
  go_enter Try.func19, Try.ntmps19
  go_wp2_with (go_at_call 29; refine HC.out.mono ?_; rintro e w2 ⟨v2, rfl, hr2, hb2⟩; have hR2 := LAt.of_R hr2; obtain ⟨A2, c2, rfl, _, _, _⟩ := hR2; have HB2 := Lib.hid hb2; obtain ⟨r0, _⟩ := (H.out.below hb2).cell; clear hr2 hb2)
  go_ret
  exact ⟨rfl, HB2.out⟩
set_option maxRecDepth 100000 in
set_option maxHeartbeats 4000000 in
theorem rstop_calls (w : World) (B r : Nat) (v : Value) (l : List Tm) (kind : Int) (hl : l.length ≤ 100000) (h : RAt w B r v l) :
    Calls Try.prog 17 #[.pointer (some ⟨r, 0, none⟩), .int .i64 kind] w fun e w' => e = .returned (.bool (decide ((wo l kind).length < l.length))) ∧ RRan w B r (wo l kind) w' := by
  have HC := Lib.hid (without_calls w B r v l kind (by omega) h)
  obtain ⟨rest, hrest⟩ : ∃ rest, rest = wo l kind := ⟨_, rfl⟩
  rw [← hrest] at HC ⊢
  obtain ⟨A, c, rfl, hc⟩ := h.row
  have H := Lib.hid h
  clear h hc hrest
  go_enter Try.func17, Try.ntmps17
  go_wp2_with (go_at_call 29; refine HC.out.mono ?_; rintro e w2 ⟨v2, rfl, hr2, hb2⟩; have hR2 := LAt.of_R hr2; obtain ⟨A2, c2, rfl, _, _, _⟩ := hR2; have HR2 := Lib.hid hr2; have HB2 := Lib.hid hb2; obtain ⟨r0, rf⟩ := (H.out.below hb2).cell; clear hr2 hb2)
  go_ret
  exact ⟨rfl, RAt.put H.out HB2.out ((LAt.of_R HR2.out).lower H.out.base)⟩
theorem LAt.tail {w : World} {B : Nat} {g off c : Nat} {x : Tm} {l : List Tm} (h : LAt w B (.slice (some ⟨g, off, none⟩) (l.length + 1) c) (x :: l)) : LAt w B (.slice (some ⟨g, off + 2, none⟩) l.length (c - 1)) l := by
  obtain ⟨A, c', e, h1, h2, h3⟩ := h
  obtain ⟨g', off', cur, rfl, hg, hb, hc⟩ := h3 (by simp)
  injection e with ha hn hc'
  injection ha with ha
  injection ha with ha hb' _
  subst ha
  subst hb'
  subst hc'
  rw [List.length_cons] at h1
  refine ⟨_, c - 1, rfl, by omega, by omega, fun _ => ⟨g, off + 2, cur, rfl, hg, hb, fun i hi => ?_⟩⟩
  obtain ⟨a, b⟩ := hc (i + 1) (by rw [List.length_cons]; omega)
  rw [show (x :: l)[i + 1]! = l[i]! by rw [bang_get (by rw [List.length_cons]; omega), bang_get hi]; rfl] at a b
  rw [show off + (i + 1) * 2 = off + 2 + i * 2 by omega] at a b
  exact ⟨a, b⟩
def rpopL (l : List Tm) (now : Int) : List Tm := match l with
  | [] => []
  | x :: xs => if x.f0 ≤ now then xs else x :: xs
def rpopT (l : List Tm) (now : Int) : Tm := match l with
  | [] => ⟨0, 0⟩
  | x :: xs => if x.f0 ≤ now then x else ⟨0, 0⟩
def rpopB (l : List Tm) (now : Int) : Bool := match l with
  | [] => false
  | x :: xs => decide (x.f0 ≤ now)
abbrev robj (t : Tm) : Obj := .cells #[.int .i64 t.f0, .int .i64 t.f1] TR (0, 0)
theorem rstore {w : World} {g : Nat} {z : Tm} (h : w.heap[g]? = some (robj z)) (x : Tm) : ((w.setCell ⟨g, 0, none⟩ (.int .i64 x.f0)).setCell ⟨g, 1, none⟩ (.int .i64 x.f1)).heap[g]? = some (robj x) :=
  blk_put (cs' := #[.int .i64 x.f0, .int .i64 x.f1]) (blk_put (cs' := #[.int .i64 x.f0, .int .i64 z.f1]) h 0 _ rfl) 1 _ rfl
theorem rfl_size {w : World} {p : Addr} {v : Value} : (World.setCell w p v).heap.size = w.heap.size := by simp [World.setCell]
theorem blk_new' (w : World) (o : Obj) {n : Nat} (h : w.heap.size = n) : (w.alloc o).heap[n]? = some o := by
  subst h
  exact blk_new w o
theorem LAt.empty (w : World) (B : Nat) (A : Option Addr) {c : Nat} (h : c ≤ maxLen) : LAt w B (.slice A 0 c) [] := ⟨A, c, rfl, Nat.zero_le _, h, fun h => absurd h (by simp)⟩
theorem ran_two {w : World} {B r : Nat} {v v' : Value} {l l' : List Tm} {o o' : Obj} (h : RAt w B r v l) (hr : LAt w B v' l') : RRan w B r l' (((w.setCell ⟨r, 0, none⟩ v').alloc o).alloc o') := by
  obtain ⟨v2, h2, b2, k2⟩ := RAt.put h (Below.refl _ _) hr
  have hb := below_alloc (below_alloc (Below.refl (w.setCell ⟨r, 0, none⟩ v').heap.size (w.setCell ⟨r, 0, none⟩ v')) o) o'
  exact ⟨v2, h2.below hb, b2.trans (lower hb h2.base), k2.then_ (Kept.of_below hb (fun k => k = r)) (fun k hk => .inl hk)⟩
set_option maxRecDepth 100000 in
set_option maxHeartbeats 4000000 in
theorem rpop_calls (w : World) (B r : Nat) (v : Value) (l : List Tm) (now : Int) (hl : l.length ≤ 100000) (h : RAt w B r v l) :
    Calls Try.prog 18 #[.pointer (some ⟨r, 0, none⟩), .int .i64 now] w fun e w' => e = .returned (.tuple #[tval (rpopT l now), .bool (rpopB l now)]) ∧ RRan w B r (rpopL l now) w' := by
  have hE := h.base
  have Q : ∀ w', Below w.heap.size w w' → RRan w B r l w' := fun w' hb => ⟨v, h.below hb, lower hb hE, Kept.of_below hb _⟩
  have HQ := Lib.hid Q
  have H := Lib.hid h
  obtain ⟨A, c, rfl, h1, h2, h3⟩ := h.row
  obtain ⟨r0, rf0⟩ := (h.below (below_alloc (Below.refl w.heap.size w) (robj ⟨0, 0⟩))).cell
  cases l with
  | nil =>
    unfold tval
    show Calls Try.prog 18 #[.pointer (some ⟨r, 0, none⟩), .int .i64 now] w fun e w' => e = .returned (.tuple #[.agg #[.int .i64 0, .int .i64 0], .bool false]) ∧ RRan w B r [] w'
    rw [show ([] : List Tm).length = 0 from rfl] at r0
    clear h h1 h2 h3 Q
    go_enter Try.func18, Try.ntmps18
    go_wp2
    refine bodyPost_ret (results_cell2 rfl _ _ w.heap.size TR #[.int .i64 0, .int .i64 0] (0, 0) _ rfl (blk_new w (robj ⟨0, 0⟩)) Try.underlying54 rfl (by kernel_rfl)) rfl ?_
    exact ⟨rfl, HQ.out _ (below_alloc (Below.refl _ _) _)⟩
  | cons x xs =>
    obtain ⟨x0, x1⟩ := x
    obtain ⟨g, off, cur, rfl, _⟩ := h3 (by simp)
    obtain ⟨i0, i1⟩ := ((h.below (below_alloc (Below.refl w.heap.size w) (robj ⟨0, 0⟩))).row).cells (show 0 < (⟨x0, x1⟩ :: xs : List Tm).length by simp)
    have hi0 : (⟨x0, x1⟩ :: xs : List Tm)[0]! = ⟨x0, x1⟩ := rfl
    rw [hi0] at i0 i1
    rw [Nat.zero_mul, Nat.add_zero] at i0 i1
    obtain ⟨n, hn⟩ : ∃ n, n = xs.length + 1 := ⟨_, rfl⟩
    have hn' : (⟨x0, x1⟩ :: xs : List Tm).length = n := by rw [hn]; rfl
    rw [hn'] at r0
    have q1 : (0 : Int) < (n : Int) := by omega
    have n0 : ((n : Int) == 0) = false := beq_eq_false_iff_ne.mpr (by omega)
    by_cases hd : x0 ≤ now
    · have d1 : decide (now < x0) = false := decide_eq_false (by omega)
      rw [show rpopT (⟨x0, x1⟩ :: xs) now = ⟨x0, x1⟩ from if_pos hd, show rpopB (⟨x0, x1⟩ :: xs) now = true from decide_eq_true hd, show rpopL (⟨x0, x1⟩ :: xs) now = xs from if_pos hd]
      unfold tval
      have HN := Lib.hid hn
      have hW2 := below_alloc (below_alloc (Below.refl w.heap.size w) (robj ⟨0, 0⟩)) (robj ⟨x0, x1⟩)
      obtain ⟨r1, rf1⟩ := (h.below hW2).cell
      rw [hn'] at r1
      have q2 : (1 : Int) ≤ (n : Int) := by omega
      have q3 : (n : Int) ≤ (c : Int) := by omega
      have q4 : (1 : Int) ≤ (c : Int) := by omega
      have rl : r < w.heap.size := blk_lt h.blk
      have ne1 : r ≠ w.heap.size := by omega
      have ne2 : r ≠ w.heap.size + 1 := by omega
      clear h h1 h2 h3 hd hn hn' hi0 hE hl hW2 Q
      go_enter Try.func18, Try.ntmps18
      have hLT := H.out.row
      by_cases hc1 : c = 1
      · subst hc1
        obtain rfl : n = 1 := by omega
        have hxs : xs = [] := List.eq_nil_of_length_eq_zero (by have := HN.out; omega)
        subst hxs
        go_wp2
        refine bodyPost_ret (results_cell2 rfl _ _ w.heap.size TR #[.int .i64 x0, .int .i64 x1] (0, 0) _ rfl (blk_alloc (blk_new' (World.setCell w ⟨r, 0, none⟩ _) (robj ⟨x0, x1⟩) rfl_size) _) Try.underlying54 rfl (by kernel_rfl)) rfl ?_
        exact ⟨rfl, ran_two H.out (LAt.empty _ _ _ (by decide))⟩
      · have hc2 : ¬ 1 = c := fun e => hc1 e.symm
        go_wp2
        refine bodyPost_ret (results_cell2 rfl _ _ w.heap.size TR #[.int .i64 x0, .int .i64 x1] (0, 0) _ rfl (blk_alloc (blk_new' (World.setCell w ⟨r, 0, none⟩ _) (robj ⟨x0, x1⟩) rfl_size) _) Try.underlying54 rfl (by kernel_rfl)) rfl ?_
        refine ⟨rfl, ran_two H.out ?_⟩
        have := hLT.tail
        rw [HN.out]
        exact this
    · have d1 : decide (now < x0) = true := decide_eq_true (by omega)
      rw [show rpopT (⟨x0, x1⟩ :: xs) now = ⟨0, 0⟩ from if_neg hd, show rpopB (⟨x0, x1⟩ :: xs) now = false from decide_eq_false hd, show rpopL (⟨x0, x1⟩ :: xs) now = ⟨x0, x1⟩ :: xs from if_neg hd]
      unfold tval
      clear h h1 h2 h3 Q hd hn hn' hi0 hE hl
      go_enter Try.func18, Try.ntmps18
      go_wp2
      refine bodyPost_ret (results_cell2 rfl _ _ w.heap.size TR #[.int .i64 0, .int .i64 0] (0, 0) _ rfl (blk_new w (robj ⟨0, 0⟩)) Try.underlying54 rfl (by kernel_rfl)) rfl ?_
      exact ⟨rfl, HQ.out _ (below_alloc (Below.refl _ _) _)⟩
end Go.Proofs.Ytjoemkmckabpjaa.Pr
