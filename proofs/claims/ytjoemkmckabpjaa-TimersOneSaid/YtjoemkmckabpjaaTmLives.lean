-- The document's examples.
import Derived.Test.YtjoemkmckabpjaaTmDoes
namespace Go.Proofs.Ytjoemkmckabpjaa.Pr
open Go.RowKit Go.Proofs.YtjoemkmckabpjaaW.PrintWords Go.Proofs.YtjoemkmckabpjaaW.PrintLast Go.Proofs.YtjoemkmckabpjaaW.PrintMore
set_option linter.unusedVariables false
set_option linter.unusedSimpArgs false
/-- A timer in a block that the queue has not. -/
def Box (w : World) (p mb : Nat) (v : Value) (b : Nat) (x : Tm) : Prop := w.heap[b]? = some (tobj x) ∧ ¬ PFoot p mb v b
theorem KRan.opened {W w' : World} {B q p mb : Nat} {v : Value} {ts' : List Tm} (k : KRan W B q p mb v ts' w') : ∃ v', KAt w' B q p mb v' ts' ∧ Below B W w' ∧ ∀ b x, Box W p mb v b x → Box w' p mb v' b x := by
  obtain ⟨v', h, b, kk, o⟩ := k
  refine ⟨v', h, b, fun b x ⟨hb, hn⟩ => ⟨blk_kept hb kk hn, fun hf => ?_⟩⟩
  rcases foot_of hf o with e | e
  · exact hn e
  · have := blk_lt hb
    omega
theorem Box.alloc {w : World} {p mb : Nat} {v : Value} {b : Nat} {x : Tm} (h : Box w p mb v b x) (o : Obj) : Box (w.alloc o) p mb v b x := ⟨blk_alloc h.1 o, h.2⟩
theorem Box.new {w : World} {B q p mb : Nat} {v : Value} {ts : List Tm} (h : KAt w B q p mb v ts) (x : Tm) : Box (w.alloc (tobj x)) p mb v w.heap.size x := ⟨blk_new w _, fun hf => by have := h.pile.foot_lt hf; omega⟩
theorem KAt.grown {w : World} {B q p mb : Nat} {v : Value} {ts : List Tm} (h : KAt w B q p mb v ts) (x : Tm) : KAt (w.alloc (tobj x)) B q p mb v ts := h.below (below_alloc (Below.refl _ _) _)
theorem set_small {B : Nat} {ts l : List Tm} (h : Rel ts l) (hj : InjT ts) {kind : Int} (hk : okI kind) (due : Int) (hl : l.length < 64) : ∃ ts', Rel ts' (insT ⟨due, kind⟩ (wo l kind)) ∧ PCall B 14 [.int .i64 kind, .int .i64 due] ts (.int .i64 0) ts' := by
  obtain ⟨c, ts', l', hr, hp, _, hc⟩ := set_both (B := B) h hj hk due
  rcases hc with ⟨rfl, rfl⟩ | ⟨_, _, _, h64, _⟩
  · exact ⟨ts', hr, hp⟩
  · omega
theorem pop_one {B : Nat} {ts l : List Tm} (h : Rel ts l) (now : Int) : ∃ ts', Rel ts' (rpopL l now) ∧ PCall B 10 [.int .i64 now] ts (.tuple #[tval (rpopT l now), .bool (rpopB l now)]) ts' := by
  obtain ⟨ts', hr, hp, _⟩ := pop_both (B := B) h now
  exact ⟨ts', hr, hp⟩
theorem PCall.go {B : Nat} {f : FuncId} {xs : List Value} {ts ts2 : List Tm} {y : Value} (h : PCall B f xs ts y ts2) {w : World} {q p mb : Nat} {v : Value} (hK : KAt w B q p mb v ts) : Calls Try.prog f (.pointer (some ⟨q, 0, none⟩) :: xs).toArray w fun e w' => e = .returned y ∧ KRan w B q p mb v ts2 w' := h w q p mb v hK
theorem inj_of {ts l : List Tm} (h : ts.Perm l) (hn : (l.map (·.f1)).Nodup) : InjT ts := by
  have hm : (ts.map (·.f1)).Nodup := (h.map _).nodup_iff.mpr hn
  intro i j hi hj e
  rw [bang_get hi, bang_get hj] at e
  exact (List.getElem_inj (h₀ := by simpa using hi) (h₁ := by simpa using hj) hm).mp (by simpa using e)
set_option maxRecDepth 100000 in
set_option maxHeartbeats 8000000 in
theorem lives_calls (w : World) : Calls Try.prog 12 #[] w fun e w' => e = .returned (.bool true) ∧ Below w.heap.size w w' := by
  have HN := Lib.hid (new_calls w w.heap.size (Nat.le_refl _))
  have r0 := Rel.empty
  obtain ⟨t1, r1, c1⟩ := set_small (B := w.heap.size) r0 (inj_of r0.perm (by decide)) (kind := 1) (by unfold okI; decide) 9 (by decide)
  rw [show insT ⟨9, 1⟩ (wo ([] : List Tm) 1) = ([⟨9, 1⟩] : List Tm) from by decide] at r1
  obtain ⟨t2, r2, c2⟩ := set_small (B := w.heap.size) r1 (inj_of r1.perm (by decide)) (kind := 2) (by unfold okI; decide) 5 (by decide)
  rw [show insT ⟨5, 2⟩ (wo ([⟨9, 1⟩] : List Tm) 2) = ([⟨5, 2⟩, ⟨9, 1⟩] : List Tm) from by decide] at r2
  obtain ⟨t3, r3, c3⟩ := set_small (B := w.heap.size) r2 (inj_of r2.perm (by decide)) (kind := 3) (by unfold okI; decide) 5 (by decide)
  rw [show insT ⟨5, 3⟩ (wo ([⟨5, 2⟩, ⟨9, 1⟩] : List Tm) 3) = ([⟨5, 2⟩, ⟨5, 3⟩, ⟨9, 1⟩] : List Tm) from by decide] at r3
  obtain ⟨t4, r4, c4⟩ := pop_one (B := w.heap.size) r3 5
  rw [show rpopL ([⟨5, 2⟩, ⟨5, 3⟩, ⟨9, 1⟩] : List Tm) 5 = ([⟨5, 3⟩, ⟨9, 1⟩] : List Tm) from by decide] at r4
  rw [show rpopT ([⟨5, 2⟩, ⟨5, 3⟩, ⟨9, 1⟩] : List Tm) 5 = ⟨5, 2⟩ from by decide, show rpopB ([⟨5, 2⟩, ⟨5, 3⟩, ⟨9, 1⟩] : List Tm) 5 = true from by decide] at c4
  unfold tval at c4
  obtain ⟨t5, r5, c5⟩ := pop_one (B := w.heap.size) r4 5
  rw [show rpopL ([⟨5, 3⟩, ⟨9, 1⟩] : List Tm) 5 = ([⟨9, 1⟩] : List Tm) from by decide] at r5
  rw [show rpopT ([⟨5, 3⟩, ⟨9, 1⟩] : List Tm) 5 = ⟨5, 3⟩ from by decide, show rpopB ([⟨5, 3⟩, ⟨9, 1⟩] : List Tm) 5 = true from by decide] at c5
  unfold tval at c5
  obtain ⟨t6, r6, c6⟩ := pop_one (B := w.heap.size) r5 5
  rw [show rpopL ([⟨9, 1⟩] : List Tm) 5 = ([⟨9, 1⟩] : List Tm) from by decide] at r6
  rw [show rpopT ([⟨9, 1⟩] : List Tm) 5 = ⟨0, 0⟩ from by decide, show rpopB ([⟨9, 1⟩] : List Tm) 5 = false from by decide] at c6
  unfold tval at c6
  obtain ⟨t7, r7, c7⟩ := set_small (B := w.heap.size) r6 (inj_of r6.perm (by decide)) (kind := 1) (by unfold okI; decide) 4 (by decide)
  rw [show insT ⟨4, 1⟩ (wo ([⟨9, 1⟩] : List Tm) 1) = ([⟨4, 1⟩] : List Tm) from by decide] at r7
  obtain ⟨t8, r8, c8⟩ := pop_one (B := w.heap.size) r7 5
  rw [show rpopL ([⟨4, 1⟩] : List Tm) 5 = ([] : List Tm) from by decide] at r8
  rw [show rpopT ([⟨4, 1⟩] : List Tm) 5 = ⟨4, 1⟩ from by decide, show rpopB ([⟨4, 1⟩] : List Tm) 5 = true from by decide] at c8
  unfold tval at c8
  have hlen : t8.length = 0 := r8.perm.length_eq
  have C1 := Lib.hid c1
  have C2 := Lib.hid c2
  have C3 := Lib.hid c3
  have C4 := Lib.hid c4
  have C5 := Lib.hid c5
  have C6 := Lib.hid c6
  have C7 := Lib.hid c7
  have C8 := Lib.hid c8
  have HLE := Lib.hid hlen
  clear r0 r1 r2 r3 r4 r5 r6 r7 r8 c1 c2 c3 c4 c5 c6 c7 c8 hlen
  go_enter Try.func12, Try.ntmps12
  go_wp2_with (first | (go_at_call 7; refine HN.out.mono ?_; rintro e w0 ⟨q, p, mb, v0, rfl, hk0, hb0⟩; have K0 := Lib.hid hk0; have B0 := Lib.hid hb0; clear hk0 hb0) | (go_at_call 14; (with_reducible refine (C1.out.go K0.out).mono ?_); rintro e w1 ⟨rfl, hr⟩; obtain ⟨v1, hk, hb, hx⟩ := hr.opened; have B1 := Lib.hid (B0.out.trans hb); have K1 := Lib.hid hk; clear hk hb hx hr) | (go_at_call 14; (with_reducible refine (C2.out.go K1.out).mono ?_); rintro e w2 ⟨rfl, hr⟩; obtain ⟨v2, hk, hb, hx⟩ := hr.opened; have B2 := Lib.hid (B1.out.trans hb); have K2 := Lib.hid hk; clear hk hb hx hr) | (go_at_call 14; (with_reducible refine (C3.out.go K2.out).mono ?_); rintro e w3 ⟨rfl, hr⟩; obtain ⟨v3, hk, hb, hx⟩ := hr.opened; have B3 := Lib.hid (B2.out.trans hb); have K3 := Lib.hid hk; clear hk hb hx hr) | (go_at_call 10; (with_reducible refine (C4.out.go K3.out).mono ?_); rintro e w4 ⟨rfl, hr⟩; obtain ⟨v4, hk, hb, hx⟩ := hr.opened; have B4 := Lib.hid (B3.out.trans hb); have K4 := Lib.hid (hk.grown ⟨5, 2⟩); have X4 := Lib.hid (Box.new hk ⟨5, 2⟩); have D4 := Lib.hid (below_alloc B4.out (tobj ⟨5, 2⟩)); clear hk hb hx hr) | (go_at_call 10; (with_reducible refine (C5.out.go K4.out).mono ?_); rintro e w5 ⟨rfl, hr⟩; obtain ⟨v5, hk, hb, hx⟩ := hr.opened; have B5 := Lib.hid (D4.out.trans hb); have X4' := Lib.hid (hx _ _ X4.out); have K5 := Lib.hid (hk.grown ⟨5, 3⟩); have X5 := Lib.hid (Box.new hk ⟨5, 3⟩); have D5 := Lib.hid (below_alloc B5.out (tobj ⟨5, 3⟩)); have X4'a := Lib.hid (X4'.out.alloc (tobj ⟨5, 3⟩)); clear hk hb hx hr) | (go_at_call 10; (with_reducible refine (C6.out.go K5.out).mono ?_); rintro e w6 ⟨rfl, hr⟩; obtain ⟨v6, hk, hb, hx⟩ := hr.opened; have B6 := Lib.hid (D5.out.trans hb); have X4'a' := Lib.hid (hx _ _ X4'a.out); have X5' := Lib.hid (hx _ _ X5.out); have K6 := Lib.hid (hk.grown ⟨0, 0⟩); have X6 := Lib.hid (Box.new hk ⟨0, 0⟩); have D6 := Lib.hid (below_alloc B6.out (tobj ⟨0, 0⟩)); have X4'a'a := Lib.hid (X4'a'.out.alloc (tobj ⟨0, 0⟩)); have X5'a := Lib.hid (X5'.out.alloc (tobj ⟨0, 0⟩)); clear hk hb hx hr) | (go_at_call 14; (with_reducible refine (C7.out.go K6.out).mono ?_); rintro e w7 ⟨rfl, hr⟩; obtain ⟨v7, hk, hb, hx⟩ := hr.opened; have B7 := Lib.hid (D6.out.trans hb); have X4'a'a' := Lib.hid (hx _ _ X4'a'a.out); have X5'a' := Lib.hid (hx _ _ X5'a.out); have X6' := Lib.hid (hx _ _ X6.out); have K7 := Lib.hid hk; clear hk hb hx hr) | (go_at_call 10; (with_reducible refine (C8.out.go K7.out).mono ?_); rintro e w8 ⟨rfl, hr⟩; obtain ⟨v8, hk, hb, hx⟩ := hr.opened; have B8 := Lib.hid (B7.out.trans hb); have X4'a'a'' := Lib.hid (hx _ _ X4'a'a'.out); have X5'a'' := Lib.hid (hx _ _ X5'a'.out); have X6'' := Lib.hid (hx _ _ X6'.out); have K8 := Lib.hid (hk.grown ⟨4, 1⟩); have X8 := Lib.hid (Box.new hk ⟨4, 1⟩); have D8 := Lib.hid (below_alloc B8.out (tobj ⟨4, 1⟩)); have X4'a'a''a := Lib.hid (X4'a'a''.out.alloc (tobj ⟨4, 1⟩)); have X5'a''a := Lib.hid (X5'a''.out.alloc (tobj ⟨4, 1⟩)); have X6''a := Lib.hid (X6''.out.alloc (tobj ⟨4, 1⟩)); obtain ⟨y00, y01, _, _⟩ := tobj_cells X4'a'a''a.out.1; obtain ⟨y10, y11, _, _⟩ := tobj_cells X5'a''a.out.1; obtain ⟨y20, y21, _, _⟩ := tobj_cells X6''a.out.1; obtain ⟨y30, y31, _, _⟩ := tobj_cells X8.out.1; clear hk hb hx hr) | (go_at_call 9; refine (qlen_calls _ _ q p mb _ _ K8.out).mono ?_; rintro e w9 ⟨rfl, rfl⟩; rw [HLE.out]))
  go_ret
  exact ⟨rfl, D8.out⟩
end Go.Proofs.Ytjoemkmckabpjaa.Pr
