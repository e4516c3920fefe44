-- The law TimersInOrder, walked.
import Derived.Test.YtjoemkmckabpjaaTmOwns
namespace Go.Proofs.Ytjoemkmckabpjaa.Pr
open Go.RowKit Go.Proofs.YtjoemkmckabpjaaW.PrintWords Go.Proofs.YtjoemkmckabpjaaW.PrintLast Go.Proofs.YtjoemkmckabpjaaW.PrintMore
set_option linter.unusedVariables false
set_option linter.unusedSimpArgs false
theorem KAt.boxed {w : World} {B q p mb : Nat} {v : Value} {ts : List Tm} {b : Nat} {z : Tm} (h : KAt w B q p mb v ts) (x : Box w p mb v b z) (u0 u1 : Value) : KAt ((w.setCell ⟨b, 0, none⟩ u0).setCell ⟨b, 1, none⟩ u1) B q p mb v ts := by
  have hq : q ≠ b := fun e => by
    have h1 := h.blk
    rw [e] at h1
    have := Option.some.inj (h1.symm.trans x.1)
    injection this with _ h3 _
    exact absurd h3 (by decide)
  exact (h.same (Below.heap_setCell _ _ _ q hq) (fun j hj => Below.heap_setCell _ _ _ j (fun e => x.2 (by rw [show b = j from e.symm]; exact hj)))).same (Below.heap_setCell _ _ _ q hq) (fun j hj => Below.heap_setCell _ _ _ j (fun e => x.2 (by rw [show b = j from e.symm]; exact hj)))
theorem Box.put {w : World} {p mb : Nat} {v : Value} {b : Nat} {z : Tm} (x : Box w p mb v b z) (t : Tm) : Box ((w.setCell ⟨b, 0, none⟩ (.int .i64 t.f0)).setCell ⟨b, 1, none⟩ (.int .i64 t.f1)) p mb v b t := ⟨tstore x.1 t, x.2⟩
theorem pop_cases (l : List Tm) (now : Int) : (∃ y ys, l = y :: ys ∧ y.f0 ≤ now) ∨ (rpopB l now = false ∧ rpopT l now = ⟨0, 0⟩ ∧ rpopL l now = l ∧ (l = [] ∨ ∃ y ys, l = y :: ys ∧ now < y.f0)) := by
  cases l with
  | nil => exact .inr ⟨rfl, rfl, rfl, .inl rfl⟩
  | cons y ys =>
    by_cases hd : y.f0 ≤ now
    · exact .inl ⟨y, ys, rfl, hd⟩
    · exact .inr ⟨decide_eq_false hd, if_neg hd, if_neg hd, .inr ⟨y, ys, rfl, by omega⟩⟩
set_option maxRecDepth 100000 in
set_option maxHeartbeats 8000000 in
theorem inorder_walk (w : World) (A0 : Option Addr) (c0 : Nat) (l0 : List Deed) (now : Int) (hr0 : Kd.C kDeed w A0 l0.length l0) (hc0 : l0.length ≤ c0) (hok : ∀ d ∈ l0, okDeed d) :
    Calls Try.prog 3 #[.slice A0 l0.length c0, .int .i64 now] w fun e w' => e = .returned (.bool true) ∧ Below w.heap.size w w' := by
  have HN := Lib.hid (new_calls w w.heap.size (Nat.le_refl _))
  have HR0 := Lib.hid hr0
  have HOK := Lib.hid hok
  clear hr0 hok
  go_enter Try.func3, Try.ntmps3
  go_wp2_with (go_at_call 7; refine HN.out.mono ?_; rintro e w1 ⟨q, p, mb, v0, rfl, hk0, hb0⟩; have K0 := Lib.hid hk0; have B0 := Lib.hid hb0; clear hk0 hb0)
  clear HN
  obtain ⟨r, hr⟩ : ∃ r, r = w1.heap.size := ⟨_, rfl⟩
  have T1 := Lib.hid (show Two (w1.alloc (.cells #[.slice none 0 0] 28 (0, 0))) w.heap.size q p mb v0 r [] [] from ⟨K0.out.below (below_alloc (Below.refl _ _) _), .slice none 0 0, by rw [hr]; exact RAt.empty B0.out.size⟩)
  have B1 := Lib.hid (below_alloc B0.out (.cells #[.slice none 0 0] 28 (0, 0)))
  rw [← hr]
  generalize w1.alloc (.cells #[.slice none 0 0] 28 (0, 0)) = w2 at T1 B1 ⊢
  clear hr K0 B0
  go_loopg [7] 101 (fun kq v7 w' => ∃ (i : Nat) (v : Value) (ts l : List Tm), v7 = .int .i64 i ∧ Hid (kq = 101 - i) ∧ Hid (i ≤ 100) ∧ Hid (Two w' w.heap.size q p mb v r ts l) ∧ Hid (Rel ts l) ∧ Hid (Below w.heap.size w w'))
  case atStart => exact ⟨0, v0, [], [], rfl, Lib.hid rfl, Lib.hid (by omega), T1, Lib.hid Rel.empty, B1⟩
  case round =>
    clear T1 B1
    obtain ⟨i, v, ts, l, rfl, HKq, HI, HT, HR, HB⟩ := hrel
    by_cases hi : i < l0.length ∧ i < 100
    · have d1 : decide ((i : Int) < (l0.length : Int)) = true := decide_eq_true (by omega)
      have d2 : decide (i < l0.length) = true := decide_eq_true hi.1
      have d3 : decide ((i : Int) < 100) = true := decide_eq_true (by omega)
      have d4 : decide (i < 100) = true := decide_eq_true hi.2
      have wrapI : wrap64 ((i : Int) + 1) = ((i + 1 : Nat) : Int) := by unfold wrap64; omega
      obtain ⟨ad, rfl, i0, i1, i2⟩ := at_Deed (Kd.C_below HR0.out HB.out) i hi.1 rfl
      have hok := (HOK.out _ (deed_mem hi.1)).2.1
      obtain ⟨⟨o, k, d⟩, hx⟩ : ∃ x, x = l0[i]! := ⟨_, rfl⟩
      rw [← hx] at i0 i1 i2 hok
      have q1 : (0 : Int) ≤ (i : Int) := by omega
      have q2 : (i : Int) < (l0.length : Int) := by omega
      have HDo := Lib.hid (does_calls wr w.heap.size q p mb v r ts l o k d hok HT.out HR.out)
      have HI2 := Lib.hid hi
      clear hx hok hi
      go_wp2_with (go_at_call 8; refine HDo.out.mono ?_; rintro e w4 ⟨rfl, ts', l', hr', hd'⟩; obtain ⟨v', ht', hb', _, _⟩ := hd'; have HR4 := Lib.hid hr'; have HT4 := Lib.hid ht'; have HB4 := Lib.hid (HB.out.trans hb'); clear hr' ht' hb')
      go_roundg (101 - (i + 1))
      case measure => have := HKq.out; have := HI2.out; omega
      case rel => exact ⟨i + 1, v', ts', l', by first | rfl | exact congrArg _ wrapI, Lib.hid rfl, Lib.hid (by have := HI2.out; omega), HT4, HR4, HB4⟩
    · have hcase : (decide (i < l0.length) = false) ∨ (decide (i < l0.length) = true ∧ decide (i < 100) = false) := by
        by_cases h1 : i < l0.length
        · exact .inr ⟨decide_eq_true h1, decide_eq_false (fun h2 => hi ⟨h1, h2⟩)⟩
        · exact .inl (decide_eq_false h1)
      clear hi
      have HLe := Lib.hid (qlen_calls wr w.heap.size q p mb v ts HT.out.k)
      obtain ⟨W0, hW0⟩ : ∃ W0, W0 = wr := ⟨_, rfl⟩
      subst hW0
      rcases hcase with d2 | ⟨d2, d4⟩
      rotate_left
      have d1 : decide ((i : Int) < (l0.length : Int)) = true := decide_eq_true (by have := of_decide_eq_true d2; omega)
      have d3 : decide ((i : Int) < 100) = false := decide_eq_false (by have := of_decide_eq_false d4; omega)
      rotate_left
      have d1 : decide ((i : Int) < (l0.length : Int)) = false := decide_eq_false (by have := of_decide_eq_false d2; omega)
      all_goals
        go_wp2_with (go_at_call 9; refine HLe.out.mono ?_; rintro e w5 ⟨rfl, hw5⟩; rw [hw5]; clear hw5)
        have K1 := Lib.hid (HT.out.k.grown ⟨0, 0⟩)
        have X1 := Lib.hid (Box.new HT.out.k ⟨0, 0⟩)
        have B1 := Lib.hid (below_alloc HB.out (tobj ⟨0, 0⟩))
        have HNl := Lib.hid (show ts.length = l.length from HR.out.perm.length_eq)
        have HN64 := Lib.hid (show l.length ≤ 64 by have := HR.out.len; have := HR.out.perm.length_eq; omega)
        rw [HNl.out]
        have hbz := HB.out.size
        generalize hb : W0.heap.size = b at X1 hbz ⊢
        have HBz := Lib.hid hbz
        clear hb hbz
        go_loopg [10] 66 (fun kq v10 w' => ∃ (j : Nat) (x : Tm) (v : Value) (us li : List Tm), v10 = .int .i64 j ∧ Hid (kq = 66 - j) ∧ Hid (li.length + j = l.length) ∧ Hid (KAt w' w.heap.size q p mb v us) ∧ Hid (Rel us li) ∧ Hid (Box w' p mb v b x) ∧ Hid (0 < j → ∀ y ∈ li, tless x y = true) ∧ Hid (Below w.heap.size w w'))
        case atStart => exact ⟨0, ⟨0, 0⟩, v, ts, l, rfl, Lib.hid rfl, Lib.hid rfl, K1, HR, X1, Lib.hid (fun h => absurd h (by omega)), B1⟩
        case round =>
          clear K1 X1 B1
          obtain ⟨j, x, v, us, li, rfl, HKj, HJ, HK, HRj, HX, HS, HBj⟩ := hrel
          have g1 : decide ((j : Int) ≤ 64) = true := decide_eq_true (by have := HJ.out; have := HN64.out; omega)
          have g2 : decide (j ≤ 64) = true := decide_eq_true (by have := HJ.out; have := HN64.out; omega)
          obtain ⟨us', hr', hp⟩ := pop_one (B := w.heap.size) HRj.out now
          rcases pop_cases li now with ⟨y, ys, rfl, hd⟩ | ⟨e2, e1, e3, hf⟩
          · rw [show rpopT (y :: ys) now = y from if_pos hd, show rpopB (y :: ys) now = true from decide_eq_true hd] at hp
            rw [show rpopL (y :: ys) now = ys from if_pos hd] at hr'
            have hlt : 0 < j → tless x y = true := fun h => HS.out h y (by simp)
            have hso := List.pairwise_cons.mp HRj.out.sorted
            obtain ⟨y0, y1⟩ := y
            obtain ⟨x0, x1⟩ := x
            unfold tval at hp
            have HP := Lib.hid hp
            have HR5 := Lib.hid hr'
            have HSo := Lib.hid hso.1
            have n0 : decide (now < y0) = false := decide_eq_false (by simpa using hd)
            have HJl := Lib.hid (show ys.length + (j + 1) = l.length by have := HJ.out; rw [List.length_cons] at this; omega)
            have wrapJ : wrap64 ((j : Int) + 1) = ((j + 1 : Nat) : Int) := by have := HJ.out; have := HN64.out; unfold wrap64; omega
            have hc : (decide ((0 : Int) < (j : Int)) = false ∧ decide (0 < j) = false) ∨ ((decide ((0 : Int) < (j : Int)) = true ∧ decide (0 < j) = true) ∧ ((decide (y0 < x0) = false ∧ (y0 == x0) = false) ∨ (decide (y0 < x0) = false ∧ (y0 == x0) = true ∧ decide (y1 ≤ x1) = false))) := by
              by_cases h0 : 0 < j
              · have h1 : x0 < y0 ∨ (x0 = y0 ∧ x1 < y1) := (tless_iff _ _).mp (hlt h0)
                refine .inr ⟨⟨decide_eq_true (by omega), decide_eq_true h0⟩, ?_⟩
                rcases h1 with h1 | ⟨h1, h2⟩
                · exact .inl ⟨decide_eq_false (by omega), beq_eq_false_iff_ne.mpr (by intro e; rw [e] at h1; exact Int.lt_irrefl _ h1)⟩
                · exact .inr ⟨decide_eq_false (by omega), beq_iff_eq.mpr h1.symm, decide_eq_false (by omega)⟩
              · exact .inl ⟨decide_eq_false (by omega), decide_eq_false h0⟩
            clear hlt hso hd hp hr'
            rcases hc with ⟨c0, c1⟩ | ⟨⟨c0, c1⟩, ⟨c2, c3⟩ | ⟨c2, c3, c4⟩⟩
            all_goals
              go_wp2_with (go_at_call 10; (with_reducible refine (HP.out.go HK.out).mono ?_); rintro e w5 ⟨rfl, hr⟩; obtain ⟨v5, hk, hb, hx⟩ := hr.opened; have K5 := Lib.hid (hk.grown ⟨y0, y1⟩); have X5 := Lib.hid ((hx _ _ HX.out).alloc (tobj ⟨y0, y1⟩)); have B5 := Lib.hid (below_alloc (HBj.out.trans hb) (tobj ⟨y0, y1⟩)); obtain ⟨a0, a1, af0, af1⟩ := tobj_cells X5.out.1; obtain ⟨t0, t1, _, _⟩ := tobj_cells (blk_new w5 (tobj ⟨y0, y1⟩)); clear hk hb hx hr)
              go_roundg (66 - (j + 1))
              case measure => have := HKj.out; have := HJl.out; have := HN64.out; omega
              case rel => exact ⟨j + 1, ⟨y0, y1⟩, v5, us', ys, by first | rfl | exact congrArg _ wrapJ, Lib.hid rfl, HJl, Lib.hid (K5.out.boxed X5.out _ _), HR5, Lib.hid (X5.out.put ⟨y0, y1⟩), Lib.hid (fun _ => HSo.out), Lib.hid ((B5.out.setCell (p := ⟨b, 0, none⟩) HBz.out _).setCell (p := ⟨b, 1, none⟩) HBz.out _)⟩
          · rw [e1, e2] at hp
            rw [e3] at hr'
            unfold tval at hp
            have HP := Lib.hid hp
            have hul : us'.length = li.length := hr'.perm.length_eq
            have w1 : wrap64 ((l.length : Int) - (j : Int)) = (li.length : Int) := by have := HJ.out; have := HN64.out; unfold wrap64; omega
            have HUl := Lib.hid hul
            have HR5 := Lib.hid hr'
            have h0 : (us' = [] ∧ li = []) ∨ ∃ y ys, li = y :: ys ∧ us'[0]! = y ∧ 0 < us'.length ∧ now < y.f0 := by
              rcases hf with rfl | ⟨y, ys, rfl, hy⟩
              · exact .inl ⟨List.eq_nil_of_length_eq_zero hul, rfl⟩
              · obtain ⟨a, c⟩ := hr'.first rfl
                exact .inr ⟨y, ys, rfl, a, c, hy⟩
            clear e1 e2 e3 hp hr' hul hf
            have HF := Lib.hid (fun V v (hV : KAt V w.heap.size q p mb v us') => first_calls V w.heap.size q p mb v us' hV)
            have HLe2 := Lib.hid (fun V v (hV : KAt V w.heap.size q p mb v us') => qlen_calls V w.heap.size q p mb v us' hV)
            rcases h0 with ⟨e1, e2⟩ | ⟨y, ys, e1, e2, e3, e4⟩
            · have hF := HF.out
              have hL := HLe2.out
              rw [e1, show ([] : List Tm)[0]! = ⟨0, 0⟩ from rfl, show decide (0 < ([] : List Tm).length) = false from rfl] at hF
              rw [HUl.out] at hL
              unfold tval at hF
              rw [e1] at HP hL
              have HF := Lib.hid hF
              have HLe2 := Lib.hid hL
              clear hF hL e1 e2
              go_wp2_with (first | (go_at_call 10; (with_reducible refine (HP.out.go HK.out).mono ?_); rintro e w5 ⟨rfl, hr⟩; obtain ⟨v5, hk, hb, hx⟩ := hr.opened; have K5 := Lib.hid (hk.grown ⟨0, 0⟩); have B5 := Lib.hid (below_alloc (HBj.out.trans hb) (tobj ⟨0, 0⟩)); clear hk hb hx hr) | (go_at_call 11; (with_reducible refine (HF.out _ _ K5.out).mono ?_); rintro e w6 ⟨rfl, hb6⟩; have K6 := Lib.hid ((K5.out.below hb6).grown ⟨0, 0⟩); have B6 := Lib.hid (below_alloc (below_step B5.out hb6) (tobj ⟨0, 0⟩)); clear hb6) | (go_at_call 9; (with_reducible refine (HLe2.out _ _ K6.out).mono ?_); rintro e w7 ⟨rfl, hw7⟩; rw [hw7]; clear hw7) | (go_at_call 12; refine (lives_calls _).mono ?_; rintro e w8 ⟨rfl, hb8⟩; have HB8 := Lib.hid (below_step B6.out hb8); clear hb8))
              go_ret
              exact ⟨rfl, HB8.out⟩
            · have hF := HF.out
              have hL := HLe2.out
              obtain ⟨y0, y1⟩ := y
              rw [e2, decide_eq_true e3] at hF
              rw [HUl.out] at hL
              unfold tval at hF
              have HF := Lib.hid hF
              have HLe2 := Lib.hid hL
              have n1 : decide (now < y0) = true := decide_eq_true e4
              clear hF hL e1 e2 e3 e4
              go_wp2_with (first | (go_at_call 10; (with_reducible refine (HP.out.go HK.out).mono ?_); rintro e w5 ⟨rfl, hr⟩; obtain ⟨v5, hk, hb, hx⟩ := hr.opened; have K5 := Lib.hid (hk.grown ⟨0, 0⟩); have B5 := Lib.hid (below_alloc (HBj.out.trans hb) (tobj ⟨0, 0⟩)); clear hk hb hx hr) | (go_at_call 11; (with_reducible refine (HF.out _ _ K5.out).mono ?_); rintro e w6 ⟨rfl, hb6⟩; have K6 := Lib.hid ((K5.out.below hb6).grown ⟨y0, y1⟩); have B6 := Lib.hid (below_alloc (below_step B5.out hb6) (tobj ⟨y0, y1⟩)); obtain ⟨t0, t1, _, _⟩ := tobj_cells (blk_new w6 (tobj ⟨y0, y1⟩)); clear hb6) | (go_at_call 9; (with_reducible refine (HLe2.out _ _ K6.out).mono ?_); rintro e w7 ⟨rfl, hw7⟩; rw [hw7]; clear hw7) | (go_at_call 12; refine (lives_calls _).mono ?_; rintro e w8 ⟨rfl, hb8⟩; have HB8 := Lib.hid (below_step B6.out hb8); clear hb8))
              go_ret
              exact ⟨rfl, HB8.out⟩
end Go.Proofs.Ytjoemkmckabpjaa.Pr
