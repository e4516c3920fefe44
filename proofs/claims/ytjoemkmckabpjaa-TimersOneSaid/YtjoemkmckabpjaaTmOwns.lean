-- The law TimersOwns, walked.
import Derived.Test.YtjoemkmckabpjaaTmDeed
namespace Go.Proofs.Ytjoemkmckabpjaa.Pr
open Go.RowKit Go.Proofs.YtjoemkmckabpjaaW.PrintWords Go.Proofs.YtjoemkmckabpjaaW.PrintLast Go.Proofs.YtjoemkmckabpjaaW.PrintMore
set_option linter.unusedVariables false
set_option linter.unusedSimpArgs false
set_option maxRecDepth 100000 in
set_option maxHeartbeats 8000000 in
theorem owns_walk (w : World) (A0 : Option Addr) (c0 : Nat) (l0 : List Deed) (hr0 : Kd.C kDeed w A0 l0.length l0) (hc0 : l0.length ≤ c0) (hok : ∀ d ∈ l0, okDeed d) :
    Calls Try.prog 6 #[.slice A0 l0.length c0] w fun e w' => e = .returned (.bool true) ∧ Below w.heap.size w w' := by
  have HN := Lib.hid (new_calls w w.heap.size (Nat.le_refl _))
  have HR0 := Lib.hid hr0
  have HOK := Lib.hid hok
  clear hr0 hok
  go_enter Try.func6, Try.ntmps6
  go_wp2_with (go_at_call 7; refine HN.out.mono ?_; rintro e w1 ⟨q, p, mb, v0, rfl, hk0, hb0⟩; have K0 := Lib.hid hk0; have B0 := Lib.hid hb0; clear hk0 hb0)
  clear HN
  obtain ⟨r, hr⟩ : ∃ r, r = w1.heap.size := ⟨_, rfl⟩
  have T1 := Lib.hid (show Two (w1.alloc (.cells #[.slice none 0 0] 28 (0, 0))) w.heap.size q p mb v0 r [] [] from ⟨K0.out.below (below_alloc (Below.refl _ _) _), .slice none 0 0, by rw [hr]; exact RAt.empty B0.out.size⟩)
  have B1 := Lib.hid (below_alloc B0.out (.cells #[.slice none 0 0] 28 (0, 0)))
  rw [← hr]
  generalize w1.alloc (.cells #[.slice none 0 0] 28 (0, 0)) = w2 at T1 B1 ⊢
  clear hr K0 B0
  go_loopg [5] 61 (fun kq v5 w' => ∃ (i : Nat) (v : Value) (ts l : List Tm), v5 = .int .i64 i ∧ Hid (kq = 61 - i) ∧ Hid (i ≤ 60) ∧ Hid (Two w' w.heap.size q p mb v r ts l) ∧ Hid (Rel ts l) ∧ Hid (Below w.heap.size w w'))
  case atStart => exact ⟨0, v0, [], [], rfl, Lib.hid rfl, Lib.hid (by omega), T1, Lib.hid Rel.empty, B1⟩
  case round =>
    clear T1 B1
    obtain ⟨i, v, ts, l, rfl, HKq, HI, HT, HR, HB⟩ := hrel
    by_cases hi : i < l0.length ∧ i < 60
    · have d1 : decide ((i : Int) < (l0.length : Int)) = true := decide_eq_true (by omega)
      have d2 : decide (i < l0.length) = true := decide_eq_true hi.1
      have d3 : decide ((i : Int) < 60) = true := decide_eq_true (by omega)
      have d4 : decide (i < 60) = true := decide_eq_true hi.2
      have wrapI : wrap64 ((i : Int) + 1) = ((i + 1 : Nat) : Int) := by unfold wrap64; omega
      obtain ⟨ad, rfl, i0, i1, i2⟩ := at_Deed (Kd.C_below HR0.out HB.out) i hi.1 rfl
      have hok := (HOK.out _ (deed_mem hi.1)).2.1
      obtain ⟨⟨o, k, d⟩, hx⟩ : ∃ x, x = l0[i]! := ⟨_, rfl⟩
      rw [← hx] at i0 i1 i2 hok
      have q1 : (0 : Int) ≤ (i : Int) := by omega
      have q2 : (i : Int) < (l0.length : Int) := by omega
      have HDo := Lib.hid (does_calls wr w.heap.size q p mb v r ts l o k d hok HT.out HR.out)
      have HI2 := Lib.hid hi
      clear hx hok hi
      go_wp2_with (go_at_call 8; refine HDo.out.mono ?_; rintro e w4 ⟨rfl, ts', l', hr', hd'⟩; obtain ⟨v', ht', hb', _, _⟩ := hd'; have HR4 := Lib.hid hr'; have HT4 := Lib.hid ht'; have HB4 := Lib.hid (HB.out.trans hb'); clear hr' ht' hb')
      go_roundg (61 - (i + 1))
      case measure => have := HKq.out; have := HI2.out; omega
      case rel => exact ⟨i + 1, v', ts', l', by first | rfl | exact congrArg _ wrapI, Lib.hid rfl, Lib.hid (by have := HI2.out; omega), HT4, HR4, HB4⟩
    · have hcase : (decide (i < l0.length) = false) ∨ (decide (i < l0.length) = true ∧ decide (i < 60) = false) := by
        by_cases h1 : i < l0.length
        · exact .inr ⟨decide_eq_true h1, decide_eq_false (fun h2 => hi ⟨h1, h2⟩)⟩
        · exact .inl (decide_eq_false h1)
      clear hi
      have hAll := all_calls wr w.heap.size q p mb v ts (by have := HR.out.len; omega) HT.out.k
      rw [HR.out.all] at hAll
      have HAl := Lib.hid hAll
      have HLn := Lib.hid (show l.length ≤ 64 by have := HR.out.len; have := HR.out.perm.length_eq; omega)
      clear hAll
      obtain ⟨W0, hW0⟩ : ∃ W0, W0 = wr := ⟨_, rfl⟩
      subst hW0
      rcases hcase with d2 | ⟨d2, d4⟩
      rotate_left
      have d1 : decide ((i : Int) < (l0.length : Int)) = true := decide_eq_true (by have := of_decide_eq_true d2; omega)
      have d3 : decide ((i : Int) < 60) = false := decide_eq_false (by have := of_decide_eq_false d4; omega)
      rotate_left
      have d1 : decide ((i : Int) < (l0.length : Int)) = false := decide_eq_false (by have := of_decide_eq_false d2; omega)
      all_goals
        go_wp2_with (go_at_call 15; refine HAl.out.mono ?_; rintro e w5 ⟨v5, rfl, hr5, hb5⟩; obtain ⟨A5, c5, rfl⟩ := hr5.len; have HR5 := Lib.hid hr5; have HB5 := Lib.hid hb5; clear hr5 hb5)
        go_loopg [7] (l.length + 1) (fun kq v7 w' => ∃ (j : Nat) (us : List Tm), v7 = .int .i64 j ∧ Hid (kq = l.length + 1 - j) ∧ Hid (j ≤ l.length) ∧ Hid (us.length = l.length) ∧ Hid (TRow w' W0.heap.size (.slice A5 l.length c5) us) ∧ Hid (Below W0.heap.size W0 w'))
        case atStart => exact ⟨0, l, rfl, Lib.hid rfl, Lib.hid (Nat.zero_le _), Lib.hid rfl, HR5, HB5⟩
        case round =>
          clear HR5 HB5
          obtain ⟨j, us, rfl, HKj, HJ, HUl, HU, HBj⟩ := hrel
          by_cases hj : j < l.length
          · have g1 : decide ((j : Int) < (l.length : Int)) = true := decide_eq_true (by omega)
            have g2 : decide (j < l.length) = true := decide_eq_true hj
            have wrapJ : wrap64 ((j : Int) + 1) = ((j + 1 : Nat) : Int) := by have := HLn.out; unfold wrap64; omega
            have hul := HUl.out
            obtain ⟨g, c3, cur, e, hgB, hg, hlc, hcm, hcur⟩ := HU.out.form (by omega)
            injection e with e e4 e3
            subst e
            subst e3
            have hj' : j < us.length := by omega
            have hU := HU.out
            rw [← hul] at hU
            obtain ⟨k0, k1, kf0, kf1⟩ := hU.cells hj'
            obtain ⟨y0, hy0⟩ : ∃ y, wr.cell? ⟨g, j * 2, none⟩ = some (.int .i64 y) := ⟨_, k0⟩
            obtain ⟨y1, hy1⟩ : ∃ y, wr.cell? ⟨g, j * 2 + 1, none⟩ = some (.int .i64 y) := ⟨_, k1⟩
            have hP := hU.put j ⟨-7, 7⟩
            rw [List.length_set, hul] at hP
            have hN : (us.set j (⟨-7, 7⟩ : Tm)).length = l.length := by rw [List.length_set, hul]
            have hBn := (HBj.out.setCell (p := ⟨g, j * 2, none⟩) hgB (.int .i64 (-7))).setCell (p := ⟨g, j * 2 + 1, none⟩) hgB (.int .i64 7)
            have HPP := Lib.hid hP
            have HNN := Lib.hid hN
            have HBn := Lib.hid hBn
            have HJ2 := Lib.hid hj
            have q1 : (0 : Int) ≤ (j : Int) := by omega
            have q2 : (j : Int) < (l.length : Int) := by omega
            clear e4 hP hN hBn k0 k1 hU hj' hcur hg hlc hcm hul hj hgB
            go_wp2
            go_roundg (l.length + 1 - (j + 1))
            case measure => have := HKj.out; have := HJ2.out; omega
            case rel => exact ⟨j + 1, us.set j ⟨-7, 7⟩, by first | rfl | exact congrArg _ wrapJ, Lib.hid rfl, Lib.hid HJ2.out, HNN, HPP, HBn⟩
          · have g1 : decide ((j : Int) < (l.length : Int)) = false := decide_eq_false (by omega)
            have g2 : decide (j < l.length) = false := decide_eq_false hj
            have HLk := Lib.hid (like_calls wr w.heap.size q p mb v r ts l (HT.out.below HBj.out) HR.out)
            have HBz := Lib.hid (below_step HB.out HBj.out)
            clear hj
            go_wp2_with (first | (go_at_call 13; refine HLk.out.mono ?_; rintro e w5 ⟨rfl, hb5⟩; have HB5 := Lib.hid (below_step HBz.out hb5); clear hb5) | (go_at_call 12; refine (lives_calls _).mono ?_; rintro e w6 ⟨rfl, hb6⟩; have HB6 := Lib.hid (below_step HB5.out hb6); clear hb6))
            go_ret
            exact ⟨rfl, HB6.out⟩
end Go.Proofs.Ytjoemkmckabpjaa.Pr
