-- Has a queue what it must have?
import Derived.Test.YtjoemkmckabpjaaTmLives
namespace Go.Proofs.Ytjoemkmckabpjaa.Pr
open Go.RowKit Go.Proofs.YtjoemkmckabpjaaW.PrintWords Go.Proofs.YtjoemkmckabpjaaW.PrintLast Go.Proofs.YtjoemkmckabpjaaW.PrintMore
set_option linter.unusedVariables false
set_option linter.unusedSimpArgs false
theorem TRow.below {w w' : World} {B : Nat} {v : Value} {ts : List Tm} (h : TRow w B v ts) (hb : Below w.heap.size w w') : TRow w' B v ts := h.same (fun k hk => hb.block k (h.lt hk))
theorem drew_one (w : World) (n : Nat) : Below w.heap.size w (w.drewN n) := pw_below_drewN (Below.refl _ _) n
set_option maxRecDepth 100000 in
set_option maxHeartbeats 8000000 in
theorem like_calls (w : World) (B q p mb : Nat) (v : Value) (r : Nat) (ts l : List Tm) (hT : Two w B q p mb v r ts l) (hR : Rel ts l) :
    Calls Try.prog 13 #[.pointer (some ⟨q, 0, none⟩), .pointer (some ⟨r, 0, none⟩)] w fun e w' => e = .returned (.bool true) ∧ Below w.heap.size w w' := by
  have hlen := hR.perm.length_eq
  have h64 := hR.len
  have HAll := all_calls w B q p mb v ts (by omega) hT.k
  rw [hR.all] at HAll
  have HAll := Lib.hid HAll
  have HLn := Lib.hid (fun V (hV : Below w.heap.size w V) => qlen_calls V B q p mb v ts (hT.k.below hV))
  rw [hlen] at HLn
  have HF := fun V (hV : Below w.heap.size w V) => first_calls V B q p mb v ts (hT.k.below hV)
  obtain ⟨u, hd⟩ := hT.d
  obtain ⟨A, c, rfl, hc⟩ := hd.row
  have HD := Lib.hid hd
  have HL := Lib.hid (show l.length ≤ 64 by omega)
  have hf0 : 0 < l.length → ts[0]! = l[0]! := fun h0 => by
    cases l with
    | nil => simp at h0
    | cons x xs => exact (hR.first rfl).1
  have hf1 : l.length = 0 → ts = [] := fun h0 => List.eq_nil_of_length_eq_zero (by omega)
  have H0 := Lib.hid hf0
  have H1 := Lib.hid hf1
  have HFF := Lib.hid HF
  have HE := Lib.hid hlen
  have g1 : ((l.length : Int) != (l.length : Int)) = false := by simp
  clear hT hR hd hc hf0 hf1 HF hlen h64
  go_enter Try.func13, Try.ntmps13
  go_wp2_with (go_at_call 15; refine HAll.out.mono ?_; rintro e w2 ⟨v2, rfl, hr2, hb2⟩; obtain ⟨A2, c2, rfl⟩ := hr2.len; have HR2 := Lib.hid hr2; have HB2 := Lib.hid hb2; clear hr2 hb2)
  obtain ⟨r0, _⟩ := (HD.out.below HB2.out).cell
  go_quiet ((go_at_call 9; refine Calls.quiet_of_same (HLn.out _ (by repeat (first | exact HB2.out | apply pw_below_drewN | apply below_drew1)))))
  go_wp2
  go_loopg [6] (l.length + 1) (fun kq v6 w' => ∃ i : Nat, v6 = .int .i64 i ∧ Hid (kq = l.length + 1 - i) ∧ Hid (i ≤ l.length) ∧ Hid (Below w2.heap.size w2 w'))
  case atStart => exact ⟨0, rfl, Lib.hid rfl, Lib.hid (Nat.zero_le _), Lib.hid (by repeat (first | exact Below.refl _ _ | apply pw_below_drewN | apply below_drew1))⟩
  case round =>
    clear r0
    obtain ⟨i, rfl, HKq, HI, HB⟩ := hrel
    have HRW := Lib.hid (HR2.out.below HB.out)
    have HDW := Lib.hid (HD.out.below (below_step HB2.out HB.out))
    obtain ⟨r0, _⟩ := HDW.out.cell
    by_cases hi : i < l.length
    · have d1 : decide ((i : Int) < (l.length : Int)) = true := decide_eq_true (by omega)
      have d2 : decide (i < l.length) = true := decide_eq_true hi
      have wrapI : wrap64 ((i : Int) + 1) = ((i + 1 : Nat) : Int) := by have := HL.out; unfold wrap64; omega
      obtain ⟨g, c3, cur, e, hgB, hg, hlc, hcm, hcur⟩ := HRW.out.form (by omega)
      injection e with e _ e3
      subst e
      subst e3
      obtain ⟨i0, i1, _, _⟩ := HRW.out.cells hi
      rw [← bang_get hi] at i0 i1
      obtain ⟨A', c', e, _, _, h3⟩ := HDW.out.row
      obtain ⟨g', off, cur', hA, _⟩ := h3 (by omega)
      injection e with e e4 e3
      subst e3
      rw [← e] at hA
      clear h3 e e4
      subst hA
      obtain ⟨j0, j1⟩ := HDW.out.row.cells hi
      obtain ⟨⟨x0, x1⟩, hx⟩ : ∃ x, x = l[i]! := ⟨_, rfl⟩
      rw [← hx] at i0 i1 j0 j1
      have q1 : (0 : Int) ≤ (i : Int) := by omega
      have q2 : (i : Int) < (l.length : Int) := by omega
      have g2 : (x0 != x0) = false := by simp
      have g3 : (x1 != x1) = false := by simp
      have HI2 := Lib.hid hi
      clear hx hi hcur hg hlc hcm hgB
      go_wp2_with fail
      go_quiet (fail)
      go_wp2
      go_roundg (l.length + 1 - (i + 1))
      case measure => have := HKq.out; have := HI2.out; omega
      case rel => exact ⟨i + 1, by first | rfl | exact congrArg _ wrapI, Lib.hid rfl, Lib.hid HI2.out, Lib.hid (by repeat (first | exact HB.out | apply pw_below_drewN | apply below_drew1))⟩
    · have d1 : decide ((i : Int) < (l.length : Int)) = false := decide_eq_false (by omega)
      have d2 : decide (i < l.length) = false := decide_eq_false hi
      have HBW := Lib.hid (below_step HB2.out HB.out)
      have hF := HFF.out wr HBW.out
      rw [HE.out] at hF
      clear hi
      by_cases h0 : l.length = 0
      · rw [H1.out h0, h0, show ([] : List Tm)[0]! = ⟨0, 0⟩ from rfl, decide_eq_false (Nat.lt_irrefl 0)] at hF
        unfold tval at hF
        have HF2 := Lib.hid hF
        have n0 : ((l.length : Int) == 0) = true := beq_iff_eq.mpr (by omega)
        clear hF
        go_wp2_with (go_at_call 11; refine HF2.out.mono ?_; rintro e w5 ⟨rfl, hb5⟩; have HB5 := Lib.hid (below_step HBW.out hb5); clear hb5)
        go_ret
        exact ⟨rfl, below_alloc HB5.out _⟩
      · rw [H0.out (by omega), decide_eq_true (by omega)] at hF
        obtain ⟨g, c3, cur, e, hgB, hg, hlc, hcm, hcur⟩ := HRW.out.form (by omega)
        injection e with e _ e3
        subst e
        subst e3
        obtain ⟨⟨x0, x1⟩, hx⟩ : ∃ x, x = l[0]! := ⟨_, rfl⟩
        rw [← hx] at hF
        unfold tval at hF
        have HF2 := Lib.hid hF
        have HX := Lib.hid hx
        have HP := Lib.hid (show 0 < l.length by omega)
        have n0 : ((l.length : Int) == 0) = false := beq_eq_false_iff_ne.mpr (by omega)
        have q2 : (0 : Int) < (l.length : Int) := by omega
        clear hF hx hcur hg hlc hcm hgB
        go_wp2_with (go_at_call 11; refine HF2.out.mono ?_; rintro e w5 ⟨rfl, hb5⟩; have HB5 := Lib.hid (below_step HBW.out hb5); have hc5 := ((HRW.out.below hb5).below (below_alloc (Below.refl w5.heap.size w5) (tobj ⟨x0, x1⟩))).cells HP.out; rw [← bang_get HP.out, ← HX.out, Nat.zero_mul] at hc5; obtain ⟨k0, k1, _, _⟩ := hc5; clear hb5)
        trace_state
        go_quiet (fail)
        go_wp2
        go_ret
        exact ⟨rfl, by repeat (first | exact HB5.out | apply pw_below_drewN | apply below_drew1 | apply below_alloc)⟩
end Go.Proofs.Ytjoemkmckabpjaa.Pr
