-- A heap of timers: down.
import Derived.Test.YtjoemkmckabpjaaTmUp
namespace Go.Proofs.Ytjoemkmckabpjaa.Pr
open Go.RowKit Go.Proofs.YtjoemkmckabpjaaW.PrintWords Go.Proofs.YtjoemkmckabpjaaW.PrintLast Go.Proofs.YtjoemkmckabpjaaW.PrintMore
open Go.ChangeMaps (setBlock)
set_option linter.unusedVariables false
set_option linter.unusedSimpArgs false
theorem kid_b {us : List Tm} {i n b c : Nat} (hb : b = 2 * i + 1) (hc : c = 2 * i + 2) (h : ¬ c < n ∨ tless us[c]! us[b]! = false) : kid us i n = b := by
  unfold kid
  rw [← hb, ← hc, if_neg]
  rintro ⟨h1, h2⟩
  rcases h with h | h
  · exact h h1
  · rw [h] at h2
    cases h2
theorem kid_c {us : List Tm} {i n b c : Nat} (hb : b = 2 * i + 1) (hc : c = 2 * i + 2) (h1 : c < n) (h2 : tless us[c]! us[b]! = true) : kid us i n = c := by
  unfold kid
  rw [← hb, ← hc, if_pos ⟨h1, h2⟩]
theorem down_leaf {us : List Tm} {kq i n : Nat} (h : n ≤ 2 * i + 1) : downF kq us i n = (us, i) := by
  cases kq with
  | zero => rfl
  | succ f => rw [downF, if_pos h]
theorem down_end {us : List Tm} {kq i n j : Nat} (h : 2 * i + 1 < n ∧ kid us i n = j) (hm : tless us[j]! us[i]! = false) : downF kq us i n = (us, i) := by
  cases kq with
  | zero => rfl
  | succ f => rw [downF, if_neg (by omega), h.2, if_pos hm]
theorem down_on {us : List Tm} {kq i n j : Nat} (hk : 0 < kq) (h : 2 * i + 1 < n ∧ kid us i n = j) (hm : tless us[j]! us[i]! = true) : downF (kq - 1) (swapT us i j) j n = downF kq us i n := by
  obtain ⟨f, rfl⟩ : ∃ f, kq = f + 1 := ⟨kq - 1, by omega⟩
  conv => rhs; rw [downF, if_neg (by omega), h.2, if_neg (by rw [hm]; decide)]
  rw [Nat.add_sub_cancel]
set_option maxRecDepth 100000 in
set_option maxHeartbeats 4000000 in
theorem down_calls (w : World) (B p mb : Nat) (v : Value) (ts : List Tm) (i0 n : Nat) (hi : i0 ≤ 1000000) (hn : n ≤ ts.length) (hl : ts.length ≤ 1000000) (h : QAt w B p mb v ts) :
    Calls Try.prog 30 #[.iface 48 (.pointer (some ⟨p, 0, none⟩)), .int .i64 i0, .int .i64 n] w fun e w' => e = .returned (.bool (decide ((i0 : Int) < ((downF (n + 1) ts i0 n).2 : Int)))) ∧ Ran w B p mb v (downF (n + 1) ts i0 n).1 w' := by
  have H := Lib.hid h
  have HL := Lib.hid hl
  have HN := Lib.hid hn
  have HI0 := Lib.hid hi
  clear h hl hn hi
  go_enter Try.func30, Try.ntmps30
  go_wp2
  go_loopg [7] (n + 1) (fun kq v7 w' => ∃ (i : Nat) (us : List Tm), v7 = .int .i64 i ∧ Hid (n ≤ i + kq) ∧ Hid (i ≤ 1000000) ∧ Hid (us.length = ts.length) ∧ Hid (downF kq us i n = downF (n + 1) ts i0 n) ∧ Hid (Ran w B p mb v us w'))
  case atStart => exact ⟨i0, ts, rfl, Lib.hid (by omega), HI0, Lib.hid rfl, Lib.hid rfl, Lib.hid (Ran.refl H.out)⟩
  case round =>
    clear H HI0
    obtain ⟨i, us, rfl, HKQ, HI, HU, HF, HR⟩ := hrel
    obtain ⟨a, ha⟩ : ∃ a, a = 2 * i := ⟨_, rfl⟩
    obtain ⟨b, hb⟩ : ∃ b, b = a + 1 := ⟨_, rfl⟩
    obtain ⟨c, hc⟩ : ∃ c, c = b + 1 := ⟨_, rfl⟩
    have w0 : wrap64 (2 * (i : Int)) = (a : Int) := by have := HI.out; unfold wrap64; omega
    have w1 : wrap64 ((a : Int) + 1) = (b : Int) := by have := HI.out; unfold wrap64; omega
    have w2 : wrap64 ((b : Int) + 1) = (c : Int) := by have := HI.out; unfold wrap64; omega
    have z1 : decide ((b : Int) < 0) = false := decide_eq_false (by omega)
    have HA := Lib.hid ha
    have HB := Lib.hid hb
    have HC := Lib.hid hc
    clear ha hb hc
    by_cases h0 : b < n
    · have d1 : decide ((n : Int) ≤ (b : Int)) = false := decide_eq_false (by omega)
      have d2 : decide (n ≤ b) = false := decide_eq_false (by omega)
      have H0 := Lib.hid h0
      have HBU := Lib.hid (show b < us.length by have := HU.out; have := HN.out; omega)
      have HIU := Lib.hid (show i < us.length by have := HU.out; have := HN.out; have := HA.out; have := HB.out; omega)
      have hm := method_less p
      have hms := method_swap p
      clear h0
      by_cases h2 : c < n
      · have g1 : decide ((c : Int) < (n : Int)) = true := decide_eq_true (by omega)
        have g2 : decide (c < n) = true := decide_eq_true h2
        have H2 := Lib.hid h2
        have HCU := Lib.hid (show c < us.length by have := HU.out; have := HN.out; omega)
        clear h2
        cases hless : tless us[c]! us[b]!
        case false =>
          have HLS := Lib.hid hless
          cases hmore : tless us[b]! us[i]!
          case false =>
            have HMS := Lib.hid hmore
            go_wp2_with ((go_at_call 67; first | (refine (less_q _ B p mb v us c b HCU.out HBU.out HR.out.1).mono ?_; rintro e w2 ⟨rfl, hr2⟩; have HR2 := Lib.hid (HR.out.step hr2); clear hr2 HR; rw [HLS.out]) | (refine (less_q _ B p mb v us b i HBU.out HIU.out HR2.out.1).mono ?_; rintro e w2 ⟨rfl, hr2⟩; have HR3 := Lib.hid (HR2.out.step hr2); clear hr2 HR2; rw [HMS.out])))
            go_ret
            rw [← HF.out]
            have hf := down_end (us := us) (kq := gk) (i := i) (n := n) (j := b) (⟨by have := H0.out; have := HA.out; have := HB.out; omega, kid_b (by have := HA.out; have := HB.out; omega) (by have := HA.out; have := HB.out; have := HC.out; omega) (.inr HLS.out)⟩) HMS.out
            rw [hf]
            exact ⟨by simp, HR3.out⟩
          case true =>
            have HMS := Lib.hid hmore
            go_wp2_with (first | (go_at_call 67; first | (refine (less_q _ B p mb v us c b HCU.out HBU.out HR.out.1).mono ?_; rintro e w2 ⟨rfl, hr2⟩; have HR2 := Lib.hid (HR.out.step hr2); clear hr2 HR; rw [HLS.out]) | (refine (less_q _ B p mb v us b i HBU.out HIU.out HR2.out.1).mono ?_; rintro e w2 ⟨rfl, hr2⟩; have HR3 := Lib.hid (HR2.out.step hr2); clear hr2 HR2; rw [HMS.out])) | (go_at_call 70; refine (swap_q _ B p mb v us i b HIU.out HBU.out (by have := HU.out; have := HL.out; omega) HR3.out.1).mono ?_; rintro e w3 ⟨rfl, hr3⟩; have HR4 := Lib.hid (HR3.out.step hr3); clear hr3))
            go_roundg (gk - 1)
            case measure => have := HKQ.out; have := H0.out; have := HA.out; have := HB.out; omega
            case rel =>
              refine ⟨b, swapT us i b, rfl, Lib.hid (by have := HKQ.out; have := H0.out; have := HA.out; have := HB.out; have := HC.out; omega), Lib.hid (by have := HBU.out; have := HU.out; have := HL.out; omega), Lib.hid (by rw [swapT_length]; exact HU.out), Lib.hid ?_, HR4⟩
              rw [← HF.out]
              exact down_on (by have := HKQ.out; have := H0.out; have := HA.out; have := HB.out; omega) (⟨by have := H0.out; have := HA.out; have := HB.out; omega, kid_b (by have := HA.out; have := HB.out; omega) (by have := HA.out; have := HB.out; have := HC.out; omega) (.inr HLS.out)⟩) HMS.out
        case true =>
          have HLS := Lib.hid hless
          cases hmore : tless us[c]! us[i]!
          case false =>
            have HMS := Lib.hid hmore
            go_wp2_with ((go_at_call 67; first | (refine (less_q _ B p mb v us c b HCU.out HBU.out HR.out.1).mono ?_; rintro e w2 ⟨rfl, hr2⟩; have HR2 := Lib.hid (HR.out.step hr2); clear hr2 HR; rw [HLS.out]) | (refine (less_q _ B p mb v us c i HCU.out HIU.out HR2.out.1).mono ?_; rintro e w2 ⟨rfl, hr2⟩; have HR3 := Lib.hid (HR2.out.step hr2); clear hr2 HR2; rw [HMS.out])))
            go_ret
            rw [← HF.out]
            have hf := down_end (us := us) (kq := gk) (i := i) (n := n) (j := c) (⟨by have := H0.out; have := HA.out; have := HB.out; omega, kid_c (by have := HA.out; have := HB.out; omega) (by have := HA.out; have := HB.out; have := HC.out; omega) H2.out HLS.out⟩) HMS.out
            rw [hf]
            exact ⟨by simp, HR3.out⟩
          case true =>
            have HMS := Lib.hid hmore
            go_wp2_with (first | (go_at_call 67; first | (refine (less_q _ B p mb v us c b HCU.out HBU.out HR.out.1).mono ?_; rintro e w2 ⟨rfl, hr2⟩; have HR2 := Lib.hid (HR.out.step hr2); clear hr2 HR; rw [HLS.out]) | (refine (less_q _ B p mb v us c i HCU.out HIU.out HR2.out.1).mono ?_; rintro e w2 ⟨rfl, hr2⟩; have HR3 := Lib.hid (HR2.out.step hr2); clear hr2 HR2; rw [HMS.out])) | (go_at_call 70; refine (swap_q _ B p mb v us i c HIU.out HCU.out (by have := HU.out; have := HL.out; omega) HR3.out.1).mono ?_; rintro e w3 ⟨rfl, hr3⟩; have HR4 := Lib.hid (HR3.out.step hr3); clear hr3))
            go_roundg (gk - 1)
            case measure => have := HKQ.out; have := H0.out; have := HA.out; have := HB.out; omega
            case rel =>
              refine ⟨c, swapT us i c, rfl, Lib.hid (by have := HKQ.out; have := H0.out; have := HA.out; have := HB.out; have := HC.out; omega), Lib.hid (by have := HCU.out; have := HU.out; have := HL.out; omega), Lib.hid (by rw [swapT_length]; exact HU.out), Lib.hid ?_, HR4⟩
              rw [← HF.out]
              exact down_on (by have := HKQ.out; have := H0.out; have := HA.out; have := HB.out; omega) (⟨by have := H0.out; have := HA.out; have := HB.out; omega, kid_c (by have := HA.out; have := HB.out; omega) (by have := HA.out; have := HB.out; have := HC.out; omega) H2.out HLS.out⟩) HMS.out
      · have g1 : decide ((c : Int) < (n : Int)) = false := decide_eq_false (by omega)
        have g2 : decide (c < n) = false := decide_eq_false h2
        have H2 := Lib.hid h2
        clear h2
        cases hmore : tless us[b]! us[i]!
        case false =>
          have HMS := Lib.hid hmore
          go_wp2_with ((go_at_call 67; first | (refine (less_q _ B p mb v us b i HBU.out HIU.out HR.out.1).mono ?_; rintro e w2 ⟨rfl, hr2⟩; have HR3 := Lib.hid (HR.out.step hr2); clear hr2 HR; rw [HMS.out])))
          go_ret
          rw [← HF.out]
          have hf := down_end (us := us) (kq := gk) (i := i) (n := n) (j := b) (⟨by have := H0.out; have := HA.out; have := HB.out; omega, kid_b (c := c) (by have := HA.out; have := HB.out; omega) (by have := HA.out; have := HB.out; have := HC.out; omega) (.inl H2.out)⟩) HMS.out
          rw [hf]
          exact ⟨by simp, HR3.out⟩
        case true =>
          have HMS := Lib.hid hmore
          go_wp2_with (first | (go_at_call 67; first | (refine (less_q _ B p mb v us b i HBU.out HIU.out HR.out.1).mono ?_; rintro e w2 ⟨rfl, hr2⟩; have HR3 := Lib.hid (HR.out.step hr2); clear hr2 HR; rw [HMS.out])) | (go_at_call 70; refine (swap_q _ B p mb v us i b HIU.out HBU.out (by have := HU.out; have := HL.out; omega) HR3.out.1).mono ?_; rintro e w3 ⟨rfl, hr3⟩; have HR4 := Lib.hid (HR3.out.step hr3); clear hr3))
          go_roundg (gk - 1)
          case measure => have := HKQ.out; have := H0.out; have := HA.out; have := HB.out; omega
          case rel =>
            refine ⟨b, swapT us i b, rfl, Lib.hid (by have := HKQ.out; have := H0.out; have := HA.out; have := HB.out; have := HC.out; omega), Lib.hid (by have := HBU.out; have := HU.out; have := HL.out; omega), Lib.hid (by rw [swapT_length]; exact HU.out), Lib.hid ?_, HR4⟩
            rw [← HF.out]
            exact down_on (by have := HKQ.out; have := H0.out; have := HA.out; have := HB.out; omega) (⟨by have := H0.out; have := HA.out; have := HB.out; omega, kid_b (c := c) (by have := HA.out; have := HB.out; omega) (by have := HA.out; have := HB.out; have := HC.out; omega) (.inl H2.out)⟩) HMS.out
    · have d1 : decide ((n : Int) ≤ (b : Int)) = true := decide_eq_true (by omega)
      have d2 : decide (n ≤ b) = true := decide_eq_true (by omega)
      have H0 := Lib.hid h0
      go_wp2
      go_ret
      rw [← HF.out]
      have hf := down_leaf (us := us) (kq := gk) (i := i) (n := n) (by have := H0.out; have := HA.out; have := HB.out; omega)
      rw [hf]
      exact ⟨by simp, HR.out⟩
end Go.Proofs.Ytjoemkmckabpjaa.Pr
