-- A heap of timers: up.
import Derived.Test.YtjoemkmckabpjaaTmPlc
namespace Go.Proofs.Ytjoemkmckabpjaa.Pr
open Go.RowKit Go.Proofs.YtjoemkmckabpjaaW.PrintWords Go.Proofs.YtjoemkmckabpjaaW.PrintLast Go.Proofs.YtjoemkmckabpjaaW.PrintMore
open Go.ChangeMaps (setBlock)
set_option linter.unusedVariables false
set_option linter.unusedSimpArgs false
/-- What a heap's function leaves. -/
def Ran (w : World) (B p mb : Nat) (v : Value) (ts' : List Tm) (w' : World) : Prop := QAt w' B p mb v ts' ∧ Below B w w' ∧ Kept w w' (PFoot p mb v)
theorem Ran.step {w w1 w2 : World} {B p mb : Nat} {v : Value} {ts1 ts2 : List Tm} (h : Ran w B p mb v ts1 w1) (k : Ran w1 B p mb v ts2 w2) : Ran w B p mb v ts2 w2 :=
  ⟨k.1, h.2.1.trans k.2.1, h.2.2.then_ k.2.2 (fun _ hk => .inl hk)⟩
theorem Ran.refl {w : World} {B p mb : Nat} {v : Value} {ts : List Tm} (h : QAt w B p mb v ts) : Ran w B p mb v ts w := ⟨h, Below.refl _ _, Kept.refl _ _⟩
theorem QAt.below {w w' : World} {B p mb : Nat} {v : Value} {ts : List Tm} (h : QAt w B p mb v ts) (hb : Below w.heap.size w w') : QAt w' B p mb v ts := by
  obtain ⟨T, h, k⟩ := h
  exact ⟨T, h.below hb, k⟩
theorem QAt.low {w : World} {B p mb : Nat} {v : Value} {ts : List Tm} (h : QAt w B p mb v ts) : B ≤ w.heap.size := by
  obtain ⟨T, h, k⟩ := h
  have := blk_lt h.blk
  have := h.hp
  omega
theorem Ran.quiet {w w' : World} {B p mb : Nat} {v : Value} {ts : List Tm} (h : QAt w B p mb v ts) (hb : Below w.heap.size w w') : Ran w B p mb v ts w' :=
  ⟨h.below hb, ⟨hb.os, hb.tape, hb.output, hb.size, fun k hk => hb.block k (by have := h.low; omega)⟩, Kept.of_below hb _⟩
theorem less_q (w : World) (B p mb : Nat) (v : Value) (ts : List Tm) (i j : Nat) (hi : i < ts.length) (hj : j < ts.length) (h : QAt w B p mb v ts) :
    Calls Try.prog 67 #[.pointer (some ⟨p, 0, none⟩), .int .i64 i, .int .i64 j] w fun e w' => e = .returned (.bool (tless ts[i]! ts[j]!)) ∧ Ran w B p mb v ts w' := by
  obtain ⟨T, h1, h2⟩ := h
  exact (less_calls w B p mb v ts T i j hi hj h1).mono fun e w' ⟨he, hb⟩ => ⟨he, Ran.quiet ⟨T, h1, h2⟩ hb⟩
theorem swap_q (w : World) (B p mb : Nat) (v : Value) (ts : List Tm) (i j : Nat) (hi : i < ts.length) (hj : j < ts.length) (hl : ts.length ≤ 1000000) (h : QAt w B p mb v ts) :
    Calls Try.prog 70 #[.pointer (some ⟨p, 0, none⟩), .int .i64 i, .int .i64 j] w fun e w' => e = .returned (.tuple #[]) ∧ Ran w B p mb v (swapT ts i j) w' := by
  obtain ⟨T, h1, h2⟩ := h
  exact (swap_calls w B p mb v ts T i j hi hj hl h1 (by have := h2.len; omega) h2.ok).mono fun e w' ⟨he, hp, hb, hk, _⟩ => ⟨he, ⟨_, hp, h2.swap hi hj⟩, hb, hk⟩
theorem len_q (w : World) (B p mb : Nat) (v : Value) (ts : List Tm) (h : QAt w B p mb v ts) :
    Calls Try.prog 20 #[.pointer (some ⟨p, 0, none⟩)] w fun e w' => e = .returned (.int .i64 ts.length) ∧ w' = w := by
  obtain ⟨T, h1, h2⟩ := h
  exact len_calls w B p mb v ts T h1
theorem push_q (w : World) (B p mb : Nat) (v : Value) (ts : List Tm) (x : Tm) (hl : ts.length ≤ 999999) (h : QAt w B p mb v ts) (hx : ∀ t ∈ ts, t.f1 ≠ x.f1) (hk : okI x.f1) :
    Calls Try.prog 69 #[.pointer (some ⟨p, 0, none⟩), .iface 34 (tval x)] w fun e w' => e = .returned (.tuple #[]) ∧ ∃ v', QAt w' B p mb v' (ts ++ [x]) ∧ Below B w w' ∧ Kept w w' (PFoot p mb v) ∧ (v'.ownBlock = v.ownBlock ∨ ∃ k, v'.ownBlock = some k ∧ w.heap.size ≤ k) := by
  obtain ⟨x0, x1⟩ := x
  have hB := h.low
  obtain ⟨T, h1, h2⟩ := h
  exact (push_calls w B p mb v ts T x0 x1 (by omega) h1 (by have := h2.len; omega) hk hB).mono fun e w' ⟨he, v', hp, hb, hk', ho⟩ => ⟨he, v', ⟨_, hp, h2.push ⟨x0, x1⟩ hx hk⟩, hb, hk', ho⟩
theorem pop_q (w : World) (B p mb : Nat) (v : Value) (ts : List Tm) (n : Nat) (hn : ts.length = n + 1) (hl : ts.length ≤ 1000000) (h : QAt w B p mb v ts) :
    Calls Try.prog 68 #[.pointer (some ⟨p, 0, none⟩)] w fun e w' => e = .returned (.iface 34 (tval ts[n]!)) ∧ ∃ v', QAt w' B p mb v' (ts.take n) ∧ Below B w w' ∧ Kept w w' (PFoot p mb v) ∧ v'.ownBlock = v.ownBlock := by
  have hB := h.low
  obtain ⟨T, h1, h2⟩ := h
  exact (pop_calls w B p mb v ts T n hn hl h1 h2.ok hB).mono fun e w' ⟨he, v', hp, hb, hk', ho⟩ => ⟨he, v', ⟨_, hp, h2.pop hn⟩, hb, hk', ho⟩
theorem method_less (p : Nat) (w : World) : (method 212 48 (.pointer (some ⟨p, 0, none⟩)) "Less").run Try.prog w = .ok (67, .pointer (some ⟨p, 0, none⟩)) w := by kernel_rfl
theorem method_swap (p : Nat) (w : World) : (method 212 48 (.pointer (some ⟨p, 0, none⟩)) "Swap").run Try.prog w = .ok (70, .pointer (some ⟨p, 0, none⟩)) w := by kernel_rfl
theorem method_len (p : Nat) (w : World) : (method 212 48 (.pointer (some ⟨p, 0, none⟩)) "Len").run Try.prog w = .ok (20, .pointer (some ⟨p, 0, none⟩)) w := by kernel_rfl
theorem method_push (p : Nat) (w : World) : (method 212 48 (.pointer (some ⟨p, 0, none⟩)) "Push").run Try.prog w = .ok (69, .pointer (some ⟨p, 0, none⟩)) w := by kernel_rfl
theorem method_pop (p : Nat) (w : World) : (method 212 48 (.pointer (some ⟨p, 0, none⟩)) "Pop").run Try.prog w = .ok (68, .pointer (some ⟨p, 0, none⟩)) w := by kernel_rfl
set_option maxRecDepth 100000 in
set_option maxHeartbeats 4000000 in
theorem up_calls (w : World) (B p mb : Nat) (v : Value) (ts : List Tm) (j : Nat) (hj : j < ts.length) (hl : ts.length ≤ 1000000) (h : QAt w B p mb v ts) :
    Calls Try.prog 31 #[.iface 48 (.pointer (some ⟨p, 0, none⟩)), .int .i64 j] w fun e w' => e = .returned (.tuple #[]) ∧ Ran w B p mb v (upF (j + 1) ts j) w' := by
  have H := Lib.hid h
  have HL := Lib.hid hl
  have HJ := Lib.hid hj
  clear h hl hj
  go_enter Try.func31, Try.ntmps31
  go_wp2
  go_loopg [1] (j + 1) (fun kq v1 w' => ∃ (i : Nat) (us : List Tm), v1 = .int .i64 i ∧ Hid (i < kq) ∧ Hid (i < us.length) ∧ Hid (us.length = ts.length) ∧ Hid (upF kq us i = upF (j + 1) ts j) ∧ Hid (Ran w B p mb v us w'))
  case atStart => exact ⟨j, ts, rfl, Lib.hid (by omega), HJ, Lib.hid rfl, Lib.hid rfl, Lib.hid (Ran.refl H.out)⟩
  case round =>
    clear H HJ
    obtain ⟨i, us, rfl, HKQ, HI, HU, HF, HR⟩ := hrel
    by_cases h0 : i = 0
    · subst h0
      go_wp2
      go_end0
      refine ⟨rfl, ?_⟩
      rw [← HF.out]
      obtain ⟨f, rfl⟩ : ∃ f, gk = f + 1 := ⟨gk - 1, by have := HKQ.out; omega⟩
      rw [upF, if_pos (.inl rfl)]
      exact HR.out
    · obtain ⟨k, hk⟩ : ∃ k, k = (i - 1) / 2 := ⟨_, rfl⟩
      have w0 : wrap64 ((i : Int) - 1) = ((i - 1 : Nat) : Int) := by have := HI.out; have := HU.out; have := HL.out; unfold wrap64; omega
      have w1 : wrap64 (((i - 1 : Nat) : Int) / 2) = (k : Int) := by
        have := HI.out; have := HU.out; have := HL.out
        unfold wrap64
        omega
      have e2 : ((k : Int) == (i : Int)) = false := by
        have : (k : Int) ≠ (i : Int) := by omega
        exact beq_eq_false_iff_ne.mpr this
      have hm := method_less p
      have HH0 := Lib.hid h0
      have HKK := Lib.hid hk
      have hkl : k < us.length := by have := HI.out; omega
      have HKL := Lib.hid hkl
      clear h0 hk hkl
      cases hless : tless us[i]! us[k]!
      · have HLS := Lib.hid hless
        go_wp2_with (go_at_call 67; refine (less_q _ B p mb v us i k HI.out HKL.out HR.out.1).mono ?_; rintro e w2 ⟨rfl, hr2⟩; have HR2 := Lib.hid (HR.out.step hr2); clear hr2; rw [HLS.out])
        go_end0
        refine ⟨rfl, ?_⟩
        rw [← HF.out]
        obtain ⟨f, rfl⟩ : ∃ f, gk = f + 1 := ⟨gk - 1, by have := HKQ.out; omega⟩
        rw [upF, if_pos (.inr (by rw [← HKK.out]; exact HLS.out))]
        exact HR2.out
      · have HLS := Lib.hid hless
        have hms := method_swap p
        go_wp2_with (first | (go_at_call 67; refine (less_q _ B p mb v us i k HI.out HKL.out HR.out.1).mono ?_; rintro e w2 ⟨rfl, hr2⟩; have HR2 := Lib.hid (HR.out.step hr2); clear hr2; rw [HLS.out]) | (go_at_call 70; refine (swap_q _ B p mb v us k i HKL.out HI.out (by have := HU.out; have := HL.out; omega) HR2.out.1).mono ?_; rintro e w3 ⟨rfl, hr3⟩; have HR3 := Lib.hid (HR2.out.step hr3); clear hr3))
        go_roundg (gk - 1)
        case measure => have := HKQ.out; omega
        case rel =>
          refine ⟨k, swapT us k i, rfl, Lib.hid (by have := HKQ.out; have := HH0.out; have := HKK.out; omega), Lib.hid (by rw [swapT_length]; exact HKL.out), Lib.hid (by rw [swapT_length]; exact HU.out), Lib.hid ?_, HR3⟩
          rw [← HF.out]
          obtain ⟨f, rfl⟩ : ∃ f, gk = f + 1 := ⟨gk - 1, by have := HKQ.out; omega⟩
          rw [upF, if_neg, ← HKK.out, Nat.add_sub_cancel]
          rw [← HKK.out, HLS.out]
          have := HH0.out
          have := HKK.out
          rintro (h | h)
          · omega
          · cases h
end Go.Proofs.Ytjoemkmckabpjaa.Pr
