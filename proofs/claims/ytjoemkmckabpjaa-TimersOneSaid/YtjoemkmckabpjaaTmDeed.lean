-- A deed as the law's argument has it.
import Derived.Test.YtjoemkmckabpjaaTmLike
namespace Go.Proofs.Ytjoemkmckabpjaa.Pr
open Go.RowKit Go.Proofs.YtjoemkmckabpjaaW.PrintWords Go.Proofs.YtjoemkmckabpjaaW.PrintLast Go.Proofs.YtjoemkmckabpjaaW.PrintMore
set_option linter.unusedVariables false
set_option linter.unusedSimpArgs false
structure Deed where
  f0 : Int
  f1 : Int
  f2 : Int
instance : Inhabited Deed := ⟨⟨0, 0, 0⟩⟩
def kDeed : Kd Deed := Kd.iso (Kd.pair (Kd.int .i64) (Kd.pair (Kd.int .i64) (Kd.int .i64))) (fun x : Deed => (x.f0, x.f1, x.f2))
theorem kDeed_open {w : World} {x : Deed} {cs : List Value} (h : kDeed.K w x cs) : cs = [.int .i64 x.f0, .int .i64 x.f1, .int .i64 x.f2] := by
  obtain ⟨_, _, rfl, rfl, _, _, rfl, rfl, rfl⟩ := h
  exact rfl
def okDeed (x : Deed) : Prop := (Lit.int .i64 x.f0).wf = true ∧ okI x.f1 ∧ (Lit.int .i64 x.f2).wf = true
theorem at_Deed {w : World} {A : Option Addr} {n : Nat} {xs : List Deed} (h : Kd.C kDeed w A n xs) (i : Nat) (hi : i < n) (hn : n = xs.length) : ∃ ad, A = some ad ∧ w.cell? (ad.add (i * 3)) = some (.int .i64 xs[i]!.f0) ∧ w.cell? { block := (ad.add (i * 3)).block, off := (ad.add (i * 3)).off + 1 } = some (.int .i64 xs[i]!.f1) ∧ w.cell? { block := (ad.add (i * 3)).block, off := (ad.add (i * 3)).off + 2 } = some (.int .i64 xs[i]!.f2) := by
  obtain ⟨ad, c, e, _, hK, hc0⟩ := Kd.C_get h ⟨0, 0, 0⟩ (i : Int) (by omega) (by omega)
  have hx : xs.getD (i : Int).toNat ⟨0, 0, 0⟩ = xs[i]! := by
    rw [Int.toNat_natCast]
    rw [List.getElem!_eq_getElem?_getD, List.getD_eq_getElem?_getD]
    rfl
  rw [hx] at hK
  rw [Int.toNat_natCast] at hc0
  obtain rfl := kDeed_open hK
  have hc : ∀ j u, ([.int .i64 xs[i]!.f0, .int .i64 xs[i]!.f1, .int .i64 xs[i]!.f2] : List Value)[j]? = some u → w.cell? (ad.add (i * 3 + j)) = some u := hc0
  exact ⟨ad, e, hc 0 _ rfl, by rw [← add_field _ _ 1 (by omega)]; exact hc 1 _ rfl, by rw [← add_field _ _ 2 (by omega)]; exact hc 2 _ rfl⟩
theorem RAt.empty {w : World} {B : Nat} (hB : B ≤ w.heap.size) : RAt (w.alloc (.cells #[.slice none 0 0] 28 (0, 0))) B w.heap.size (.slice none 0 0) [] := ⟨blk_new w _, hB, LAt.nil _ _⟩
theorem deed_mem {xs : List Deed} {i : Nat} (h : i < xs.length) : xs[i]! ∈ xs := by
  rw [List.getElem!_eq_getElem?_getD, List.getElem?_eq_getElem h]
  exact List.getElem_mem h
set_option maxRecDepth 100000 in
set_option maxHeartbeats 8000000 in
theorem plays_walk (w : World) (A0 : Option Addr) (c0 : Nat) (l0 : List Deed) (hr0 : Kd.C kDeed w A0 l0.length l0) (hc0 : l0.length ≤ c0) (hok : ∀ d ∈ l0, okDeed d) :
    Calls Try.prog 4 #[.slice A0 l0.length c0] w fun e w' => e = .returned (.bool true) ∧ Below w.heap.size w w' := by
  have HN := Lib.hid (new_calls w w.heap.size (Nat.le_refl _))
  have HR0 := Lib.hid hr0
  have HOK := Lib.hid hok
  clear hr0 hok
  go_enter Try.func4, Try.ntmps4
  go_wp2_with (go_at_call 7; refine HN.out.mono ?_; rintro e w1 ⟨q, p, mb, v0, rfl, hk0, hb0⟩; have K0 := Lib.hid hk0; have B0 := Lib.hid hb0; clear hk0 hb0)
  clear HN
  obtain ⟨r, hr⟩ : ∃ r, r = w1.heap.size := ⟨_, rfl⟩
  have T1 := Lib.hid (show Two (w1.alloc (.cells #[.slice none 0 0] 28 (0, 0))) w.heap.size q p mb v0 r [] [] from ⟨K0.out.below (below_alloc (Below.refl _ _) _), .slice none 0 0, by rw [hr]; exact RAt.empty B0.out.size⟩)
  have B1 := Lib.hid (below_alloc B0.out (.cells #[.slice none 0 0] 28 (0, 0)))
  rw [← hr]
  generalize w1.alloc (.cells #[.slice none 0 0] 28 (0, 0)) = w2 at T1 B1 ⊢
  clear hr K0 B0
  go_loopg [5] 151 (fun kq v5 w' => ∃ (i : Nat) (v : Value) (ts l : List Tm), v5 = .int .i64 i ∧ Hid (kq = 151 - i) ∧ Hid (i ≤ 150) ∧ Hid (Two w' w.heap.size q p mb v r ts l) ∧ Hid (Rel ts l) ∧ Hid (Below w.heap.size w w'))
  case atStart => exact ⟨0, v0, [], [], rfl, Lib.hid rfl, Lib.hid (by omega), T1, Lib.hid Rel.empty, B1⟩
  case round =>
    clear T1 B1
    obtain ⟨i, v, ts, l, rfl, HKq, HI, HT, HR, HB⟩ := hrel
    by_cases hi : i < l0.length ∧ i < 150
    · have d1 : decide ((i : Int) < (l0.length : Int)) = true := decide_eq_true (by omega)
      have d2 : decide (i < l0.length) = true := decide_eq_true hi.1
      have d3 : decide ((i : Int) < 150) = true := decide_eq_true (by omega)
      have d4 : decide (i < 150) = true := decide_eq_true hi.2
      have wrapI : wrap64 ((i : Int) + 1) = ((i + 1 : Nat) : Int) := by unfold wrap64; omega
      obtain ⟨ad, rfl, i0, i1, i2⟩ := at_Deed (Kd.C_below HR0.out HB.out) i hi.1 rfl
      have hok := (HOK.out _ (deed_mem hi.1)).2.1
      obtain ⟨⟨o, k, d⟩, hx⟩ : ∃ x, x = l0[i]! := ⟨_, rfl⟩
      rw [← hx] at i0 i1 i2 hok
      have q1 : (0 : Int) ≤ (i : Int) := by omega
      have q2 : (i : Int) < (l0.length : Int) := by omega
      have HDo := Lib.hid (does_calls wr w.heap.size q p mb v r ts l o k d hok HT.out HR.out)
      have HI2 := Lib.hid hi
      clear hx hok hi
      cases hm : ((i : Int) % 8 == 0)
      case true =>
        go_wp2_with (first | (go_at_call 8; refine HDo.out.mono ?_; rintro e w4 ⟨rfl, ts', l', hr', hd'⟩; obtain ⟨v', ht', hb', _, _⟩ := hd'; have HR4 := Lib.hid hr'; have HT4 := Lib.hid ht'; have HB4 := Lib.hid (HB.out.trans hb'); clear hr' ht' hb') | (go_at_call 13; refine (like_calls _ w.heap.size q p mb v' r ts' l' HT4.out HR4.out).mono ?_; rintro e w5 ⟨rfl, hb5⟩; have HT5 := Lib.hid (HT4.out.below hb5); have HB5 := Lib.hid (below_step HB4.out hb5); clear hb5))
        go_roundg (151 - (i + 1))
        case measure => have := HKq.out; have := HI2.out; omega
        case rel => exact ⟨i + 1, v', ts', l', by first | rfl | exact congrArg _ wrapI, Lib.hid rfl, Lib.hid (by have := HI2.out; omega), HT5, HR4, HB5⟩
      case false =>
        go_wp2_with (go_at_call 8; refine HDo.out.mono ?_; rintro e w4 ⟨rfl, ts', l', hr', hd'⟩; obtain ⟨v', ht', hb', _, _⟩ := hd'; have HR4 := Lib.hid hr'; have HT4 := Lib.hid ht'; have HB4 := Lib.hid (HB.out.trans hb'); clear hr' ht' hb')
        go_roundg (151 - (i + 1))
        case measure => have := HKq.out; have := HI2.out; omega
        case rel => exact ⟨i + 1, v', ts', l', by first | rfl | exact congrArg _ wrapI, Lib.hid rfl, Lib.hid (by have := HI2.out; omega), HT4, HR4, HB4⟩
    · have hcase : (decide (i < l0.length) = false) ∨ (decide (i < l0.length) = true ∧ decide (i < 150) = false) := by
        by_cases h1 : i < l0.length
        · exact .inr ⟨decide_eq_true h1, decide_eq_false (fun h2 => hi ⟨h1, h2⟩)⟩
        · exact .inl (decide_eq_false h1)
      have HLk := Lib.hid (like_calls wr w.heap.size q p mb v r ts l HT.out HR.out)
      clear hi
      rcases hcase with d2 | ⟨d2, d4⟩
      · have d1 : decide ((i : Int) < (l0.length : Int)) = false := decide_eq_false (by have := of_decide_eq_false d2; omega)
        go_wp2_with (first | (go_at_call 13; refine HLk.out.mono ?_; rintro e w5 ⟨rfl, hb5⟩; have HB5 := Lib.hid (below_step HB.out hb5); clear hb5) | (go_at_call 12; refine (lives_calls _).mono ?_; rintro e w6 ⟨rfl, hb6⟩; have HB6 := Lib.hid (below_step HB5.out hb6); clear hb6))
        go_ret
        exact ⟨rfl, HB6.out⟩
      · have d1 : decide ((i : Int) < (l0.length : Int)) = true := decide_eq_true (by have := of_decide_eq_true d2; omega)
        have d3 : decide ((i : Int) < 150) = false := decide_eq_false (by have := of_decide_eq_false d4; omega)
        go_wp2_with (first | (go_at_call 13; refine HLk.out.mono ?_; rintro e w5 ⟨rfl, hb5⟩; have HB5 := Lib.hid (below_step HB.out hb5); clear hb5) | (go_at_call 12; refine (lives_calls _).mono ?_; rintro e w6 ⟨rfl, hb6⟩; have HB6 := Lib.hid (below_step HB5.out hb6); clear hb6))
        go_ret
        exact ⟨rfl, HB6.out⟩
end Go.Proofs.Ytjoemkmckabpjaa.Pr
