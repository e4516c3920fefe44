-- The law TimersOne, walked.
import Derived.Test.YtjoemkmckabpjaaTmOwns
namespace Go.Proofs.Ytjoemkmckabpjaa.Pr
open Go.RowKit Go.Proofs.YtjoemkmckabpjaaW.PrintWords Go.Proofs.YtjoemkmckabpjaaW.PrintLast Go.Proofs.YtjoemkmckabpjaaW.PrintMore
set_option linter.unusedVariables false
set_option linter.unusedSimpArgs false
theorem kinds_nodup {ts : List Tm} (h : InjT ts) : (ts.map (·.f1)).Nodup := by
  unfold List.Nodup
  rw [List.pairwise_iff_getElem]
  intro i j hi hj hij e
  rw [List.length_map] at hi hj
  have := h i j hi hj (by rw [bang_get hi, bang_get hj]; simpa using e)
  omega
theorem inj_set {ts l : List Tm} {kind a : Int} (r : Rel ts (insT ⟨a, kind⟩ (wo l kind))) (hl : (l.map (·.f1)).Nodup) : InjT ts ∧ ((insT ⟨a, kind⟩ (wo l kind)).map (·.f1)).Nodup := by
  have hw : ((wo l kind).map (·.f1)).Nodup := List.Nodup.sublist (List.Sublist.map _ List.filter_sublist) hl
  have hn : ((insT ⟨a, kind⟩ (wo l kind)).map (·.f1)).Nodup := ((insT_perm ⟨a, kind⟩ (wo l kind)).map (·.f1)).nodup_iff.mpr (List.nodup_cons.mpr ⟨fun hm => by
    obtain ⟨t, ht, e⟩ := List.mem_map.mp hm
    exact (wo_mem ht).2 e, hw⟩)
  exact ⟨inj_of r.perm hn, hn⟩
/-- Set twice: the same answer; then the kind is there once, at the second tick, or it is not there. -/
theorem set_twice {B : Nat} {ts l : List Tm} (h : Rel ts l) (hj : InjT ts) {kind : Int} (hk : okI kind) (a b : Int) : ∃ c t1 t2 l2, PCall B 14 [.int .i64 kind, .int .i64 a] ts (.int .i64 c) t1 ∧ PCall B 14 [.int .i64 kind, .int .i64 b] t1 (.int .i64 c) t2 ∧ Rel t2 l2 ∧ InjT t2 ∧ (c = 0 ∧ (∃ rest, l2.Perm (⟨b, kind⟩ :: rest) ∧ ∀ t ∈ rest, t.f1 ≠ kind) ∨ c = 12 ∧ ∀ t ∈ l2, t.f1 ≠ kind) := by
  obtain ⟨c, t1, l1, r1, p1, _, hc⟩ := set_both (B := B) h hj hk a
  rcases hc with ⟨rfl, rfl⟩ | ⟨rfl, rfl, rfl, h64, hn⟩
  · obtain ⟨hj1, hl1⟩ := inj_set r1 ((h.perm.map _).nodup_iff.mp (kinds_nodup hj))
    obtain ⟨c', t2, l2, r2, p2, _, hc'⟩ := set_both (B := B) r1 hj1 hk b
    rcases hc' with ⟨rfl, rfl⟩ | ⟨rfl, rfl, rfl, _, hn⟩
    · exact ⟨0, t1, t2, _, p1, p2, r2, (inj_set r2 hl1).1, .inl ⟨rfl, _, insT_perm _ _, fun t ht => (wo_mem ht).2⟩⟩
    · exact absurd rfl (hn ⟨a, kind⟩ ((insT_perm _ _).mem_iff.mpr (by simp)))
  · obtain ⟨c', t2, l2, r2, p2, _, hc'⟩ := set_both (B := B) h hj hk b
    rcases hc' with ⟨rfl, rfl⟩ | ⟨rfl, rfl, rfl, _, hn⟩
    · have h1 := r2.len
      rw [r2.perm.length_eq, insT_length, wo_none hn] at h1
      omega
    · exact ⟨12, _, _, _, p1, p2, r2, hj, .inr ⟨rfl, hn⟩⟩
/-- How often a kind is there. -/
def cntT (l : List Tm) (kind : Int) : Nat := (l.filter fun t => decide (t.f1 = kind)).length
theorem cntT_take (l : List Tm) (kind : Int) (i : Nat) (h : i < l.length) : cntT (l.take (i + 1)) kind = cntT (l.take i) kind + if l[i]!.f1 = kind then 1 else 0 := by
  unfold cntT
  rw [take_snoc l i h, List.filter_append, List.length_append]
  by_cases e : l[i]!.f1 = kind
  · rw [List.filter_cons_of_pos (by exact decide_eq_true e), if_pos e]
    rfl
  · rw [List.filter_cons_of_neg (by simpa using e), if_neg e]
    rfl
theorem cntT_none {l : List Tm} {kind : Int} (h : ∀ t ∈ l, t.f1 ≠ kind) : cntT l kind = 0 := by
  unfold cntT
  rw [List.length_eq_zero_iff, List.filter_eq_nil_iff]
  intro t ht
  simpa using h t ht
theorem cntT_one {l rest : List Tm} {kind b : Int} (h : l.Perm (⟨b, kind⟩ :: rest)) (hn : ∀ t ∈ rest, t.f1 ≠ kind) : cntT l kind = 1 := by
  unfold cntT
  rw [(h.filter _).length_eq, List.filter_cons, if_pos (by simp), List.length_cons]
  have := cntT_none hn
  unfold cntT at this
  rw [this]
theorem wo_twice (l : List Tm) (kind : Int) : wo (wo l kind) kind = wo l kind := wo_none fun t ht => (wo_mem ht).2
/-- All that the law asks, of one queue. -/
theorem one_all {B : Nat} {ts l : List Tm} (h : Rel ts l) (hj : InjT ts) {kind : Int} (hk : okI kind) (a b : Int) : ∃ c n t1 t2 l2 t3 t4, PCall B 14 [.int .i64 kind, .int .i64 a] ts (.int .i64 c) t1 ∧ PCall B 14 [.int .i64 kind, .int .i64 b] t1 (.int .i64 c) t2 ∧ Rel t2 l2 ∧ (∀ t ∈ l2, t.f1 = kind → t.f0 = b) ∧ cntT l2 kind = n ∧ (c = 0 ∧ n = 1 ∨ c = 12 ∧ n = 0) ∧ PCall B 16 [.int .i64 kind] t2 (.bool (decide (n = 1))) t3 ∧ PCall B 16 [.int .i64 kind] t3 (.bool false) t4 := by
  obtain ⟨c, t1, t2, l2, p1, p2, r2, hj2, hc⟩ := set_twice (B := B) h hj hk a b
  obtain ⟨s, t3, r3, p3, _, hs⟩ := stop_both (B := B) r2 hj2 hk
  have hl2 := (r2.perm.map (·.f1)).nodup_iff.mp (kinds_nodup hj2)
  obtain ⟨s', t4, r4, p4, _, hs'⟩ := stop_both (B := B) r3 (inj_of r3.perm (List.Nodup.sublist (List.Sublist.map _ List.filter_sublist) hl2)) hk
  obtain rfl : s' = false := by rw [hs', wo_twice]; exact decide_eq_false (Nat.lt_irrefl _)
  rcases hc with ⟨rfl, rest, hp, hn⟩ | ⟨rfl, hn⟩
  · obtain rfl : s = true := by rw [hs]; exact decide_eq_true (wo_less (hp.mem_iff.mpr List.mem_cons_self) rfl)
    refine ⟨0, 1, t1, t2, l2, t3, t4, p1, p2, r2, fun t ht e => ?_, cntT_one hp hn, .inl ⟨rfl, rfl⟩, p3, p4⟩
    rcases List.mem_cons.mp (hp.mem_iff.mp ht) with rfl | ht
    · rfl
    · exact absurd e (hn t ht)
  · obtain rfl : s = false := by rw [hs, wo_none hn]; exact decide_eq_false (Nat.lt_irrefl _)
    exact ⟨12, 0, t1, t2, l2, t3, t4, p1, p2, r2, fun t ht e => absurd e (hn t ht), cntT_none hn, .inr ⟨rfl, rfl⟩, p3, p4⟩
set_option maxRecDepth 100000 in
set_option maxHeartbeats 8000000 in
theorem one_walk (w : World) (A0 : Option Addr) (c0 : Nat) (l0 : List Deed) (kind a b : Int) (hkd : okI kind) (hr0 : Kd.C kDeed w A0 l0.length l0) (hc0 : l0.length ≤ c0) (hok : ∀ d ∈ l0, okDeed d) :
    Calls Try.prog 5 #[.slice A0 l0.length c0, .int .i64 kind, .int .i64 a, .int .i64 b] w fun e w' => e = .returned (.bool true) ∧ Below w.heap.size w w' := by
  have HN := Lib.hid (new_calls w w.heap.size (Nat.le_refl _))
  have HR0 := Lib.hid hr0
  have HOK := Lib.hid hok
  have HKD := Lib.hid hkd
  clear hr0 hok hkd
  go_enter Try.func5, Try.ntmps5
  go_wp2_with (go_at_call 7; refine HN.out.mono ?_; rintro e w1 ⟨q, p, mb, v0, rfl, hk0, hb0⟩; have K0 := Lib.hid hk0; have B0 := Lib.hid hb0; clear hk0 hb0)
  clear HN
  obtain ⟨r, hr⟩ : ∃ r, r = w1.heap.size := ⟨_, rfl⟩
  have T1 := Lib.hid (show Two (w1.alloc (.cells #[.slice none 0 0] 28 (0, 0))) w.heap.size q p mb v0 r [] [] from ⟨K0.out.below (below_alloc (Below.refl _ _) _), .slice none 0 0, by rw [hr]; exact RAt.empty B0.out.size⟩)
  have B1 := Lib.hid (below_alloc B0.out (.cells #[.slice none 0 0] 28 (0, 0)))
  rw [← hr]
  generalize w1.alloc (.cells #[.slice none 0 0] 28 (0, 0)) = w2 at T1 B1 ⊢
  clear hr K0 B0
  go_loopg [11] 101 (fun kq v11 w' => ∃ (i : Nat) (v : Value) (ts l : List Tm), v11 = .int .i64 i ∧ Hid (kq = 101 - i) ∧ Hid (i ≤ 100) ∧ Hid (Two w' w.heap.size q p mb v r ts l) ∧ Hid (Rel ts l) ∧ Hid (Below w.heap.size w w'))
  case atStart => exact ⟨0, v0, [], [], rfl, Lib.hid rfl, Lib.hid (by omega), T1, Lib.hid Rel.empty, B1⟩
  case round =>
    clear T1 B1
    obtain ⟨i, v, ts, l, rfl, HKq, HI, HT, HR, HB⟩ := hrel
    by_cases hi : i < l0.length ∧ i < 100
    · have d1 : decide ((i : Int) < (l0.length : Int)) = true := decide_eq_true (by omega)
      have d2 : decide (i < l0.length) = true := decide_eq_true hi.1
      have d3 : decide ((i : Int) < 100) = true := decide_eq_true (by omega)
      have d4 : decide (i < 100) = true := decide_eq_true hi.2
      have wrapI : wrap64 ((i : Int) + 1) = ((i + 1 : Nat) : Int) := by unfold wrap64; omega
      obtain ⟨ad, rfl, i0, i1, i2⟩ := at_Deed (Kd.C_below HR0.out HB.out) i hi.1 rfl
      have hok := (HOK.out _ (deed_mem hi.1)).2.1
      obtain ⟨⟨o, k, d⟩, hx⟩ : ∃ x, x = l0[i]! := ⟨_, rfl⟩
      rw [← hx] at i0 i1 i2 hok
      have q1 : (0 : Int) ≤ (i : Int) := by omega
      have q2 : (i : Int) < (l0.length : Int) := by omega
      have HDo := Lib.hid (does_calls wr w.heap.size q p mb v r ts l o k d hok HT.out HR.out)
      have HI2 := Lib.hid hi
      clear hx hok hi
      go_wp2_with (go_at_call 8; refine HDo.out.mono ?_; rintro e w4 ⟨rfl, ts', l', hr', hd'⟩; obtain ⟨v', ht', hb', _, _⟩ := hd'; have HR4 := Lib.hid hr'; have HT4 := Lib.hid ht'; have HB4 := Lib.hid (HB.out.trans hb'); clear hr' ht' hb')
      go_roundg (101 - (i + 1))
      case measure => have := HKq.out; have := HI2.out; omega
      case rel => exact ⟨i + 1, v', ts', l', by first | rfl | exact congrArg _ wrapI, Lib.hid rfl, Lib.hid (by have := HI2.out; omega), HT4, HR4, HB4⟩
    · have hcase : (decide (i < l0.length) = false) ∨ (decide (i < l0.length) = true ∧ decide (i < 100) = false) := by
        by_cases h1 : i < l0.length
        · exact .inr ⟨decide_eq_true h1, decide_eq_false (fun h2 => hi ⟨h1, h2⟩)⟩
        · exact .inl (decide_eq_false h1)
      clear hi
      obtain ⟨c, n, t1, t2, l2, t3, t4, p1, p2, r2, hb2, hn2, hc, p3, p4⟩ := one_all (B := w.heap.size) HR.out HT.out.k.pile.inj HKD.out a b
      have P1 := Lib.hid p1
      have P2 := Lib.hid p2
      have P3 := Lib.hid p3
      have P4 := Lib.hid p4
      have HAl := Lib.hid (fun V v (hV : KAt V w.heap.size q p mb v t2) => all_calls V w.heap.size q p mb v t2 (by have := r2.len; omega) hV)
      rw [r2.all] at HAl
      have HLn := Lib.hid (show l2.length ≤ 64 by have := r2.len; have := r2.perm.length_eq; omega)
      have HB2 := Lib.hid hb2
      have HN2 := Lib.hid hn2
      have HC := Lib.hid hc
      have HK0 := Lib.hid HT.out.k
      have wrap0 : decide ((64 : Int) < (l2.length : Int)) = false := decide_eq_false (by have := HLn.out; omega)
      have wrap0' : decide (64 < l2.length) = false := decide_eq_false (by have := HLn.out; omega)
      clear p1 p2 p3 p4 r2 hb2 hn2 hc
      rcases hcase with d2 | ⟨d2, d4⟩
      rotate_left
      have d1 : decide ((i : Int) < (l0.length : Int)) = true := decide_eq_true (by have := of_decide_eq_true d2; omega)
      have d3 : decide ((i : Int) < 100) = false := decide_eq_false (by have := of_decide_eq_false d4; omega)
      rotate_left
      have d1 : decide ((i : Int) < (l0.length : Int)) = false := decide_eq_false (by have := of_decide_eq_false d2; omega)
      all_goals
        go_wp2_with (first | (go_at_call 14; first | ((with_reducible refine (P1.out.go HK0.out).mono ?_); rintro e w5 ⟨rfl, hr⟩; obtain ⟨v5, hk, hb, hx⟩ := hr.opened; have K5 := Lib.hid hk; have B5 := Lib.hid (HB.out.trans hb); clear hk hb hx hr) | ((with_reducible refine (P2.out.go K5.out).mono ?_); rintro e w6 ⟨rfl, hr⟩; obtain ⟨v6, hk, hb, hx⟩ := hr.opened; have K6 := Lib.hid hk; have B6 := Lib.hid (B5.out.trans hb); clear hk hb hx hr)) | (go_at_call 15; (with_reducible refine (HAl.out _ _ K6.out).mono ?_); rintro e w7 ⟨v7, rfl, hr7, hb7⟩; obtain ⟨A7, c7, rfl⟩ := hr7.len; have HR7 := Lib.hid hr7; have K7 := Lib.hid (K6.out.below hb7); have B7 := Lib.hid (below_step B6.out hb7); clear hr7 hb7))
        go_loopg [14, 16] (l2.length + 1) (fun kq v14 v16 w' => ∃ j : Nat, v14 = .int .i64 (cntT (l2.take j) kind) ∧ v16 = .int .i64 j ∧ Hid (kq = l2.length + 1 - j) ∧ Hid (j ≤ l2.length) ∧ Hid (Below w7.heap.size w7 w'))
        case atStart => exact ⟨0, rfl, rfl, Lib.hid rfl, Lib.hid (Nat.zero_le _), Lib.hid (Below.refl _ _)⟩
        case round =>
          obtain ⟨j, rfl, rfl, HKj, HJ, HBj⟩ := hrel
          have HRj := Lib.hid (HR7.out.below HBj.out)
          by_cases hj : j < l2.length
          · have g1 : decide ((j : Int) < (l2.length : Int)) = true := decide_eq_true (by omega)
            have g2 : decide (j < l2.length) = true := decide_eq_true hj
            have wrapJ : wrap64 ((j : Int) + 1) = ((j + 1 : Nat) : Int) := by have := HLn.out; unfold wrap64; omega
            obtain ⟨g, c3, cur, e, hgB, hg, hlc, hcm, hcur⟩ := HRj.out.form (by omega)
            injection e with e e4 e3
            subst e
            subst e3
            obtain ⟨k0, k1, _, _⟩ := HRj.out.cells hj
            have hbk := HB2.out _ (bang_mem hj)
            have hct := cntT_take l2 kind j hj
            rw [bang_get hj] at hbk hct
            obtain ⟨⟨y0, y1⟩, hy⟩ : ∃ y, y = l2[j] := ⟨_, rfl⟩
            rw [← hy] at k0 k1 hbk hct
            have q1 : (0 : Int) ≤ (j : Int) := by omega
            have q2 : (j : Int) < (l2.length : Int) := by omega
            have HJ2 := Lib.hid hj
            obtain ⟨n0, hn0⟩ : ∃ n0, n0 = cntT (l2.take j) kind := ⟨_, rfl⟩
            have hn1 : n0 ≤ 64 := by
              rw [hn0]
              unfold cntT
              have h1 := List.length_filter_le (fun t : Tm => decide (t.f1 = kind)) (l2.take j)
              rw [List.length_take] at h1
              have := HLn.out
              omega
            have wrapN : wrap64 ((n0 : Int) + 1) = ((n0 + 1 : Nat) : Int) := by unfold wrap64; omega
            rw [← hn0] at hct ⊢
            have HCt := Lib.hid hct
            by_cases hk : y1 = kind
            · have f1 : (y1 == kind) = true := beq_iff_eq.mpr hk
              have f2 : (y0 != b) = false := by have := hbk hk; simpa using this
              have HH := Lib.hid hk
              clear hk hbk hct hn0 hn1 hy e4 hcur hg hlc hcm hgB hj
              go_wp2
              go_roundg (l2.length + 1 - (j + 1))
              case measure => have := HKj.out; have := HJ2.out; omega
              case rel => exact ⟨j + 1, by rw [HCt.out, if_pos HH.out]; first | rfl | exact congrArg _ wrapN, by first | rfl | exact congrArg _ wrapJ, Lib.hid rfl, Lib.hid HJ2.out, Lib.hid (by repeat (first | exact HBj.out | apply pw_below_drewN | apply below_drew1))⟩
            · have f1 : (y1 == kind) = false := beq_eq_false_iff_ne.mpr hk
              have HH := Lib.hid hk
              clear hk hbk hct hn0 hn1 hy e4 hcur hg hlc hcm hgB hj
              go_wp2
              go_roundg (l2.length + 1 - (j + 1))
              case measure => have := HKj.out; have := HJ2.out; omega
              case rel => exact ⟨j + 1, by rw [HCt.out, if_neg HH.out]; rfl, by first | rfl | exact congrArg _ wrapJ, Lib.hid rfl, Lib.hid HJ2.out, Lib.hid (by repeat (first | exact HBj.out | apply pw_below_drewN | apply below_drew1))⟩
          · have g1 : decide ((j : Int) < (l2.length : Int)) = false := decide_eq_false (by omega)
            have g2 : decide (j < l2.length) = false := decide_eq_false hj
            have hjl : j = l2.length := by have := HJ.out; omega
            rw [hjl, List.take_length, HN2.out]
            have HKe := Lib.hid (K7.out.below HBj.out)
            have HBe := Lib.hid (below_step B7.out HBj.out)
            have n1 : ((c : Int) != (c : Int)) = false := by simp
            rw [hjl] at g1 g2
            have hcc := HC.out
            clear hj hjl
            rcases hcc with ⟨rfl, rfl⟩ | ⟨rfl, rfl⟩
            all_goals
              go_wp2_with (first | (go_at_call 16; first | ((with_reducible refine (P3.out.go HKe.out).mono ?_); rintro e w8 ⟨rfl, hr⟩; obtain ⟨v8, hk, hb, hx⟩ := hr.opened; have K8 := Lib.hid hk; have B8 := Lib.hid (HBe.out.trans hb); clear hk hb hx hr) | ((with_reducible refine (P4.out.go K8.out).mono ?_); rintro e w9 ⟨rfl, hr⟩; obtain ⟨v9, hk, hb, hx⟩ := hr.opened; have B9 := Lib.hid (B8.out.trans hb); clear hk hb hx hr)) | (go_at_call 12; refine (lives_calls _).mono ?_; rintro e w10 ⟨rfl, hb10⟩; have HB10 := Lib.hid (below_step B9.out hb10); clear hb10))
              go_ret
              exact ⟨rfl, HB10.out⟩
end Go.Proofs.Ytjoemkmckabpjaa.Pr
