-- The document's queue: Set.
import Derived.Test.YtjoemkmckabpjaaTmRef
namespace Go.Proofs.Ytjoemkmckabpjaa.Pr
open Go.RowKit Go.Proofs.YtjoemkmckabpjaaW.PrintWords Go.Proofs.YtjoemkmckabpjaaW.PrintLast Go.Proofs.YtjoemkmckabpjaaW.PrintMore
set_option linter.unusedVariables false
set_option linter.unusedSimpArgs false
def insT (t : Tm) : List Tm → List Tm
  | [] => [t]
  | x :: xs => if tless t x = true then t :: x :: xs else x :: insT t xs
theorem insT_length (t : Tm) : ∀ l, (insT t l).length = l.length + 1
  | [] => rfl
  | x :: xs => by
    rw [insT]
    split
    · rfl
    · rw [List.length_cons, insT_length t xs, List.length_cons]
theorem drop_bangT (l : List Tm) (i : Nat) (h : i < l.length) : l.drop i = l[i]! :: l.drop (i + 1) := by
  rw [List.drop_eq_getElem_cons h, bang_get h]
/-- Where the loop of Set stands. -/
def setSt (t : Tm) (rest acc : List Tm) (put : Bool) (i : Nat) : Prop := acc ++ (if put = true then rest.drop i else insT t (rest.drop i)) = insT t rest
theorem setSt_len {t : Tm} {rest acc : List Tm} {put : Bool} {i : Nat} (h : setSt t rest acc put i) : acc.length ≤ rest.length + 1 := by
  have := congrArg List.length h
  rw [List.length_append, insT_length] at this
  omega
theorem setSt_put {t : Tm} {rest acc : List Tm} {i : Nat} (h : setSt t rest acc true i) (hi : i < rest.length) : setSt t rest (acc ++ [rest[i]!]) true (i + 1) := by
  unfold setSt at *
  rw [if_pos rfl] at *
  rw [← h, drop_bangT rest i hi, List.append_assoc]
  rfl
theorem setSt_now {t : Tm} {rest acc : List Tm} {i : Nat} (h : setSt t rest acc false i) (hi : i < rest.length) (hl : tless t rest[i]! = true) : setSt t rest ((acc ++ [t]) ++ [rest[i]!]) true (i + 1) := by
  unfold setSt at *
  rw [if_neg (by decide)] at h
  rw [if_pos rfl]
  rw [← h, drop_bangT rest i hi, insT, if_pos hl, List.append_assoc, List.append_assoc]
  rfl
theorem setSt_on {t : Tm} {rest acc : List Tm} {i : Nat} (h : setSt t rest acc false i) (hi : i < rest.length) (hl : tless t rest[i]! = false) : setSt t rest (acc ++ [rest[i]!]) false (i + 1) := by
  unfold setSt at *
  rw [if_neg (by decide)] at *
  rw [← h, drop_bangT rest i hi, insT, if_neg (by rw [hl]; decide), List.append_assoc]
  rfl
set_option maxRecDepth 100000 in
set_option maxHeartbeats 8000000 in
theorem rset_calls (w : World) (B r : Nat) (v : Value) (l : List Tm) (kind due : Int) (hl : l.length ≤ 100000) (h : RAt w B r v l) (hn : ¬ ((wo l kind).length = l.length ∧ l.length = 64)) :
    Calls Try.prog 19 #[.pointer (some ⟨r, 0, none⟩), .int .i64 kind, .int .i64 due] w fun e w' => e = .returned (.int .i64 0) ∧ RRan w B r (insT ⟨due, kind⟩ (wo l kind)) w' := by
  have HC := Lib.hid (without_calls w B r v l kind (by omega) h)
  have hwl := wo_length l kind
  obtain ⟨rest, hrest⟩ : ∃ rest, rest = wo l kind := ⟨_, rfl⟩
  rw [← hrest] at HC hwl hn ⊢
  obtain ⟨A, c, rfl, hc⟩ := h.row
  have H := Lib.hid h
  have HL := Lib.hid hl
  have HWL := Lib.hid hwl
  clear h hl hc hwl hrest
  have hcase : (((rest.length : Int) == (l.length : Int)) = false) ∨ (((rest.length : Int) == (l.length : Int)) = true ∧ ((l.length : Int) == 64) = false) := by
    by_cases h1 : rest.length = l.length
    · exact .inr ⟨beq_iff_eq.mpr (by omega), beq_eq_false_iff_ne.mpr (by omega)⟩
    · exact .inl (beq_eq_false_iff_ne.mpr (by omega))
  clear hn
  rcases hcase with e1 | ⟨e1, e2⟩
  all_goals
    go_enter Try.func19, Try.ntmps19
    go_wp2_with (go_at_call 29; refine HC.out.mono ?_; rintro e w2 ⟨v2, rfl, hr2, hb2⟩; have hR2 := LAt.of_R hr2; obtain ⟨A2, c2, rfl, _, _, _⟩ := hR2; have HR2 := Lib.hid (LAt.of_R hr2); have HB2 := Lib.hid hb2; obtain ⟨r0, _⟩ := (H.out.below hb2).cell; clear hr2 hb2)
    clear HC
    go_loopg [8, 9, 10] (rest.length + 1) (fun kq v8 v9 v10 w' => ∃ (i : Nat) (put : Bool) (acc : List Tm), v9 = .bool put ∧ v10 = .int .i64 i ∧ Hid (kq = rest.length + 1 - i) ∧ Hid (i ≤ rest.length) ∧ Hid (setSt ⟨due, kind⟩ rest acc put i) ∧ Hid (Kd.R kTm TR w' w2.heap.size (fun _ => True) v8 acc) ∧ Hid (Below w2.heap.size w2 w'))
    case atStart => exact ⟨0, false, [], rfl, rfl, Lib.hid rfl, Lib.hid (Nat.zero_le _), Lib.hid rfl, Lib.hid (Kd.R_nil kTm TR w2 _ _), Lib.hid (Below.refl _ _)⟩
    case round =>
      obtain ⟨i, put, acc, rfl, rfl, HKq, HI, HS, HA, HB⟩ := hrel
      by_cases hi : i < rest.length
      · have d1 : decide ((i : Int) < (rest.length : Int)) = true := decide_eq_true (by omega)
        have d2 : decide (i < rest.length) = true := decide_eq_true hi
        have wrapI : wrap64 ((i : Int) + 1) = ((i + 1 : Nat) : Int) := by have := HL.out; have := HWL.out; unfold wrap64; omega
        obtain ⟨A', c', e, _, _, h3⟩ := HR2.out
        obtain ⟨g, off, cur, hA, _⟩ := h3 (by omega)
        injection e with e e4 e3
        subst e3
        rw [← e] at hA
        clear h3 e e4
        subst hA
        obtain ⟨i0, i1⟩ := (HR2.out.below HB.out).cells hi
        obtain ⟨⟨x0, x1⟩, hx⟩ : ∃ x, x = rest[i]! := ⟨_, rfl⟩
        rw [← hx] at i0 i1
        have HX := Lib.hid hx
        have HI2 := Lib.hid hi
        have HAL := Lib.hid (show acc.length ≤ 100001 by have := setSt_len HS.out; have := HWL.out; have := HL.out; omega)
        have q1 : (0 : Int) ≤ (i : Int) := by omega
        have q2 : (i : Int) < (rest.length : Int) := by omega
        clear hx hi r0
        cases put
        case true =>
          go_wp2_with ((with_reducible refine gate_builtin (b := .append) (xs := #[.tmp 71, .tmp 76]) rfl ?_); at_builtin; refine Kd.R_append kTm (w0 := w2) w2.heap.size rfl (.tmp 71) (.tmp 76) 26 TR (.agg #[.int .i64 0, .int .i64 0]) 16 rfl Try.underlying26 infoR rfl (by decide) (by omega) _ acc ⟨x0, x1⟩ [.int .i64 x0, .int .i64 x1] (fun _ => True) (fun _ => False) rfl rfl ?aP (fun _ hk => hk.elim) (fun _ _ => trivial) ?aO ?aB ?aS ?aL ?_; (case aP => exact k54_mkM _ _ _ ⟨x0, x1⟩); (case aB => exact HB.out); (case aO => exact HA.out); (case aS => exact below_size HB.out); (case aL => have := HAL.out; omega); intro v3 w3 ho hb hg hat; have HO := Lib.hid ho; have HBo := Lib.hid hb; clear ho hb hg hat)
          go_roundg (rest.length + 1 - (i + 1))
          case measure => have := HKq.out; have := HI2.out; omega
          case rel => exact ⟨i + 1, true, acc ++ [⟨x0, x1⟩], rfl, by first | rfl | exact congrArg _ wrapI, Lib.hid rfl, Lib.hid HI2.out, Lib.hid (by have := setSt_put HS.out HI2.out; rw [← HX.out] at this; exact this), HO, HBo⟩
        case false =>
          by_cases k1 : due < x0
          · have f1 : decide (due < x0) = true := decide_eq_true k1
            have HT := Lib.hid (show tless ⟨due, kind⟩ ⟨x0, x1⟩ = true from (tless_iff _ _).mpr (.inl k1))
            clear k1
            go_wp2_with (first | ((with_reducible refine gate_builtin (b := .append) (xs := #[.tmp 65, .tmp 69]) rfl ?_); at_builtin; refine Kd.R_append kTm (w0 := w2) w2.heap.size rfl (.tmp 65) (.tmp 69) 26 TR (.agg #[.int .i64 0, .int .i64 0]) 16 rfl Try.underlying26 infoR rfl (by decide) (by omega) _ acc ⟨due, kind⟩ [.int .i64 due, .int .i64 kind] (fun _ => True) (fun _ => False) rfl rfl ?aP (fun _ hk => hk.elim) (fun _ _ => trivial) ?aO ?aB ?aS ?aL ?_; (case aP => exact k54_mkM _ _ _ ⟨due, kind⟩); (case aB => exact HB.out); (case aO => exact HA.out); (case aS => exact below_size HB.out); (case aL => have := HAL.out; omega); intro v4 w4 ho hb hg hat; have HO1 := Lib.hid ho; have HBo1 := Lib.hid hb; obtain ⟨j0, j1⟩ := (HR2.out.below hb).cells HI2.out; rw [← HX.out] at j0 j1; clear ho hb hg hat) | ((with_reducible refine gate_builtin (b := .append) (xs := #[.tmp 71, .tmp 76]) rfl ?_); at_builtin; refine Kd.R_append kTm (w0 := w2) w2.heap.size rfl (.tmp 71) (.tmp 76) 26 TR (.agg #[.int .i64 0, .int .i64 0]) 16 rfl Try.underlying26 infoR rfl (by decide) (by omega) _ (acc ++ [⟨due, kind⟩]) ⟨x0, x1⟩ [.int .i64 x0, .int .i64 x1] (fun _ => True) (fun _ => False) rfl rfl ?aP (fun _ hk => hk.elim) (fun _ _ => trivial) ?aO ?aB ?aS ?aL ?_; (case aP => exact k54_mkM _ _ _ ⟨x0, x1⟩); (case aB => exact HBo1.out); (case aO => exact HO1.out); (case aS => exact below_size HBo1.out); (case aL => have := HAL.out; rw [List.length_append, List.length_singleton]; omega); intro v3 w3 ho hb hg hat; have HO := Lib.hid ho; have HBo := Lib.hid hb; clear ho hb hg hat))
            go_roundg (rest.length + 1 - (i + 1))
            case measure => have := HKq.out; have := HI2.out; omega
            case rel => exact ⟨i + 1, true, (acc ++ [⟨due, kind⟩]) ++ [⟨x0, x1⟩], rfl, by first | rfl | exact congrArg _ wrapI, Lib.hid rfl, Lib.hid HI2.out, Lib.hid (by have := setSt_now HS.out HI2.out (by rw [← HX.out]; exact HT.out); rw [← HX.out] at this; exact this), HO, HBo⟩
          · have f1 : decide (due < x0) = false := decide_eq_false k1
            by_cases k2 : due = x0
            · have f2 : (due == x0) = true := beq_iff_eq.mpr k2
              by_cases k3 : kind < x1
              · have f3 : decide (kind < x1) = true := decide_eq_true k3
                have HT := Lib.hid (show tless ⟨due, kind⟩ ⟨x0, x1⟩ = true from (tless_iff _ _).mpr (.inr ⟨k2, k3⟩))
                clear k1 k2 k3
                go_wp2_with (first | ((with_reducible refine gate_builtin (b := .append) (xs := #[.tmp 65, .tmp 69]) rfl ?_); at_builtin; refine Kd.R_append kTm (w0 := w2) w2.heap.size rfl (.tmp 65) (.tmp 69) 26 TR (.agg #[.int .i64 0, .int .i64 0]) 16 rfl Try.underlying26 infoR rfl (by decide) (by omega) _ acc ⟨due, kind⟩ [.int .i64 due, .int .i64 kind] (fun _ => True) (fun _ => False) rfl rfl ?aP (fun _ hk => hk.elim) (fun _ _ => trivial) ?aO ?aB ?aS ?aL ?_; (case aP => exact k54_mkM _ _ _ ⟨due, kind⟩); (case aB => exact HB.out); (case aO => exact HA.out); (case aS => exact below_size HB.out); (case aL => have := HAL.out; omega); intro v4 w4 ho hb hg hat; have HO1 := Lib.hid ho; have HBo1 := Lib.hid hb; obtain ⟨j0, j1⟩ := (HR2.out.below hb).cells HI2.out; rw [← HX.out] at j0 j1; clear ho hb hg hat) | ((with_reducible refine gate_builtin (b := .append) (xs := #[.tmp 71, .tmp 76]) rfl ?_); at_builtin; refine Kd.R_append kTm (w0 := w2) w2.heap.size rfl (.tmp 71) (.tmp 76) 26 TR (.agg #[.int .i64 0, .int .i64 0]) 16 rfl Try.underlying26 infoR rfl (by decide) (by omega) _ (acc ++ [⟨due, kind⟩]) ⟨x0, x1⟩ [.int .i64 x0, .int .i64 x1] (fun _ => True) (fun _ => False) rfl rfl ?aP (fun _ hk => hk.elim) (fun _ _ => trivial) ?aO ?aB ?aS ?aL ?_; (case aP => exact k54_mkM _ _ _ ⟨x0, x1⟩); (case aB => exact HBo1.out); (case aO => exact HO1.out); (case aS => exact below_size HBo1.out); (case aL => have := HAL.out; rw [List.length_append, List.length_singleton]; omega); intro v3 w3 ho hb hg hat; have HO := Lib.hid ho; have HBo := Lib.hid hb; clear ho hb hg hat))
                go_roundg (rest.length + 1 - (i + 1))
                case measure => have := HKq.out; have := HI2.out; omega
                case rel => exact ⟨i + 1, true, (acc ++ [⟨due, kind⟩]) ++ [⟨x0, x1⟩], rfl, by first | rfl | exact congrArg _ wrapI, Lib.hid rfl, Lib.hid HI2.out, Lib.hid (by have := setSt_now HS.out HI2.out (by rw [← HX.out]; exact HT.out); rw [← HX.out] at this; exact this), HO, HBo⟩
              · have f3 : decide (kind < x1) = false := decide_eq_false k3
                have HT := Lib.hid (show tless ⟨due, kind⟩ ⟨x0, x1⟩ = false from Bool.eq_false_iff.mpr (fun e => by rcases (tless_iff _ _).mp e with e | ⟨_, e⟩; exact k1 e; exact k3 e))
                clear k1 k2 k3
                go_wp2_with ((with_reducible refine gate_builtin (b := .append) (xs := #[.tmp 71, .tmp 76]) rfl ?_); at_builtin; refine Kd.R_append kTm (w0 := w2) w2.heap.size rfl (.tmp 71) (.tmp 76) 26 TR (.agg #[.int .i64 0, .int .i64 0]) 16 rfl Try.underlying26 infoR rfl (by decide) (by omega) _ acc ⟨x0, x1⟩ [.int .i64 x0, .int .i64 x1] (fun _ => True) (fun _ => False) rfl rfl ?aP (fun _ hk => hk.elim) (fun _ _ => trivial) ?aO ?aB ?aS ?aL ?_; (case aP => exact k54_mkM _ _ _ ⟨x0, x1⟩); (case aB => exact HB.out); (case aO => exact HA.out); (case aS => exact below_size HB.out); (case aL => have := HAL.out; omega); intro v3 w3 ho hb hg hat; have HO := Lib.hid ho; have HBo := Lib.hid hb; clear ho hb hg hat)
                go_roundg (rest.length + 1 - (i + 1))
                case measure => have := HKq.out; have := HI2.out; omega
                case rel => exact ⟨i + 1, false, acc ++ [⟨x0, x1⟩], rfl, by first | rfl | exact congrArg _ wrapI, Lib.hid rfl, Lib.hid HI2.out, Lib.hid (by have := setSt_on HS.out HI2.out (by rw [← HX.out]; exact HT.out); rw [← HX.out] at this; exact this), HO, HBo⟩
            · have f2 : (due == x0) = false := beq_eq_false_iff_ne.mpr k2
              have HT := Lib.hid (show tless ⟨due, kind⟩ ⟨x0, x1⟩ = false from Bool.eq_false_iff.mpr (fun e => by rcases (tless_iff _ _).mp e with e | ⟨e, _⟩; exact k1 e; exact k2 e))
              clear k1 k2
              go_wp2_with ((with_reducible refine gate_builtin (b := .append) (xs := #[.tmp 71, .tmp 76]) rfl ?_); at_builtin; refine Kd.R_append kTm (w0 := w2) w2.heap.size rfl (.tmp 71) (.tmp 76) 26 TR (.agg #[.int .i64 0, .int .i64 0]) 16 rfl Try.underlying26 infoR rfl (by decide) (by omega) _ acc ⟨x0, x1⟩ [.int .i64 x0, .int .i64 x1] (fun _ => True) (fun _ => False) rfl rfl ?aP (fun _ hk => hk.elim) (fun _ _ => trivial) ?aO ?aB ?aS ?aL ?_; (case aP => exact k54_mkM _ _ _ ⟨x0, x1⟩); (case aB => exact HB.out); (case aO => exact HA.out); (case aS => exact below_size HB.out); (case aL => have := HAL.out; omega); intro v3 w3 ho hb hg hat; have HO := Lib.hid ho; have HBo := Lib.hid hb; clear ho hb hg hat)
              go_roundg (rest.length + 1 - (i + 1))
              case measure => have := HKq.out; have := HI2.out; omega
              case rel => exact ⟨i + 1, false, acc ++ [⟨x0, x1⟩], rfl, by first | rfl | exact congrArg _ wrapI, Lib.hid rfl, Lib.hid HI2.out, Lib.hid (by have := setSt_on HS.out HI2.out (by rw [← HX.out]; exact HT.out); rw [← HX.out] at this; exact this), HO, HBo⟩
      · have d1 : decide ((i : Int) < (rest.length : Int)) = false := decide_eq_false (by omega)
        have d2 : decide (i < rest.length) = false := decide_eq_false hi
        have hS := HS.out
        unfold setSt at hS
        rw [List.drop_eq_nil_of_le (by omega)] at hS
        have HAL := Lib.hid (show acc.length ≤ 100001 by have := setSt_len HS.out; have := HWL.out; have := HL.out; omega)
        clear HS hi
        obtain ⟨r0, rf⟩ := (H.out.below (below_step HB2.out HB.out)).cell
        cases put
        · rw [if_neg (by decide)] at hS
          have HS := Lib.hid hS
          clear hS
          go_wp2_with ((with_reducible refine gate_builtin (b := .append) (xs := #[.tmp 80, .tmp 84]) rfl ?_); at_builtin; refine Kd.R_append kTm (w0 := w2) w2.heap.size rfl (.tmp 80) (.tmp 84) 26 TR (.agg #[.int .i64 0, .int .i64 0]) 16 rfl Try.underlying26 infoR rfl (by decide) (by omega) _ acc ⟨due, kind⟩ [.int .i64 due, .int .i64 kind] (fun _ => True) (fun _ => False) rfl rfl ?aP (fun _ hk => hk.elim) (fun _ _ => trivial) ?aO ?aB ?aS ?aL ?_; (case aP => exact k54_mkM _ _ _ ⟨due, kind⟩); (case aB => exact HB.out); (case aO => exact HA.out); (case aS => exact below_size HB.out); (case aL => have := HAL.out; omega); intro v4 w4 ho hb hg hat; obtain ⟨A8, c8, rfl⟩ := Kd.R_slice ho; have HO1 := Lib.hid ho; have HBo1 := Lib.hid hb; obtain ⟨r0, rf⟩ := (H.out.below (below_step HB2.out hb)).cell; clear ho hb hg hat)
          go_ret
          exact ⟨rfl, RAt.put H.out (below_step HB2.out HBo1.out) (by rw [← HS.out]; have hq := (LAt.of_R HO1.out).lower (Nat.le_trans H.out.base HB2.out.size); rw [List.length_append, List.length_singleton] at hq; exact hq)⟩
        · rw [if_pos rfl, List.append_nil] at hS
          have HS := Lib.hid hS
          clear hS
          obtain ⟨A8, c8, rfl⟩ := Kd.R_slice HA.out
          go_wp2
          go_ret
          exact ⟨rfl, RAt.put H.out (below_step HB2.out HB.out) (by rw [← HS.out]; exact (LAt.of_R HA.out).lower (Nat.le_trans H.out.base HB2.out.size))⟩
end Go.Proofs.Ytjoemkmckabpjaa.Pr
