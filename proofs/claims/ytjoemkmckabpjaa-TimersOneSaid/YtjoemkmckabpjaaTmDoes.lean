-- A deed, of both queues.
import Derived.Test.YtjoemkmckabpjaaTmRel
namespace Go.Proofs.Ytjoemkmckabpjaa.Pr
open Go.RowKit Go.Proofs.YtjoemkmckabpjaaW.PrintWords Go.Proofs.YtjoemkmckabpjaaW.PrintLast Go.Proofs.YtjoemkmckabpjaaW.PrintMore
set_option linter.unusedVariables false
set_option linter.unusedSimpArgs false
theorem QAt.inj {w : World} {B p mb : Nat} {v : Value} {ts : List Tm} (h : QAt w B p mb v ts) : InjT ts := by
  obtain ⟨T, _, k⟩ := h
  exact k.inj
theorem QAt.oks {w : World} {B p mb : Nat} {v : Value} {ts : List Tm} (h : QAt w B p mb v ts) : ∀ t ∈ ts, okI t.f1 := by
  obtain ⟨T, _, k⟩ := h
  exact k.ok
theorem RRan.quiet {w w' : World} {B r : Nat} {v : Value} {l : List Tm} (h : RAt w B r v l) (hb : Below w.heap.size w w') : RRan w B r l w' := ⟨v, h.below hb, lower hb h.base, Kept.of_below hb _⟩
def PCall (B : Nat) (f : FuncId) (xs : List Value) (ts : List Tm) (y : Value) (ts' : List Tm) : Prop := ∀ w q p mb v, KAt w B q p mb v ts → Calls Try.prog f (.pointer (some ⟨q, 0, none⟩) :: xs).toArray w fun e w' => e = .returned y ∧ KRan w B q p mb v ts' w'
def DCall (B : Nat) (f : FuncId) (xs : List Value) (l : List Tm) (y : Value) (l' : List Tm) : Prop := ∀ w r u, RAt w B r u l → Calls Try.prog f (.pointer (some ⟨r, 0, none⟩) :: xs).toArray w fun e w' => e = .returned y ∧ RRan w B r l' w'
theorem has_or (ts : List Tm) (kind : Int) : (∃ i, i < ts.length ∧ ts[i]!.f1 = kind) ∨ ∀ t ∈ ts, t.f1 ≠ kind := by
  by_cases h : ∃ i, i < ts.length ∧ ts[i]!.f1 = kind
  · exact .inl h
  · refine .inr (fun t ht e => h ?_)
    obtain ⟨i, hi, rfl⟩ := mem_bang ht
    exact ⟨i, hi, e⟩
theorem wo_less {l : List Tm} {kind : Int} {t : Tm} (h : t ∈ l) (e : t.f1 = kind) : (wo l kind).length < l.length := by
  refine Nat.lt_of_le_of_ne (wo_length l kind) (fun hl => ?_)
  have := List.filter_eq_self.mp (List.Sublist.eq_of_length (List.filter_sublist (p := fun t : Tm => !decide (t.f1 = kind)) (l := l)) hl) t h
  simp [e] at this
theorem set_both {B : Nat} {ts l : List Tm} (h : Rel ts l) (hj : InjT ts) {kind : Int} (hk : okI kind) (due : Int) : ∃ c ts' l', Rel ts' l' ∧ PCall B 14 [.int .i64 kind, .int .i64 due] ts (.int .i64 c) ts' ∧ DCall B 19 [.int .i64 kind, .int .i64 due] l (.int .i64 c) l' ∧
    (c = 0 ∧ l' = insT ⟨due, kind⟩ (wo l kind) ∨ c = 12 ∧ l' = l ∧ ts' = ts ∧ 64 ≤ l.length ∧ ∀ t ∈ l, t.f1 ≠ kind) := by
  have hlen := h.perm.length_eq
  have h64 := h.len
  rcases has_or ts kind with ⟨i, hi, e⟩ | hn
  · refine ⟨0, _, _, h.set_has hj hi e due, fun w q p mb v hK => set_has w B q p mb v ts kind due i hi e (by omega) hK, fun w r u hR => rset_calls w B r u l kind due (by omega) hR (fun hf => ?_), .inl ⟨rfl, rfl⟩⟩
    have := wo_less (h.perm.mem_iff.mp (bang_mem hi)) e
    omega
  · have hnl := h.none hn
    by_cases hl : ts.length < 64
    · exact ⟨0, _, _, h.set_new hn hl due, fun w q p mb v hK => set_new w B q p mb v ts kind due hk hn hl hK, fun w r u hR => rset_calls w B r u l kind due (by omega) hR (fun hf => by omega), .inl ⟨rfl, rfl⟩⟩
    · refine ⟨12, ts, l, h, fun w q p mb v hK => (set_full w B q p mb v ts kind due hk hn (by omega) hK).mono (fun e w' ⟨he, hw⟩ => ⟨he, ?_⟩), fun w r u hR => (rfull_calls w B r u l kind due hR (by rw [wo_none hnl]) (by omega)).mono (fun e w' ⟨he, hb⟩ => ⟨he, RRan.quiet hR hb⟩), .inr ⟨rfl, rfl, rfl, by omega, hnl⟩⟩
      subst hw
      exact KRan.quiet hK (Below.refl _ _)
theorem stop_both {B : Nat} {ts l : List Tm} (h : Rel ts l) (hj : InjT ts) {kind : Int} (hk : okI kind) : ∃ c ts', Rel ts' (wo l kind) ∧ PCall B 16 [.int .i64 kind] ts (.bool c) ts' ∧ DCall B 17 [.int .i64 kind] l (.bool c) (wo l kind) ∧ c = decide ((wo l kind).length < l.length) := by
  have hlen := h.perm.length_eq
  have h64 := h.len
  rcases has_or ts kind with ⟨i, hi, e⟩ | hn
  · have hw := wo_less (h.perm.mem_iff.mp (bang_mem hi)) e
    refine ⟨true, _, h.stop_has hj hi e, fun w q p mb v hK => stop_has w B q p mb v ts kind i hi e (by omega) hK, fun w r u hR => ?_, (decide_eq_true hw).symm⟩
    have := rstop_calls w B r u l kind (by omega) hR
    rw [decide_eq_true hw] at this
    exact this
  · have hnl := h.none hn
    have hw : wo l kind = l := wo_none hnl
    refine ⟨false, ts, by rw [hw]; exact h, fun w q p mb v hK => (stop_none w B q p mb v ts kind hk hn hK).mono (fun e w' ⟨he, hw⟩ => ⟨he, ?_⟩), fun w r u hR => ?_, by rw [hw]; simp⟩
    · subst hw
      exact KRan.quiet hK (Below.refl _ _)
    · have := rstop_calls w B r u l kind (by omega) hR
      rw [hw, decide_eq_false (Nat.lt_irrefl _)] at this
      rw [hw]
      exact this
theorem pop_both {B : Nat} {ts l : List Tm} (h : Rel ts l) (now : Int) : ∃ ts', Rel ts' (rpopL l now) ∧ PCall B 10 [.int .i64 now] ts (.tuple #[tval (rpopT l now), .bool (rpopB l now)]) ts' ∧ DCall B 18 [.int .i64 now] l (.tuple #[tval (rpopT l now), .bool (rpopB l now)]) (rpopL l now) := by
  have hlen := h.perm.length_eq
  have h64 := h.len
  have hP : ∀ w q p mb v, KAt w B q p mb v ts → Calls Try.prog 10 #[.pointer (some ⟨q, 0, none⟩), .int .i64 now] w fun e w' => e = .returned (.tuple #[tval (popT ts now), .bool (popB ts now)]) ∧ KRan w B q p mb v (popQ ts now) w' := fun w q p mb v hK => qpop_calls w B q p mb v ts now (by omega) hK
  have hD : ∀ w r u, RAt w B r u l → Calls Try.prog 18 #[.pointer (some ⟨r, 0, none⟩), .int .i64 now] w fun e w' => e = .returned (.tuple #[tval (rpopT l now), .bool (rpopB l now)]) ∧ RRan w B r (rpopL l now) w' := fun w r u hR => rpop_calls w B r u l now (by omega) hR
  cases l with
  | nil =>
    obtain rfl : ts = [] := List.eq_nil_of_length_eq_zero hlen
    exact ⟨[], Rel.empty, hP, hD⟩
  | cons x xs =>
    obtain ⟨h0, hl⟩ := h.first rfl
    by_cases hd : x.f0 ≤ now
    · have e1 : popT ts now = x := by rw [show popT ts now = ts[0]! from if_pos ⟨hl, by rw [h0]; exact hd⟩, h0]
      have e2 : popB ts now = true := by unfold popB; rw [h0, decide_eq_true hl, decide_eq_true hd]; rfl
      have e3 : popQ ts now = (popF ts).take (ts.length - 1) := if_pos ⟨hl, by rw [h0]; exact hd⟩
      have d1 : rpopT (x :: xs) now = x := if_pos hd
      have d2 : rpopB (x :: xs) now = true := decide_eq_true hd
      have d3 : rpopL (x :: xs) now = xs := if_pos hd
      rw [e1, e2, e3] at hP
      rw [d1, d2, d3] at hD ⊢
      exact ⟨_, h.pop rfl, hP, hD⟩
    · have e1 : popT ts now = ⟨0, 0⟩ := if_neg (fun e => hd (by rw [← h0]; exact e.2))
      have e2 : popB ts now = false := by unfold popB; rw [h0, decide_eq_false hd, Bool.and_false]
      have e3 : popQ ts now = ts := if_neg (fun e => hd (by rw [← h0]; exact e.2))
      have d1 : rpopT (x :: xs) now = ⟨0, 0⟩ := if_neg hd
      have d2 : rpopB (x :: xs) now = false := decide_eq_false hd
      have d3 : rpopL (x :: xs) now = x :: xs := if_neg hd
      rw [e1, e2, e3] at hP
      rw [d1, d2, d3] at hD ⊢
      exact ⟨ts, h, hP, hD⟩
/-- Both queues. -/
structure Two (w : World) (B q p mb : Nat) (v : Value) (r : Nat) (ts l : List Tm) : Prop where
  k : KAt w B q p mb v ts
  d : ∃ u, RAt w B r u l
/-- What a deed leaves. -/
def Done (w : World) (B q p mb : Nat) (v : Value) (r : Nat) (ts l : List Tm) (w' : World) : Prop := ∃ v', Two w' B q p mb v' r ts l ∧ Below B w w' ∧ Kept w w' (fun k => PFoot p mb v k ∨ k = r) ∧ (v'.ownBlock = v.ownBlock ∨ ∃ k, v'.ownBlock = some k ∧ w.heap.size ≤ k)
theorem Two.below {w w' : World} {B q p mb : Nat} {v : Value} {r : Nat} {ts l : List Tm} (h : Two w B q p mb v r ts l) (hb : Below w.heap.size w w') : Two w' B q p mb v r ts l := by
  obtain ⟨k, u, d⟩ := h
  exact ⟨k.below hb, u, d.below hb⟩
theorem Done.refl {w : World} {B q p mb : Nat} {v : Value} {r : Nat} {ts l : List Tm} (h : Two w B q p mb v r ts l) : Done w B q p mb v r ts l w := ⟨v, h, Below.refl _ _, Kept.refl _ _, .inl rfl⟩
theorem Done.quiet {w w' : World} {B q p mb : Nat} {v : Value} {r : Nat} {ts l : List Tm} (h : Two w B q p mb v r ts l) (hb : Below w.heap.size w w') : Done w B q p mb v r ts l w' := ⟨v, h.below hb, lower hb h.k.base, Kept.of_below hb _, .inl rfl⟩
theorem Done.trans {w w1 w2 : World} {B q p mb : Nat} {v v1 : Value} {r : Nat} {ts2 l2 : List Tm} (b1 : Below B w w1) (k1 : Kept w w1 (fun k => PFoot p mb v k ∨ k = r)) (o1 : v1.ownBlock = v.ownBlock ∨ ∃ k, v1.ownBlock = some k ∧ w.heap.size ≤ k) (k : Done w1 B q p mb v1 r ts2 l2 w2) : Done w B q p mb v r ts2 l2 w2 := by
  obtain ⟨v2, h2, b2, k2, o2⟩ := k
  refine ⟨v2, h2, b1.trans b2, k1.then_ k2 (fun k hk => ?_), ?_⟩
  · rcases hk with hk | hk
    · rcases foot_of hk o1 with e | e
      · exact .inl (.inl e)
      · exact .inr e
    · exact .inl (.inr hk)
  · rcases o2 with e | ⟨k, e, hk⟩
    · rw [e]
      exact o1
    · exact .inr ⟨k, e, Nat.le_trans b1.size hk⟩
theorem Done.below {w w1 w2 : World} {B q p mb : Nat} {v : Value} {r : Nat} {ts l : List Tm} (h : Done w B q p mb v r ts l w1) (hb : Below w1.heap.size w1 w2) : Done w B q p mb v r ts l w2 := by
  obtain ⟨v1, h1, b1, k1, o1⟩ := h
  exact Done.trans b1 k1 o1 (Done.quiet h1 hb)
theorem Two.p {w w' : World} {B q p mb : Nat} {v : Value} {r : Nat} {ts l ts2 : List Tm} (h : Two w B q p mb v r ts l) (k : KRan w B q p mb v ts2 w') : Done w B q p mb v r ts2 l w' := by
  obtain ⟨v1, h1, b1, k1, o1⟩ := k
  obtain ⟨hk, u, hd⟩ := h
  exact ⟨v1, ⟨h1, u, hd.kept hk.pile k1⟩, b1, k1.mono (fun k hk => .inl hk), o1⟩
theorem Two.r {w w' : World} {B q p mb : Nat} {v : Value} {r : Nat} {ts l l2 : List Tm} (h : Two w B q p mb v r ts l) (k : RRan w B r l2 w') : Done w B q p mb v r ts l2 w' := by
  obtain ⟨hk, u, hd⟩ := h
  obtain ⟨v1, h1, b1, k1⟩ := k
  exact ⟨v, ⟨hk.kept hd k1, v1, h1⟩, b1, k1.mono (fun k hk => .inr hk), .inl rfl⟩
/-- What the call has made stays. -/
theorem Done.stays {w W w' : World} {B q p mb : Nat} {v : Value} {r : Nat} {ts l ts2 l2 : List Tm} (h : Two w B q p mb v r ts l) (k : Done W B q p mb v r ts2 l2 w') {b : Nat} {o : Obj} (h1 : w.heap.size ≤ b) (hb : W.heap[b]? = some o) : w'.heap[b]? = some o := by
  obtain ⟨v', _, _, hk, _⟩ := k
  obtain ⟨u, hd⟩ := h.d
  refine blk_kept hb hk (fun hf => ?_)
  rcases hf with hf | hf
  · have := h.k.pile.foot_lt hf
    omega
  · have := blk_lt hd.blk
    omega
theorem PCall.done {B : Nat} {f : FuncId} {xs : List Value} {ts ts2 : List Tm} {y : Value} (h : PCall B f xs ts y ts2) {W w : World} {q p mb : Nat} {v : Value} {r : Nat} {l : List Tm} (hD : Done W B q p mb v r ts l w) : Calls Try.prog f (.pointer (some ⟨q, 0, none⟩) :: xs).toArray w fun e w' => e = .returned y ∧ Done W B q p mb v r ts2 l w' := by
  obtain ⟨v1, h1, b1, k1, o1⟩ := hD
  exact (h w q p mb v1 h1.k).mono fun e w' ⟨he, hr⟩ => ⟨he, Done.trans b1 k1 o1 (h1.p hr)⟩
theorem DCall.done {B : Nat} {f : FuncId} {xs : List Value} {l l2 : List Tm} {y : Value} (h : DCall B f xs l y l2) {W w : World} {q p mb : Nat} {v : Value} {r : Nat} {ts : List Tm} (hD : Done W B q p mb v r ts l w) : Calls Try.prog f (.pointer (some ⟨r, 0, none⟩) :: xs).toArray w fun e w' => e = .returned y ∧ Done W B q p mb v r ts l2 w' := by
  obtain ⟨v1, h1, b1, k1, o1⟩ := hD
  obtain ⟨u, hd⟩ := h1.d
  exact (h w r u hd).mono fun e w' ⟨he, hr⟩ => ⟨he, Done.trans b1 k1 o1 (h1.r hr)⟩
abbrev dobj (o k d : Int) : Obj := .cells #[.int .i64 o, .int .i64 k, .int .i64 d] 31 (0, 0)
theorem dcells {w : World} {b : Nat} {o k d : Int} (h : w.heap[b]? = some (dobj o k d)) : w.cell? ⟨b, 0, none⟩ = some (.int .i64 o) ∧ w.cell? ⟨b, 1, none⟩ = some (.int .i64 k) ∧ w.cell? ⟨b, 2, none⟩ = some (.int .i64 d) := ⟨(blk_cell h 0).trans rfl, (blk_cell h 1).trans rfl, (blk_cell h 2).trans rfl⟩
set_option maxRecDepth 100000 in
set_option maxHeartbeats 8000000 in
theorem does_calls (w : World) (B q p mb : Nat) (v : Value) (r : Nat) (ts l : List Tm) (o k d : Int) (hk : okI k) (hT : Two w B q p mb v r ts l) (hR : Rel ts l) :
    Calls Try.prog 8 #[.pointer (some ⟨q, 0, none⟩), .pointer (some ⟨r, 0, none⟩), .agg #[.int .i64 o, .int .i64 k, .int .i64 d]] w fun e w' => e = .returned (.bool true) ∧ ∃ ts' l', Rel ts' l' ∧ Done w B q p mb v r ts' l' w' := by
  have hj := hT.k.pile.inj
  have HTw := Lib.hid hT
  obtain ⟨c0, c1, c2⟩ := dcells (blk_new w (dobj o k d))
  by_cases h1 : o = 1
  · subst h1
    obtain ⟨c, ts', hr', hp, hd, _⟩ := stop_both (B := B) hR hj hk
    have HP := Lib.hid hp
    have HDc := Lib.hid hd
    have HRR := Lib.hid hr'
    clear hT hR hj hk hr' hp hd
    go_enter Try.func8, Try.ntmps8
    go_wp2
    change Code.wp _ _ _ _ (w.alloc (dobj 1 k d))
    have HB2 := Lib.hid (below_drew1 (below_alloc (Below.refl w.heap.size w) (dobj 1 k d)))
    have HT2 := Lib.hid (HTw.out.below HB2.out)
    have HX2 := Lib.hid (blk_drew (blk_new w (dobj 1 k d)))
    generalize hb : w.heap.size = b at c0 c1 c2 HX2 ⊢
    have HBz := Lib.hid (Nat.le_of_eq hb)
    clear hb
    refine start_ (n := 10) (S := (fun w' => w'.cell? ⟨b, 1, none⟩ = some (.int .i64 k) ∧ w'.cell? ⟨b, 2, none⟩ = some (.int .i64 d))) (ds := []) #[false, false, false, false, false, false, false, false, false, false] (by kernel_rfl) rfl rfl ⟨c1, c2⟩ (fun hHeld => ?_)
    clear hHeld; generalize (w.alloc (dobj 1 k d)).drew = W2 at HB2 HT2 HX2 ⊢; have hHeld := (dcells HX2.out).2
    refine kz 0 14 ?_
    refine kz 1 15 ?_
    refine kk2 2 16 ?_
    refine kz 4 18 ?_
    refine kz 5 19 ?_
    refine kk2 6 20 ?_
    refine one_ (i := 3) (N := some 17) #[true, true, true, true, true, true, true, false, false, false] rfl rfl (by kernel_rfl) (by decide) (fun K hK => ?_)
    refine goes_ Try.func16 (by kernel_rfl) rfl #[.pointer (some ⟨q, 0, none⟩), .int .i64 k] (by rfl) rfl rfl (by (try simp only [List.map_toArray, List.map_cons, List.map_nil]); first | done | rfl) ?_
    with_reducible refine (HP.out.done (Done.refl HT2.out)).mono ?_
    rintro e w2 ⟨rfl, hr2⟩
    have HR2 := Lib.hid hr2
    clear hr2
    refine ⟨_, rfl, ?_⟩
    refine hK.out _ _ (dcells (Done.stays HTw.out HR2.out HBz.out HX2.out)).2 (fun hHeld => ?_)
    clear hK K
    refine norm_ (a' := ?_) ?_ ?_
    rotate_left
    · show Act.put _ (some 17) _ = _
      simp only [Act.put, List.setIfInBounds_toArray, List.set_cons_zero, List.set_cons_succ]
      rfl
    refine one_ (i := 7) (N := some 21) #[true, true, true, true, true, true, true, true, false, false] rfl rfl (by kernel_rfl) (by decide) (fun K hK => ?_)
    refine goes_ Try.func17 (by kernel_rfl) rfl #[.pointer (some ⟨r, 0, none⟩), .int .i64 k] (by rfl) rfl rfl (by (try simp only [List.map_toArray, List.map_cons, List.map_nil]); first | done | rfl) ?_
    with_reducible refine (HDc.out.done HR2.out).mono ?_
    rintro e w3 ⟨rfl, hr3⟩
    have HR3 := Lib.hid hr3
    clear hr3
    refine ⟨_, rfl, ?_⟩
    refine hK.out _ _ (dcells (Done.stays HTw.out HR3.out HBz.out HX2.out)).2 (fun hHeld => ?_)
    clear hK K
    refine norm_ (a' := ?_) ?_ ?_
    rotate_left
    · show Act.put _ (some 21) _ = _
      simp only [Act.put, List.setIfInBounds_toArray, List.set_cons_zero, List.set_cons_succ]
      rfl
    refine kz 8 22 ?_
    refine kz 9 6 ?_
    refine done_ (by kernel_rfl) ?_
    go_wp2
    go_ret
    exact ⟨rfl, _, _, HRR.out, Done.trans (lower HB2.out HTw.out.k.base) (Kept.of_below HB2.out _) (.inl rfl) HR3.out⟩
  · have e1 : (o == 1) = false := beq_eq_false_iff_ne.mpr h1
    by_cases h2 : o = 2
    · subst h2
      obtain ⟨ts', hr', hp, hd⟩ := pop_both (B := B) hR d
      obtain ⟨⟨x0, x1⟩, hx⟩ : ∃ x, x = rpopT l d := ⟨_, rfl⟩
      obtain ⟨fl, hf⟩ : ∃ fl, fl = rpopB l d := ⟨_, rfl⟩
      obtain ⟨l2, hl2⟩ : ∃ l2, l2 = rpopL l d := ⟨_, rfl⟩
      rw [← hx, ← hf] at hp hd
      rw [← hl2] at hd hr'
      unfold tval at hp hd
      have HP := Lib.hid hp
      have HDc := Lib.hid hd
      have HRR := Lib.hid hr'
      have HT1 := Lib.hid (HTw.out.below (below_alloc (Below.refl w.heap.size w) (dobj 2 k d)))
      clear hT hR hj hk hr' hp hd hx hf hl2 h1
      go_enter Try.func8, Try.ntmps8
      go_wp2_with (first | (go_at_call 10; (with_reducible refine (HP.out.done (Done.refl HT1.out)).mono ?_); rintro e w2 ⟨rfl, hr2⟩; have XB := Done.stays HTw.out hr2 (Nat.le_refl _) (blk_new w (dobj 2 k d)); have HR2 := Lib.hid hr2; obtain ⟨v2, T2, b2, k2, o2⟩ := hr2; have HT2 := Lib.hid T2; have HT3 := Lib.hid (T2.below (below_alloc (Below.refl w2.heap.size w2) (tobj ⟨x0, x1⟩))); obtain ⟨_, _, e2⟩ := dcells (blk_alloc XB (tobj ⟨x0, x1⟩)); have HB2 := Lib.hid b2; have HK2 := Lib.hid k2; have HO2 := Lib.hid o2; clear T2 b2 k2 o2 XB) | (go_at_call 18; (with_reducible refine (HDc.out.done (Done.refl HT3.out)).mono ?_); rintro e w4 ⟨rfl, hr4⟩; obtain ⟨t0, t1, _, _⟩ := tobj_cells (blk_alloc (Done.stays HT2.out hr4 (Nat.le_refl _) (blk_new w2 (tobj ⟨x0, x1⟩))) (robj ⟨x0, x1⟩)); have HR4 := Lib.hid hr4; clear hr4))
      go_ret
      refine ⟨rfl, _, _, HRR.out, ?_⟩
      have hA := below_alloc (Below.refl w.heap.size w) (dobj 2 k d)
      have hB := below_alloc (Below.refl w2.heap.size w2) (tobj ⟨x0, x1⟩)
      have hC := HR4.out.below (below_alloc (Below.refl w4.heap.size w4) (robj ⟨x0, x1⟩))
      exact Done.trans (lower hA HTw.out.k.base) (Kept.of_below hA _) (.inl rfl) (Done.trans HB2.out HK2.out HO2.out (Done.trans (lower hB HT2.out.k.base) (Kept.of_below hB _) (.inl rfl) hC))
    · have e2 : (o == 2) = false := beq_eq_false_iff_ne.mpr h2
      obtain ⟨c, ts', l', hr', hp, hd, _⟩ := set_both (B := B) hR hj hk d
      have HP := Lib.hid hp
      have HDc := Lib.hid hd
      have HRR := Lib.hid hr'
      clear hT hR hj hk hr' hp hd h1 h2
      go_enter Try.func8, Try.ntmps8
      go_wp2
      change Code.wp _ _ _ _ (w.alloc (dobj o k d))
      have HB2 := Lib.hid (below_drew1 (below_alloc (Below.refl w.heap.size w) (dobj o k d)))
      have HT2 := Lib.hid (HTw.out.below HB2.out)
      have HX2 := Lib.hid (blk_drew (blk_new w (dobj o k d)))
      generalize hb : w.heap.size = b at c0 c1 c2 HX2 ⊢
      have HBz := Lib.hid (Nat.le_of_eq hb)
      clear hb
      refine start_ (n := 14) (S := (fun w' => w'.cell? ⟨b, 1, none⟩ = some (.int .i64 k) ∧ w'.cell? ⟨b, 2, none⟩ = some (.int .i64 d))) (ds := []) #[false, false, false, false, false, false, false, false, false, false, false, false, false, false] (by kernel_rfl) rfl rfl ⟨c1, c2⟩ (fun hHeld => ?_)
      clear hHeld; generalize (w.alloc (dobj o k d)).drew = W2 at HB2 HT2 HX2 ⊢; have hHeld := (dcells HX2.out).2
      refine kz 0 57 ?_
      refine kz 1 58 ?_
      refine kk2 2 59 ?_
      refine kz 3 60 ?_
      refine kk2 4 61 ?_
      refine kz 6 63 ?_
      refine kz 7 64 ?_
      refine kk2 8 65 ?_
      refine kz 9 66 ?_
      refine kk2 10 67 ?_
      refine one_ (i := 5) (N := some 62) #[true, true, true, true, true, true, true, true, true, true, true, false, false, false] rfl rfl (by kernel_rfl) (by decide) (fun K hK => ?_)
      refine goes_ Try.func14 (by kernel_rfl) rfl #[.pointer (some ⟨q, 0, none⟩), .int .i64 k, .int .i64 d] (by rfl) rfl rfl (by (try simp only [List.map_toArray, List.map_cons, List.map_nil]); first | done | rfl) ?_
      with_reducible refine (HP.out.done (Done.refl HT2.out)).mono ?_
      rintro e w2 ⟨rfl, hr2⟩
      have HR2 := Lib.hid hr2
      clear hr2
      refine ⟨_, rfl, ?_⟩
      refine hK.out _ _ (dcells (Done.stays HTw.out HR2.out HBz.out HX2.out)).2 (fun hHeld => ?_)
      clear hK K
      refine norm_ (a' := ?_) ?_ ?_
      rotate_left
      · show Act.put _ (some 62) _ = _
        simp only [Act.put, List.setIfInBounds_toArray, List.set_cons_zero, List.set_cons_succ]
        rfl
      refine one_ (i := 11) (N := some 68) #[true, true, true, true, true, true, true, true, true, true, true, true, false, false] rfl rfl (by kernel_rfl) (by decide) (fun K hK => ?_)
      refine goes_ Try.func19 (by kernel_rfl) rfl #[.pointer (some ⟨r, 0, none⟩), .int .i64 k, .int .i64 d] (by rfl) rfl rfl (by (try simp only [List.map_toArray, List.map_cons, List.map_nil]); first | done | rfl) ?_
      with_reducible refine (HDc.out.done HR2.out).mono ?_
      rintro e w3 ⟨rfl, hr3⟩
      have HR3 := Lib.hid hr3
      clear hr3
      refine ⟨_, rfl, ?_⟩
      refine hK.out _ _ (dcells (Done.stays HTw.out HR3.out HBz.out HX2.out)).2 (fun hHeld => ?_)
      clear hK K
      refine norm_ (a' := ?_) ?_ ?_
      rotate_left
      · show Act.put _ (some 68) _ = _
        simp only [Act.put, List.setIfInBounds_toArray, List.set_cons_zero, List.set_cons_succ]
        rfl
      refine kz 12 69 ?_
      refine kz 13 6 ?_
      refine done_ (by kernel_rfl) ?_
      go_wp2
      go_ret
      exact ⟨rfl, _, _, HRR.out, Done.trans (lower HB2.out HTw.out.k.base) (Kept.of_below HB2.out _) (.inl rfl) HR3.out⟩
end Go.Proofs.Ytjoemkmckabpjaa.Pr
