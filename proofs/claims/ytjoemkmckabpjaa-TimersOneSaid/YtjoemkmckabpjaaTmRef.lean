-- The document's queue: what it has, and without.
import Derived.Test.YtjoemkmckabpjaaTmAll
namespace Go.Proofs.Ytjoemkmckabpjaa.Pr
open Go.RowKit Go.Proofs.YtjoemkmckabpjaaW.PrintWords Go.Proofs.YtjoemkmckabpjaaW.PrintLast Go.Proofs.YtjoemkmckabpjaaW.PrintMore
set_option linter.unusedVariables false
set_option linter.unusedSimpArgs false
abbrev TR := 54
/-- A slice of timers of the document's, to be read. -/
def LAt (w : World) (B : Nat) (v : Value) (l : List Tm) : Prop :=
  ∃ A c, v = .slice A l.length c ∧ l.length ≤ c ∧ c ≤ maxLen ∧ (0 < l.length → ∃ g off cur, A = some ⟨g, off, none⟩ ∧ B ≤ g ∧ w.heap[g]? = some (.cells cur TR (0, 0)) ∧ ∀ i, i < l.length → cur[off + i * 2]? = some (.int .i64 l[i]!.f0) ∧ cur[off + i * 2 + 1]? = some (.int .i64 l[i]!.f1))
theorem LAt.same {w w' : World} {B : Nat} {v : Value} {l : List Tm} (h : LAt w B v l) (hm : ∀ (k : Nat) (cs : Array Value), w.heap[k]? = some (Obj.cells cs TR (0, 0)) → w'.heap[k]? = w.heap[k]?) : LAt w' B v l := by
  obtain ⟨A, c, rfl, h1, h2, h3⟩ := h
  refine ⟨A, c, rfl, h1, h2, fun h0 => ?_⟩
  obtain ⟨g, off, cur, rfl, hg, hb, hc⟩ := h3 h0
  exact ⟨g, off, cur, rfl, hg, (hm g cur hb).trans hb, hc⟩
theorem LAt.below {w w' : World} {B : Nat} {v : Value} {l : List Tm} (h : LAt w B v l) (hb : Below w.heap.size w w') : LAt w' B v l := h.same (fun k cs hk => hb.block k (blk_lt hk))
theorem LAt.lower {w : World} {B B' : Nat} {v : Value} {l : List Tm} (h : LAt w B' v l) (hb : B ≤ B') : LAt w B v l := by
  obtain ⟨A, c, rfl, h1, h2, h3⟩ := h
  refine ⟨A, c, rfl, h1, h2, fun h0 => ?_⟩
  obtain ⟨g, off, cur, rfl, hg, hc⟩ := h3 h0
  exact ⟨g, off, cur, rfl, Nat.le_trans hb hg, hc⟩
theorem LAt.nil (w : World) (B : Nat) : LAt w B (.slice none 0 0) [] := ⟨none, 0, rfl, Nat.le_refl _, Nat.zero_le _, fun h => absurd h (by simp)⟩
theorem LAt.cells {w : World} {B g off c n : Nat} {l : List Tm} (h : LAt w B (.slice (some ⟨g, off, none⟩) n c) l) {i : Nat} (hi : i < l.length) : w.cell? ⟨g, off + i * 2, none⟩ = some (.int .i64 l[i]!.f0) ∧ w.cell? ⟨g, off + i * 2 + 1, none⟩ = some (.int .i64 l[i]!.f1) := by
  obtain ⟨A, c', e, h1, h2, h3⟩ := h
  obtain ⟨g', off', cur, rfl, hg, hb, hc⟩ := h3 (by omega)
  injection e with ha hn hc'
  injection ha with ha
  injection ha with ha hb' _
  subst ha
  subst hb'
  obtain ⟨a, b⟩ := hc i hi
  exact ⟨(blk_cell hb _).trans a, (blk_cell hb _).trans b⟩
theorem LAt.of_R {w : World} {B : Nat} {v : Value} {l : List Tm} (h : Kd.R kTm TR w B (fun _ => True) v l) : LAt w B v l := by
  obtain ⟨_, inner, ho, hr⟩ := h
  have e := reps_flat flatTm hr
  rw [← tcells_flat] at e
  subst e
  obtain ⟨h1, h2⟩ := ho
  rcases h2 with ⟨rfl, h0⟩ | ⟨g, c, cur, rfl, hb, hg, hnc, hcm, hcs, ht⟩
  · refine ⟨none, 0, by rw [h0], by omega, Nat.zero_le _, fun h => by omega⟩
  · refine ⟨_, c, rfl, hnc, hcm, fun _ => ⟨g, 0, cur, rfl, hb, hg, fun i hi => ?_⟩⟩
    obtain ⟨a, b⟩ := tcells_at l i hi
    rw [← ht] at a b
    have hsz : kTm.sz = 2 := rfl
    rw [hsz] at ht a b
    rw [List.getElem?_take_of_lt (by omega), Array.getElem?_toList] at a b
    rw [Nat.zero_add, bang_get hi]
    exact ⟨a, b⟩
structure RAt (w : World) (B r : Nat) (v : Value) (l : List Tm) : Prop where
  blk : w.heap[r]? = some (.cells #[v] 28 (0, 0))
  low : B ≤ r
  row : LAt w B v l
theorem RAt.below {w w' : World} {B r : Nat} {v : Value} {l : List Tm} (h : RAt w B r v l) (hb : Below w.heap.size w w') : RAt w' B r v l := ⟨blk_below h.blk hb, h.low, h.row.below hb⟩
theorem RAt.base {w : World} {B r : Nat} {v : Value} {l : List Tm} (h : RAt w B r v l) : B ≤ w.heap.size := by
  have := blk_lt h.blk
  have := h.low
  omega
theorem RAt.cell {w : World} {B r : Nat} {v : Value} {l : List Tm} (h : RAt w B r v l) : w.cell? ⟨r, 0, none⟩ = some v ∧ w.frozen? ⟨r, 0, none⟩ = false := ⟨(blk_cell h.blk 0).trans rfl, blk_frozen h.blk 0⟩
def RRan (w : World) (B r : Nat) (l' : List Tm) (w' : World) : Prop := ∃ v', RAt w' B r v' l' ∧ Below B w w' ∧ Kept w w' (fun k => k = r)
/-- What the queue of the program does leaves the document's. -/
theorem RAt.kept {w w' : World} {B r p mb : Nat} {v u : Value} {l ts : List Tm} (h : RAt w B r v l) (hq : QAt w B p mb u ts) (hk : Kept w w' (PFoot p mb u)) : RAt w' B r v l :=
  ⟨blk_kept h.blk hk (hq.off h.blk (by decide) (by decide)), h.low, h.row.same (fun k cs hc => hk.2 k (blk_lt hc) (hq.off hc (by decide) (by decide)))⟩
theorem KAt.kept {w w' : World} {B q p mb r : Nat} {v u : Value} {ts l : List Tm} (h : KAt w B q p mb v ts) (hr : RAt w B r u l) (hk : Kept w w' (fun k => k = r)) : KAt w' B q p mb v ts := by
  have hn := h.pile.off hr.blk (by decide) (by decide)
  refine h.same (hk.2 q (blk_lt h.blk) (fun e => ?_)) (fun k hf => hk.2 k (h.pile.foot_lt hf) (fun e => hn (e ▸ hf)))
  have := hr.blk
  rw [← e, h.blk] at this
  have := Option.some.inj this
  injection this with _ h2 _
  exact absurd h2 (by decide)
/-- A new row put into the document's queue. -/
theorem RAt.put {w w1 : World} {B r : Nat} {v v' : Value} {l l' : List Tm} (h : RAt w B r v l) (hb : Below w.heap.size w w1) (hr : LAt w1 B v' l') : RRan w B r l' (w1.setCell ⟨r, 0, none⟩ v') := by
  have hb1 := blk_below h.blk hb
  refine ⟨v', ⟨blk_put hb1 0 v' rfl, h.low, hr.same (fun k cs hk => Below.heap_setCell _ _ _ k (fun e => ?_))⟩, (lower hb h.base).setCell h.low v', (Kept.of_below hb (fun k => k = r)).setCell (p := ⟨r, 0, none⟩) (.inl rfl) v'⟩
  have e' : k = r := e
  rw [e', hb1] at hk
  have := Option.some.inj hk
  injection this with _ h2 _
  exact absurd h2 (by decide)
theorem take_snoc (l : List Tm) (i : Nat) (h : i < l.length) : l.take (i + 1) = l.take i ++ [l[i]!] := by
  rw [List.take_add_one, List.getElem?_eq_getElem h, bang_get h]
  rfl
def wo (l : List Tm) (kind : Int) : List Tm := l.filter fun t => !decide (t.f1 = kind)
theorem wo_length (l : List Tm) (kind : Int) : (wo l kind).length ≤ l.length := List.length_filter_le ..
theorem infoR : (Try.prog.info? TR).map (fun i => (i.zero, i.size, i.bytes)) = some (some (.agg #[.int .i64 0, .int .i64 0]), 2, 16) := by kernel_rfl
set_option maxRecDepth 100000 in
set_option maxHeartbeats 4000000 in
theorem without_calls (w : World) (B r : Nat) (v : Value) (l : List Tm) (kind : Int) (hl : l.length ≤ 1000000) (h : RAt w B r v l) :
    Calls Try.prog 29 #[.pointer (some ⟨r, 0, none⟩), .int .i64 kind] w fun e w' => ∃ v', e = .returned v' ∧ Kd.R kTm TR w' w.heap.size (fun _ => True) v' (wo l kind) ∧ Below w.heap.size w w' := by
  obtain ⟨A, c, rfl, hc⟩ := h.row
  have H := Lib.hid h
  have HL := Lib.hid hl
  clear h hl hc
  go_enter Try.func29, Try.ntmps29
  go_wp2
  go_loopg [5, 6] (l.length + 1) (fun kq v5 v6 w' => ∃ i : Nat, v6 = .int .i64 i ∧ Hid (kq = l.length + 1 - i) ∧ Hid (i ≤ l.length) ∧ Hid (Kd.R kTm TR w' w.heap.size (fun _ => True) v5 (wo (l.take i) kind)) ∧ Hid (Below w.heap.size w w'))
  case atStart => exact ⟨0, rfl, Lib.hid rfl, Lib.hid (Nat.zero_le _), Lib.hid (Kd.R_nil kTm TR w _ _), Lib.hid (Below.refl _ _)⟩
  case round =>
    obtain ⟨i, rfl, HKq, HI, HA, HB⟩ := hrel
    obtain ⟨r0, _⟩ := (H.out.below HB.out).cell
    by_cases hi : i < l.length
    · have d1 : decide ((i : Int) < (l.length : Int)) = true := decide_eq_true (by omega)
      have d2 : decide (i < l.length) = true := decide_eq_true hi
      have wrapI : wrap64 ((i : Int) + 1) = ((i + 1 : Nat) : Int) := by have := HL.out; unfold wrap64; omega
      obtain ⟨A', c', e, _, _, h3⟩ := H.out.row
      obtain ⟨g, off, cur, hA, _⟩ := h3 (by omega)
      injection e with e _ _
      rw [← e] at hA
      clear h3 e
      subst hA
      obtain ⟨i0, i1⟩ := ((H.out.below HB.out).row).cells hi
      have hts := take_snoc l i hi
      obtain ⟨⟨x0, x1⟩, hx⟩ : ∃ x, x = l[i]! := ⟨_, rfl⟩
      rw [← hx] at i0 i1 hts
      have HI2 := Lib.hid hi
      have q1 : (0 : Int) ≤ (i : Int) := by omega
      have q2 : (i : Int) < (l.length : Int) := by omega
      by_cases hk : x1 = kind
      · have e1 : (x1 == kind) = true := beq_iff_eq.mpr hk
        have e2 : (x1 != kind) = false := by rw [bne, e1]; rfl
        have hw : wo (l.take (i + 1)) kind = wo (l.take i) kind := by
          unfold wo
          rw [hts, List.filter_append, List.filter_cons, hk]
          simp
        have HW := Lib.hid hw
        clear hx hts hw hi hk
        go_wp2
        go_roundg (l.length + 1 - (i + 1))
        case measure => have := HKq.out; have := HI2.out; omega
        case rel => exact ⟨i + 1, by first | rfl | exact congrArg _ wrapI, Lib.hid rfl, Lib.hid HI2.out, by rw [HW.out]; exact HA, HB⟩
      · have e1 : (x1 == kind) = false := beq_eq_false_iff_ne.mpr hk
        have e2 : (x1 != kind) = true := by rw [bne, e1]; rfl
        have hw : wo (l.take (i + 1)) kind = wo (l.take i) kind ++ [⟨x0, x1⟩] := by
          unfold wo
          rw [hts, List.filter_append, List.filter_cons, if_pos (by simp [hk])]
          rfl
        have hwl : (wo (l.take i) kind).length ≤ 1000000 := by
          have := wo_length (l.take i) kind
          have := HL.out
          rw [List.length_take] at *
          omega
        have HW := Lib.hid hw
        have HWL := Lib.hid hwl
        clear hx hts hw hi hk hwl
        go_wp2_with ((with_reducible refine gate_builtin (b := .append) (xs := #[.tmp 26, .tmp 34]) rfl ?_); at_builtin; refine Kd.R_append kTm (w0 := w) w.heap.size rfl (.tmp 26) (.tmp 34) 26 TR (.agg #[.int .i64 0, .int .i64 0]) 16 rfl Try.underlying26 infoR rfl (by decide) (by omega) _ (wo (l.take i) kind) ⟨x0, x1⟩ [.int .i64 x0, .int .i64 x1] (fun _ => True) (fun _ => False) rfl rfl ?aP (fun _ hk => hk.elim) (fun _ _ => trivial) ?aO ?aB ?aS ?aL ?_; (case aP => exact k54_mkM _ _ _ ⟨x0, x1⟩); (case aB => exact HB.out); (case aO => exact HA.out); (case aS => exact below_size HB.out); (case aL => have := HWL.out; omega); intro v2 w2 ho hb hg hat)
        have HO := Lib.hid ho
        have HBo := Lib.hid hb
        clear ho hb hg hat
        go_roundg (l.length + 1 - (i + 1))
        case measure => have := HKq.out; have := HI2.out; omega
        case rel => exact ⟨i + 1, by first | rfl | exact congrArg _ wrapI, Lib.hid rfl, Lib.hid HI2.out, by rw [HW.out]; exact HO, HBo⟩
    · have d1 : decide ((i : Int) < (l.length : Int)) = false := decide_eq_false (by omega)
      have d2 : decide (i < l.length) = false := decide_eq_false hi
      have hA := HA.out
      rw [List.take_of_length_le (by omega)] at hA
      have HA := Lib.hid hA
      clear hA hi
      go_wp2
      go_ret
      exact ⟨_, rfl, HA.out, HB.out⟩
end Go.Proofs.Ytjoemkmckabpjaa.Pr
