import Derived.Maps.OwnSet
import Derived.Maps.RangeRun
import Derived.Maps.Range
import Derived.Carry
import Derived.Below
namespace Go.Proofs.Ytjoemkmckabpjaa
open Go.ChangeMaps (setBlock) 
open Go.MapKept
open Go.Maps (Keyed)
open Go.RowKit
/-- What the laws below need of a key's kind: κ's values as keys of type k. -/
structure KeyK (P : Program) (k : TypeId) {κ : Type} (enc : κ → Value) (ok : κ → Prop) : Prop where
  keyed : Keyed P k
  lit : ∀ x, ok x → ∃ l, keyOf P k (enc x) = some l
  inj : ∀ x y, ok x → ok y → enc x = enc y → x = y
/-- Block b is a map that holds just the entries l, each key once. -/
def Tbl {κ : Type} (enc : κ → Value) (ok : κ → Prop) (w : World) (b : Nat) (l : List (κ × Value)) : Prop :=
  ∃ es clock, w.heap[b]? = some (.map es clock) ∧ es.toList.map (fun e => (e.key, e.val)) = l.map (fun x => (enc x.1, x.2)) ∧ (∀ x ∈ l, ok x.1) ∧ Stamped es clock ∧ es.size ≤ maxLen
def tput {κ : Type} [DecidableEq κ] (l : List (κ × Value)) (x : κ) (v : Value) : List (κ × Value) :=
  if l.any (fun y => decide (y.1 = x)) then l.map (fun y => if y.1 = x then (x, v) else y) else l ++ [(x, v)]
def tget {κ : Type} [DecidableEq κ] (l : List (κ × Value)) (x : κ) : Option Value := (l.find? fun y => decide (y.1 = x)).map (·.2)
section
variable {κ : Type} {P : Program} {k : TypeId} {enc : κ → Value} {ok : κ → Prop} {w : World} {b : Nat} {l : List (κ × Value)}
theorem Tbl.lt (h : Tbl enc ok w b l) : b < w.heap.size := by
  obtain ⟨es, clock, hb, _⟩ := h
  exact (Array.getElem?_eq_some_iff.1 hb).1
theorem Tbl.same (h : Tbl enc ok w b l) {w' : World} (hs : w'.heap[b]? = w.heap[b]?) : Tbl enc ok w' b l := by
  obtain ⟨es, clock, hb, r⟩ := h
  exact ⟨es, clock, hs.trans hb, r⟩
theorem Tbl.below (h : Tbl enc ok w b l) {w' : World} (hb : Below w.heap.size w w') : Tbl enc ok w' b l := h.same (hb.block b h.lt)
theorem Tbl.grown (h : Tbl enc ok w b l) {w' : World} {row : Option Nat} (hg : w.grownBy w' row) (hne : some b ≠ row) : Tbl enc ok w' b l := h.same (hg.block b h.lt hne)
theorem Tbl.set (h : Tbl enc ok w b l) {a : Addr} (hne : b ≠ a.block) (u : Value) : Tbl enc ok (w.setCell a u) b l := h.same (Below.heap_setCell w a u b hne)
theorem Tbl.made (enc : κ → Value) (ok : κ → Prop) (w : World) : Tbl enc ok (w.alloc (.map #[] 0)) w.heap.size [] :=
  ⟨#[], 0, (MapKept.heap_alloc w _).1, rfl, by simp, stamped_empty 0, by simp [maxLen]⟩
theorem Tbl.nodup (h : Tbl enc ok w b l) : (l.map (·.1)).Nodup := by
  obtain ⟨es, clock, _, hl, _, hs, _⟩ := h
  have h3 : (es.toList.map (·.key)).Nodup := hs.2.2
  have e1 : es.toList.map (·.key) = (es.toList.map (fun e => (e.key, e.val))).map (·.1) := by rw [List.map_map]; rfl
  rw [e1, hl, List.map_map] at h3
  have e2 : l.map ((fun x => x.1) ∘ fun x => (enc x.1, x.2)) = (l.map (·.1)).map enc := by rw [List.map_map]; rfl
  rw [e2] at h3
  exact List.Pairwise.of_map enc (fun a b hne e => hne (congrArg enc e)) h3
theorem Tbl.oks (h : Tbl enc ok w b l) : ∀ x ∈ l, ok x.1 := by
  obtain ⟨es, clock, _, _, ho, _⟩ := h
  exact ho
theorem Tbl.small (h : Tbl enc ok w b l) : l.length ≤ maxLen := by
  obtain ⟨es, clock, _, hl, _, _, hm⟩ := h
  have := congrArg List.length hl
  simp at this
  omega
theorem tbl_keys (K : KeyK P k enc ok) {es : Array MapEntry} {l : List (κ × Value)} (hl : es.toList.map (fun e => (e.key, e.val)) = l.map (fun x => (enc x.1, x.2))) (ho : ∀ x ∈ l, ok x.1) : ∀ e ∈ es.toList, ∃ x ∈ l, e.key = enc x.1 ∧ e.val = x.2 ∧ ∃ lit, keyOf P k e.key = some lit := by
  intro e he
  have hm : (e.key, e.val) ∈ l.map (fun x => (enc x.1, x.2)) := by rw [← hl]; exact List.mem_map.2 ⟨e, he, rfl⟩
  obtain ⟨x, hx, hxe⟩ := List.mem_map.1 hm
  simp only [Prod.mk.injEq] at hxe
  obtain ⟨lit, hlit⟩ := K.lit x.1 (ho x hx)
  exact ⟨x, hx, hxe.1.symm, hxe.2.symm, lit, by rw [← hxe.1]; exact hlit⟩
variable [DecidableEq κ]
theorem tget_some {l : List (κ × Value)} {x : κ} {v : Value} (hn : (l.map (·.1)).Nodup) (h : (x, v) ∈ l) : tget l x = some v := by
  induction l with
  | nil => simp at h
  | cons y l ih =>
    rw [List.map_cons, List.nodup_cons] at hn
    unfold tget
    rw [List.find?_cons]
    rcases List.mem_cons.1 h with h | h
    · subst h
      simp
    · by_cases e : y.1 = x
      · exact absurd (List.mem_map.2 ⟨(x, v), h, e.symm⟩) hn.1
      · rw [decide_eq_false e]
        exact ih hn.2 h
theorem tget_none {l : List (κ × Value)} {x : κ} (h : ∀ y ∈ l, y.1 ≠ x) : tget l x = none := by
  unfold tget
  rw [List.find?_eq_none.2 (fun y hy => by simpa using h y hy)]
  rfl
/-- A look-up, with or without ok. -/
theorem Tbl.look (K : KeyK P k enc ok) (h : Tbl enc ok w b l) {t e : TypeId} (ht : P.underlying t = some (.map k e)) {z : Value} (hz : ∀ W, (zeroValue e).run P W = .ok z W) {x : κ} (hx : ok x) (c : Bool) :
    ∀ W : World, W.heap[b]? = w.heap[b]? → (Instr.lookup t (.map (some b)) (enc x) c).run P W = .ok (if c then .tuple #[(tget l x).getD z, .bool (tget l x).isSome] else (tget l x).getD z) W := by
  obtain ⟨es, clock, hb, hl, ho, hs, hm⟩ := h
  obtain ⟨lit, hlit⟩ := K.lit x hx
  have keys := tbl_keys K hl ho
  have hn : (l.map (·.1)).Nodup := Tbl.nodup (w := w) (b := b) ⟨es, clock, hb, hl, ho, hs, hm⟩
  intro W hW
  have hb' := hW.trans hb
  rcases K.keyed.find W hlit es.toList (fun e he => (keys e he).choose_spec.2.2.2) with ⟨h1, h2⟩ | ⟨j, e0, h1, h2, h3⟩
  · have hno : tget l x = none := by
      apply tget_none
      intro y hy hyx
      have hm : (enc y.1, y.2) ∈ es.toList.map (fun e => (e.key, e.val)) := by rw [hl]; exact List.mem_map.2 ⟨y, hy, rfl⟩
      obtain ⟨e, he, hey⟩ := List.mem_map.1 hm
      simp only [Prod.mk.injEq] at hey
      exact h2 e he (by rw [hey.1, hyx])
    rw [hno]
    simp [Instr.lookup, run_underlying ht, MapKept.run_getObj_map hb', K.keyed.check W _ hlit, h1, hz, Result.andThen]
  · have hm0 : e0 ∈ es.toList := List.mem_of_getElem? h2
    obtain ⟨y, hy, hk1, hv1, _⟩ := keys e0 hm0
    have hyx : y.1 = x := K.inj _ _ (ho y hy) hx (by rw [← hk1, h3])
    have hsome : tget l x = some e0.val := by
      rw [hv1, ← hyx]
      exact tget_some hn hy
    rw [hsome]
    simp [Instr.lookup, run_underlying ht, MapKept.run_getObj_map hb', K.keyed.check W _ hlit, h1, Result.andThen]
/-- A store. -/
theorem Tbl.store (K : KeyK P k enc ok) (h : Tbl enc ok w b l) {t e : TypeId} (ht : P.underlying t = some (.map k e)) {x : κ} (hx : ok x) (v : Value) (hroom : l.length < maxLen) :
    ∃ O, (∀ W : World, W.heap[b]? = w.heap[b]? → (Instr.mapUpdate t (.map (some b)) (enc x) v).run P W = .ok () (setBlock W b O)) ∧ ∀ W : World, b < W.heap.size → Tbl enc ok (setBlock W b O) b (tput l x v) := by
  obtain ⟨es, clock, hb, hl, ho, hs, hm⟩ := h
  obtain ⟨lit, hlit⟩ := K.lit x hx
  have keys := tbl_keys K hl ho
  have hn : (l.map (·.1)).Nodup := Tbl.nodup (w := w) (b := b) ⟨es, clock, hb, hl, ho, hs, hm⟩
  have hlen : es.size = l.length := by simpa using congrArg List.length hl
  have hbo : ∀ (W : World) (O : Obj), b < W.heap.size → (setBlock W b O).heap[b]? = some O := fun W O hW => by simp [setBlock, hW]
  rcases K.keyed.find w hlit es.toList (fun e he => (keys e he).choose_spec.2.2.2) with ⟨h1, h2⟩ | ⟨j, e0, h1, h2, h3⟩
  · refine ⟨.map (es.push ⟨enc x, v, clock⟩) (clock + 1), fun W hW => ?_, fun W hW => ⟨_, _, hbo W _ hW, ?_, ?_, stamped_push hs h2, by rw [Array.size_push]; omega⟩⟩
    · have hb' := hW.trans hb
      rcases K.keyed.find W hlit es.toList (fun e he => (keys e he).choose_spec.2.2.2) with ⟨h1', _⟩ | ⟨j, e0, _, h2', h3'⟩
      · simp [Instr.mapUpdate, run_underlying ht, MapKept.run_getObj_map hb', K.keyed.check W false hlit, h1', MapKept.run_setObj_map _ hb', Result.andThen, setBlock]
      · exact absurd h3' (h2 e0 (List.mem_of_getElem? h2'))
    · have hno : l.any (fun y => decide (y.1 = x)) = false := by
        rw [List.any_eq_false]
        intro y hy
        simp only [decide_eq_true_eq]
        intro hyx
        have hm : (enc y.1, y.2) ∈ es.toList.map (fun e => (e.key, e.val)) := by rw [hl]; exact List.mem_map.2 ⟨y, hy, rfl⟩
        obtain ⟨e, he, hey⟩ := List.mem_map.1 hm
        simp only [Prod.mk.injEq] at hey
        exact h2 e he (by rw [hey.1, hyx])
      unfold tput
      rw [hno]
      simp [hl]
    · intro y hy
      unfold tput at hy
      split at hy
      · obtain ⟨z, hz, rfl⟩ := List.mem_map.1 hy
        split
        · exact hx
        · exact ho z hz
      · rcases List.mem_append.1 hy with hy | hy
        · exact ho y hy
        · rw [List.mem_singleton.1 hy]
          exact hx
  · have hm0 : e0 ∈ es.toList := List.mem_of_getElem? h2
    obtain ⟨y, hy, hk1, hv1, _⟩ := keys e0 hm0
    have hyx : y.1 = x := K.inj _ _ (ho y hy) hx (by rw [← hk1, h3])
    have hj : es[j]? = some e0 := by simpa using h2
    refine ⟨.map (es.modify j fun e => { e with key := enc x, val := v }) clock, fun W hW => ?_, fun W hW => ⟨_, _, hbo W _ hW, ?_, ?_, ?_, by rw [Array.size_modify]; omega⟩⟩
    · have hb' := hW.trans hb
      rcases K.keyed.find W hlit es.toList (fun e he => (keys e he).choose_spec.2.2.2) with ⟨_, h2'⟩ | ⟨j', e1, h1', h2', h3'⟩
      · exact absurd h3 (h2' e0 hm0)
      · have hjj : j' = j := by
          have hnd : (es.toList.map (·.key)).Nodup := hs.2.2
          have a1 : (es.toList.map (·.key))[j']? = some (enc x) := by rw [List.getElem?_map, h2', Option.map_some, h3']
          have a2 : (es.toList.map (·.key))[j]? = some (enc x) := by rw [List.getElem?_map, h2, Option.map_some, h3]
          have b1 := (List.getElem?_eq_some_iff.1 a1).1
          exact (List.getElem?_inj b1 hnd).1 (a1.trans a2.symm)
        subst hjj
        have he1 : e1 = e0 := Option.some.inj (h2'.symm.trans h2)
        have hkk : ((es[j']?).map (·.key)).getD (enc x) = enc x := by rw [hj]; simp [h3]
        simp [Instr.mapUpdate, run_underlying ht, MapKept.run_getObj_map hb', K.keyed.check W false hlit, h1', hj, h3, K.keyed.stays W hlit, MapKept.run_setObj_map _ hb', Result.andThen, setBlock]
    · have hyes : l.any (fun y => decide (y.1 = x)) = true := List.any_eq_true.2 ⟨y, hy, by simpa using hyx⟩
      unfold tput
      rw [hyes]
      simp only [if_true]
      apply List.ext_getElem?
      intro i
      have hi := congrArg (fun z => z[i]?) hl
      simp only [List.getElem?_map] at hi ⊢
      rw [Array.getElem?_toList, Array.getElem?_modify]
      rw [Array.getElem?_toList] at hi
      by_cases hij : j = i
      · subst hij
        rw [if_pos rfl]
        rw [hj] at hi ⊢
        cases hli : l[j]? with
        | none => rw [hli] at hi; simp at hi
        | some q =>
          rw [hli] at hi
          simp only [Option.map_some, Option.some.injEq, Prod.mk.injEq] at hi ⊢
          have hq : q.1 = x := K.inj _ _ (ho q (List.mem_of_getElem? hli)) hx (by rw [← hi.1, h3])
          rw [if_pos hq]
          exact ⟨rfl, rfl⟩
      · rw [if_neg hij, hi]
        cases hli : l[i]? with
        | none => rfl
        | some q =>
          simp only [Option.map_some, Option.some.injEq]
          have hq : q.1 ≠ x := by
            intro hqx
            have a1 : (l.map (·.1))[i]? = some x := by rw [List.getElem?_map, hli, Option.map_some, hqx]
            have hlj : l[j]?.map (·.1) = some x := by
              have hjj := congrArg (fun z => z[j]?) hl
              simp only [List.getElem?_map] at hjj
              rw [Array.getElem?_toList, hj] at hjj
              cases hlj : l[j]? with
              | none => rw [hlj] at hjj; simp at hjj
              | some q' =>
                rw [hlj] at hjj
                simp only [Option.map_some, Option.some.injEq, Prod.mk.injEq] at hjj ⊢
                exact K.inj _ _ (ho q' (List.mem_of_getElem? hlj)) hx (by rw [← hjj.1, h3])
            have a2 : (l.map (·.1))[j]? = some x := by rw [List.getElem?_map]; exact hlj
            have b1 := (List.getElem?_eq_some_iff.1 a1).1
            exact hij ((List.getElem?_inj b1 hn).1 (a1.trans a2.symm)).symm
          rw [if_neg hq]
    · intro z hz
      unfold tput at hz
      split at hz
      · obtain ⟨q, hq, rfl⟩ := List.mem_map.1 hz
        split
        · exact hx
        · exact ho q hq
      · rcases List.mem_append.1 hz with hz | hz
        · exact ho z hz
        · rw [List.mem_singleton.1 hz]
          exact hx
    · exact stamped_modify hs j _ (fun _ _ => rfl) (fun e1 _ he1 => by rw [hj] at he1; cases he1; exact h3.symm)
omit [DecidableEq κ] in
theorem Tbl.count (h : Tbl enc ok w b l) {t e : TypeId} (ht : P.underlying t = some (.map k e)) (ty : TypeId) : ∀ W : World, W.heap[b]? = w.heap[b]? → (Builtin.len_ #[t] ty #[.map (some b)]).run P W = .ok (.int .i64 l.length) W := by
  obtain ⟨es, clock, hb, hl, ho, hs, hm⟩ := h
  have hlen : es.size = l.length := by simpa using congrArg List.length hl
  intro W hW
  simp [Builtin.len_, run_underlying ht, MapKept.run_getObj_map (hW.trans hb), Result.andThen, goInt, hlen]
/-- 'for x := range m' under way: 'left' is still to come. -/
def Rng (enc : κ → Value) (ok : κ → Prop) (w : World) (b r : Nat) (l left : List (κ × Value)) : Prop :=
  ∃ es clock since seen c0, w.heap[b]? = some (.map es clock) ∧ es.toList.map (fun e => (e.key, e.val)) = l.map (fun x => (enc x.1, x.2)) ∧ (∀ x ∈ l, ok x.1) ∧ Stamped es clock ∧ es.size ≤ maxLen ∧
    w.heap[r]? = some (.mapIter (some b) since seen c0) ∧ (∀ x ∈ es.toList, x.born < since) ∧ since ≤ c0 ∧ since ≤ clock ∧ (∀ x ∈ left, ok x.1) ∧
    (leftOf es seen).toList.map (fun e => (e.key, e.val)) = left.map (fun x => (enc x.1, x.2))
omit [DecidableEq κ] in
theorem Rng.tbl {r : Nat} {left : List (κ × Value)} (h : Rng enc ok w b r l left) : Tbl enc ok w b l := by
  obtain ⟨es, clock, since, seen, c0, h1, h2, h3, h4, h5, _⟩ := h
  exact ⟨es, clock, h1, h2, h3, h4, h5⟩
omit [DecidableEq κ] in
theorem Rng.lt {r : Nat} {left : List (κ × Value)} (h : Rng enc ok w b r l left) : r < w.heap.size := by
  obtain ⟨es, clock, since, seen, c0, h1, h2, h3, h4, h5, h6, _⟩ := h
  exact (Array.getElem?_eq_some_iff.1 h6).1
omit [DecidableEq κ] in
theorem Rng.same {r : Nat} {left : List (κ × Value)} (h : Rng enc ok w b r l left) {w' : World} (hb : w'.heap[b]? = w.heap[b]?) (hr : w'.heap[r]? = w.heap[r]?) : Rng enc ok w' b r l left := by
  obtain ⟨es, clock, since, seen, c0, h1, h2, h3, h4, h5, h6, q⟩ := h
  exact ⟨es, clock, since, seen, c0, hb.trans h1, h2, h3, h4, h5, hr.trans h6, q⟩
omit [DecidableEq κ] in
theorem Rng.grown {r : Nat} {left : List (κ × Value)} (h : Rng enc ok w b r l left) {w' : World} {row : Option Nat} (hg : w.grownBy w' row) (hb : some b ≠ row) (hr : some r ≠ row) : Rng enc ok w' b r l left := h.same (hg.block b h.tbl.lt hb) (hg.block r h.lt hr)
omit [DecidableEq κ] in
theorem Rng.below {r : Nat} {left : List (κ × Value)} (h : Rng enc ok w b r l left) {w' : World} (hb : Below w.heap.size w w') : Rng enc ok w' b r l left := h.same (hb.block b h.tbl.lt) (hb.block r h.lt)
omit [DecidableEq κ] in
theorem Rng.ne {r : Nat} {left : List (κ × Value)} (h : Rng enc ok w b r l left) : b ≠ r := by
  obtain ⟨es, clock, since, seen, c0, h1, h2, h3, h4, h5, h6, q⟩ := h
  rintro rfl
  rw [h1] at h6
  cases h6
omit [DecidableEq κ] in
theorem Tbl.range (h : Tbl enc ok w b l) {t e : TypeId} (ht : P.underlying t = some (.map k e)) :
    ∃ O, (∀ W : World, W.heap[b]? = w.heap[b]? → (Instr.range t (.map (some b))).run P W = .ok (.pointer (some ⟨W.heap.size, 0, none⟩)) (W.alloc O)) ∧ ∀ W : World, W.heap[b]? = w.heap[b]? → Rng enc ok (W.alloc O) b W.heap.size l l := by
  have hlt := h.lt
  obtain ⟨es, clock, hb, hl, ho, hs, hm⟩ := h
  refine ⟨.mapIter (some b) clock #[] clock, fun W hW => run_range_map W t k e b es clock ht (hW.trans hb), fun W hW => ?_⟩
  have hltW : b < W.heap.size := (Array.getElem?_eq_some_iff.1 (hW.trans hb)).1
  exact ⟨es, clock, clock, #[], clock, ((MapKept.heap_alloc W _).2 b hltW).trans (hW.trans hb), hl, ho, hs, hm, (MapKept.heap_alloc W _).1, hs.1, Nat.le_refl _, Nat.le_refl _, ho, by rw [show (leftOf es #[]).toList = es.toList from by unfold leftOf; rw [Array.toList_filter, List.filter_eq_self.2 (fun _ _ => by simp)]]; exact hl⟩
theorem map_drop_one {α : Type} (l : List α) (e : α) (he : e ∈ l) (p : α → Bool) (hp : ∀ x ∈ l, p x = false ↔ x = e) (hn : l.Nodup) : ∃ a c, l = a ++ e :: c ∧ l.filter p = a ++ c := by
  obtain ⟨a, c, rfl⟩ := List.append_of_mem he
  refine ⟨a, c, rfl, ?_⟩
  rw [List.nodup_append] at hn
  have hc := List.nodup_cons.1 hn.2.1
  rw [List.filter_append, List.filter_cons]
  have he' : p e = false := (hp e (by simp)).2 rfl
  rw [he']
  simp only [Bool.false_eq_true, if_false]
  rw [List.filter_eq_self.2 (fun x hx => ?_), List.filter_eq_self.2 (fun x hx => ?_)]
  · cases h : p x
    · have := (hp x (by simp [hx])).1 h
      subst this
      exact absurd hx hc.1
    · rfl
  · cases h : p x
    · have := (hp x (by simp [hx])).1 h
      subst this
      exact absurd rfl (hn.2.2 x hx x (by simp))
    · rfl
omit [DecidableEq κ] in
/-- The step. -/
theorem Rng.next {r : Nat} {left : List (κ × Value)} (h : Rng enc ok w b r l left) (ty : TypeId) :
    (left = [] ∧ (Instr.next (.pointer (some ⟨r, 0, none⟩)) false ty).run P w = .ok (.tuple #[.bool false]) w) ∨
    ∃ a x c w', left = a ++ x :: c ∧ ok x.1 ∧ (Instr.next (.pointer (some ⟨r, 0, none⟩)) false ty).run P w = .ok (.tuple #[.bool true, enc x.1, x.2]) w' ∧ Rng enc ok w' b r l (a ++ c) ∧ w.grownBy w' (some r) ∧ w'.heap.size = w.heap.size ∧
      (∀ W : World, W.heap[b]? = w'.heap[b]? → W.heap[r]? = w'.heap[r]? → (Instr.entry (.pointer (some ⟨r, 0, none⟩))).run P W = .ok (.tuple #[enc x.1, x.2]) W) := by
  have hne := h.ne
  obtain ⟨es, clock, since, seen, c0, hb, hl, ho, hs, hm, hr, hold, hsc, hsk, hol, hle⟩ := h
  rcases run_next_at (P := P) w ty r b since c0 seen es clock hr hb hold hsc with ⟨h0, hrun⟩ | ⟨e, he, w1, hal, hrun⟩
  · left
    refine ⟨?_, hrun⟩
    have := congrArg List.length hle
    simp at this
    exact List.eq_nil_of_length_eq_zero (by omega)
  · right
    obtain ⟨hem, hes⟩ := mem_left he
    have hr1 : w1.heap[r]? = some (.mapIter (some b) since seen c0) := by rcases hal with rfl | rfl <;> exact hr
    have hb1 : w1.heap[b]? = some (.map es clock) := by rcases hal with rfl | rfl <;> exact hb
    have hset := heap_set (o' := .mapIter (some b) since (seen.push e.born) clock) hr1
    have hb' : (setBlock w1 r (.mapIter (some b) since (seen.push e.born) clock)).heap[b]? = some (.map es clock) := (hset.2 b hne).trans hb1
    have hnd : (leftOf es seen).toList.Nodup := by
      unfold leftOf
      rw [Array.toList_filter]
      exact (List.Pairwise.of_map (fun e : MapEntry => e.born) (fun a b hne e => hne (congrArg MapEntry.born e)) hs.2.1).filter _
    have hborn : ∀ x ∈ (leftOf es seen).toList, (!(seen.push e.born).contains x.born) = false ↔ x = e := by
      intro x hx
      obtain ⟨hxm, hxs⟩ := mem_left hx
      rw [contains_push, hxs]
      constructor
      · intro h
        simp at h
        exact born_inj hs.2.1 hxm hem h
      · rintro rfl
        simp
    obtain ⟨a', c', h1, h2⟩ := map_drop_one (leftOf es seen).toList e he (fun x => !(seen.push e.born).contains x.born) hborn hnd
    have h3 : (leftOf es (seen.push e.born)).toList = a' ++ c' := by
      rw [← h2]
      unfold leftOf
      rw [Array.toList_filter, Array.toList_filter, List.filter_filter]
      apply List.filter_congr
      intro x hx
      rw [contains_push]
      cases seen.contains x.born <;> simp
    rw [h1, List.map_append, List.map_cons] at hle
    obtain ⟨a, xc, hle1, hle2, hle3⟩ := List.append_eq_map_iff.1 hle
    obtain ⟨x, c, hxc, hle4, hle5⟩ := List.map_eq_cons_iff.1 hle3
    simp only [Prod.mk.injEq] at hle4
    refine ⟨a, x, c, _, by rw [hle1, hxc], hol x (by rw [hle1, hxc]; simp), by rw [hle4.1, hle4.2]; exact hrun, ⟨es, clock, since, seen.push e.born, clock, hb', hl, ho, hs, hm, hset.1, hold, hsk, hsk, fun y hy => hol y (by rw [hle1, hxc]; rcases List.mem_append.1 hy with hy | hy <;> simp [hy]), by rw [h3, List.map_append, List.map_append, hle2, hle5]⟩, ?_, ?_, fun W hWb hWr => ?_⟩
    · rcases hal with rfl | rfl <;> exact ⟨rfl, rfl, rfl, by simp [setBlock], fun i _ hi => hset.2 i (fun e1 => hi (by rw [e1]))⟩
    · rcases hal with rfl | rfl <;> simp [setBlock]
    · rw [hle4.1, hle4.2]
      exact run_entry_at W r b since seen es clock e (hWr.trans hset.1) (hWb.trans hb') hem hs.2.1
end
end Go.Proofs.Ytjoemkmckabpjaa
