-- Timers: what lies in memory (a row of timers, a pile, a queue); a key taken out of a map.
import Derived.Test.YtjoemkmckabpjaaPrx0
import Derived.Test.YtjoemkmckabpjaaTbl
import Derived.Lib.Hide
import Derived.ChangeMaps4
namespace Go.Proofs.Ytjoemkmckabpjaa
open Go.ChangeMaps (setBlock map_eraseIdx)
open Go.MapKept
open Go.Maps (Keyed)
open Go.RowKit
/-- A key is taken out. -/
def tdel {κ : Type} [DecidableEq κ] (l : List (κ × Value)) (x : κ) : List (κ × Value) := l.filter fun y => !decide (y.1 = x)
section
variable {κ : Type} {P : Program} {k : TypeId} {enc : κ → Value} {ok : κ → Prop} {w : World} {b : Nat} {l : List (κ × Value)} [DecidableEq κ]
theorem filter_one_out {α : Type} : ∀ (l : List α) (p : α → Bool) (j : Nat) (h : j < l.length), p l[j] = false → (∀ i (hi : i < l.length), i ≠ j → p l[i] = true) → l.filter p = l.eraseIdx j
  | [], p, j, h, _, _ => absurd h (by simp)
  | a :: l, p, 0, h, h0, h1 => by
    have h0' : p a = false := h0
    rw [List.filter_cons, h0', if_neg (by decide), List.eraseIdx_cons_zero, List.filter_eq_self]
    intro x hx
    obtain ⟨i, hi, e⟩ := List.getElem_of_mem hx
    have := h1 (i + 1) (by simp; omega) (by omega)
    rw [List.getElem_cons_succ, e] at this
    exact this
  | a :: l, p, j + 1, h, h0, h1 => by
    have ha : p a = true := h1 0 (by simp) (by omega)
    rw [List.filter_cons, ha, if_pos rfl, List.eraseIdx_cons_succ, filter_one_out l p j (by simpa using h) h0 (fun i hi hne => h1 (i + 1) (by simpa using hi) (by omega))]
theorem Tbl.del (K : KeyK P k enc ok) (h : Tbl enc ok w b l) {t e : TypeId} (ht : P.underlying t = some (.map k e)) {x : κ} (hx : ok x) (ty : TypeId) :
    ∃ O, (∀ W : World, W.heap[b]? = w.heap[b]? → (Builtin.delete_ #[t, k] ty #[.map (some b), enc x]).run P W = .ok (.tuple #[]) (setBlock W b O)) ∧ ∀ W : World, b < W.heap.size → Tbl enc ok (setBlock W b O) b (tdel l x) := by
  have hn := h.nodup
  obtain ⟨es, clock, hb, hl, ho, hs, hm⟩ := h
  obtain ⟨lit, hlit⟩ := K.lit x hx
  have keys := tbl_keys K hl ho
  have hlen : es.size = l.length := by simpa using congrArg List.length hl
  have hbo : ∀ (W : World) (O : Obj), b < W.heap.size → (setBlock W b O).heap[b]? = some O := fun W O hW => by simp [setBlock, hW]
  have hat : ∀ i (hi : i < l.length), ∃ e0, es.toList[i]? = some e0 ∧ e0.key = enc l[i].1 ∧ e0.val = l[i].2 := fun i hi => by
    have := congrArg (fun z => z[i]?) hl
    simp only [List.getElem?_map] at this
    rw [List.getElem?_eq_getElem hi] at this
    obtain ⟨e0, h1, h2⟩ := Option.map_eq_some_iff.mp this
    exact ⟨e0, h1, (Prod.mk.inj h2).1, (Prod.mk.inj h2).2⟩
  rcases K.keyed.find w hlit es.toList (fun e he => (keys e he).choose_spec.2.2.2) with ⟨h1, h2⟩ | ⟨j, e0, h1, h2, h3⟩
  · refine ⟨.map es clock, fun W hW => ?_, fun W hW => ⟨es, clock, hbo W _ hW, ?_, fun y hy => ho y (List.mem_filter.mp hy).1, hs, hm⟩⟩
    · have hb' := hW.trans hb
      rcases K.keyed.find W hlit es.toList (fun e he => (keys e he).choose_spec.2.2.2) with ⟨h1', _⟩ | ⟨j, e0, _, h2', h3'⟩
      · simp [Builtin.delete_, run_underlying ht, MapKept.run_getObj_map hb', K.keyed.check W _ hlit, h1', MapKept.run_setObj_map _ hb', Result.andThen, setBlock]
      · exact absurd h3' (h2 e0 (List.mem_of_getElem? h2'))
    · rw [hl]
      congr 1
      unfold tdel
      rw [List.filter_eq_self.mpr]
      intro y hy
      obtain ⟨i, hi, rfl⟩ := List.getElem_of_mem hy
      obtain ⟨e0, a, b', c⟩ := hat i hi
      simp only [Bool.not_eq_true', decide_eq_false_iff_not]
      intro hyx
      exact h2 e0 (List.mem_of_getElem? a) (by rw [b', hyx])
  · have hjs : j < es.size := by simpa using (List.getElem?_eq_some_iff.1 h2).1
    have hsub : (es.eraseIdxIfInBounds j).toList = es.toList.eraseIdx j := by
      unfold Array.eraseIdxIfInBounds
      rw [dif_pos hjs]
      simp
    refine ⟨.map (es.eraseIdxIfInBounds j) clock, fun W hW => ?_, fun W hW => ⟨_, _, hbo W _ hW, ?_, fun y hy => ho y (List.mem_filter.mp hy).1, stamped_erase hs j, Nat.le_trans (MapFrom.size_erase es j) hm⟩⟩
    · have hb' := hW.trans hb
      rcases K.keyed.find W hlit es.toList (fun e he => (keys e he).choose_spec.2.2.2) with ⟨_, h2'⟩ | ⟨j', e1, h1', h2', h3'⟩
      · exact absurd h3 (h2' e0 (List.mem_of_getElem? h2))
      · have hjj : j' = j := by
          have hnd : (es.toList.map (·.key)).Nodup := hs.2.2
          have a1 : (es.toList.map (·.key))[j']? = some (enc x) := by rw [List.getElem?_map, h2', Option.map_some, h3']
          have a2 : (es.toList.map (·.key))[j]? = some (enc x) := by rw [List.getElem?_map, h2, Option.map_some, h3]
          have b1 := (List.getElem?_eq_some_iff.1 a1).1
          exact (List.getElem?_inj b1 hnd).1 (a1.trans a2.symm)
        subst hjj
        simp [Builtin.delete_, run_underlying ht, MapKept.run_getObj_map hb', K.keyed.check W _ hlit, h1', MapKept.run_setObj_map _ hb', Result.andThen, setBlock]
    · have hjl : j < l.length := by omega
      obtain ⟨e1, a, b', _⟩ := hat j hjl
      have e10 : e1 = e0 := Option.some.inj (a.symm.trans h2)
      have hlj : l[j].1 = x := K.inj _ _ (ho _ (List.getElem_mem hjl)) hx (by rw [← b', e10, h3])
      have hdel : tdel l x = l.eraseIdx j := by
        refine filter_one_out l _ j hjl (by simp [hlj]) (fun i hi hne => ?_)
        simp only [Bool.not_eq_true', decide_eq_false_iff_not]
        intro hyx
        have h5 := (List.getElem_inj (xs := l.map fun y : κ × Value => y.1) (i := i) (j := j) (h₀ := by simpa using hi) (h₁ := by simpa using hjl) hn).mp (by simp [hyx, hlj])
        exact hne h5
      rw [hsub, hdel, map_eraseIdx, hl, map_eraseIdx]
end
end Go.Proofs.Ytjoemkmckabpjaa
namespace Go.Proofs.Ytjoemkmckabpjaa.Pr
open Go.RowKit Go.Proofs.YtjoemkmckabpjaaW.PrintWords Go.Proofs.YtjoemkmckabpjaaW.PrintLast Go.Proofs.YtjoemkmckabpjaaW.PrintMore
open Go.Maps
set_option linter.unusedVariables false
abbrev Tm := S54
theorem tm_ext {a b : Tm} (h0 : a.f0 = b.f0) (h1 : a.f1 = b.f1) : a = b := by cases a; cases b; simp_all
instance tmDec : DecidableEq Tm := fun a b => decidable_of_iff (a.f0 = b.f0 ∧ a.f1 = b.f1) ⟨fun h => tm_ext h.1 h.2, fun h => by rw [h]; exact ⟨rfl, rfl⟩⟩
instance : Inhabited Tm := ⟨⟨0, 0⟩⟩
def encI (x : Int) : Value := .int .i64 x
def okI (x : Int) : Prop := (Lit.int .i64 x).wf = true
theorem intKey : KeyK Try.prog 3 encI okI where
  keyed := int_keyed Try.underlying3
  lit x hx := by
    refine ⟨.int .i64 x, ?_⟩
    unfold encI keyOf
    rw [Try.underlying3]
    have h : (Lit.int .i64 x).wf = true := hx
    simp [mapKey, Try.underlying3, h]
  inj x y _ _ h := by
    unfold encI at h
    injection h
theorem zeroI (w : World) : (zeroValue 3).run Try.prog w = .ok (.int .i64 0) w := by kernel_rfl
/-- The cells of timers. -/
def tcells : List Tm → List Value
  | [] => []
  | t :: ts => .int .i64 t.f0 :: .int .i64 t.f1 :: tcells ts
theorem tcells_length : ∀ ts : List Tm, (tcells ts).length = ts.length * 2
  | [] => rfl
  | t :: ts => by rw [tcells, List.length_cons, List.length_cons, tcells_length ts, List.length_cons]; omega
theorem tcells_append : ∀ a b : List Tm, tcells (a ++ b) = tcells a ++ tcells b
  | [], b => rfl
  | t :: a, b => by rw [List.cons_append, tcells, tcells, tcells_append a b]; rfl
theorem tcells_at : ∀ (ts : List Tm) (i : Nat) (h : i < ts.length), (tcells ts)[i * 2]? = some (.int .i64 ts[i].f0) ∧ (tcells ts)[i * 2 + 1]? = some (.int .i64 ts[i].f1)
  | [], i, h => absurd h (by simp)
  | t :: ts, 0, h => ⟨rfl, rfl⟩
  | t :: ts, i + 1, h => by
    have := tcells_at ts i (by simpa using h)
    rw [tcells, show (i + 1) * 2 = i * 2 + 1 + 1 by omega]
    exact this
theorem tcells_set : ∀ (ts : List Tm) (i : Nat) (x : Tm), ((tcells ts).set (i * 2) (.int .i64 x.f0)).set (i * 2 + 1) (.int .i64 x.f1) = tcells (ts.set i x)
  | [], i, x => rfl
  | t :: ts, 0, x => rfl
  | t :: ts, i + 1, x => by
    have := tcells_set ts i x
    rw [List.set_cons_succ, tcells, tcells, show (i + 1) * 2 = i * 2 + 1 + 1 by omega, ← this]
    rfl
theorem tcells_take : ∀ (ts : List Tm) (n : Nat), (tcells ts).take (n * 2) = tcells (ts.take n)
  | ts, 0 => by rw [Nat.zero_mul, List.take_zero, List.take_zero]; rfl
  | [], n + 1 => by simp [tcells]
  | t :: ts, n + 1 => by
    rw [tcells, show (n + 1) * 2 = n * 2 + 1 + 1 by omega, List.take_succ_cons, List.take_succ_cons, tcells_take ts n]
    rfl
/-- A row of timers of the program's type, of the call's own. -/
def TRow (w : World) (B : Nat) (v : Value) (ts : List Tm) : Prop := w.ownsRow B 34 2 v ts.length (tcells ts)
theorem TRow.nil (w : World) (B : Nat) : TRow w B (.slice none 0 0) [] := own_nil _ _ _ _
theorem TRow.same {w w' : World} {B : Nat} {v : Value} {ts : List Tm} (h : TRow w B v ts) (hm : ∀ k, v.ownBlock = some k → w'.heap[k]? = w.heap[k]?) : TRow w' B v ts := own_move h hm
theorem TRow.form {w : World} {B : Nat} {v : Value} {ts : List Tm} (h : TRow w B v ts) (hn : 0 < ts.length) : ∃ g c cur, v = .slice (some ⟨g, 0, none⟩) ts.length c ∧ B ≤ g ∧ w.heap[g]? = some (.cells cur 34 (0, 0)) ∧ ts.length ≤ c ∧ c ≤ maxLen ∧ ∀ i (hi : i < ts.length), cur[i * 2]? = some (.int .i64 ts[i].f0) ∧ cur[i * 2 + 1]? = some (.int .i64 ts[i].f1) := by
  obtain ⟨h1, h2⟩ := h
  rcases h2 with ⟨_, h0⟩ | ⟨g, c, cur, rfl, hb, hg, hnc, hcm, hcs, ht⟩
  · omega
  · refine ⟨g, c, cur, rfl, hb, hg, hnc, hcm, fun i hi => ?_⟩
    obtain ⟨a, b⟩ := tcells_at ts i hi
    rw [← ht] at a b
    rw [List.getElem?_take_of_lt (by omega), Array.getElem?_toList] at a b
    exact ⟨a, b⟩
theorem TRow.cells {w : World} {B g c : Nat} {ts : List Tm} (h : TRow w B (.slice (some ⟨g, 0, none⟩) ts.length c) ts) {i : Nat} (hi : i < ts.length) : w.cell? ⟨g, i * 2, none⟩ = some (.int .i64 ts[i].f0) ∧ w.cell? ⟨g, i * 2 + 1, none⟩ = some (.int .i64 ts[i].f1) ∧ w.frozen? ⟨g, i * 2, none⟩ = false ∧ w.frozen? ⟨g, i * 2 + 1, none⟩ = false := by
  obtain ⟨g', c', cur, hv, hb, hg, hnc, hcm, hc⟩ := h.form (by omega)
  injection hv with ha _ _
  injection ha with ha
  injection ha with ha _ _
  subst ha
  obtain ⟨a, b⟩ := hc i hi
  exact ⟨(blk_cell hg _).trans a, (blk_cell hg _).trans b, blk_frozen hg _, blk_frozen hg _⟩
theorem TRow.put {w : World} {B g c : Nat} {ts : List Tm} (h : TRow w B (.slice (some ⟨g, 0, none⟩) ts.length c) ts) (i : Nat) (x : Tm) :
    TRow ((w.setCell ⟨g, i * 2, none⟩ (.int .i64 x.f0)).setCell ⟨g, i * 2 + 1, none⟩ (.int .i64 x.f1)) B (.slice (some ⟨g, 0, none⟩) (ts.set i x).length c) (ts.set i x) := by
  have h1 := (World.ownsRow.stored h (i * 2) (.int .i64 x.f0)).1
  have h2 := (World.ownsRow.stored h1 (i * 2 + 1) (.int .i64 x.f1)).1
  rw [tcells_set] at h2
  unfold TRow
  rw [List.length_set]
  exact h2
end Go.Proofs.Ytjoemkmckabpjaa.Pr
