-- A heap of timers: Push, Pop, Fix, Remove.
import Derived.Test.YtjoemkmckabpjaaTmDown
namespace Go.Proofs.Ytjoemkmckabpjaa.Pr
open Go.RowKit Go.Proofs.YtjoemkmckabpjaaW.PrintWords Go.Proofs.YtjoemkmckabpjaaW.PrintLast Go.Proofs.YtjoemkmckabpjaaW.PrintMore
open Go.ChangeMaps (setBlock)
set_option linter.unusedVariables false
set_option linter.unusedSimpArgs false
/-- What a function that may lay the row anew leaves. -/
def Ran' (w : World) (B p mb : Nat) (v : Value) (ts' : List Tm) (w' : World) : Prop := ∃ v', QAt w' B p mb v' ts' ∧ Below B w w' ∧ Kept w w' (PFoot p mb v) ∧ (v'.ownBlock = v.ownBlock ∨ ∃ k, v'.ownBlock = some k ∧ w.heap.size ≤ k)
theorem Ran.wide {w w' : World} {B p mb : Nat} {v : Value} {ts : List Tm} (h : Ran w B p mb v ts w') : Ran' w B p mb v ts w' := ⟨v, h.1, h.2.1, h.2.2, .inl rfl⟩
theorem foot_of {w : World} {p mb k : Nat} {v v' : Value} (h : PFoot p mb v' k) (ho : v'.ownBlock = v.ownBlock ∨ ∃ k, v'.ownBlock = some k ∧ w.heap.size ≤ k) : PFoot p mb v k ∨ w.heap.size ≤ k := by
  rcases h with h | h | h
  · exact .inl (.inl h)
  · exact .inl (.inr (.inl h))
  · rcases ho with ho | ⟨k', e, hk⟩
    · exact .inl (.inr (.inr (ho ▸ h)))
    · rw [e] at h
      injection h with h
      exact .inr (h ▸ hk)
theorem Ran'.step {w w1 w2 : World} {B p mb : Nat} {v v1 : Value} {ts2 : List Tm} (hb : Below B w w1) (hk : Kept w w1 (PFoot p mb v)) (ho : v1.ownBlock = v.ownBlock ∨ ∃ k, v1.ownBlock = some k ∧ w.heap.size ≤ k) (k : Ran' w1 B p mb v1 ts2 w2) : Ran' w B p mb v ts2 w2 := by
  obtain ⟨v2, h2, b2, k2, o2⟩ := k
  refine ⟨v2, h2, hb.trans b2, hk.then_ k2 (fun k hk' => foot_of hk' ho), ?_⟩
  rcases o2 with e | ⟨k, e, hk'⟩
  · rw [e]
    exact ho
  · exact .inr ⟨k, e, Nat.le_trans hb.size hk'⟩
theorem Ran.then_ {w w1 w2 : World} {B p mb : Nat} {v : Value} {ts1 ts2 : List Tm} (h : Ran w B p mb v ts1 w1) (k : Ran' w1 B p mb v ts2 w2) : Ran' w B p mb v ts2 w2 := Ran'.step h.2.1 h.2.2 (.inl rfl) k
theorem QAt.same {w w' : World} {B p mb : Nat} {v : Value} {ts : List Tm} (h : QAt w B p mb v ts) (hm : ∀ k, PFoot p mb v k → w'.heap[k]? = w.heap[k]?) : QAt w' B p mb v ts := by
  obtain ⟨T, h, k⟩ := h
  exact ⟨T, h.same hm, k⟩
theorem wrap_pred {n : Nat} (h : n ≤ 1000000) (h0 : 0 < n) : wrap64 ((n : Int) - 1) = ((n - 1 : Nat) : Int) := by unfold wrap64; omega
def pushF (ts : List Tm) (x : Tm) : List Tm := upF (ts.length + 1) (ts ++ [x]) ts.length
set_option maxRecDepth 100000 in
set_option maxHeartbeats 4000000 in
theorem hpush_calls (w : World) (B p mb : Nat) (v : Value) (ts : List Tm) (x : Tm) (hl : ts.length ≤ 999999) (h : QAt w B p mb v ts) (hx : ∀ t ∈ ts, t.f1 ≠ x.f1) (hk : okI x.f1) :
    Calls Try.prog 23 #[.iface 48 (.pointer (some ⟨p, 0, none⟩)), .iface 34 (tval x)] w fun e w' => e = .returned (.tuple #[]) ∧ Ran' w B p mb v (pushF ts x) w' := by
  have hC := push_q w B p mb v ts x hl h hx hk
  have hlen : (ts ++ [x]).length = ts.length + 1 := by simp
  obtain ⟨us, hus⟩ : ∃ us, us = ts ++ [x] := ⟨_, rfl⟩
  unfold pushF
  rw [← hus] at hC hlen ⊢
  obtain ⟨n, hn⟩ : ∃ n, n = ts.length := ⟨_, rfl⟩
  rw [← hn] at hlen hl ⊢
  obtain ⟨xv, hxv⟩ : ∃ xv, xv = tval x := ⟨_, rfl⟩
  rw [← hxv] at hC ⊢
  have w0 : wrap64 (((n + 1 : Nat) : Int) - 1) = (n : Int) := by unfold wrap64; omega
  have w1 : wrap64 ((n : Int) + 1 - 1) = (n : Int) := by unfold wrap64; omega
  have w2 : wrap64 (n : Int) = (n : Int) := by unfold wrap64; omega
  have hm := method_push p
  have hml := method_len p
  have HC := Lib.hid hC
  have HLn := Lib.hid hlen
  have HL := Lib.hid hl
  clear hC hlen hl h hx hk hus hn hxv
  go_enter Try.func23, Try.ntmps23
  go_wp2_with (first | (go_at_call 69; refine HC.out.mono ?_; rintro e w2 ⟨rfl, v2, hq, hb, hk, ho⟩; have HQ := Lib.hid hq; have HB := Lib.hid hb; have HK := Lib.hid hk; have HO := Lib.hid ho; clear hq hb hk ho HC) | (go_at_call 20; refine (len_q _ B p mb _ us HQ.out).mono ?_; rintro e w3 ⟨rfl, rfl⟩; rw [HLn.out]) | (go_at_call 31; refine (up_calls _ B p mb _ us n (by have := HLn.out; omega) (by have := HLn.out; have := HL.out; omega) HQ.out).mono ?_; rintro e w3 ⟨rfl, hr3⟩; have HR3 := Lib.hid hr3; clear hr3))
  go_end0
  exact ⟨rfl, Ran'.step HB.out HK.out HO.out HR3.out.wide⟩
end Go.Proofs.Ytjoemkmckabpjaa.Pr
