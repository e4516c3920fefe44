-- A heap of timers: Fix, Pop, Remove.
import Derived.Test.YtjoemkmckabpjaaTmHeap
namespace Go.Proofs.Ytjoemkmckabpjaa.Pr
open Go.RowKit Go.Proofs.YtjoemkmckabpjaaW.PrintWords Go.Proofs.YtjoemkmckabpjaaW.PrintLast Go.Proofs.YtjoemkmckabpjaaW.PrintMore
open Go.ChangeMaps (setBlock)
set_option linter.unusedVariables false
set_option linter.unusedSimpArgs false
/-- down, then up where down has not moved. -/
def mendF (ts : List Tm) (i n : Nat) : List Tm := if i < (downF (n + 1) ts i n).2 then (downF (n + 1) ts i n).1 else upF (i + 1) (downF (n + 1) ts i n).1 i
theorem mendF_length (ts : List Tm) (i n : Nat) : (mendF ts i n).length = ts.length := by
  unfold mendF
  split
  · exact downF_length ..
  · rw [upF_length, downF_length]
set_option maxRecDepth 100000 in
set_option maxHeartbeats 4000000 in
theorem hfix_calls (w : World) (B p mb : Nat) (v : Value) (ts : List Tm) (i : Nat) (hi : i < ts.length) (hl : ts.length ≤ 1000000) (h : QAt w B p mb v ts) :
    Calls Try.prog 22 #[.iface 48 (.pointer (some ⟨p, 0, none⟩)), .int .i64 i] w fun e w' => e = .returned (.tuple #[]) ∧ Ran w B p mb v (mendF ts i ts.length) w' := by
  have hml := method_len p
  have HL := Lib.hid hl
  have HI := Lib.hid hi
  have H := Lib.hid h
  clear hl hi h
  obtain ⟨d, hd⟩ : ∃ d, d = downF (ts.length + 1) ts i ts.length := ⟨_, rfl⟩
  have hdl : d.1.length = ts.length := by rw [hd, downF_length]
  obtain ⟨r, hr⟩ : ∃ r, r = mendF ts i ts.length := ⟨_, rfl⟩
  rw [← hr]
  unfold mendF at hr
  rw [← hd] at hr
  have HRR := Lib.hid hr
  clear hr
  have HDL := Lib.hid hdl
  have HD := Lib.hid hd
  clear hd hdl
  cases hmv : decide ((i : Int) < (d.2 : Int))
  · have HM := Lib.hid hmv
    go_enter Try.func22, Try.ntmps22
    go_wp2_with (first | (go_at_call 20; refine (len_q _ B p mb _ ts H.out).mono ?_; rintro e w3 ⟨rfl, rfl⟩) | (go_at_call 30; refine (down_calls _ B p mb _ ts i ts.length (by have := HI.out; have := HL.out; omega) (Nat.le_refl _) HL.out H.out).mono ?_; rintro e w3 ⟨rfl, hr3⟩; rw [← HD.out] at hr3 ⊢; have HR3 := Lib.hid hr3; clear hr3; rw [HM.out]) | (go_at_call 31; refine (up_calls _ B p mb _ d.1 i (by rw [HDL.out]; exact HI.out) (by rw [HDL.out]; exact HL.out) HR3.out.1).mono ?_; rintro e w4 ⟨rfl, hr4⟩; have HR4 := Lib.hid (HR3.out.step hr4); clear hr4))
    go_end0
    refine ⟨rfl, ?_⟩
    have e := HRR.out
    rw [if_neg (fun h => absurd HM.out (by rw [decide_eq_true (by omega)]; decide))] at e
    rw [e]
    exact HR4.out
  · have HM := Lib.hid hmv
    go_enter Try.func22, Try.ntmps22
    go_wp2_with (first | (go_at_call 20; refine (len_q _ B p mb _ ts H.out).mono ?_; rintro e w3 ⟨rfl, rfl⟩) | (go_at_call 30; refine (down_calls _ B p mb _ ts i ts.length (by have := HI.out; have := HL.out; omega) (Nat.le_refl _) HL.out H.out).mono ?_; rintro e w3 ⟨rfl, hr3⟩; rw [← HD.out] at hr3 ⊢; have HR3 := Lib.hid hr3; clear hr3; rw [HM.out]))
    go_end0
    refine ⟨rfl, ?_⟩
    have e := HRR.out
    rw [if_pos (by have := of_decide_eq_true HM.out; omega)] at e
    rw [e]
    exact HR3.out
def popF (ts : List Tm) : List Tm := (downF ts.length (swapT ts 0 (ts.length - 1)) 0 (ts.length - 1)).1
theorem popF_length (ts : List Tm) : (popF ts).length = ts.length := by unfold popF; rw [downF_length, swapT_length]
set_option maxRecDepth 100000 in
set_option maxHeartbeats 4000000 in
theorem hpop_calls (w : World) (B p mb : Nat) (v : Value) (ts : List Tm) (n : Nat) (hn : ts.length = n + 1) (hl : ts.length ≤ 1000000) (h : QAt w B p mb v ts) :
    Calls Try.prog 21 #[.iface 48 (.pointer (some ⟨p, 0, none⟩))] w fun e w' => e = .returned (.iface 34 (tval (popF ts)[n]!)) ∧ Ran' w B p mb v ((popF ts).take n) w' := by
  have hml := method_len p
  have hms := method_swap p
  have hmp := method_pop p
  have hp : popF ts = (downF (n + 1) (swapT ts 0 n) 0 n).1 := by unfold popF; rw [hn]; rfl
  have hpl := popF_length ts
  obtain ⟨us, hus⟩ : ∃ us, us = popF ts := ⟨_, rfl⟩
  rw [← hus] at hp hpl ⊢
  obtain ⟨u, hu⟩ : ∃ u, u = tval us[n]! := ⟨_, rfl⟩
  rw [← hu]
  have HUU := Lib.hid hu
  clear hu
  have w0 : wrap64 (((n + 1 : Nat) : Int) - 1) = (n : Int) := by unfold wrap64; omega
  have w1 : wrap64 ((n : Int) + 1 - 1) = (n : Int) := by unfold wrap64; omega
  have w2 : wrap64 (n : Int) = (n : Int) := by unfold wrap64; omega
  have HL := Lib.hid hl
  have HN := Lib.hid hn
  have H := Lib.hid h
  have HP := Lib.hid hp
  have HPL := Lib.hid hpl
  clear hl hn h hp hpl hus
  go_enter Try.func21, Try.ntmps21
  go_wp2_with (first | (go_at_call 20; refine (len_q _ B p mb _ ts H.out).mono ?_; rintro e w3 ⟨rfl, rfl⟩; rw [HN.out]) | (go_at_call 70; refine (swap_q _ B p mb v ts 0 n (by have := HN.out; omega) (by have := HN.out; omega) HL.out H.out).mono ?_; rintro e w3 ⟨rfl, hr3⟩; have HR3 := Lib.hid hr3; clear hr3) | (go_at_call 30; refine (down_calls _ B p mb _ (swapT ts 0 n) 0 n (by omega) (by rw [swapT_length, HN.out]; omega) (by rw [swapT_length]; exact HL.out) HR3.out.1).mono ?_; rintro e w4 ⟨rfl, hr4⟩; rw [← HP.out] at hr4; have HR4 := Lib.hid (HR3.out.step hr4); clear hr4) | (go_at_call 68; refine (pop_q _ B p mb _ us n (by rw [HPL.out]; exact HN.out) (by rw [HPL.out]; exact HL.out) HR4.out.1).mono ?_; rintro e w5 ⟨he, v5, hq, hb, hk, ho⟩; rw [← HUU.out] at he; subst he; have HQ := Lib.hid hq; have HB := Lib.hid hb; have HK := Lib.hid hk; have HO := Lib.hid ho; clear hq hb hk ho))
  go_ret
  exact ⟨rfl, Ran.then_ HR4.out ⟨v5, HQ.out, HB.out, HK.out, .inl HO.out⟩⟩
end Go.Proofs.Ytjoemkmckabpjaa.Pr
