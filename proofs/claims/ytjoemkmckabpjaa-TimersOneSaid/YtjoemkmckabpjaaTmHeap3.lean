-- A heap of timers: Remove.
import Derived.Test.YtjoemkmckabpjaaTmHeap2
namespace Go.Proofs.Ytjoemkmckabpjaa.Pr
open Go.RowKit Go.Proofs.YtjoemkmckabpjaaW.PrintWords Go.Proofs.YtjoemkmckabpjaaW.PrintLast Go.Proofs.YtjoemkmckabpjaaW.PrintMore
open Go.ChangeMaps (setBlock)
set_option linter.unusedVariables false
set_option linter.unusedSimpArgs false
def remF (ts : List Tm) (i : Nat) : List Tm := if ts.length - 1 = i then ts else mendF (swapT ts i (ts.length - 1)) i (ts.length - 1)
theorem remF_length (ts : List Tm) (i : Nat) : (remF ts i).length = ts.length := by
  unfold remF
  split
  · rfl
  · rw [mendF_length, swapT_length]
set_option maxRecDepth 100000 in
set_option maxHeartbeats 4000000 in
theorem hrem_calls (w : World) (B p mb : Nat) (v : Value) (ts : List Tm) (i n : Nat) (hn : ts.length = n + 1) (hi : i < ts.length) (hl : ts.length ≤ 1000000) (h : QAt w B p mb v ts) :
    Calls Try.prog 28 #[.iface 48 (.pointer (some ⟨p, 0, none⟩)), .int .i64 i] w fun e w' => e = .returned (.iface 34 (tval (remF ts i)[n]!)) ∧ Ran' w B p mb v ((remF ts i).take n) w' := by
  have hml := method_len p
  have hms := method_swap p
  have hmp := method_pop p
  have hpl := remF_length ts i
  have hp : remF ts i = if n = i then ts else mendF (swapT ts i n) i n := by unfold remF; rw [hn]; rfl
  obtain ⟨us, hus⟩ : ∃ us, us = remF ts i := ⟨_, rfl⟩
  rw [← hus] at hp hpl ⊢
  obtain ⟨u, hu⟩ : ∃ u, u = tval us[n]! := ⟨_, rfl⟩
  rw [← hu]
  have HUU := Lib.hid hu
  have w0 : wrap64 (((n + 1 : Nat) : Int) - 1) = (n : Int) := by unfold wrap64; omega
  have w1 : wrap64 ((n : Int) + 1 - 1) = (n : Int) := by unfold wrap64; omega
  have w2 : wrap64 (n : Int) = (n : Int) := by unfold wrap64; omega
  have HL := Lib.hid hl
  have HN := Lib.hid hn
  have HI := Lib.hid hi
  have H := Lib.hid h
  have HPL := Lib.hid hpl
  clear hl hn h hpl hus hu hi
  by_cases h0 : n = i
  · subst h0
    rw [if_pos rfl] at hp
    have HP := Lib.hid hp
    clear hp
    go_enter Try.func28, Try.ntmps28
    go_wp2_with (first | (go_at_call 20; refine (len_q _ B p mb _ ts H.out).mono ?_; rintro e w3 ⟨rfl, rfl⟩; rw [HN.out]) | (go_at_call 68; refine (pop_q _ B p mb _ us n (by rw [HPL.out]; exact HN.out) (by rw [HPL.out]; exact HL.out) (by rw [HP.out]; exact H.out)).mono ?_; rintro e w5 ⟨he, v5, hq, hb, hk, ho⟩; rw [← HUU.out] at he; subst he; have HQ := Lib.hid hq; have HB := Lib.hid hb; have HK := Lib.hid hk; have HO := Lib.hid ho; clear hq hb hk ho))
    go_ret
    exact ⟨rfl, v5, HQ.out, HB.out, HK.out, .inl HO.out⟩
  · rw [if_neg h0] at hp
    have e1 : ((n : Int) == (i : Int)) = false := beq_eq_false_iff_ne.mpr (by omega)
    have e2 : ((n : Int) != (i : Int)) = true := by rw [bne, e1]; rfl
    have e3 : ¬ (n : Int) = (i : Int) := by omega
    have HIN := Lib.hid (show i < n by have := HI.out; have := HN.out; omega)
    obtain ⟨ss, hss⟩ : ∃ ss, ss = swapT ts i n := ⟨_, rfl⟩
    have HSL := Lib.hid (show ss.length = n + 1 by rw [hss, swapT_length]; exact HN.out)
    have HSS := Lib.hid hss
    rw [← hss] at hp
    obtain ⟨d, hd⟩ : ∃ d, d = downF (n + 1) ss i n := ⟨_, rfl⟩
    unfold mendF at hp
    rw [← hd] at hp
    have HP := Lib.hid hp
    have HDL := Lib.hid (show d.1.length = n + 1 by rw [hd, downF_length]; exact HSL.out)
    have HD := Lib.hid hd
    clear hp hd hss h0
    cases hmv : decide ((i : Int) < (d.2 : Int))
    · have HM := Lib.hid hmv
      have HPe : Hid (upF (i + 1) d.1 i = us) := Lib.hid (by
        have e := HP.out
        rw [if_neg (fun h => absurd HM.out (by rw [decide_eq_true (by omega)]; decide))] at e
        exact e.symm)
      go_enter Try.func28, Try.ntmps28
      go_wp2_with (first | (go_at_call 20; refine (len_q _ B p mb _ ts H.out).mono ?_; rintro e w3 ⟨rfl, rfl⟩; rw [HN.out]) | (go_at_call 70; refine (swap_q _ B p mb v ts i n HI.out (by have := HN.out; omega) HL.out H.out).mono ?_; rintro e w3 ⟨rfl, hr3⟩; rw [← HSS.out] at hr3; have HR3 := Lib.hid hr3; clear hr3) | (go_at_call 30; refine (down_calls _ B p mb _ ss i n (by have := HIN.out; have := HN.out; have := HL.out; omega) (by have := HSL.out; omega) (by have := HSL.out; have := HN.out; have := HL.out; omega) HR3.out.1).mono ?_; rintro e w4 ⟨rfl, hr4⟩; rw [← HD.out] at hr4 ⊢; have HR4 := Lib.hid (HR3.out.step hr4); clear hr4; rw [HM.out]) | (go_at_call 31; refine (up_calls _ B p mb _ d.1 i (by have := HDL.out; have := HIN.out; omega) (by have := HDL.out; have := HN.out; have := HL.out; omega) HR4.out.1).mono ?_; rintro e w6 ⟨rfl, hr6⟩; rw [HPe.out] at hr6; have HR6 := Lib.hid (HR4.out.step hr6); clear hr6) | (go_at_call 68; refine (pop_q _ B p mb _ us n (by rw [HPL.out]; exact HN.out) (by rw [HPL.out]; exact HL.out) HR6.out.1).mono ?_; rintro e w5 ⟨he, v5, hq, hb, hk, ho⟩; rw [← HUU.out] at he; subst he; have HQ := Lib.hid hq; have HB := Lib.hid hb; have HK := Lib.hid hk; have HO := Lib.hid ho; clear hq hb hk ho))
      go_ret
      exact ⟨rfl, Ran.then_ HR6.out ⟨v5, HQ.out, HB.out, HK.out, .inl HO.out⟩⟩
    · have HM := Lib.hid hmv
      have HPe : Hid (d.1 = us) := Lib.hid (by
        have e := HP.out
        rw [if_pos (by have := of_decide_eq_true HM.out; omega)] at e
        exact e.symm)
      go_enter Try.func28, Try.ntmps28
      go_wp2_with (first | (go_at_call 20; refine (len_q _ B p mb _ ts H.out).mono ?_; rintro e w3 ⟨rfl, rfl⟩; rw [HN.out]) | (go_at_call 70; refine (swap_q _ B p mb v ts i n HI.out (by have := HN.out; omega) HL.out H.out).mono ?_; rintro e w3 ⟨rfl, hr3⟩; rw [← HSS.out] at hr3; have HR3 := Lib.hid hr3; clear hr3) | (go_at_call 30; refine (down_calls _ B p mb _ ss i n (by have := HIN.out; have := HN.out; have := HL.out; omega) (by have := HSL.out; omega) (by have := HSL.out; have := HN.out; have := HL.out; omega) HR3.out.1).mono ?_; rintro e w4 ⟨rfl, hr4⟩; rw [← HD.out] at hr4 ⊢; rw [HPe.out] at hr4; have HR6 := Lib.hid (HR3.out.step hr4); clear hr4; rw [HM.out]) | (go_at_call 68; refine (pop_q _ B p mb _ us n (by rw [HPL.out]; exact HN.out) (by rw [HPL.out]; exact HL.out) HR6.out.1).mono ?_; rintro e w5 ⟨he, v5, hq, hb, hk, ho⟩; rw [← HUU.out] at he; subst he; have HQ := Lib.hid hq; have HB := Lib.hid hb; have HK := Lib.hid hk; have HO := Lib.hid ho; clear hq hb hk ho))
      go_ret
      exact ⟨rfl, Ran.then_ HR6.out ⟨v5, HQ.out, HB.out, HK.out, .inl HO.out⟩⟩
end Go.Proofs.Ytjoemkmckabpjaa.Pr
