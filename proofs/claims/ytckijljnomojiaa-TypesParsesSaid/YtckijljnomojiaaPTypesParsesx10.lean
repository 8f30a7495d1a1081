-- laid by wip/tools/mkprint.py, a turned copy of the print
import Derived.Test.YtckijljnomojiaaPTypesParsesx0
import Derived.Test.YtckijljnomojiaaPTypesParsesx1
namespace Go.Proofs.Ytckijljnomojiaa.PTypesParses
open Go.RowKit Go.Proofs.YtckijljnomojiaaW.PrintWords Go.Proofs.YtckijljnomojiaaW.PrintLast Go.Proofs.YtckijljnomojiaaW.PrintMore
attribute [local go_sem] max2_int min2_int max_two min_two max_three min_three max_four min_four   -- for this text's walks alone
set_option linter.unusedVariables false
set_option linter.unusedSimpArgs false

attribute [local go_sem high] eqA38
/-! ### turnbuckleref05_Same: function 8 -/
mutual
def turnbuckleref05_Same.l0 : Nat → List (S41) → List (S41) → Int → Option (Bool)
  | 0, _, _, _ => none
  | k + 1, x0, x1, x5 => if x5 < (x0.length : Int) then (if 0 ≤ x5 then (if x5 < (x1.length : Int) then (if ((rd_T41 x0 x5).f0).toList = ((rd_T41 x1 x5).f0).toList then (if (((rd_T41 x0 x5).f1) != ((rd_T41 x1 x5).f1)) = true then (turnbuckleref05_Same.j1 k x0 x1 x5 true) else (if (((rd_T41 x0 x5).f2) != ((rd_T41 x1 x5).f2)) = true then (turnbuckleref05_Same.j1 k x0 x1 x5 true) else (turnbuckleref05_Same.j1 k x0 x1 x5 ((((rd_T41 x0 x5).f3).length : Int) != (((rd_T41 x1 x5).f3).length : Int))))) else (turnbuckleref05_Same.j1 k x0 x1 x5 true)) else (none)) else (none)) else (some true)
def turnbuckleref05_Same.j1 : Nat → List (S41) → List (S41) → Int → Bool → Option (Bool)
  | 0, _, _, _, _ => none
  | k + 1, x0, x1, x5, x69 => if x69 = true then (some false) else (turnbuckleref05_Same.l1 k x0 x1 x5 0)
def turnbuckleref05_Same.l1 : Nat → List (S41) → List (S41) → Int → Int → Option (Bool)
  | 0, _, _, _, _ => none
  | k + 1, x0, x1, x5, x6 => if 0 ≤ x5 then (if x5 < (x0.length : Int) then (if x6 < (((rd_T41 x0 x5).f3).length : Int) then (if 0 ≤ x6 then (if x5 < (x1.length : Int) then (if x6 < (((rd_T41 x1 x5).f3).length : Int) then (if (!(((rd_T38 ((rd_T41 x0 x5).f3) x6).f0) == ((rd_T38 ((rd_T41 x1 x5).f3) x6).f0)) || (!(((rd_T38 ((rd_T41 x0 x5).f3) x6).f1) == ((rd_T38 ((rd_T41 x1 x5).f3) x6).f1)) || (!(((rd_T38 ((rd_T41 x0 x5).f3) x6).f2) == ((rd_T38 ((rd_T41 x1 x5).f3) x6).f2)) || (!(((rd_T38 ((rd_T41 x0 x5).f3) x6).f3) == ((rd_T38 ((rd_T41 x1 x5).f3) x6).f3)) || (!(((rd_T38 ((rd_T41 x0 x5).f3) x6).f4) == ((rd_T38 ((rd_T41 x1 x5).f3) x6).f4))))))) = true then (some false) else (turnbuckleref05_Same.l1 k x0 x1 x5 (wrap64 (x6 + 1)))) else (none)) else (none)) else (none)) else (turnbuckleref05_Same.l0 k x0 x1 (wrap64 (x5 + 1)))) else (none)) else (none)
end
def turnbuckleref05_Same.f (k : Nat) (l0 : List (S41)) (l1 : List (S41)) : Option (Bool) := if (l0.length : Int) = (l1.length : Int) then (turnbuckleref05_Same.l0 k l0 l1 0) else (some false)
theorem turnbuckleref05_Same.mono_l : ∀ k, (∀ y0 y1 y2, LeO (turnbuckleref05_Same.l0 k y0 y1 y2) (turnbuckleref05_Same.l0 (k + 1) y0 y1 y2)) ∧ (∀ y0 y1 y2 y3, LeO (turnbuckleref05_Same.j1 k y0 y1 y2 y3) (turnbuckleref05_Same.j1 (k + 1) y0 y1 y2 y3)) ∧ (∀ y0 y1 y2 y3, LeO (turnbuckleref05_Same.l1 k y0 y1 y2 y3) (turnbuckleref05_Same.l1 (k + 1) y0 y1 y2 y3))
  | 0 => ⟨fun _ _ _ r h => by simp [turnbuckleref05_Same.l0] at h, fun _ _ _ _ r h => by simp [turnbuckleref05_Same.j1] at h, fun _ _ _ _ r h => by simp [turnbuckleref05_Same.l1] at h⟩
  | k + 1 => by
    obtain ⟨ih0, ih1, ih2⟩ := turnbuckleref05_Same.mono_l k
    refine ⟨?_, ?_, ?_⟩
    · intro y0 y1 y2
      unfold turnbuckleref05_Same.l0
      repeat' first
      | (with_reducible exact ih0 _ _ _)
      | (with_reducible exact ih1 _ _ _ _)
      | (with_reducible exact ih2 _ _ _ _)
      | (with_reducible exact LeO.refl _)
      | (with_reducible exact LeO.none _)
      | (with_reducible refine LeO.ite ?_ ?_)
      | (with_reducible refine LeO.bind ?_ (fun _ => ?_))
      | exact ih0 _ _ _
      | exact ih1 _ _ _ _
      | exact ih2 _ _ _ _
      | exact LeO.none _
      | refine LeO.ite ?_ ?_
      | refine LeO.bind ?_ (fun _ => ?_)
    · intro y0 y1 y2 y3
      unfold turnbuckleref05_Same.j1
      repeat' first
      | (with_reducible exact ih0 _ _ _)
      | (with_reducible exact ih1 _ _ _ _)
      | (with_reducible exact ih2 _ _ _ _)
      | (with_reducible exact LeO.refl _)
      | (with_reducible exact LeO.none _)
      | (with_reducible refine LeO.ite ?_ ?_)
      | (with_reducible refine LeO.bind ?_ (fun _ => ?_))
      | exact ih0 _ _ _
      | exact ih1 _ _ _ _
      | exact ih2 _ _ _ _
      | exact LeO.none _
      | refine LeO.ite ?_ ?_
      | refine LeO.bind ?_ (fun _ => ?_)
    · intro y0 y1 y2 y3
      unfold turnbuckleref05_Same.l1
      repeat' first
      | (with_reducible exact ih0 _ _ _)
      | (with_reducible exact ih1 _ _ _ _)
      | (with_reducible exact ih2 _ _ _ _)
      | (with_reducible exact LeO.refl _)
      | (with_reducible exact LeO.none _)
      | (with_reducible refine LeO.ite ?_ ?_)
      | (with_reducible refine LeO.bind ?_ (fun _ => ?_))
      | exact ih0 _ _ _
      | exact ih1 _ _ _ _
      | exact ih2 _ _ _ _
      | exact LeO.none _
      | refine LeO.ite ?_ ?_
      | refine LeO.bind ?_ (fun _ => ?_)
theorem turnbuckleref05_Same.mono : ∀ a0 a1 k, LeO (turnbuckleref05_Same.f k a0 a1) (turnbuckleref05_Same.f (k + 1) a0 a1) := by
  intro a0 a1 k
  obtain ⟨ih0, ih1, ih2⟩ := turnbuckleref05_Same.mono_l k
  unfold turnbuckleref05_Same.f
  repeat' first
      | (with_reducible exact ih0 _ _ _)
      | (with_reducible exact ih1 _ _ _ _)
      | (with_reducible exact ih2 _ _ _ _)
      | (with_reducible exact LeO.refl _)
      | (with_reducible exact LeO.none _)
      | (with_reducible refine LeO.ite ?_ ?_)
      | (with_reducible refine LeO.bind ?_ (fun _ => ?_))
      | exact ih0 _ _ _
      | exact ih1 _ _ _ _
      | exact ih2 _ _ _ _
      | exact LeO.none _
      | refine LeO.ite ?_ ?_
      | refine LeO.bind ?_ (fun _ => ?_)
set_option maxHeartbeats 8000000 in
set_option maxRecDepth 100000 in
theorem turnbuckleref05_Same.calls (k : Nat) (A0 : Option Addr) (c0 : Nat) (l0 : List (S41)) (A1 : Option Addr) (c1 : Nat) (l1 : List (S41)) (r : Bool) (w : World) (hr0 : Kd.C k41 w A0 l0.length l0) (hc0 : l0.length ≤ c0) (hr1 : Kd.C k41 w A1 l1.length l1) (hc1 : l1.length ≤ c1) (h : turnbuckleref05_Same.f k l0 l1 = some r) :
    Calls Try.prog 8 #[.slice A0 l0.length c0, .slice A1 l1.length c1] w fun e w' => e = .returned (.bool r) ∧ Drawn0 w w' := by
  have hu38 := Try.underlying38
  have HR0 := Aside0.mk hr0
  have HC0 := Aside0.mk hc0
  clear hr0 hc0
  have HR1 := Aside0.mk hr1
  have HC1 := Aside0.mk hc1
  clear hr1 hc1
  have H : (if (l0.length : Int) = (l1.length : Int) then (turnbuckleref05_Same.l0 k l0 l1 0) else (some false)) = some r := h
  clear h
  by_cases c3 : (l0.length : Int) = (l1.length : Int)
  · rw [if_pos c3] at H
    have c3b0 : ((l0.length : Int) == (l1.length : Int)) = true := beq_iff_eq.mpr c3
    have c3b1 : ((l0.length : Int) != (l1.length : Int)) = false := bne_eq_false_iff_eq.mpr c3
    have c3b2 : (l0.length == l1.length) = true := by first | simpa using c3 | (simp at c3 ⊢; omega)
    clear c3
    have H' := Aside0.mk H
    clear H
    go_enter Try.func8, Try.ntmps8
    go_wp2
    repeat (go_quiet (fail); try go_wp2)
    go_loopg [5] k (fun kq v5 w' => ∃ (x5_1 : Int), v5 = .int .i64 x5_1 ∧ Aside0 (turnbuckleref05_Same.l0 kq l0 l1 x5_1 = some r) ∧ Aside0 (kq ≤ k) ∧ Drawn0 w w')
    case atStart => exact ⟨(0), (by first | rfl | (simp; done) | (simp [*]; done)), H', ⟨Nat.le_refl _⟩, by repeat (first | exact Drawn0.refl _ | apply Drawn0.step)⟩
    case round =>
      clear H'
      try clear c1
      try clear p2
      try clear c3
      try clear c3b0
      try clear c3b1
      try clear c3b2
      obtain ⟨x5_1, rfl, HA, HK1, ⟨m1, rfl⟩⟩ := hrel
      cases gk with
      | zero => exact absurd HA.out (by simp [turnbuckleref05_Same.l0])
      | succ k1 =>
        have H := HA.out
        clear HA
        simp only [turnbuckleref05_Same.l0] at H
        by_cases c4 : x5_1 < (l0.length : Int)
        · rw [if_pos c4] at H
          have c4b0 : decide (x5_1 < (l0.length : Int)) = true := decide_eq_true c4
          clear c4
          have HC5 := Aside0.mk H
          clear H
          go_upto_region 6 with (fail)
          repeat (go_quiet (fail); go_upto_region 6 with (fail))
          go_cut [69] (fun v69 wc => ∃ (kq : Nat) (x69_4 : Bool), v69 = .bool x69_4 ∧ Aside0 (turnbuckleref05_Same.j1 kq l0 l1 x5_1 x69_4 = some r) ∧ Aside0 (kq ≤ k1) ∧ Drawn0 w wc)
          case first =>
            have H := HC5.out
            clear HC5
            by_cases c6 : 0 ≤ x5_1
            · rw [if_pos c6] at H
              have c6b0 : decide (0 ≤ x5_1) = true := decide_eq_true c6
              clear c6
              (first | rw [c6b0] | (simp only [i64_w, i32_w]; rw [c6b0]) | skip)
              by_cases c7 : x5_1 < (l1.length : Int)
              · rw [if_pos c7] at H
                have c7b0 : decide (x5_1 < (l1.length : Int)) = true := decide_eq_true c7
                clear c7
                by_cases c8 : ((rd_T41 l0 x5_1).f0).toList = ((rd_T41 l1 x5_1).f0).toList
                · rw [if_pos c8] at H
                  have c8b0 : (((rd_T41 l0 x5_1).f0).toList == ((rd_T41 l1 x5_1).f0).toList) = true := beq_iff_eq.mpr c8
                  have c8b1 : (((rd_T41 l0 x5_1).f0).toList != ((rd_T41 l1 x5_1).f0).toList) = false := bne_eq_false_iff_eq.mpr c8
                  clear c8
                  by_cases c9 : (((rd_T41 l0 x5_1).f1) != ((rd_T41 l1 x5_1).f1)) = true
                  · rw [if_pos c9] at H
                    have c9b0 : (((rd_T41 l0 x5_1).f1) != ((rd_T41 l1 x5_1).f1)) = true := c9
                    (try (have c9b1 : decide (((rd_T41 l0 x5_1).f1) = ((rd_T41 l1 x5_1).f1)) = false := by simpa using c9))
                    (try (have c9b2 : (((rd_T41 l0 x5_1).f1) == ((rd_T41 l1 x5_1).f1)) = false := by simpa using c9))
                    (try (have c9b3 : ¬ (((rd_T41 l0 x5_1).f1) = ((rd_T41 l1 x5_1).f1)) := by simpa using c9))
                    clear c9
                    have H' := Aside0.mk H
                    clear H
                    have p236 : 0 ≤ (x5_1 : Int) := of_decide_eq_true (by first | (with_reducible assumption) | assumption)
                    have q236 : x5_1 < (l0.length : Int) := of_decide_eq_true (by first | (with_reducible assumption) | assumption)
                    obtain ⟨ad236, A236_3, c236_3, e236, hx236_0, hx236_1, hx236_2, hx236_3, hl236_3, hi236_3⟩ := at_T41 HR0.out x5_1 p236 q236
                    cases e236
                    have HR236_3 := Aside0.mk hi236_3
                    have HC236_3 := Aside0.mk hl236_3
                    clear hi236_3 hl236_3
                    replace p236 := eq_true p236
                    replace q236 := eq_true q236
                    have p237 : 0 ≤ (x5_1 : Int) := of_decide_eq_true (by first | (with_reducible assumption) | assumption)
                    have q237 : x5_1 < (l1.length : Int) := of_decide_eq_true (by first | (with_reducible assumption) | assumption)
                    obtain ⟨ad237, A237_3, c237_3, e237, hx237_0, hx237_1, hx237_2, hx237_3, hl237_3, hi237_3⟩ := at_T41 HR1.out x5_1 p237 q237
                    cases e237
                    have HR237_3 := Aside0.mk hi237_3
                    have HC237_3 := Aside0.mk hl237_3
                    clear hi237_3 hl237_3
                    replace p237 := eq_true p237
                    replace q237 := eq_true q237
                    have p238 : 0 ≤ (x5_1 : Int) := of_decide_eq_true (by first | (with_reducible assumption) | assumption)
                    have q238 : x5_1 < (l0.length : Int) := of_decide_eq_true (by first | (with_reducible assumption) | assumption)
                    obtain ⟨ad238, A238_3, c238_3, e238, hx238_0, hx238_1, hx238_2, hx238_3, hl238_3, hi238_3⟩ := at_T41 HR0.out x5_1 p238 q238
                    obtain rfl : ad236 = ad238 := (by injection e238)
                    have HR238_3 := Aside0.mk hi238_3
                    have HC238_3 := Aside0.mk hl238_3
                    clear hi238_3 hl238_3
                    replace p238 := eq_true p238
                    replace q238 := eq_true q238
                    have ea_ := Option.some.inj (hx236_3.symm.trans hx238_3)
                    injection ea_ with ea_ en_ ec_
                    subst ea_
                    subst ec_
                    clear en_
                    have p239 : 0 ≤ (x5_1 : Int) := of_decide_eq_true (by first | (with_reducible assumption) | assumption)
                    have q239 : x5_1 < (l1.length : Int) := of_decide_eq_true (by first | (with_reducible assumption) | assumption)
                    obtain ⟨ad239, A239_3, c239_3, e239, hx239_0, hx239_1, hx239_2, hx239_3, hl239_3, hi239_3⟩ := at_T41 HR1.out x5_1 p239 q239
                    obtain rfl : ad237 = ad239 := (by injection e239)
                    have HR239_3 := Aside0.mk hi239_3
                    have HC239_3 := Aside0.mk hl239_3
                    clear hi239_3 hl239_3
                    replace p239 := eq_true p239
                    replace q239 := eq_true q239
                    have ea_ := Option.some.inj (hx237_3.symm.trans hx239_3)
                    injection ea_ with ea_ en_ ec_
                    subst ea_
                    subst ec_
                    clear en_
                    go_wp2
                    repeat (go_quiet (fail); try go_wp2)
                    go_meet
                    case rel => exact ⟨_, (true), (by first | rfl | (simp; done) | (simp [*]; done)), H', ⟨by have := HK1.out; first | omega | exact Nat.le_refl _⟩, by repeat (first | exact Drawn0.refl _ | apply Drawn0.step)⟩
                  · rw [if_neg c9] at H
                    have c9b0 : (((rd_T41 l0 x5_1).f1) != ((rd_T41 l1 x5_1).f1)) = false := by simpa using c9
                    (try (have c9b1 : decide (((rd_T41 l0 x5_1).f1) = ((rd_T41 l1 x5_1).f1)) = true := by simpa using c9))
                    (try (have c9b2 : (((rd_T41 l0 x5_1).f1) == ((rd_T41 l1 x5_1).f1)) = true := by simpa using c9))
                    clear c9
                    by_cases c10 : (((rd_T41 l0 x5_1).f2) != ((rd_T41 l1 x5_1).f2)) = true
                    · rw [if_pos c10] at H
                      have c10b0 : (((rd_T41 l0 x5_1).f2) != ((rd_T41 l1 x5_1).f2)) = true := c10
                      (try (have c10b1 : decide (((rd_T41 l0 x5_1).f2) = ((rd_T41 l1 x5_1).f2)) = false := by simpa using c10))
                      (try (have c10b2 : (((rd_T41 l0 x5_1).f2) == ((rd_T41 l1 x5_1).f2)) = false := by simpa using c10))
                      (try (have c10b3 : ¬ (((rd_T41 l0 x5_1).f2) = ((rd_T41 l1 x5_1).f2)) := by simpa using c10))
                      clear c10
                      have H' := Aside0.mk H
                      clear H
                      have p236 : 0 ≤ (x5_1 : Int) := of_decide_eq_true (by first | (with_reducible assumption) | assumption)
                      have q236 : x5_1 < (l0.length : Int) := of_decide_eq_true (by first | (with_reducible assumption) | assumption)
                      obtain ⟨ad236, A236_3, c236_3, e236, hx236_0, hx236_1, hx236_2, hx236_3, hl236_3, hi236_3⟩ := at_T41 HR0.out x5_1 p236 q236
                      cases e236
                      have HR236_3 := Aside0.mk hi236_3
                      have HC236_3 := Aside0.mk hl236_3
                      clear hi236_3 hl236_3
                      replace p236 := eq_true p236
                      replace q236 := eq_true q236
                      have p237 : 0 ≤ (x5_1 : Int) := of_decide_eq_true (by first | (with_reducible assumption) | assumption)
                      have q237 : x5_1 < (l1.length : Int) := of_decide_eq_true (by first | (with_reducible assumption) | assumption)
                      obtain ⟨ad237, A237_3, c237_3, e237, hx237_0, hx237_1, hx237_2, hx237_3, hl237_3, hi237_3⟩ := at_T41 HR1.out x5_1 p237 q237
                      cases e237
                      have HR237_3 := Aside0.mk hi237_3
                      have HC237_3 := Aside0.mk hl237_3
                      clear hi237_3 hl237_3
                      replace p237 := eq_true p237
                      replace q237 := eq_true q237
                      have p238 : 0 ≤ (x5_1 : Int) := of_decide_eq_true (by first | (with_reducible assumption) | assumption)
                      have q238 : x5_1 < (l0.length : Int) := of_decide_eq_true (by first | (with_reducible assumption) | assumption)
                      obtain ⟨ad238, A238_3, c238_3, e238, hx238_0, hx238_1, hx238_2, hx238_3, hl238_3, hi238_3⟩ := at_T41 HR0.out x5_1 p238 q238
                      obtain rfl : ad236 = ad238 := (by injection e238)
                      have HR238_3 := Aside0.mk hi238_3
                      have HC238_3 := Aside0.mk hl238_3
                      clear hi238_3 hl238_3
                      replace p238 := eq_true p238
                      replace q238 := eq_true q238
                      have ea_ := Option.some.inj (hx236_3.symm.trans hx238_3)
                      injection ea_ with ea_ en_ ec_
                      subst ea_
                      subst ec_
                      clear en_
                      have p239 : 0 ≤ (x5_1 : Int) := of_decide_eq_true (by first | (with_reducible assumption) | assumption)
                      have q239 : x5_1 < (l1.length : Int) := of_decide_eq_true (by first | (with_reducible assumption) | assumption)
                      obtain ⟨ad239, A239_3, c239_3, e239, hx239_0, hx239_1, hx239_2, hx239_3, hl239_3, hi239_3⟩ := at_T41 HR1.out x5_1 p239 q239
                      obtain rfl : ad237 = ad239 := (by injection e239)
                      have HR239_3 := Aside0.mk hi239_3
                      have HC239_3 := Aside0.mk hl239_3
                      clear hi239_3 hl239_3
                      replace p239 := eq_true p239
                      replace q239 := eq_true q239
                      have ea_ := Option.some.inj (hx237_3.symm.trans hx239_3)
                      injection ea_ with ea_ en_ ec_
                      subst ea_
                      subst ec_
                      clear en_
                      have p240 : 0 ≤ (x5_1 : Int) := of_decide_eq_true (by first | (with_reducible assumption) | assumption)
                      have q240 : x5_1 < (l0.length : Int) := of_decide_eq_true (by first | (with_reducible assumption) | assumption)
                      obtain ⟨ad240, A240_3, c240_3, e240, hx240_0, hx240_1, hx240_2, hx240_3, hl240_3, hi240_3⟩ := at_T41 HR0.out x5_1 p240 q240
                      obtain rfl : ad236 = ad240 := (by injection e240)
                      have HR240_3 := Aside0.mk hi240_3
                      have HC240_3 := Aside0.mk hl240_3
                      clear hi240_3 hl240_3
                      replace p240 := eq_true p240
                      replace q240 := eq_true q240
                      have ea_ := Option.some.inj (hx236_3.symm.trans hx240_3)
                      injection ea_ with ea_ en_ ec_
                      subst ea_
                      subst ec_
                      clear en_
                      have p241 : 0 ≤ (x5_1 : Int) := of_decide_eq_true (by first | (with_reducible assumption) | assumption)
                      have q241 : x5_1 < (l1.length : Int) := of_decide_eq_true (by first | (with_reducible assumption) | assumption)
                      obtain ⟨ad241, A241_3, c241_3, e241, hx241_0, hx241_1, hx241_2, hx241_3, hl241_3, hi241_3⟩ := at_T41 HR1.out x5_1 p241 q241
                      obtain rfl : ad237 = ad241 := (by injection e241)
                      have HR241_3 := Aside0.mk hi241_3
                      have HC241_3 := Aside0.mk hl241_3
                      clear hi241_3 hl241_3
                      replace p241 := eq_true p241
                      replace q241 := eq_true q241
                      have ea_ := Option.some.inj (hx237_3.symm.trans hx241_3)
                      injection ea_ with ea_ en_ ec_
                      subst ea_
                      subst ec_
                      clear en_
                      go_wp2
                      repeat (go_quiet (fail); try go_wp2)
                      go_meet
                      case rel => exact ⟨_, (true), (by first | rfl | (simp; done) | (simp [*]; done)), H', ⟨by have := HK1.out; first | omega | exact Nat.le_refl _⟩, by repeat (first | exact Drawn0.refl _ | apply Drawn0.step)⟩
                    · rw [if_neg c10] at H
                      have c10b0 : (((rd_T41 l0 x5_1).f2) != ((rd_T41 l1 x5_1).f2)) = false := by simpa using c10
                      (try (have c10b1 : decide (((rd_T41 l0 x5_1).f2) = ((rd_T41 l1 x5_1).f2)) = true := by simpa using c10))
                      (try (have c10b2 : (((rd_T41 l0 x5_1).f2) == ((rd_T41 l1 x5_1).f2)) = true := by simpa using c10))
                      clear c10
                      have H' := Aside0.mk H
                      clear H
                      have p236 : 0 ≤ (x5_1 : Int) := of_decide_eq_true (by first | (with_reducible assumption) | assumption)
                      have q236 : x5_1 < (l0.length : Int) := of_decide_eq_true (by first | (with_reducible assumption) | assumption)
                      obtain ⟨ad236, A236_3, c236_3, e236, hx236_0, hx236_1, hx236_2, hx236_3, hl236_3, hi236_3⟩ := at_T41 HR0.out x5_1 p236 q236
                      cases e236
                      have HR236_3 := Aside0.mk hi236_3
                      have HC236_3 := Aside0.mk hl236_3
                      clear hi236_3 hl236_3
                      replace p236 := eq_true p236
                      replace q236 := eq_true q236
                      have p237 : 0 ≤ (x5_1 : Int) := of_decide_eq_true (by first | (with_reducible assumption) | assumption)
                      have q237 : x5_1 < (l1.length : Int) := of_decide_eq_true (by first | (with_reducible assumption) | assumption)
                      obtain ⟨ad237, A237_3, c237_3, e237, hx237_0, hx237_1, hx237_2, hx237_3, hl237_3, hi237_3⟩ := at_T41 HR1.out x5_1 p237 q237
                      cases e237
                      have HR237_3 := Aside0.mk hi237_3
                      have HC237_3 := Aside0.mk hl237_3
                      clear hi237_3 hl237_3
                      replace p237 := eq_true p237
                      replace q237 := eq_true q237
                      have p238 : 0 ≤ (x5_1 : Int) := of_decide_eq_true (by first | (with_reducible assumption) | assumption)
                      have q238 : x5_1 < (l0.length : Int) := of_decide_eq_true (by first | (with_reducible assumption) | assumption)
                      obtain ⟨ad238, A238_3, c238_3, e238, hx238_0, hx238_1, hx238_2, hx238_3, hl238_3, hi238_3⟩ := at_T41 HR0.out x5_1 p238 q238
                      obtain rfl : ad236 = ad238 := (by injection e238)
                      have HR238_3 := Aside0.mk hi238_3
                      have HC238_3 := Aside0.mk hl238_3
                      clear hi238_3 hl238_3
                      replace p238 := eq_true p238
                      replace q238 := eq_true q238
                      have ea_ := Option.some.inj (hx236_3.symm.trans hx238_3)
                      injection ea_ with ea_ en_ ec_
                      subst ea_
                      subst ec_
                      clear en_
                      have p239 : 0 ≤ (x5_1 : Int) := of_decide_eq_true (by first | (with_reducible assumption) | assumption)
                      have q239 : x5_1 < (l1.length : Int) := of_decide_eq_true (by first | (with_reducible assumption) | assumption)
                      obtain ⟨ad239, A239_3, c239_3, e239, hx239_0, hx239_1, hx239_2, hx239_3, hl239_3, hi239_3⟩ := at_T41 HR1.out x5_1 p239 q239
                      obtain rfl : ad237 = ad239 := (by injection e239)
                      have HR239_3 := Aside0.mk hi239_3
                      have HC239_3 := Aside0.mk hl239_3
                      clear hi239_3 hl239_3
                      replace p239 := eq_true p239
                      replace q239 := eq_true q239
                      have ea_ := Option.some.inj (hx237_3.symm.trans hx239_3)
                      injection ea_ with ea_ en_ ec_
                      subst ea_
                      subst ec_
                      clear en_
                      have p240 : 0 ≤ (x5_1 : Int) := of_decide_eq_true (by first | (with_reducible assumption) | assumption)
                      have q240 : x5_1 < (l0.length : Int) := of_decide_eq_true (by first | (with_reducible assumption) | assumption)
                      obtain ⟨ad240, A240_3, c240_3, e240, hx240_0, hx240_1, hx240_2, hx240_3, hl240_3, hi240_3⟩ := at_T41 HR0.out x5_1 p240 q240
                      obtain rfl : ad236 = ad240 := (by injection e240)
                      have HR240_3 := Aside0.mk hi240_3
                      have HC240_3 := Aside0.mk hl240_3
                      clear hi240_3 hl240_3
                      replace p240 := eq_true p240
                      replace q240 := eq_true q240
                      have ea_ := Option.some.inj (hx236_3.symm.trans hx240_3)
                      injection ea_ with ea_ en_ ec_
                      subst ea_
                      subst ec_
                      clear en_
                      have p241 : 0 ≤ (x5_1 : Int) := of_decide_eq_true (by first | (with_reducible assumption) | assumption)
                      have q241 : x5_1 < (l1.length : Int) := of_decide_eq_true (by first | (with_reducible assumption) | assumption)
                      obtain ⟨ad241, A241_3, c241_3, e241, hx241_0, hx241_1, hx241_2, hx241_3, hl241_3, hi241_3⟩ := at_T41 HR1.out x5_1 p241 q241
                      obtain rfl : ad237 = ad241 := (by injection e241)
                      have HR241_3 := Aside0.mk hi241_3
                      have HC241_3 := Aside0.mk hl241_3
                      clear hi241_3 hl241_3
                      replace p241 := eq_true p241
                      replace q241 := eq_true q241
                      have ea_ := Option.some.inj (hx237_3.symm.trans hx241_3)
                      injection ea_ with ea_ en_ ec_
                      subst ea_
                      subst ec_
                      clear en_
                      have p242 : 0 ≤ (x5_1 : Int) := of_decide_eq_true (by first | (with_reducible assumption) | assumption)
                      have q242 : x5_1 < (l0.length : Int) := of_decide_eq_true (by first | (with_reducible assumption) | assumption)
                      obtain ⟨ad242, A242_3, c242_3, e242, hx242_0, hx242_1, hx242_2, hx242_3, hl242_3, hi242_3⟩ := at_T41 HR0.out x5_1 p242 q242
                      obtain rfl : ad236 = ad242 := (by injection e242)
                      have HR242_3 := Aside0.mk hi242_3
                      have HC242_3 := Aside0.mk hl242_3
                      clear hi242_3 hl242_3
                      replace p242 := eq_true p242
                      replace q242 := eq_true q242
                      have ea_ := Option.some.inj (hx236_3.symm.trans hx242_3)
                      injection ea_ with ea_ en_ ec_
                      subst ea_
                      subst ec_
                      clear en_
                      have p243 : 0 ≤ (x5_1 : Int) := of_decide_eq_true (by first | (with_reducible assumption) | assumption)
                      have q243 : x5_1 < (l1.length : Int) := of_decide_eq_true (by first | (with_reducible assumption) | assumption)
                      obtain ⟨ad243, A243_3, c243_3, e243, hx243_0, hx243_1, hx243_2, hx243_3, hl243_3, hi243_3⟩ := at_T41 HR1.out x5_1 p243 q243
                      obtain rfl : ad237 = ad243 := (by injection e243)
                      have HR243_3 := Aside0.mk hi243_3
                      have HC243_3 := Aside0.mk hl243_3
                      clear hi243_3 hl243_3
                      replace p243 := eq_true p243
                      replace q243 := eq_true q243
                      have ea_ := Option.some.inj (hx237_3.symm.trans hx243_3)
                      injection ea_ with ea_ en_ ec_
                      subst ea_
                      subst ec_
                      clear en_
                      go_wp2
                      repeat (go_quiet (fail); try go_wp2)
                      go_meet
                      case rel => exact ⟨_, (((((rd_T41 l0 x5_1).f3).length : Int) != (((rd_T41 l1 x5_1).f3).length : Int))), (by first | rfl | (simp; done) | (simp [*]; done)), H', ⟨by have := HK1.out; first | omega | exact Nat.le_refl _⟩, by repeat (first | exact Drawn0.refl _ | apply Drawn0.step)⟩
                · rw [if_neg c8] at H
                  have c8b0 : (((rd_T41 l0 x5_1).f0).toList == ((rd_T41 l1 x5_1).f0).toList) = false := beq_eq_false_iff_ne.mpr c8
                  have c8b1 : (((rd_T41 l0 x5_1).f0).toList != ((rd_T41 l1 x5_1).f0).toList) = true := bne_iff_ne.mpr c8
                  have H' := Aside0.mk H
                  clear H
                  have p236 : 0 ≤ (x5_1 : Int) := of_decide_eq_true (by first | (with_reducible assumption) | assumption)
                  have q236 : x5_1 < (l0.length : Int) := of_decide_eq_true (by first | (with_reducible assumption) | assumption)
                  obtain ⟨ad236, A236_3, c236_3, e236, hx236_0, hx236_1, hx236_2, hx236_3, hl236_3, hi236_3⟩ := at_T41 HR0.out x5_1 p236 q236
                  cases e236
                  have HR236_3 := Aside0.mk hi236_3
                  have HC236_3 := Aside0.mk hl236_3
                  clear hi236_3 hl236_3
                  replace p236 := eq_true p236
                  replace q236 := eq_true q236
                  have p237 : 0 ≤ (x5_1 : Int) := of_decide_eq_true (by first | (with_reducible assumption) | assumption)
                  have q237 : x5_1 < (l1.length : Int) := of_decide_eq_true (by first | (with_reducible assumption) | assumption)
                  obtain ⟨ad237, A237_3, c237_3, e237, hx237_0, hx237_1, hx237_2, hx237_3, hl237_3, hi237_3⟩ := at_T41 HR1.out x5_1 p237 q237
                  cases e237
                  have HR237_3 := Aside0.mk hi237_3
                  have HC237_3 := Aside0.mk hl237_3
                  clear hi237_3 hl237_3
                  replace p237 := eq_true p237
                  replace q237 := eq_true q237
                  go_wp2
                  repeat (go_quiet (fail); try go_wp2)
                  go_meet
                  case rel => exact ⟨_, (true), (by first | rfl | (simp; done) | (simp [*]; done)), H', ⟨by have := HK1.out; first | omega | exact Nat.le_refl _⟩, by repeat (first | exact Drawn0.refl _ | apply Drawn0.step)⟩
              · rw [if_neg c7] at H
                exact absurd H (by simp)
            · rw [if_neg c6] at H
              exact absurd H (by simp)
          case rest =>
            clear HC5
            try clear c1
            try clear c2
            try clear p2
            try clear q2
            try clear hx2
            try clear c3
            try clear c3b0
            try clear c3b1
            try clear c3b2
            try clear c4
            try clear c4b0
            try clear c6
            try clear c6b0
            try clear c7
            try clear c7b0
            try clear c8
            try clear c8b0
            try clear c8b1
            try clear c9
            try clear c9b0
            try clear c9b1
            try clear c9b2
            try clear c10
            try clear c10b0
            try clear c10b1
            try clear c10b2
            try clear hx236_0
            try clear hx236_1
            try clear hx236_2
            try clear hx236_3
            try clear hx237_0
            try clear hx237_1
            try clear hx237_2
            try clear hx237_3
            try clear hx238_0
            try clear hx238_1
            try clear hx238_2
            try clear hx238_3
            try clear hx239_0
            try clear hx239_1
            try clear hx239_2
            try clear hx239_3
            try clear hx240_0
            try clear hx240_1
            try clear hx240_2
            try clear hx240_3
            try clear hx241_0
            try clear hx241_1
            try clear hx241_2
            try clear hx241_3
            try clear hx242_0
            try clear hx242_1
            try clear hx242_2
            try clear hx242_3
            try clear hx243_0
            try clear hx243_1
            try clear hx243_2
            try clear hx243_3
            try clear p2
            try clear p236
            try clear p237
            try clear p238
            try clear p239
            try clear p240
            try clear p241
            try clear p242
            try clear p243
            try clear q236
            try clear q237
            try clear q238
            try clear q239
            try clear q240
            try clear q241
            try clear q242
            try clear q243
            obtain ⟨kq, x69_4, rfl, HA, HJ4, ⟨mc4, rfl⟩⟩ := hcut
            cases kq with
            | zero => exact absurd HA.out (by simp [turnbuckleref05_Same.j1])
            | succ kj4 =>
              have H := HA.out
              clear HA
              simp only [turnbuckleref05_Same.j1] at H
              by_cases c11 : x69_4 = true
              · subst c11
                have H1 : (some false) = some r := by rw [if_pos rfl] at H; exact H
                clear H
                have H := H1
                clear H1
                obtain rfl := Option.some.inj H
                go_wp2
                repeat (go_quiet (fail); try go_wp2)
                go_ret
                exact ⟨by first | rfl | (simp; done) | (simp [*]; done), by repeat (first | exact Drawn0.refl _ | apply Drawn0.step)⟩
              · replace c11 := Bool.eq_false_iff.mpr c11
                subst c11
                have H1 : (turnbuckleref05_Same.l1 kj4 l0 l1 x5_1 0) = some r := by rw [if_neg (show ¬ (false = true) by decide)] at H; exact H
                clear H
                have H := H1
                clear H1
                have H' := Aside0.mk H
                clear H
                go_wp2
                repeat (go_quiet (fail); try go_wp2)
                go_loopg [6] kj4 (fun kq v6 w' => ∃ (x6_3 : Int), v6 = .int .i64 x6_3 ∧ Aside0 (turnbuckleref05_Same.l1 kq l0 l1 x5_1 x6_3 = some r) ∧ Aside0 (kq ≤ kj4) ∧ Drawn0 w w')
                case atStart => exact ⟨(0), (by first | rfl | (simp; done) | (simp [*]; done)), H', ⟨Nat.le_refl _⟩, by repeat (first | exact Drawn0.refl _ | apply Drawn0.step)⟩
                case round =>
                  clear H'
                  try clear c1
                  try clear c2
                  try clear p2
                  try clear q2
                  try clear hx2
                  try clear c3
                  try clear c3b0
                  try clear c3b1
                  try clear c3b2
                  try clear c4
                  try clear c4b0
                  try clear c6
                  try clear c6b0
                  try clear c7
                  try clear c7b0
                  try clear c8
                  try clear c8b0
                  try clear c8b1
                  try clear c9
                  try clear c9b0
                  try clear c9b1
                  try clear c9b2
                  try clear c10
                  try clear c10b0
                  try clear c10b1
                  try clear c10b2
                  try clear c11
                  try clear hx236_0
                  try clear hx236_1
                  try clear hx236_2
                  try clear hx236_3
                  try clear hx237_0
                  try clear hx237_1
                  try clear hx237_2
                  try clear hx237_3
                  try clear hx238_0
                  try clear hx238_1
                  try clear hx238_2
                  try clear hx238_3
                  try clear hx239_0
                  try clear hx239_1
                  try clear hx239_2
                  try clear hx239_3
                  try clear hx240_0
                  try clear hx240_1
                  try clear hx240_2
                  try clear hx240_3
                  try clear hx241_0
                  try clear hx241_1
                  try clear hx241_2
                  try clear hx241_3
                  try clear hx242_0
                  try clear hx242_1
                  try clear hx242_2
                  try clear hx242_3
                  try clear hx243_0
                  try clear hx243_1
                  try clear hx243_2
                  try clear hx243_3
                  try clear p2
                  try clear p236
                  try clear p237
                  try clear p238
                  try clear p239
                  try clear p240
                  try clear p241
                  try clear p242
                  try clear p243
                  try clear q2
                  try clear q236
                  try clear q237
                  try clear q238
                  try clear q239
                  try clear q240
                  try clear q241
                  try clear q242
                  try clear q243
                  obtain ⟨x6_3, rfl, HA, HK3, ⟨m3, rfl⟩⟩ := hrel
                  cases gk with
                  | zero => exact absurd HA.out (by simp [turnbuckleref05_Same.l1])
                  | succ k3 =>
                    have H := HA.out
                    clear HA
                    simp only [turnbuckleref05_Same.l1] at H
                    by_cases c12 : 0 ≤ x5_1
                    · rw [if_pos c12] at H
                      have c12b0 : decide (0 ≤ x5_1) = true := decide_eq_true c12
                      clear c12
                      by_cases c13 : x5_1 < (l0.length : Int)
                      · rw [if_pos c13] at H
                        have c13b0 : decide (x5_1 < (l0.length : Int)) = true := decide_eq_true c13
                        clear c13
                        by_cases c14 : x6_3 < (((rd_T41 l0 x5_1).f3).length : Int)
                        · rw [if_pos c14] at H
                          have c14b0 : decide (x6_3 < (((rd_T41 l0 x5_1).f3).length : Int)) = true := decide_eq_true c14
                          clear c14
                          by_cases c15 : 0 ≤ x6_3
                          · rw [if_pos c15] at H
                            have c15b0 : decide (0 ≤ x6_3) = true := decide_eq_true c15
                            clear c15
                            by_cases c16 : x5_1 < (l1.length : Int)
                            · rw [if_pos c16] at H
                              have c16b0 : decide (x5_1 < (l1.length : Int)) = true := decide_eq_true c16
                              clear c16
                              by_cases c17 : x6_3 < (((rd_T41 l1 x5_1).f3).length : Int)
                              · rw [if_pos c17] at H
                                have c17b0 : decide (x6_3 < (((rd_T41 l1 x5_1).f3).length : Int)) = true := decide_eq_true c17
                                clear c17
                                by_cases c18 : (!(((rd_T38 ((rd_T41 l0 x5_1).f3) x6_3).f0) == ((rd_T38 ((rd_T41 l1 x5_1).f3) x6_3).f0)) || (!(((rd_T38 ((rd_T41 l0 x5_1).f3) x6_3).f1) == ((rd_T38 ((rd_T41 l1 x5_1).f3) x6_3).f1)) || (!(((rd_T38 ((rd_T41 l0 x5_1).f3) x6_3).f2) == ((rd_T38 ((rd_T41 l1 x5_1).f3) x6_3).f2)) || (!(((rd_T38 ((rd_T41 l0 x5_1).f3) x6_3).f3) == ((rd_T38 ((rd_T41 l1 x5_1).f3) x6_3).f3)) || (!(((rd_T38 ((rd_T41 l0 x5_1).f3) x6_3).f4) == ((rd_T38 ((rd_T41 l1 x5_1).f3) x6_3).f4))))))) = true
                                · rw [if_pos c18] at H
                                  have c18b0 : (!(((rd_T38 ((rd_T41 l0 x5_1).f3) x6_3).f0) == ((rd_T38 ((rd_T41 l1 x5_1).f3) x6_3).f0)) || (!(((rd_T38 ((rd_T41 l0 x5_1).f3) x6_3).f1) == ((rd_T38 ((rd_T41 l1 x5_1).f3) x6_3).f1)) || (!(((rd_T38 ((rd_T41 l0 x5_1).f3) x6_3).f2) == ((rd_T38 ((rd_T41 l1 x5_1).f3) x6_3).f2)) || (!(((rd_T38 ((rd_T41 l0 x5_1).f3) x6_3).f3) == ((rd_T38 ((rd_T41 l1 x5_1).f3) x6_3).f3)) || (!(((rd_T38 ((rd_T41 l0 x5_1).f3) x6_3).f4) == ((rd_T38 ((rd_T41 l1 x5_1).f3) x6_3).f4))))))) = true := c18
                                  clear c18
                                  obtain rfl := Option.some.inj H
                                  have p244 : 0 ≤ (x5_1 : Int) := of_decide_eq_true (by first | (with_reducible assumption) | assumption)
                                  have q244 : x5_1 < (l0.length : Int) := of_decide_eq_true (by first | (with_reducible assumption) | assumption)
                                  obtain ⟨ad244, A244_3, c244_3, e244, hx244_0, hx244_1, hx244_2, hx244_3, hl244_3, hi244_3⟩ := at_T41 HR0.out x5_1 p244 q244
                                  cases e244
                                  have HR244_3 := Aside0.mk hi244_3
                                  have HC244_3 := Aside0.mk hl244_3
                                  clear hi244_3 hl244_3
                                  replace p244 := eq_true p244
                                  replace q244 := eq_true q244
                                  have p245 : 0 ≤ (x5_1 : Int) := of_decide_eq_true (by first | (with_reducible assumption) | assumption)
                                  have q245 : x5_1 < (l0.length : Int) := of_decide_eq_true (by first | (with_reducible assumption) | assumption)
                                  obtain ⟨ad245, A245_3, c245_3, e245, hx245_0, hx245_1, hx245_2, hx245_3, hl245_3, hi245_3⟩ := at_T41 HR0.out x5_1 p245 q245
                                  obtain rfl : ad244 = ad245 := (by injection e245)
                                  have HR245_3 := Aside0.mk hi245_3
                                  have HC245_3 := Aside0.mk hl245_3
                                  clear hi245_3 hl245_3
                                  replace p245 := eq_true p245
                                  replace q245 := eq_true q245
                                  have ea_ := Option.some.inj (hx244_3.symm.trans hx245_3)
                                  injection ea_ with ea_ en_ ec_
                                  subst ea_
                                  subst ec_
                                  clear en_
                                  have p246 : 0 ≤ (x6_3 : Int) := of_decide_eq_true (by first | (with_reducible assumption) | assumption)
                                  have q246 : x6_3 < (((rd_T41 l0 x5_1).f3).length : Int) := of_decide_eq_true (by first | (with_reducible assumption) | assumption)
                                  obtain ⟨ad246, e246, hx246_0, hx246_1, hx246_2, hx246_3, hx246_4⟩ := at_T38 HR245_3.out x6_3 p246 q246
                                  cases e246
                                  replace p246 := eq_true p246
                                  replace q246 := eq_true q246
                                  have p247 : 0 ≤ (x5_1 : Int) := of_decide_eq_true (by first | (with_reducible assumption) | assumption)
                                  have q247 : x5_1 < (l1.length : Int) := of_decide_eq_true (by first | (with_reducible assumption) | assumption)
                                  obtain ⟨ad247, A247_3, c247_3, e247, hx247_0, hx247_1, hx247_2, hx247_3, hl247_3, hi247_3⟩ := at_T41 HR1.out x5_1 p247 q247
                                  cases e247
                                  have HR247_3 := Aside0.mk hi247_3
                                  have HC247_3 := Aside0.mk hl247_3
                                  clear hi247_3 hl247_3
                                  replace p247 := eq_true p247
                                  replace q247 := eq_true q247
                                  have p248 : 0 ≤ (x6_3 : Int) := of_decide_eq_true (by first | (with_reducible assumption) | assumption)
                                  have q248 : x6_3 < (((rd_T41 l1 x5_1).f3).length : Int) := of_decide_eq_true (by first | (with_reducible assumption) | assumption)
                                  obtain ⟨ad248, e248, hx248_0, hx248_1, hx248_2, hx248_3, hx248_4⟩ := at_T38 HR247_3.out x6_3 p248 q248
                                  cases e248
                                  replace p248 := eq_true p248
                                  replace q248 := eq_true q248
                                  go_wp2
                                  repeat (go_quiet (fail); try go_wp2)
                                  go_ret
                                  exact ⟨by first | rfl | (simp; done) | (simp [*]; done), by repeat (first | exact Drawn0.refl _ | apply Drawn0.step)⟩
                                · rw [if_neg c18] at H
                                  have c18b0 : (!(((rd_T38 ((rd_T41 l0 x5_1).f3) x6_3).f0) == ((rd_T38 ((rd_T41 l1 x5_1).f3) x6_3).f0)) || (!(((rd_T38 ((rd_T41 l0 x5_1).f3) x6_3).f1) == ((rd_T38 ((rd_T41 l1 x5_1).f3) x6_3).f1)) || (!(((rd_T38 ((rd_T41 l0 x5_1).f3) x6_3).f2) == ((rd_T38 ((rd_T41 l1 x5_1).f3) x6_3).f2)) || (!(((rd_T38 ((rd_T41 l0 x5_1).f3) x6_3).f3) == ((rd_T38 ((rd_T41 l1 x5_1).f3) x6_3).f3)) || (!(((rd_T38 ((rd_T41 l0 x5_1).f3) x6_3).f4) == ((rd_T38 ((rd_T41 l1 x5_1).f3) x6_3).f4))))))) = false := by simpa using c18
                                  clear c18
                                  have H' := Aside0.mk H
                                  clear H
                                  have p244 : 0 ≤ (x5_1 : Int) := of_decide_eq_true (by first | (with_reducible assumption) | assumption)
                                  have q244 : x5_1 < (l0.length : Int) := of_decide_eq_true (by first | (with_reducible assumption) | assumption)
                                  obtain ⟨ad244, A244_3, c244_3, e244, hx244_0, hx244_1, hx244_2, hx244_3, hl244_3, hi244_3⟩ := at_T41 HR0.out x5_1 p244 q244
                                  cases e244
                                  have HR244_3 := Aside0.mk hi244_3
                                  have HC244_3 := Aside0.mk hl244_3
                                  clear hi244_3 hl244_3
                                  replace p244 := eq_true p244
                                  replace q244 := eq_true q244
                                  have p245 : 0 ≤ (x5_1 : Int) := of_decide_eq_true (by first | (with_reducible assumption) | assumption)
                                  have q245 : x5_1 < (l0.length : Int) := of_decide_eq_true (by first | (with_reducible assumption) | assumption)
                                  obtain ⟨ad245, A245_3, c245_3, e245, hx245_0, hx245_1, hx245_2, hx245_3, hl245_3, hi245_3⟩ := at_T41 HR0.out x5_1 p245 q245
                                  obtain rfl : ad244 = ad245 := (by injection e245)
                                  have HR245_3 := Aside0.mk hi245_3
                                  have HC245_3 := Aside0.mk hl245_3
                                  clear hi245_3 hl245_3
                                  replace p245 := eq_true p245
                                  replace q245 := eq_true q245
                                  have ea_ := Option.some.inj (hx244_3.symm.trans hx245_3)
                                  injection ea_ with ea_ en_ ec_
                                  subst ea_
                                  subst ec_
                                  clear en_
                                  have p246 : 0 ≤ (x6_3 : Int) := of_decide_eq_true (by first | (with_reducible assumption) | assumption)
                                  have q246 : x6_3 < (((rd_T41 l0 x5_1).f3).length : Int) := of_decide_eq_true (by first | (with_reducible assumption) | assumption)
                                  obtain ⟨ad246, e246, hx246_0, hx246_1, hx246_2, hx246_3, hx246_4⟩ := at_T38 HR245_3.out x6_3 p246 q246
                                  cases e246
                                  replace p246 := eq_true p246
                                  replace q246 := eq_true q246
                                  have p247 : 0 ≤ (x5_1 : Int) := of_decide_eq_true (by first | (with_reducible assumption) | assumption)
                                  have q247 : x5_1 < (l1.length : Int) := of_decide_eq_true (by first | (with_reducible assumption) | assumption)
                                  obtain ⟨ad247, A247_3, c247_3, e247, hx247_0, hx247_1, hx247_2, hx247_3, hl247_3, hi247_3⟩ := at_T41 HR1.out x5_1 p247 q247
                                  cases e247
                                  have HR247_3 := Aside0.mk hi247_3
                                  have HC247_3 := Aside0.mk hl247_3
                                  clear hi247_3 hl247_3
                                  replace p247 := eq_true p247
                                  replace q247 := eq_true q247
                                  have p248 : 0 ≤ (x6_3 : Int) := of_decide_eq_true (by first | (with_reducible assumption) | assumption)
                                  have q248 : x6_3 < (((rd_T41 l1 x5_1).f3).length : Int) := of_decide_eq_true (by first | (with_reducible assumption) | assumption)
                                  obtain ⟨ad248, e248, hx248_0, hx248_1, hx248_2, hx248_3, hx248_4⟩ := at_T38 HR247_3.out x6_3 p248 q248
                                  cases e248
                                  replace p248 := eq_true p248
                                  replace q248 := eq_true q248
                                  go_wp2
                                  repeat (go_quiet (fail); try go_wp2)
                                  go_roundg k3
                                  case measure => have := HK1.out; have := HJ4.out; have := HK3.out; omega
                                  case rel => exact ⟨(wrap64 (x6_3 + 1)), (by first | rfl | (simp; done) | (simp [*]; done)), H', ⟨by have := HK1.out; have := HJ4.out; have := HK3.out; omega⟩, by repeat (first | exact Drawn0.refl _ | apply Drawn0.step)⟩
                              · rw [if_neg c17] at H
                                exact absurd H (by simp)
                            · rw [if_neg c16] at H
                              exact absurd H (by simp)
                          · rw [if_neg c15] at H
                            exact absurd H (by simp)
                        · rw [if_neg c14] at H
                          have c14b0 : decide (x6_3 < (((rd_T41 l0 x5_1).f3).length : Int)) = false := decide_eq_false c14
                          clear c14
                          have H' := Aside0.mk H
                          clear H
                          have p244 : 0 ≤ (x5_1 : Int) := of_decide_eq_true (by first | (with_reducible assumption) | assumption)
                          have q244 : x5_1 < (l0.length : Int) := of_decide_eq_true (by first | (with_reducible assumption) | assumption)
                          obtain ⟨ad244, A244_3, c244_3, e244, hx244_0, hx244_1, hx244_2, hx244_3, hl244_3, hi244_3⟩ := at_T41 HR0.out x5_1 p244 q244
                          cases e244
                          have HR244_3 := Aside0.mk hi244_3
                          have HC244_3 := Aside0.mk hl244_3
                          clear hi244_3 hl244_3
                          replace p244 := eq_true p244
                          replace q244 := eq_true q244
                          go_wp2
                          repeat (go_quiet (fail); try go_wp2)
                          go_roundg k3
                          case measure => have := HK1.out; have := HJ4.out; have := HK3.out; omega
                          case rel => exact ⟨(wrap64 (x5_1 + 1)), (by first | rfl | (simp; done) | (simp [*]; done)), H', ⟨by have := HK1.out; have := HJ4.out; have := HK3.out; omega⟩, by repeat (first | exact Drawn0.refl _ | apply Drawn0.step)⟩
                      · rw [if_neg c13] at H
                        exact absurd H (by simp)
                    · rw [if_neg c12] at H
                      exact absurd H (by simp)
        · rw [if_neg c4] at H
          have c4b0 : decide (x5_1 < (l0.length : Int)) = false := decide_eq_false c4
          clear c4
          obtain rfl := Option.some.inj H
          go_wp2
          repeat (go_quiet (fail); try go_wp2)
          go_ret
          exact ⟨by first | rfl | (simp; done) | (simp [*]; done), by repeat (first | exact Drawn0.refl _ | apply Drawn0.step)⟩
  · rw [if_neg c3] at H
    have c3b0 : ((l0.length : Int) == (l1.length : Int)) = false := beq_eq_false_iff_ne.mpr c3
    have c3b1 : ((l0.length : Int) != (l1.length : Int)) = true := bne_iff_ne.mpr c3
    have c3b2 : (l0.length == l1.length) = false := by first | simpa using c3 | (simp at c3 ⊢; omega)
    obtain rfl := Option.some.inj H
    go_enter Try.func8, Try.ntmps8
    go_wp2
    repeat (go_quiet (fail); try go_wp2)
    go_ret
    exact ⟨by first | rfl | (simp; done) | (simp [*]; done), by repeat (first | exact Drawn0.refl _ | apply Drawn0.step)⟩

end Go.Proofs.Ytckijljnomojiaa.PTypesParses
