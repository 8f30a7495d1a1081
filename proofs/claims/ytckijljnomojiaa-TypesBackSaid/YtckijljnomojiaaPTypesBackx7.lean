-- laid by wip/tools/mkprint.py, a turned copy of the print
import Derived.Test.YtckijljnomojiaaPTypesBackx0
import Derived.Test.YtckijljnomojiaaPTypesBackx1
namespace Go.Proofs.Ytckijljnomojiaa.PTypesBack
open Go.RowKit Go.Proofs.YtckijljnomojiaaW.PrintWords Go.Proofs.YtckijljnomojiaaW.PrintLast Go.Proofs.YtckijljnomojiaaW.PrintMore
attribute [local go_sem] max2_int min2_int max_two min_two max_three min_three max_four min_four   -- for this text's walks alone
set_option linter.unusedVariables false
set_option linter.unusedSimpArgs false

attribute [local go_sem high] eqA38
/-! ### turnbuckleref05_Same: function 8 -/
mutual
def turnbuckleref05_Same.l0 : Nat → List (S41) → List (S41) → Int → Option (Bool)
  | 0, _, _, _ => none
  | k + 1, x0, x1, x5 => if x5 < (x0.length : Int) then (if 0 ≤ x5 then (if x5 < (x1.length : Int) then (if ((rd_T41 x0 x5).f0).toList = ((rd_T41 x1 x5).f0).toList then (if (((rd_T41 x0 x5).f1) != ((rd_T41 x1 x5).f1)) = true then (turnbuckleref05_Same.j1 k x0 x1 x5 true) else (if (((rd_T41 x0 x5).f2) != ((rd_T41 x1 x5).f2)) = true then (turnbuckleref05_Same.j1 k x0 x1 x5 true) else (turnbuckleref05_Same.j1 k x0 x1 x5 ((((rd_T41 x0 x5).f3).length : Int) != (((rd_T41 x1 x5).f3).length : Int))))) else (turnbuckleref05_Same.j1 k x0 x1 x5 true)) else (none)) else (none)) else (some true)
def turnbuckleref05_Same.j1 : Nat → List (S41) → List (S41) → Int → Bool → Option (Bool)
  | 0, _, _, _, _ => none
  | k + 1, x0, x1, x5, x69 => if x69 = true then (some false) else (turnbuckleref05_Same.l1 k x0 x1 x5 0)
def turnbuckleref05_Same.l1 : Nat → List (S41) → List (S41) → Int → Int → Option (Bool)
  | 0, _, _, _, _ => none
  | k + 1, x0, x1, x5, x6 => if 0 ≤ x5 then (if x5 < (x0.length : Int) then (if x6 < (((rd_T41 x0 x5).f3).length : Int) then (if 0 ≤ x6 then (if x5 < (x1.length : Int) then (if x6 < (((rd_T41 x1 x5).f3).length : Int) then (if (!(((rd_T38 ((rd_T41 x0 x5).f3) x6).f0) == ((rd_T38 ((rd_T41 x1 x5).f3) x6).f0)) || (!(((rd_T38 ((rd_T41 x0 x5).f3) x6).f1) == ((rd_T38 ((rd_T41 x1 x5).f3) x6).f1)) || (!(((rd_T38 ((rd_T41 x0 x5).f3) x6).f2) == ((rd_T38 ((rd_T41 x1 x5).f3) x6).f2)) || (!(((rd_T38 ((rd_T41 x0 x5).f3) x6).f3) == ((rd_T38 ((rd_T41 x1 x5).f3) x6).f3)) || (!(((rd_T38 ((rd_T41 x0 x5).f3) x6).f4) == ((rd_T38 ((rd_T41 x1 x5).f3) x6).f4))))))) = true then (some false) else (turnbuckleref05_Same.l1 k x0 x1 x5 (wrap64 (x6 + 1)))) else (none)) else (none)) else (none)) else (turnbuckleref05_Same.l0 k x0 x1 (wrap64 (x5 + 1)))) else (none)) else (none)
end
def turnbuckleref05_Same.f (k : Nat) (l0 : List (S41)) (l1 : List (S41)) : Option (Bool) := if (l0.length : Int) = (l1.length : Int) then (turnbuckleref05_Same.l0 k l0 l1 0) else (some false)
theorem turnbuckleref05_Same.mono_l : ∀ k, (∀ y0 y1 y2, LeO (turnbuckleref05_Same.l0 k y0 y1 y2) (turnbuckleref05_Same.l0 (k + 1) y0 y1 y2)) ∧ (∀ y0 y1 y2 y3, LeO (turnbuckleref05_Same.j1 k y0 y1 y2 y3) (turnbuckleref05_Same.j1 (k + 1) y0 y1 y2 y3)) ∧ (∀ y0 y1 y2 y3, LeO (turnbuckleref05_Same.l1 k y0 y1 y2 y3) (turnbuckleref05_Same.l1 (k + 1) y0 y1 y2 y3))
  | 0 => ⟨fun _ _ _ r h => by simp [turnbuckleref05_Same.l0] at h, fun _ _ _ _ r h => by simp [turnbuckleref05_Same.j1] at h, fun _ _ _ _ r h => by simp [turnbuckleref05_Same.l1] at h⟩
  | k + 1 => by
    obtain ⟨ih0, ih1, ih2⟩ := turnbuckleref05_Same.mono_l k
    refine ⟨?_, ?_, ?_⟩
    · intro y0 y1 y2
      unfold turnbuckleref05_Same.l0
      repeat' first
      | (with_reducible exact ih0 _ _ _)
      | (with_reducible exact ih1 _ _ _ _)
      | (with_reducible exact ih2 _ _ _ _)
      | (with_reducible exact LeO.refl _)
      | (with_reducible exact LeO.none _)
      | (with_reducible refine LeO.ite ?_ ?_)
      | (with_reducible refine LeO.bind ?_ (fun _ => ?_))
      | exact ih0 _ _ _
      | exact ih1 _ _ _ _
      | exact ih2 _ _ _ _
      | exact LeO.none _
      | refine LeO.ite ?_ ?_
      | refine LeO.bind ?_ (fun _ => ?_)
    · intro y0 y1 y2 y3
      unfold turnbuckleref05_Same.j1
      repeat' first
      | (with_reducible exact ih0 _ _ _)
      | (with_reducible exact ih1 _ _ _ _)
      | (with_reducible exact ih2 _ _ _ _)
      | (with_reducible exact LeO.refl _)
      | (with_reducible exact LeO.none _)
      | (with_reducible refine LeO.ite ?_ ?_)
      | (with_reducible refine LeO.bind ?_ (fun _ => ?_))
      | exact ih0 _ _ _
      | exact ih1 _ _ _ _
      | exact ih2 _ _ _ _
      | exact LeO.none _
      | refine LeO.ite ?_ ?_
      | refine LeO.bind ?_ (fun _ => ?_)
    · intro y0 y1 y2 y3
      unfold turnbuckleref05_Same.l1
      repeat' first
      | (with_reducible exact ih0 _ _ _)
      | (with_reducible exact ih1 _ _ _ _)
      | (with_reducible exact ih2 _ _ _ _)
      | (with_reducible exact LeO.refl _)
      | (with_reducible exact LeO.none _)
      | (with_reducible refine LeO.ite ?_ ?_)
      | (with_reducible refine LeO.bind ?_ (fun _ => ?_))
      | exact ih0 _ _ _
      | exact ih1 _ _ _ _
      | exact ih2 _ _ _ _
      | exact LeO.none _
      | refine LeO.ite ?_ ?_
      | refine LeO.bind ?_ (fun _ => ?_)
theorem turnbuckleref05_Same.mono : ∀ a0 a1 k, LeO (turnbuckleref05_Same.f k a0 a1) (turnbuckleref05_Same.f (k + 1) a0 a1) := by
  intro a0 a1 k
  obtain ⟨ih0, ih1, ih2⟩ := turnbuckleref05_Same.mono_l k
  unfold turnbuckleref05_Same.f
  repeat' first
      | (with_reducible exact ih0 _ _ _)
      | (with_reducible exact ih1 _ _ _ _)
      | (with_reducible exact ih2 _ _ _ _)
      | (with_reducible exact LeO.refl _)
      | (with_reducible exact LeO.none _)
      | (with_reducible refine LeO.ite ?_ ?_)
      | (with_reducible refine LeO.bind ?_ (fun _ => ?_))
      | exact ih0 _ _ _
      | exact ih1 _ _ _ _
      | exact ih2 _ _ _ _
      | exact LeO.none _
      | refine LeO.ite ?_ ?_
      | refine LeO.bind ?_ (fun _ => ?_)
set_option maxHeartbeats 8000000 in
set_option maxRecDepth 100000 in
theorem turnbuckleref05_Same.calls (k : Nat) (A0 : Option Addr) (c0 : Nat) (l0 : List (S41)) (A1 : Option Addr) (c1 : Nat) (l1 : List (S41)) (r : Bool) (w : World) (hr0 : Kd.C k41 w A0 l0.length l0) (hc0 : l0.length ≤ c0) (hr1 : Kd.C k41 w A1 l1.length l1) (hc1 : l1.length ≤ c1) (h : turnbuckleref05_Same.f k l0 l1 = some r) :
    Calls Try.prog 8 #[.slice A0 l0.length c0, .slice A1 l1.length c1] w fun e w' => e = .returned (.bool r) ∧ Drawn0 w w' := by
  have hu38 := Try.underlying38
  have HR0 := Aside0.mk hr0
  have HC0 := Aside0.mk hc0
  clear hr0 hc0
  have HR1 := Aside0.mk hr1
  have HC1 := Aside0.mk hc1
  clear hr1 hc1
  have H : (if (l0.length : Int) = (l1.length : Int) then (turnbuckleref05_Same.l0 k l0 l1 0) else (some false)) = some r := h
  clear h
  by_cases c3 : (l0.length : Int) = (l1.length : Int)
  · rw [if_pos c3] at H
    have c3b0 : ((l0.length : Int) == (l1.length : Int)) = true := beq_iff_eq.mpr c3
    have c3b1 : ((l0.length : Int) != (l1.length : Int)) = false := bne_eq_false_iff_eq.mpr c3
    have c3b2 : (l0.length == l1.length) = true := by first | simpa using c3 | (simp at c3 ⊢; omega)
    clear c3
    have H' := Aside0.mk H
    clear H
    go_enter Try.func8, Try.ntmps8
    go_wp2
    repeat (go_quiet (fail); try go_wp2)
    go_loopg [5] k (fun kq v5 w' => ∃ (x5_1 : Int), v5 = .int .i64 x5_1 ∧ Aside0 (turnbuckleref05_Same.l0 kq l0 l1 x5_1 = some r) ∧ Aside0 (kq ≤ k) ∧ Drawn0 w w')
    case atStart => exact ⟨(0), (by first | rfl | (simp; done) | (simp [*]; done)), H', ⟨Nat.le_refl _⟩, by repeat (first | exact Drawn0.refl _ | apply Drawn0.step)⟩
    case round =>
      clear H'
      try clear c1
      try clear p2
      try clear c3
      try clear c3b0
      try clear c3b1
      try clear c3b2
      obtain ⟨x5_1, rfl, HA, HK1, ⟨m1, rfl⟩⟩ := hrel
      cases gk with
      | zero => exact absurd HA.out (by simp [turnbuckleref05_Same.l0])
      | succ k1 =>
        have H := HA.out
        clear HA
        simp only [turnbuckleref05_Same.l0] at H
        by_cases c4 : x5_1 < (l0.length : Int)
        · rw [if_pos c4] at H
          have c4b0 : decide (x5_1 < (l0.length : Int)) = true := decide_eq_true c4
          clear c4
          have HC5 := Aside0.mk H
          clear H
          go_upto_region 6 with (fail)
          repeat (go_quiet (fail); go_upto_region 6 with (fail))
          go_cut [69] (fun v69 wc => ∃ (kq : Nat) (x69_4 : Bool), v69 = .bool x69_4 ∧ Aside0 (turnbuckleref05_Same.j1 kq l0 l1 x5_1 x69_4 = some r) ∧ Aside0 (kq ≤ k1) ∧ Drawn0 w wc)
          case first =>
            have H := HC5.out
            clear HC5
            by_cases c6 : 0 ≤ x5_1
            · rw [if_pos c6] at H
              have c6b0 : decide (0 ≤ x5_1) = true := decide_eq_true c6
              clear c6
              (first | rw [c6b0] | (simp only [i64_w, i32_w]; rw [c6b0]) | skip)
              by_cases c7 : x5_1 < (l1.length : Int)
              · rw [if_pos c7] at H
                have c7b0 : decide (x5_1 < (l1.length : Int)) = true := decide_eq_true c7
                clear c7
                by_cases c8 : ((rd_T41 l0 x5_1).f0).toList = ((rd_T41 l1 x5_1).f0).toList
                · rw [if_pos c8] at H
                  have c8b0 : (((rd_T41 l0 x5_1).f0).toList == ((rd_T41 l1 x5_1).f0).toList) = true := beq_iff_eq.mpr c8
                  have c8b1 : (((rd_T41 l0 x5_1).f0).toList != ((rd_T41 l1 x5_1).f0).toList) = false := bne_eq_false_iff_eq.mpr c8
                  clear c8
                  by_cases c9 : (((rd_T41 l0 x5_1).f1) != ((rd_T41 l1 x5_1).f1)) = true
                  · rw [if_pos c9] at H
                    have c9b0 : (((rd_T41 l0 x5_1).f1) != ((rd_T41 l1 x5_1).f1)) = true := c9
                    (try (have c9b1 : decide (((rd_T41 l0 x5_1).f1) = ((rd_T41 l1 x5_1).f1)) = false := by simpa using c9))
                    (try (have c9b2 : (((rd_T41 l0 x5_1).f1) == ((rd_T41 l1 x5_1).f1)) = false := by simpa using c9))
                    (try (have c9b3 : ¬ (((rd_T41 l0 x5_1).f1) = ((rd_T41 l1 x5_1).f1)) := by simpa using c9))
                    clear c9
                    have H' := Aside0.mk H
                    clear H
                    have p171 : 0 ≤ (x5_1 : Int) := of_decide_eq_true (by first | (with_reducible assumption) | assumption)
                    have q171 : x5_1 < (l0.length : Int) := of_decide_eq_true (by first | (with_reducible assumption) | assumption)
                    obtain ⟨ad171, A171_3, c171_3, e171, hx171_0, hx171_1, hx171_2, hx171_3, hl171_3, hi171_3⟩ := at_T41 HR0.out x5_1 p171 q171
                    cases e171
                    have HR171_3 := Aside0.mk hi171_3
                    have HC171_3 := Aside0.mk hl171_3
                    clear hi171_3 hl171_3
                    replace p171 := eq_true p171
                    replace q171 := eq_true q171
                    have p172 : 0 ≤ (x5_1 : Int) := of_decide_eq_true (by first | (with_reducible assumption) | assumption)
                    have q172 : x5_1 < (l1.length : Int) := of_decide_eq_true (by first | (with_reducible assumption) | assumption)
                    obtain ⟨ad172, A172_3, c172_3, e172, hx172_0, hx172_1, hx172_2, hx172_3, hl172_3, hi172_3⟩ := at_T41 HR1.out x5_1 p172 q172
                    cases e172
                    have HR172_3 := Aside0.mk hi172_3
                    have HC172_3 := Aside0.mk hl172_3
                    clear hi172_3 hl172_3
                    replace p172 := eq_true p172
                    replace q172 := eq_true q172
                    have p173 : 0 ≤ (x5_1 : Int) := of_decide_eq_true (by first | (with_reducible assumption) | assumption)
                    have q173 : x5_1 < (l0.length : Int) := of_decide_eq_true (by first | (with_reducible assumption) | assumption)
                    obtain ⟨ad173, A173_3, c173_3, e173, hx173_0, hx173_1, hx173_2, hx173_3, hl173_3, hi173_3⟩ := at_T41 HR0.out x5_1 p173 q173
                    obtain rfl : ad171 = ad173 := (by injection e173)
                    have HR173_3 := Aside0.mk hi173_3
                    have HC173_3 := Aside0.mk hl173_3
                    clear hi173_3 hl173_3
                    replace p173 := eq_true p173
                    replace q173 := eq_true q173
                    have ea_ := Option.some.inj (hx171_3.symm.trans hx173_3)
                    injection ea_ with ea_ en_ ec_
                    subst ea_
                    subst ec_
                    clear en_
                    have p174 : 0 ≤ (x5_1 : Int) := of_decide_eq_true (by first | (with_reducible assumption) | assumption)
                    have q174 : x5_1 < (l1.length : Int) := of_decide_eq_true (by first | (with_reducible assumption) | assumption)
                    obtain ⟨ad174, A174_3, c174_3, e174, hx174_0, hx174_1, hx174_2, hx174_3, hl174_3, hi174_3⟩ := at_T41 HR1.out x5_1 p174 q174
                    obtain rfl : ad172 = ad174 := (by injection e174)
                    have HR174_3 := Aside0.mk hi174_3
                    have HC174_3 := Aside0.mk hl174_3
                    clear hi174_3 hl174_3
                    replace p174 := eq_true p174
                    replace q174 := eq_true q174
                    have ea_ := Option.some.inj (hx172_3.symm.trans hx174_3)
                    injection ea_ with ea_ en_ ec_
                    subst ea_
                    subst ec_
                    clear en_
                    go_wp2
                    repeat (go_quiet (fail); try go_wp2)
                    go_meet
                    case rel => exact ⟨_, (true), (by first | rfl | (simp; done) | (simp [*]; done)), H', ⟨by have := HK1.out; first | omega | exact Nat.le_refl _⟩, by repeat (first | exact Drawn0.refl _ | apply Drawn0.step)⟩
                  · rw [if_neg c9] at H
                    have c9b0 : (((rd_T41 l0 x5_1).f1) != ((rd_T41 l1 x5_1).f1)) = false := by simpa using c9
                    (try (have c9b1 : decide (((rd_T41 l0 x5_1).f1) = ((rd_T41 l1 x5_1).f1)) = true := by simpa using c9))
                    (try (have c9b2 : (((rd_T41 l0 x5_1).f1) == ((rd_T41 l1 x5_1).f1)) = true := by simpa using c9))
                    clear c9
                    by_cases c10 : (((rd_T41 l0 x5_1).f2) != ((rd_T41 l1 x5_1).f2)) = true
                    · rw [if_pos c10] at H
                      have c10b0 : (((rd_T41 l0 x5_1).f2) != ((rd_T41 l1 x5_1).f2)) = true := c10
                      (try (have c10b1 : decide (((rd_T41 l0 x5_1).f2) = ((rd_T41 l1 x5_1).f2)) = false := by simpa using c10))
                      (try (have c10b2 : (((rd_T41 l0 x5_1).f2) == ((rd_T41 l1 x5_1).f2)) = false := by simpa using c10))
                      (try (have c10b3 : ¬ (((rd_T41 l0 x5_1).f2) = ((rd_T41 l1 x5_1).f2)) := by simpa using c10))
                      clear c10
                      have H' := Aside0.mk H
                      clear H
                      have p171 : 0 ≤ (x5_1 : Int) := of_decide_eq_true (by first | (with_reducible assumption) | assumption)
                      have q171 : x5_1 < (l0.length : Int) := of_decide_eq_true (by first | (with_reducible assumption) | assumption)
                      obtain ⟨ad171, A171_3, c171_3, e171, hx171_0, hx171_1, hx171_2, hx171_3, hl171_3, hi171_3⟩ := at_T41 HR0.out x5_1 p171 q171
                      cases e171
                      have HR171_3 := Aside0.mk hi171_3
                      have HC171_3 := Aside0.mk hl171_3
                      clear hi171_3 hl171_3
                      replace p171 := eq_true p171
                      replace q171 := eq_true q171
                      have p172 : 0 ≤ (x5_1 : Int) := of_decide_eq_true (by first | (with_reducible assumption) | assumption)
                      have q172 : x5_1 < (l1.length : Int) := of_decide_eq_true (by first | (with_reducible assumption) | assumption)
                      obtain ⟨ad172, A172_3, c172_3, e172, hx172_0, hx172_1, hx172_2, hx172_3, hl172_3, hi172_3⟩ := at_T41 HR1.out x5_1 p172 q172
                      cases e172
                      have HR172_3 := Aside0.mk hi172_3
                      have HC172_3 := Aside0.mk hl172_3
                      clear hi172_3 hl172_3
                      replace p172 := eq_true p172
                      replace q172 := eq_true q172
                      have p173 : 0 ≤ (x5_1 : Int) := of_decide_eq_true (by first | (with_reducible assumption) | assumption)
                      have q173 : x5_1 < (l0.length : Int) := of_decide_eq_true (by first | (with_reducible assumption) | assumption)
                      obtain ⟨ad173, A173_3, c173_3, e173, hx173_0, hx173_1, hx173_2, hx173_3, hl173_3, hi173_3⟩ := at_T41 HR0.out x5_1 p173 q173
                      obtain rfl : ad171 = ad173 := (by injection e173)
                      have HR173_3 := Aside0.mk hi173_3
                      have HC173_3 := Aside0.mk hl173_3
                      clear hi173_3 hl173_3
                      replace p173 := eq_true p173
                      replace q173 := eq_true q173
                      have ea_ := Option.some.inj (hx171_3.symm.trans hx173_3)
                      injection ea_ with ea_ en_ ec_
                      subst ea_
                      subst ec_
                      clear en_
                      have p174 : 0 ≤ (x5_1 : Int) := of_decide_eq_true (by first | (with_reducible assumption) | assumption)
                      have q174 : x5_1 < (l1.length : Int) := of_decide_eq_true (by first | (with_reducible assumption) | assumption)
                      obtain ⟨ad174, A174_3, c174_3, e174, hx174_0, hx174_1, hx174_2, hx174_3, hl174_3, hi174_3⟩ := at_T41 HR1.out x5_1 p174 q174
                      obtain rfl : ad172 = ad174 := (by injection e174)
                      have HR174_3 := Aside0.mk hi174_3
                      have HC174_3 := Aside0.mk hl174_3
                      clear hi174_3 hl174_3
                      replace p174 := eq_true p174
                      replace q174 := eq_true q174
                      have ea_ := Option.some.inj (hx172_3.symm.trans hx174_3)
                      injection ea_ with ea_ en_ ec_
                      subst ea_
                      subst ec_
                      clear en_
                      have p175 : 0 ≤ (x5_1 : Int) := of_decide_eq_true (by first | (with_reducible assumption) | assumption)
                      have q175 : x5_1 < (l0.length : Int) := of_decide_eq_true (by first | (with_reducible assumption) | assumption)
                      obtain ⟨ad175, A175_3, c175_3, e175, hx175_0, hx175_1, hx175_2, hx175_3, hl175_3, hi175_3⟩ := at_T41 HR0.out x5_1 p175 q175
                      obtain rfl : ad171 = ad175 := (by injection e175)
                      have HR175_3 := Aside0.mk hi175_3
                      have HC175_3 := Aside0.mk hl175_3
                      clear hi175_3 hl175_3
                      replace p175 := eq_true p175
                      replace q175 := eq_true q175
                      have ea_ := Option.some.inj (hx171_3.symm.trans hx175_3)
                      injection ea_ with ea_ en_ ec_
                      subst ea_
                      subst ec_
                      clear en_
                      have p176 : 0 ≤ (x5_1 : Int) := of_decide_eq_true (by first | (with_reducible assumption) | assumption)
                      have q176 : x5_1 < (l1.length : Int) := of_decide_eq_true (by first | (with_reducible assumption) | assumption)
                      obtain ⟨ad176, A176_3, c176_3, e176, hx176_0, hx176_1, hx176_2, hx176_3, hl176_3, hi176_3⟩ := at_T41 HR1.out x5_1 p176 q176
                      obtain rfl : ad172 = ad176 := (by injection e176)
                      have HR176_3 := Aside0.mk hi176_3
                      have HC176_3 := Aside0.mk hl176_3
                      clear hi176_3 hl176_3
                      replace p176 := eq_true p176
                      replace q176 := eq_true q176
                      have ea_ := Option.some.inj (hx172_3.symm.trans hx176_3)
                      injection ea_ with ea_ en_ ec_
                      subst ea_
                      subst ec_
                      clear en_
                      go_wp2
                      repeat (go_quiet (fail); try go_wp2)
                      go_meet
                      case rel => exact ⟨_, (true), (by first | rfl | (simp; done) | (simp [*]; done)), H', ⟨by have := HK1.out; first | omega | exact Nat.le_refl _⟩, by repeat (first | exact Drawn0.refl _ | apply Drawn0.step)⟩
                    · rw [if_neg c10] at H
                      have c10b0 : (((rd_T41 l0 x5_1).f2) != ((rd_T41 l1 x5_1).f2)) = false := by simpa using c10
                      (try (have c10b1 : decide (((rd_T41 l0 x5_1).f2) = ((rd_T41 l1 x5_1).f2)) = true := by simpa using c10))
                      (try (have c10b2 : (((rd_T41 l0 x5_1).f2) == ((rd_T41 l1 x5_1).f2)) = true := by simpa using c10))
                      clear c10
                      have H' := Aside0.mk H
                      clear H
                      have p171 : 0 ≤ (x5_1 : Int) := of_decide_eq_true (by first | (with_reducible assumption) | assumption)
                      have q171 : x5_1 < (l0.length : Int) := of_decide_eq_true (by first | (with_reducible assumption) | assumption)
                      obtain ⟨ad171, A171_3, c171_3, e171, hx171_0, hx171_1, hx171_2, hx171_3, hl171_3, hi171_3⟩ := at_T41 HR0.out x5_1 p171 q171
                      cases e171
                      have HR171_3 := Aside0.mk hi171_3
                      have HC171_3 := Aside0.mk hl171_3
                      clear hi171_3 hl171_3
                      replace p171 := eq_true p171
                      replace q171 := eq_true q171
                      have p172 : 0 ≤ (x5_1 : Int) := of_decide_eq_true (by first | (with_reducible assumption) | assumption)
                      have q172 : x5_1 < (l1.length : Int) := of_decide_eq_true (by first | (with_reducible assumption) | assumption)
                      obtain ⟨ad172, A172_3, c172_3, e172, hx172_0, hx172_1, hx172_2, hx172_3, hl172_3, hi172_3⟩ := at_T41 HR1.out x5_1 p172 q172
                      cases e172
                      have HR172_3 := Aside0.mk hi172_3
                      have HC172_3 := Aside0.mk hl172_3
                      clear hi172_3 hl172_3
                      replace p172 := eq_true p172
                      replace q172 := eq_true q172
                      have p173 : 0 ≤ (x5_1 : Int) := of_decide_eq_true (by first | (with_reducible assumption) | assumption)
                      have q173 : x5_1 < (l0.length : Int) := of_decide_eq_true (by first | (with_reducible assumption) | assumption)
                      obtain ⟨ad173, A173_3, c173_3, e173, hx173_0, hx173_1, hx173_2, hx173_3, hl173_3, hi173_3⟩ := at_T41 HR0.out x5_1 p173 q173
                      obtain rfl : ad171 = ad173 := (by injection e173)
                      have HR173_3 := Aside0.mk hi173_3
                      have HC173_3 := Aside0.mk hl173_3
                      clear hi173_3 hl173_3
                      replace p173 := eq_true p173
                      replace q173 := eq_true q173
                      have ea_ := Option.some.inj (hx171_3.symm.trans hx173_3)
                      injection ea_ with ea_ en_ ec_
                      subst ea_
                      subst ec_
                      clear en_
                      have p174 : 0 ≤ (x5_1 : Int) := of_decide_eq_true (by first | (with_reducible assumption) | assumption)
                      have q174 : x5_1 < (l1.length : Int) := of_decide_eq_true (by first | (with_reducible assumption) | assumption)
                      obtain ⟨ad174, A174_3, c174_3, e174, hx174_0, hx174_1, hx174_2, hx174_3, hl174_3, hi174_3⟩ := at_T41 HR1.out x5_1 p174 q174
                      obtain rfl : ad172 = ad174 := (by injection e174)
                      have HR174_3 := Aside0.mk hi174_3
                      have HC174_3 := Aside0.mk hl174_3
                      clear hi174_3 hl174_3
                      replace p174 := eq_true p174
                      replace q174 := eq_true q174
                      have ea_ := Option.some.inj (hx172_3.symm.trans hx174_3)
                      injection ea_ with ea_ en_ ec_
                      subst ea_
                      subst ec_
                      clear en_
                      have p175 : 0 ≤ (x5_1 : Int) := of_decide_eq_true (by first | (with_reducible assumption) | assumption)
                      have q175 : x5_1 < (l0.length : Int) := of_decide_eq_true (by first | (with_reducible assumption) | assumption)
                      obtain ⟨ad175, A175_3, c175_3, e175, hx175_0, hx175_1, hx175_2, hx175_3, hl175_3, hi175_3⟩ := at_T41 HR0.out x5_1 p175 q175
                      obtain rfl : ad171 = ad175 := (by injection e175)
                      have HR175_3 := Aside0.mk hi175_3
                      have HC175_3 := Aside0.mk hl175_3
                      clear hi175_3 hl175_3
                      replace p175 := eq_true p175
                      replace q175 := eq_true q175
                      have ea_ := Option.some.inj (hx171_3.symm.trans hx175_3)
                      injection ea_ with ea_ en_ ec_
                      subst ea_
                      subst ec_
                      clear en_
                      have p176 : 0 ≤ (x5_1 : Int) := of_decide_eq_true (by first | (with_reducible assumption) | assumption)
                      have q176 : x5_1 < (l1.length : Int) := of_decide_eq_true (by first | (with_reducible assumption) | assumption)
                      obtain ⟨ad176, A176_3, c176_3, e176, hx176_0, hx176_1, hx176_2, hx176_3, hl176_3, hi176_3⟩ := at_T41 HR1.out x5_1 p176 q176
                      obtain rfl : ad172 = ad176 := (by injection e176)
                      have HR176_3 := Aside0.mk hi176_3
                      have HC176_3 := Aside0.mk hl176_3
                      clear hi176_3 hl176_3
                      replace p176 := eq_true p176
                      replace q176 := eq_true q176
                      have ea_ := Option.some.inj (hx172_3.symm.trans hx176_3)
                      injection ea_ with ea_ en_ ec_
                      subst ea_
                      subst ec_
                      clear en_
                      have p177 : 0 ≤ (x5_1 : Int) := of_decide_eq_true (by first | (with_reducible assumption) | assumption)
                      have q177 : x5_1 < (l0.length : Int) := of_decide_eq_true (by first | (with_reducible assumption) | assumption)
                      obtain ⟨ad177, A177_3, c177_3, e177, hx177_0, hx177_1, hx177_2, hx177_3, hl177_3, hi177_3⟩ := at_T41 HR0.out x5_1 p177 q177
                      obtain rfl : ad171 = ad177 := (by injection e177)
                      have HR177_3 := Aside0.mk hi177_3
                      have HC177_3 := Aside0.mk hl177_3
                      clear hi177_3 hl177_3
                      replace p177 := eq_true p177
                      replace q177 := eq_true q177
                      have ea_ := Option.some.inj (hx171_3.symm.trans hx177_3)
                      injection ea_ with ea_ en_ ec_
                      subst ea_
                      subst ec_
                      clear en_
                      have p178 : 0 ≤ (x5_1 : Int) := of_decide_eq_true (by first | (with_reducible assumption) | assumption)
                      have q178 : x5_1 < (l1.length : Int) := of_decide_eq_true (by first | (with_reducible assumption) | assumption)
                      obtain ⟨ad178, A178_3, c178_3, e178, hx178_0, hx178_1, hx178_2, hx178_3, hl178_3, hi178_3⟩ := at_T41 HR1.out x5_1 p178 q178
                      obtain rfl : ad172 = ad178 := (by injection e178)
                      have HR178_3 := Aside0.mk hi178_3
                      have HC178_3 := Aside0.mk hl178_3
                      clear hi178_3 hl178_3
                      replace p178 := eq_true p178
                      replace q178 := eq_true q178
                      have ea_ := Option.some.inj (hx172_3.symm.trans hx178_3)
                      injection ea_ with ea_ en_ ec_
                      subst ea_
                      subst ec_
                      clear en_
                      go_wp2
                      repeat (go_quiet (fail); try go_wp2)
                      go_meet
                      case rel => exact ⟨_, (((((rd_T41 l0 x5_1).f3).length : Int) != (((rd_T41 l1 x5_1).f3).length : Int))), (by first | rfl | (simp; done) | (simp [*]; done)), H', ⟨by have := HK1.out; first | omega | exact Nat.le_refl _⟩, by repeat (first | exact Drawn0.refl _ | apply Drawn0.step)⟩
                · rw [if_neg c8] at H
                  have c8b0 : (((rd_T41 l0 x5_1).f0).toList == ((rd_T41 l1 x5_1).f0).toList) = false := beq_eq_false_iff_ne.mpr c8
                  have c8b1 : (((rd_T41 l0 x5_1).f0).toList != ((rd_T41 l1 x5_1).f0).toList) = true := bne_iff_ne.mpr c8
                  have H' := Aside0.mk H
                  clear H
                  have p171 : 0 ≤ (x5_1 : Int) := of_decide_eq_true (by first | (with_reducible assumption) | assumption)
                  have q171 : x5_1 < (l0.length : Int) := of_decide_eq_true (by first | (with_reducible assumption) | assumption)
                  obtain ⟨ad171, A171_3, c171_3, e171, hx171_0, hx171_1, hx171_2, hx171_3, hl171_3, hi171_3⟩ := at_T41 HR0.out x5_1 p171 q171
                  cases e171
                  have HR171_3 := Aside0.mk hi171_3
                  have HC171_3 := Aside0.mk hl171_3
                  clear hi171_3 hl171_3
                  replace p171 := eq_true p171
                  replace q171 := eq_true q171
                  have p172 : 0 ≤ (x5_1 : Int) := of_decide_eq_true (by first | (with_reducible assumption) | assumption)
                  have q172 : x5_1 < (l1.length : Int) := of_decide_eq_true (by first | (with_reducible assumption) | assumption)
                  obtain ⟨ad172, A172_3, c172_3, e172, hx172_0, hx172_1, hx172_2, hx172_3, hl172_3, hi172_3⟩ := at_T41 HR1.out x5_1 p172 q172
                  cases e172
                  have HR172_3 := Aside0.mk hi172_3
                  have HC172_3 := Aside0.mk hl172_3
                  clear hi172_3 hl172_3
                  replace p172 := eq_true p172
                  replace q172 := eq_true q172
                  go_wp2
                  repeat (go_quiet (fail); try go_wp2)
                  go_meet
                  case rel => exact ⟨_, (true), (by first | rfl | (simp; done) | (simp [*]; done)), H', ⟨by have := HK1.out; first | omega | exact Nat.le_refl _⟩, by repeat (first | exact Drawn0.refl _ | apply Drawn0.step)⟩
              · rw [if_neg c7] at H
                exact absurd H (by simp)
            · rw [if_neg c6] at H
              exact absurd H (by simp)
          case rest =>
            clear HC5
            try clear c1
            try clear p1
            try clear q1
            try clear hx1
            try clear p2
            try clear c3
            try clear c3b0
            try clear c3b1
            try clear c3b2
            try clear c4
            try clear c4b0
            try clear c6
            try clear c6b0
            try clear c7
            try clear c7b0
            try clear c8
            try clear c8b0
            try clear c8b1
            try clear c9
            try clear c9b0
            try clear c9b1
            try clear c9b2
            try clear c10
            try clear c10b0
            try clear c10b1
            try clear c10b2
            try clear hx171_0
            try clear hx171_1
            try clear hx171_2
            try clear hx171_3
            try clear hx172_0
            try clear hx172_1
            try clear hx172_2
            try clear hx172_3
            try clear hx173_0
            try clear hx173_1
            try clear hx173_2
            try clear hx173_3
            try clear hx174_0
            try clear hx174_1
            try clear hx174_2
            try clear hx174_3
            try clear hx175_0
            try clear hx175_1
            try clear hx175_2
            try clear hx175_3
            try clear hx176_0
            try clear hx176_1
            try clear hx176_2
            try clear hx176_3
            try clear hx177_0
            try clear hx177_1
            try clear hx177_2
            try clear hx177_3
            try clear hx178_0
            try clear hx178_1
            try clear hx178_2
            try clear hx178_3
            try clear p171
            try clear p172
            try clear p173
            try clear p174
            try clear p175
            try clear p176
            try clear p177
            try clear p178
            try clear p2
            try clear q171
            try clear q172
            try clear q173
            try clear q174
            try clear q175
            try clear q176
            try clear q177
            try clear q178
            obtain ⟨kq, x69_4, rfl, HA, HJ4, ⟨mc4, rfl⟩⟩ := hcut
            cases kq with
            | zero => exact absurd HA.out (by simp [turnbuckleref05_Same.j1])
            | succ kj4 =>
              have H := HA.out
              clear HA
              simp only [turnbuckleref05_Same.j1] at H
              by_cases c11 : x69_4 = true
              · subst c11
                have H1 : (some false) = some r := by rw [if_pos rfl] at H; exact H
                clear H
                have H := H1
                clear H1
                obtain rfl := Option.some.inj H
                go_wp2
                repeat (go_quiet (fail); try go_wp2)
                go_ret
                exact ⟨by first | rfl | (simp; done) | (simp [*]; done), by repeat (first | exact Drawn0.refl _ | apply Drawn0.step)⟩
              · replace c11 := Bool.eq_false_iff.mpr c11
                subst c11
                have H1 : (turnbuckleref05_Same.l1 kj4 l0 l1 x5_1 0) = some r := by rw [if_neg (show ¬ (false = true) by decide)] at H; exact H
                clear H
                have H := H1
                clear H1
                have H' := Aside0.mk H
                clear H
                go_wp2
                repeat (go_quiet (fail); try go_wp2)
                go_loopg [6] kj4 (fun kq v6 w' => ∃ (x6_3 : Int), v6 = .int .i64 x6_3 ∧ Aside0 (turnbuckleref05_Same.l1 kq l0 l1 x5_1 x6_3 = some r) ∧ Aside0 (kq ≤ kj4) ∧ Drawn0 w w')
                case atStart => exact ⟨(0), (by first | rfl | (simp; done) | (simp [*]; done)), H', ⟨Nat.le_refl _⟩, by repeat (first | exact Drawn0.refl _ | apply Drawn0.step)⟩
                case round =>
                  clear H'
                  try clear c1
                  try clear p1
                  try clear q1
                  try clear hx1
                  try clear p2
                  try clear c3
                  try clear c3b0
                  try clear c3b1
                  try clear c3b2
                  try clear c4
                  try clear c4b0
                  try clear c6
                  try clear c6b0
                  try clear c7
                  try clear c7b0
                  try clear c8
                  try clear c8b0
                  try clear c8b1
                  try clear c9
                  try clear c9b0
                  try clear c9b1
                  try clear c9b2
                  try clear c10
                  try clear c10b0
                  try clear c10b1
                  try clear c10b2
                  try clear c11
                  try clear hx171_0
                  try clear hx171_1
                  try clear hx171_2
                  try clear hx171_3
                  try clear hx172_0
                  try clear hx172_1
                  try clear hx172_2
                  try clear hx172_3
                  try clear hx173_0
                  try clear hx173_1
                  try clear hx173_2
                  try clear hx173_3
                  try clear hx174_0
                  try clear hx174_1
                  try clear hx174_2
                  try clear hx174_3
                  try clear hx175_0
                  try clear hx175_1
                  try clear hx175_2
                  try clear hx175_3
                  try clear hx176_0
                  try clear hx176_1
                  try clear hx176_2
                  try clear hx176_3
                  try clear hx177_0
                  try clear hx177_1
                  try clear hx177_2
                  try clear hx177_3
                  try clear hx178_0
                  try clear hx178_1
                  try clear hx178_2
                  try clear hx178_3
                  try clear p1
                  try clear p171
                  try clear p172
                  try clear p173
                  try clear p174
                  try clear p175
                  try clear p176
                  try clear p177
                  try clear p178
                  try clear p2
                  try clear q1
                  try clear q171
                  try clear q172
                  try clear q173
                  try clear q174
                  try clear q175
                  try clear q176
                  try clear q177
                  try clear q178
                  obtain ⟨x6_3, rfl, HA, HK3, ⟨m3, rfl⟩⟩ := hrel
                  cases gk with
                  | zero => exact absurd HA.out (by simp [turnbuckleref05_Same.l1])
                  | succ k3 =>
                    have H := HA.out
                    clear HA
                    simp only [turnbuckleref05_Same.l1] at H
                    by_cases c12 : 0 ≤ x5_1
                    · rw [if_pos c12] at H
                      have c12b0 : decide (0 ≤ x5_1) = true := decide_eq_true c12
                      clear c12
                      by_cases c13 : x5_1 < (l0.length : Int)
                      · rw [if_pos c13] at H
                        have c13b0 : decide (x5_1 < (l0.length : Int)) = true := decide_eq_true c13
                        clear c13
                        by_cases c14 : x6_3 < (((rd_T41 l0 x5_1).f3).length : Int)
                        · rw [if_pos c14] at H
                          have c14b0 : decide (x6_3 < (((rd_T41 l0 x5_1).f3).length : Int)) = true := decide_eq_true c14
                          clear c14
                          by_cases c15 : 0 ≤ x6_3
                          · rw [if_pos c15] at H
                            have c15b0 : decide (0 ≤ x6_3) = true := decide_eq_true c15
                            clear c15
                            by_cases c16 : x5_1 < (l1.length : Int)
                            · rw [if_pos c16] at H
                              have c16b0 : decide (x5_1 < (l1.length : Int)) = true := decide_eq_true c16
                              clear c16
                              by_cases c17 : x6_3 < (((rd_T41 l1 x5_1).f3).length : Int)
                              · rw [if_pos c17] at H
                                have c17b0 : decide (x6_3 < (((rd_T41 l1 x5_1).f3).length : Int)) = true := decide_eq_true c17
                                clear c17
                                by_cases c18 : (!(((rd_T38 ((rd_T41 l0 x5_1).f3) x6_3).f0) == ((rd_T38 ((rd_T41 l1 x5_1).f3) x6_3).f0)) || (!(((rd_T38 ((rd_T41 l0 x5_1).f3) x6_3).f1) == ((rd_T38 ((rd_T41 l1 x5_1).f3) x6_3).f1)) || (!(((rd_T38 ((rd_T41 l0 x5_1).f3) x6_3).f2) == ((rd_T38 ((rd_T41 l1 x5_1).f3) x6_3).f2)) || (!(((rd_T38 ((rd_T41 l0 x5_1).f3) x6_3).f3) == ((rd_T38 ((rd_T41 l1 x5_1).f3) x6_3).f3)) || (!(((rd_T38 ((rd_T41 l0 x5_1).f3) x6_3).f4) == ((rd_T38 ((rd_T41 l1 x5_1).f3) x6_3).f4))))))) = true
                                · rw [if_pos c18] at H
                                  have c18b0 : (!(((rd_T38 ((rd_T41 l0 x5_1).f3) x6_3).f0) == ((rd_T38 ((rd_T41 l1 x5_1).f3) x6_3).f0)) || (!(((rd_T38 ((rd_T41 l0 x5_1).f3) x6_3).f1) == ((rd_T38 ((rd_T41 l1 x5_1).f3) x6_3).f1)) || (!(((rd_T38 ((rd_T41 l0 x5_1).f3) x6_3).f2) == ((rd_T38 ((rd_T41 l1 x5_1).f3) x6_3).f2)) || (!(((rd_T38 ((rd_T41 l0 x5_1).f3) x6_3).f3) == ((rd_T38 ((rd_T41 l1 x5_1).f3) x6_3).f3)) || (!(((rd_T38 ((rd_T41 l0 x5_1).f3) x6_3).f4) == ((rd_T38 ((rd_T41 l1 x5_1).f3) x6_3).f4))))))) = true := c18
                                  clear c18
                                  obtain rfl := Option.some.inj H
                                  have p179 : 0 ≤ (x5_1 : Int) := of_decide_eq_true (by first | (with_reducible assumption) | assumption)
                                  have q179 : x5_1 < (l0.length : Int) := of_decide_eq_true (by first | (with_reducible assumption) | assumption)
                                  obtain ⟨ad179, A179_3, c179_3, e179, hx179_0, hx179_1, hx179_2, hx179_3, hl179_3, hi179_3⟩ := at_T41 HR0.out x5_1 p179 q179
                                  cases e179
                                  have HR179_3 := Aside0.mk hi179_3
                                  have HC179_3 := Aside0.mk hl179_3
                                  clear hi179_3 hl179_3
                                  replace p179 := eq_true p179
                                  replace q179 := eq_true q179
                                  have p180 : 0 ≤ (x5_1 : Int) := of_decide_eq_true (by first | (with_reducible assumption) | assumption)
                                  have q180 : x5_1 < (l0.length : Int) := of_decide_eq_true (by first | (with_reducible assumption) | assumption)
                                  obtain ⟨ad180, A180_3, c180_3, e180, hx180_0, hx180_1, hx180_2, hx180_3, hl180_3, hi180_3⟩ := at_T41 HR0.out x5_1 p180 q180
                                  obtain rfl : ad179 = ad180 := (by injection e180)
                                  have HR180_3 := Aside0.mk hi180_3
                                  have HC180_3 := Aside0.mk hl180_3
                                  clear hi180_3 hl180_3
                                  replace p180 := eq_true p180
                                  replace q180 := eq_true q180
                                  have ea_ := Option.some.inj (hx179_3.symm.trans hx180_3)
                                  injection ea_ with ea_ en_ ec_
                                  subst ea_
                                  subst ec_
                                  clear en_
                                  have p181 : 0 ≤ (x6_3 : Int) := of_decide_eq_true (by first | (with_reducible assumption) | assumption)
                                  have q181 : x6_3 < (((rd_T41 l0 x5_1).f3).length : Int) := of_decide_eq_true (by first | (with_reducible assumption) | assumption)
                                  obtain ⟨ad181, e181, hx181_0, hx181_1, hx181_2, hx181_3, hx181_4⟩ := at_T38 HR180_3.out x6_3 p181 q181
                                  cases e181
                                  replace p181 := eq_true p181
                                  replace q181 := eq_true q181
                                  have p182 : 0 ≤ (x5_1 : Int) := of_decide_eq_true (by first | (with_reducible assumption) | assumption)
                                  have q182 : x5_1 < (l1.length : Int) := of_decide_eq_true (by first | (with_reducible assumption) | assumption)
                                  obtain ⟨ad182, A182_3, c182_3, e182, hx182_0, hx182_1, hx182_2, hx182_3, hl182_3, hi182_3⟩ := at_T41 HR1.out x5_1 p182 q182
                                  cases e182
                                  have HR182_3 := Aside0.mk hi182_3
                                  have HC182_3 := Aside0.mk hl182_3
                                  clear hi182_3 hl182_3
                                  replace p182 := eq_true p182
                                  replace q182 := eq_true q182
                                  have p183 : 0 ≤ (x6_3 : Int) := of_decide_eq_true (by first | (with_reducible assumption) | assumption)
                                  have q183 : x6_3 < (((rd_T41 l1 x5_1).f3).length : Int) := of_decide_eq_true (by first | (with_reducible assumption) | assumption)
                                  obtain ⟨ad183, e183, hx183_0, hx183_1, hx183_2, hx183_3, hx183_4⟩ := at_T38 HR182_3.out x6_3 p183 q183
                                  cases e183
                                  replace p183 := eq_true p183
                                  replace q183 := eq_true q183
                                  go_wp2
                                  repeat (go_quiet (fail); try go_wp2)
                                  go_ret
                                  exact ⟨by first | rfl | (simp; done) | (simp [*]; done), by repeat (first | exact Drawn0.refl _ | apply Drawn0.step)⟩
                                · rw [if_neg c18] at H
                                  have c18b0 : (!(((rd_T38 ((rd_T41 l0 x5_1).f3) x6_3).f0) == ((rd_T38 ((rd_T41 l1 x5_1).f3) x6_3).f0)) || (!(((rd_T38 ((rd_T41 l0 x5_1).f3) x6_3).f1) == ((rd_T38 ((rd_T41 l1 x5_1).f3) x6_3).f1)) || (!(((rd_T38 ((rd_T41 l0 x5_1).f3) x6_3).f2) == ((rd_T38 ((rd_T41 l1 x5_1).f3) x6_3).f2)) || (!(((rd_T38 ((rd_T41 l0 x5_1).f3) x6_3).f3) == ((rd_T38 ((rd_T41 l1 x5_1).f3) x6_3).f3)) || (!(((rd_T38 ((rd_T41 l0 x5_1).f3) x6_3).f4) == ((rd_T38 ((rd_T41 l1 x5_1).f3) x6_3).f4))))))) = false := by simpa using c18
                                  clear c18
                                  have H' := Aside0.mk H
                                  clear H
                                  have p179 : 0 ≤ (x5_1 : Int) := of_decide_eq_true (by first | (with_reducible assumption) | assumption)
                                  have q179 : x5_1 < (l0.length : Int) := of_decide_eq_true (by first | (with_reducible assumption) | assumption)
                                  obtain ⟨ad179, A179_3, c179_3, e179, hx179_0, hx179_1, hx179_2, hx179_3, hl179_3, hi179_3⟩ := at_T41 HR0.out x5_1 p179 q179
                                  cases e179
                                  have HR179_3 := Aside0.mk hi179_3
                                  have HC179_3 := Aside0.mk hl179_3
                                  clear hi179_3 hl179_3
                                  replace p179 := eq_true p179
                                  replace q179 := eq_true q179
                                  have p180 : 0 ≤ (x5_1 : Int) := of_decide_eq_true (by first | (with_reducible assumption) | assumption)
                                  have q180 : x5_1 < (l0.length : Int) := of_decide_eq_true (by first | (with_reducible assumption) | assumption)
                                  obtain ⟨ad180, A180_3, c180_3, e180, hx180_0, hx180_1, hx180_2, hx180_3, hl180_3, hi180_3⟩ := at_T41 HR0.out x5_1 p180 q180
                                  obtain rfl : ad179 = ad180 := (by injection e180)
                                  have HR180_3 := Aside0.mk hi180_3
                                  have HC180_3 := Aside0.mk hl180_3
                                  clear hi180_3 hl180_3
                                  replace p180 := eq_true p180
                                  replace q180 := eq_true q180
                                  have ea_ := Option.some.inj (hx179_3.symm.trans hx180_3)
                                  injection ea_ with ea_ en_ ec_
                                  subst ea_
                                  subst ec_
                                  clear en_
                                  have p181 : 0 ≤ (x6_3 : Int) := of_decide_eq_true (by first | (with_reducible assumption) | assumption)
                                  have q181 : x6_3 < (((rd_T41 l0 x5_1).f3).length : Int) := of_decide_eq_true (by first | (with_reducible assumption) | assumption)
                                  obtain ⟨ad181, e181, hx181_0, hx181_1, hx181_2, hx181_3, hx181_4⟩ := at_T38 HR180_3.out x6_3 p181 q181
                                  cases e181
                                  replace p181 := eq_true p181
                                  replace q181 := eq_true q181
                                  have p182 : 0 ≤ (x5_1 : Int) := of_decide_eq_true (by first | (with_reducible assumption) | assumption)
                                  have q182 : x5_1 < (l1.length : Int) := of_decide_eq_true (by first | (with_reducible assumption) | assumption)
                                  obtain ⟨ad182, A182_3, c182_3, e182, hx182_0, hx182_1, hx182_2, hx182_3, hl182_3, hi182_3⟩ := at_T41 HR1.out x5_1 p182 q182
                                  cases e182
                                  have HR182_3 := Aside0.mk hi182_3
                                  have HC182_3 := Aside0.mk hl182_3
                                  clear hi182_3 hl182_3
                                  replace p182 := eq_true p182
                                  replace q182 := eq_true q182
                                  have p183 : 0 ≤ (x6_3 : Int) := of_decide_eq_true (by first | (with_reducible assumption) | assumption)
                                  have q183 : x6_3 < (((rd_T41 l1 x5_1).f3).length : Int) := of_decide_eq_true (by first | (with_reducible assumption) | assumption)
                                  obtain ⟨ad183, e183, hx183_0, hx183_1, hx183_2, hx183_3, hx183_4⟩ := at_T38 HR182_3.out x6_3 p183 q183
                                  cases e183
                                  replace p183 := eq_true p183
                                  replace q183 := eq_true q183
                                  go_wp2
                                  repeat (go_quiet (fail); try go_wp2)
                                  go_roundg k3
                                  case measure => have := HK1.out; have := HJ4.out; have := HK3.out; omega
                                  case rel => exact ⟨(wrap64 (x6_3 + 1)), (by first | rfl | (simp; done) | (simp [*]; done)), H', ⟨by have := HK1.out; have := HJ4.out; have := HK3.out; omega⟩, by repeat (first | exact Drawn0.refl _ | apply Drawn0.step)⟩
                              · rw [if_neg c17] at H
                                exact absurd H (by simp)
                            · rw [if_neg c16] at H
                              exact absurd H (by simp)
                          · rw [if_neg c15] at H
                            exact absurd H (by simp)
                        · rw [if_neg c14] at H
                          have c14b0 : decide (x6_3 < (((rd_T41 l0 x5_1).f3).length : Int)) = false := decide_eq_false c14
                          clear c14
                          have H' := Aside0.mk H
                          clear H
                          have p179 : 0 ≤ (x5_1 : Int) := of_decide_eq_true (by first | (with_reducible assumption) | assumption)
                          have q179 : x5_1 < (l0.length : Int) := of_decide_eq_true (by first | (with_reducible assumption) | assumption)
                          obtain ⟨ad179, A179_3, c179_3, e179, hx179_0, hx179_1, hx179_2, hx179_3, hl179_3, hi179_3⟩ := at_T41 HR0.out x5_1 p179 q179
                          cases e179
                          have HR179_3 := Aside0.mk hi179_3
                          have HC179_3 := Aside0.mk hl179_3
                          clear hi179_3 hl179_3
                          replace p179 := eq_true p179
                          replace q179 := eq_true q179
                          go_wp2
                          repeat (go_quiet (fail); try go_wp2)
                          go_roundg k3
                          case measure => have := HK1.out; have := HJ4.out; have := HK3.out; omega
                          case rel => exact ⟨(wrap64 (x5_1 + 1)), (by first | rfl | (simp; done) | (simp [*]; done)), H', ⟨by have := HK1.out; have := HJ4.out; have := HK3.out; omega⟩, by repeat (first | exact Drawn0.refl _ | apply Drawn0.step)⟩
                      · rw [if_neg c13] at H
                        exact absurd H (by simp)
                    · rw [if_neg c12] at H
                      exact absurd H (by simp)
        · rw [if_neg c4] at H
          have c4b0 : decide (x5_1 < (l0.length : Int)) = false := decide_eq_false c4
          clear c4
          obtain rfl := Option.some.inj H
          go_wp2
          repeat (go_quiet (fail); try go_wp2)
          go_ret
          exact ⟨by first | rfl | (simp; done) | (simp [*]; done), by repeat (first | exact Drawn0.refl _ | apply Drawn0.step)⟩
  · rw [if_neg c3] at H
    have c3b0 : ((l0.length : Int) == (l1.length : Int)) = false := beq_eq_false_iff_ne.mpr c3
    have c3b1 : ((l0.length : Int) != (l1.length : Int)) = true := bne_iff_ne.mpr c3
    have c3b2 : (l0.length == l1.length) = false := by first | simpa using c3 | (simp at c3 ⊢; omega)
    obtain rfl := Option.some.inj H
    go_enter Try.func8, Try.ntmps8
    go_wp2
    repeat (go_quiet (fail); try go_wp2)
    go_ret
    exact ⟨by first | rfl | (simp; done) | (simp [*]; done), by repeat (first | exact Drawn0.refl _ | apply Drawn0.step)⟩

end Go.Proofs.Ytckijljnomojiaa.PTypesBack
