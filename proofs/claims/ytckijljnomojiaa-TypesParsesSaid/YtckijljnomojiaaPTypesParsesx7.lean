-- laid by wip/tools/mkprint.py, a turned copy of the print
import Derived.Test.YtckijljnomojiaaPTypesParsesx0
namespace Go.Proofs.Ytckijljnomojiaa.PTypesParses
open Go.RowKit Go.Proofs.YtckijljnomojiaaW.PrintWords Go.Proofs.YtckijljnomojiaaW.PrintLast Go.Proofs.YtckijljnomojiaaW.PrintMore
attribute [local go_sem] max2_int min2_int max_two min_two max_three min_three max_four min_four   -- for this text's walks alone
set_option linter.unusedVariables false
set_option linter.unusedSimpArgs false

/-! ### turnbuckleref05_Reached: function 33 -/
mutual
def turnbuckleref05_Reached.l0 : Nat → List (S41) → List Int → List Int → Int → Option (List Int)
  | 0, _, _, _, _ => none
  | k + 1, x0, x1, x5, x6 => if x6 < (x1.length : Int) then (if 0 ≤ x6 then (if 0 ≤ (rd x1 x6) then (if (rd x1 x6) < (x0.length : Int) then (turnbuckleref05_Reached.l1 k x0 x1 x5 x6 ((rd_T41 x0 (rd x1 x6)).f3) 0) else (none)) else (none)) else (none)) else (some x5)
def turnbuckleref05_Reached.l1 : Nat → List (S41) → List Int → List Int → Int → List (S38) → Int → Option (List Int)
  | 0, _, _, _, _, _, _ => none
  | k + 1, x0, x1, x5, x6, x7, x8 => if x8 < (x7.length : Int) then (if 0 ≤ x8 then (turnbuckleref05_Reached.l2 k x0 x1 x5 x6 x7 x8 (((rd_T38 x7 x8).f0) != 2) 0) else (none)) else (turnbuckleref05_Reached.l0 k x0 x1 x5 (wrap64 (x6 + 1)))
def turnbuckleref05_Reached.l2 : Nat → List (S41) → List Int → List Int → Int → List (S38) → Int → Bool → Int → Option (List Int)
  | 0, _, _, _, _, _, _, _, _ => none
  | k + 1, x0, x1, x5, x6, x7, x8, x9, x10 => if x10 < (x5.length : Int) then (if x9 = true then (turnbuckleref05_Reached.l2 k x0 x1 x5 x6 x7 x8 true (wrap64 (x10 + 1))) else (if 0 ≤ x10 then (if 0 ≤ x8 then (if x8 < (x7.length : Int) then (turnbuckleref05_Reached.l2 k x0 x1 x5 x6 x7 x8 ((rd x5 x10) == ((rd_T38 x7 x8).f2)) (wrap64 (x10 + 1))) else (none)) else (none)) else (none))) else (if x9 = true then (turnbuckleref05_Reached.l1 k x0 x1 x5 x6 x7 (wrap64 (x8 + 1))) else (if 0 ≤ x8 then (if x8 < (x7.length : Int) then (if x5.length < 17592186044416 then (turnbuckleref05_Reached.l1 k x0 x1 (x5 ++ [(rd_T38 x7 x8).f2]) x6 x7 (wrap64 (x8 + 1))) else (none)) else (none)) else (none)))
end
def turnbuckleref05_Reached.f (k : Nat) (l0 : List (S41)) (l1 : List Int) : Option (List Int) := (some (([] : List Int) : List Int)).bind fun y181 => (if y181.length + l1.length < 17592186044416 then (turnbuckleref05_Reached.l0 k l0 l1 (y181 ++ l1) 0) else (none))
theorem turnbuckleref05_Reached.mono_l : ∀ k, (∀ y0 y1 y2 y3, LeO (turnbuckleref05_Reached.l0 k y0 y1 y2 y3) (turnbuckleref05_Reached.l0 (k + 1) y0 y1 y2 y3)) ∧ (∀ y0 y1 y2 y3 y4 y5, LeO (turnbuckleref05_Reached.l1 k y0 y1 y2 y3 y4 y5) (turnbuckleref05_Reached.l1 (k + 1) y0 y1 y2 y3 y4 y5)) ∧ (∀ y0 y1 y2 y3 y4 y5 y6 y7, LeO (turnbuckleref05_Reached.l2 k y0 y1 y2 y3 y4 y5 y6 y7) (turnbuckleref05_Reached.l2 (k + 1) y0 y1 y2 y3 y4 y5 y6 y7))
  | 0 => ⟨fun _ _ _ _ r h => by simp [turnbuckleref05_Reached.l0] at h, fun _ _ _ _ _ _ r h => by simp [turnbuckleref05_Reached.l1] at h, fun _ _ _ _ _ _ _ _ r h => by simp [turnbuckleref05_Reached.l2] at h⟩
  | k + 1 => by
    obtain ⟨ih0, ih1, ih2⟩ := turnbuckleref05_Reached.mono_l k
    refine ⟨?_, ?_, ?_⟩
    · intro y0 y1 y2 y3
      unfold turnbuckleref05_Reached.l0
      repeat' first
      | (with_reducible exact ih0 _ _ _ _)
      | (with_reducible exact ih1 _ _ _ _ _ _)
      | (with_reducible exact ih2 _ _ _ _ _ _ _ _)
      | (with_reducible exact LeO.refl _)
      | (with_reducible exact LeO.none _)
      | (with_reducible refine LeO.ite ?_ ?_)
      | (with_reducible refine LeO.bind ?_ (fun _ => ?_))
      | exact ih0 _ _ _ _
      | exact ih1 _ _ _ _ _ _
      | exact ih2 _ _ _ _ _ _ _ _
      | exact LeO.none _
      | refine LeO.ite ?_ ?_
      | refine LeO.bind ?_ (fun _ => ?_)
    · intro y0 y1 y2 y3 y4 y5
      unfold turnbuckleref05_Reached.l1
      repeat' first
      | (with_reducible exact ih0 _ _ _ _)
      | (with_reducible exact ih1 _ _ _ _ _ _)
      | (with_reducible exact ih2 _ _ _ _ _ _ _ _)
      | (with_reducible exact LeO.refl _)
      | (with_reducible exact LeO.none _)
      | (with_reducible refine LeO.ite ?_ ?_)
      | (with_reducible refine LeO.bind ?_ (fun _ => ?_))
      | exact ih0 _ _ _ _
      | exact ih1 _ _ _ _ _ _
      | exact ih2 _ _ _ _ _ _ _ _
      | exact LeO.none _
      | refine LeO.ite ?_ ?_
      | refine LeO.bind ?_ (fun _ => ?_)
    · intro y0 y1 y2 y3 y4 y5 y6 y7
      unfold turnbuckleref05_Reached.l2
      repeat' first
      | (with_reducible exact ih0 _ _ _ _)
      | (with_reducible exact ih1 _ _ _ _ _ _)
      | (with_reducible exact ih2 _ _ _ _ _ _ _ _)
      | (with_reducible exact LeO.refl _)
      | (with_reducible exact LeO.none _)
      | (with_reducible refine LeO.ite ?_ ?_)
      | (with_reducible refine LeO.bind ?_ (fun _ => ?_))
      | exact ih0 _ _ _ _
      | exact ih1 _ _ _ _ _ _
      | exact ih2 _ _ _ _ _ _ _ _
      | exact LeO.none _
      | refine LeO.ite ?_ ?_
      | refine LeO.bind ?_ (fun _ => ?_)
theorem turnbuckleref05_Reached.mono : ∀ a0 a1 k, LeO (turnbuckleref05_Reached.f k a0 a1) (turnbuckleref05_Reached.f (k + 1) a0 a1) := by
  intro a0 a1 k
  obtain ⟨ih0, ih1, ih2⟩ := turnbuckleref05_Reached.mono_l k
  unfold turnbuckleref05_Reached.f
  repeat' first
      | (with_reducible exact ih0 _ _ _ _)
      | (with_reducible exact ih1 _ _ _ _ _ _)
      | (with_reducible exact ih2 _ _ _ _ _ _ _ _)
      | (with_reducible exact LeO.refl _)
      | (with_reducible exact LeO.none _)
      | (with_reducible refine LeO.ite ?_ ?_)
      | (with_reducible refine LeO.bind ?_ (fun _ => ?_))
      | exact ih0 _ _ _ _
      | exact ih1 _ _ _ _ _ _
      | exact ih2 _ _ _ _ _ _ _ _
      | exact LeO.none _
      | refine LeO.ite ?_ ?_
      | refine LeO.bind ?_ (fun _ => ?_)
set_option maxHeartbeats 8000000 in
set_option maxRecDepth 100000 in
theorem turnbuckleref05_Reached.calls (k : Nat) (A0 : Option Addr) (c0 : Nat) (l0 : List (S41)) (A1 : Option Addr) (c1 : Nat) (l1 : List Int) (r : List Int) (w : World) (hr0 : Kd.C k41 w A0 l0.length l0) (hc0 : l0.length ≤ c0) (hr1 : Kd.C (Kd.int .i64) w A1 l1.length l1) (hc1 : l1.length ≤ c1) (h : turnbuckleref05_Reached.f k l0 l1 = some r) :
    Calls Try.prog 33 #[.slice A0 l0.length c0, .slice A1 l1.length c1] w fun e w' => ∃ v0_ : Value, e = .returned (v0_) ∧ Kd.R (Kd.int .i64) 3 w' w.heap.size (fun _ => True) v0_ r ∧ Below w.heap.size w w' := by
  have HR0 := Aside0.mk hr0
  have HC0 := Aside0.mk hc0
  clear hr0 hc0
  have HR1 := Aside0.mk hr1
  have HC1 := Aside0.mk hc1
  clear hr1 hc1
  have HB := Aside0.mk (Below.refl w.heap.size w)
  have H : ((some (([] : List Int) : List Int)).bind fun y181 => (if y181.length + l1.length < 17592186044416 then (turnbuckleref05_Reached.l0 k l0 l1 (y181 ++ l1) 0) else (none))) = some r := h
  clear h
  obtain ⟨y181, hy181⟩ : ∃ y_ : List Int, y_ = (([] : List Int)) := ⟨_, rfl⟩
  replace H : (if y181.length + l1.length < 17592186044416 then (turnbuckleref05_Reached.l0 k l0 l1 (y181 ++ l1) 0) else (none)) = some r := by first | (rw [hy181]; with_reducible exact H) | (have H2_ := (Option.bind_some _ _).symm.trans H; rw [hy181]; with_reducible exact H2_) | (have H2_ := (Option.bind_some _ _).symm.trans H; with_reducible exact H2_) | with_reducible exact H | (rw [hy181]; exact H) | exact H
  have Ny181 := Aside0.mk hy181
  clear hy181
  by_cases c3 : y181.length + l1.length < 17592186044416
  · rw [if_pos c3] at H
    have LMc3 := Aside0.mk c3
    clear c3
    obtain ⟨y184, hy184⟩ : ∃ y_ : List Int, y_ = (y181 ++ l1) := ⟨_, rfl⟩
    replace H : (turnbuckleref05_Reached.l0 k l0 l1 y184 0) = some r := by first | (rw [hy184]; with_reducible exact H) | (have H2_ := (Option.bind_some _ _).symm.trans H; rw [hy184]; with_reducible exact H2_) | (have H2_ := (Option.bind_some _ _).symm.trans H; with_reducible exact H2_) | with_reducible exact H | (rw [hy184]; exact H) | exact H
    have Ny184 := Aside0.mk hy184
    clear hy184
    have H' := Aside0.mk H
    clear H
    go_enter Try.func33, Try.ntmps33
    go_wp2_with (first | ((with_reducible refine gate_dst (N := 11) rfl ?_); refine Kd.R_lit (Kd.int .i64) _ 3 ?hg (N := 11) ?hd (xs := ([] : List Int)) (inner := []) (ok := fun _ => True) (okp := fun _ => True) ?hr ?hp (fun _ hk => hk) trivial (Below.refl _ _) (Nat.le_refl _) (by simp) ?_; (case hd => rfl); (case hg => rfl); (case hr => first | (go_simp; done) | (go_simp; rfl)); (case hp => exact (Reps.none _ _)); intro v182 w4 ho5 hb hg_ hnew_; clear hg_ hnew_; (first | rw [← Ny181.out] at ho5 | (simp only [Int.reduceToNat] at ho5; rw [← Ny181.out] at ho5)); have n0_ := Aside0.mk (Kd.R_lower ho5 (below_size (by repeat (first | (with_reducible first | exact HB.out | apply below_alloc | apply pw_below_drewN | apply below_drew1) | exact HB.out)))); have n1_ := Aside0.mk (below_step (by repeat (first | (with_reducible first | exact HB.out | apply below_alloc | apply pw_below_drewN | apply below_drew1) | exact HB.out)) hb); clear HB; have HO183 := n0_; have HB := n1_; clear n0_ n1_; clear hb ho5) | ((with_reducible refine gate_builtin (b := .append) (xs := #[.tmp 11, .tmp 12]) rfl ?_); at_builtin; refine Kd.R_append_rows (Kd.int .i64) (w0 := w) w.heap.size rfl (.tmp 11) (.tmp 12) 42 3 (.int .i64 0) 8 rfl Try.underlying42 info3 rfl (by decide) (by omega) v182 y181 l1 _ _ _ (fun _ => True) (fun _ => False) rfl rfl ?aO ?aR (fun _ _ h => h) (fun _ h => h.elim) ?aF ?aB ?aS ?aL ?_; (case aR => repeat (first | exact (Kd.C_below HR1.out HB.out) | (with_reducible refine Kd.C_alloc ?_ _) | (with_reducible refine Kd.C_drewN ?_ _) | (with_reducible refine Kd.C_drew ?_))); (case aB => exact (by repeat (first | (with_reducible first | exact HB.out | apply below_alloc | apply pw_below_drewN | apply below_drew1) | exact HB.out))); (case aF => exact (fun _ _ => trivial)); (case aO => exact (by (with_reducible repeat (first | apply Kd.R_alloc | apply Kd.R_drewN | apply Kd.R_drew)); exact HO183.out)); (case aS => exact (below_size (by repeat (first | (with_reducible first | exact HB.out | apply below_alloc | apply pw_below_drewN | apply below_drew1) | exact HB.out)))); (case aL => have := LMc3.out; omega); intro v185 w6 ho hb hg hat; rw [← Ny184.out] at ho; have n0_ := Aside0.mk (hb); have n1_ := Aside0.mk (ho); clear HB; clear HO183; have HB := n0_; have HO186 := n1_; clear n0_ n1_; clear ho hb hg hat))
    repeat (go_quiet (first | ((with_reducible refine gate_dst (N := 11) rfl ?_); refine Kd.R_lit (Kd.int .i64) _ 3 ?hg (N := 11) ?hd (xs := ([] : List Int)) (inner := []) (ok := fun _ => True) (okp := fun _ => True) ?hr ?hp (fun _ hk => hk) trivial (Below.refl _ _) (Nat.le_refl _) (by simp) ?_; (case hd => rfl); (case hg => rfl); (case hr => first | (go_simp; done) | (go_simp; rfl)); (case hp => exact (Reps.none _ _)); intro v182 w4 ho5 hb hg_ hnew_; clear hg_ hnew_; (first | rw [← Ny181.out] at ho5 | (simp only [Int.reduceToNat] at ho5; rw [← Ny181.out] at ho5)); have n0_ := Aside0.mk (Kd.R_lower ho5 (below_size (by repeat (first | (with_reducible first | exact HB.out | apply below_alloc | apply pw_below_drewN | apply below_drew1) | exact HB.out)))); have n1_ := Aside0.mk (below_step (by repeat (first | (with_reducible first | exact HB.out | apply below_alloc | apply pw_below_drewN | apply below_drew1) | exact HB.out)) hb); clear HB; have HO183 := n0_; have HB := n1_; clear n0_ n1_; clear hb ho5) | ((with_reducible refine gate_builtin (b := .append) (xs := #[.tmp 11, .tmp 12]) rfl ?_); at_builtin; refine Kd.R_append_rows (Kd.int .i64) (w0 := w) w.heap.size rfl (.tmp 11) (.tmp 12) 42 3 (.int .i64 0) 8 rfl Try.underlying42 info3 rfl (by decide) (by omega) v182 y181 l1 _ _ _ (fun _ => True) (fun _ => False) rfl rfl ?aO ?aR (fun _ _ h => h) (fun _ h => h.elim) ?aF ?aB ?aS ?aL ?_; (case aR => repeat (first | exact (Kd.C_below HR1.out HB.out) | (with_reducible refine Kd.C_alloc ?_ _) | (with_reducible refine Kd.C_drewN ?_ _) | (with_reducible refine Kd.C_drew ?_))); (case aB => exact (by repeat (first | (with_reducible first | exact HB.out | apply below_alloc | apply pw_below_drewN | apply below_drew1) | exact HB.out))); (case aF => exact (fun _ _ => trivial)); (case aO => exact (by (with_reducible repeat (first | apply Kd.R_alloc | apply Kd.R_drewN | apply Kd.R_drew)); exact HO183.out)); (case aS => exact (below_size (by repeat (first | (with_reducible first | exact HB.out | apply below_alloc | apply pw_below_drewN | apply below_drew1) | exact HB.out)))); (case aL => have := LMc3.out; omega); intro v185 w6 ho hb hg hat; rw [← Ny184.out] at ho; have n0_ := Aside0.mk (hb); have n1_ := Aside0.mk (ho); clear HB; clear HO183; have HB := n0_; have HO186 := n1_; clear n0_ n1_; clear ho hb hg hat)); try go_wp2_with (first | ((with_reducible refine gate_dst (N := 11) rfl ?_); refine Kd.R_lit (Kd.int .i64) _ 3 ?hg (N := 11) ?hd (xs := ([] : List Int)) (inner := []) (ok := fun _ => True) (okp := fun _ => True) ?hr ?hp (fun _ hk => hk) trivial (Below.refl _ _) (Nat.le_refl _) (by simp) ?_; (case hd => rfl); (case hg => rfl); (case hr => first | (go_simp; done) | (go_simp; rfl)); (case hp => exact (Reps.none _ _)); intro v182 w4 ho5 hb hg_ hnew_; clear hg_ hnew_; (first | rw [← Ny181.out] at ho5 | (simp only [Int.reduceToNat] at ho5; rw [← Ny181.out] at ho5)); have n0_ := Aside0.mk (Kd.R_lower ho5 (below_size (by repeat (first | (with_reducible first | exact HB.out | apply below_alloc | apply pw_below_drewN | apply below_drew1) | exact HB.out)))); have n1_ := Aside0.mk (below_step (by repeat (first | (with_reducible first | exact HB.out | apply below_alloc | apply pw_below_drewN | apply below_drew1) | exact HB.out)) hb); clear HB; have HO183 := n0_; have HB := n1_; clear n0_ n1_; clear hb ho5) | ((with_reducible refine gate_builtin (b := .append) (xs := #[.tmp 11, .tmp 12]) rfl ?_); at_builtin; refine Kd.R_append_rows (Kd.int .i64) (w0 := w) w.heap.size rfl (.tmp 11) (.tmp 12) 42 3 (.int .i64 0) 8 rfl Try.underlying42 info3 rfl (by decide) (by omega) v182 y181 l1 _ _ _ (fun _ => True) (fun _ => False) rfl rfl ?aO ?aR (fun _ _ h => h) (fun _ h => h.elim) ?aF ?aB ?aS ?aL ?_; (case aR => repeat (first | exact (Kd.C_below HR1.out HB.out) | (with_reducible refine Kd.C_alloc ?_ _) | (with_reducible refine Kd.C_drewN ?_ _) | (with_reducible refine Kd.C_drew ?_))); (case aB => exact (by repeat (first | (with_reducible first | exact HB.out | apply below_alloc | apply pw_below_drewN | apply below_drew1) | exact HB.out))); (case aF => exact (fun _ _ => trivial)); (case aO => exact (by (with_reducible repeat (first | apply Kd.R_alloc | apply Kd.R_drewN | apply Kd.R_drew)); exact HO183.out)); (case aS => exact (below_size (by repeat (first | (with_reducible first | exact HB.out | apply below_alloc | apply pw_below_drewN | apply below_drew1) | exact HB.out)))); (case aL => have := LMc3.out; omega); intro v185 w6 ho hb hg hat; rw [← Ny184.out] at ho; have n0_ := Aside0.mk (hb); have n1_ := Aside0.mk (ho); clear HB; clear HO183; have HB := n0_; have HO186 := n1_; clear n0_ n1_; clear ho hb hg hat)))
    go_loopg [5, 6] k (fun kq v5 v6 w' => ∃ (x5_1 : List Int) (x6_1 : Int), v6 = .int .i64 x6_1 ∧ Aside0 (turnbuckleref05_Reached.l0 kq l0 l1 x5_1 x6_1 = some r) ∧ Aside0 (kq ≤ k) ∧ Aside0 (Kd.R (Kd.int .i64) 3 w' w.heap.size (fun _ => True) v5 x5_1) ∧ Aside0 (Below w.heap.size w w'))
    case atStart => exact ⟨(y184), (0), (by first | rfl | (simp; done) | (simp [*]; done)), H', ⟨Nat.le_refl _⟩, ⟨by (with_reducible repeat (first | apply Kd.R_alloc | apply Kd.R_drewN | apply Kd.R_drew)); exact HO186.out⟩, ⟨by repeat (first | (with_reducible first | exact HB.out | apply below_alloc | apply pw_below_drewN | apply below_drew1) | exact HB.out)⟩⟩
    case round =>
      clear H'
      try clear c1
      try clear p2
      try clear c3
      obtain ⟨x5_1, x6_1, rfl, HA, HK1, HO_5, HB⟩ := hrel
      cases gk with
      | zero => exact absurd HA.out (by simp [turnbuckleref05_Reached.l0])
      | succ k1 =>
        have H := HA.out
        clear HA
        simp only [turnbuckleref05_Reached.l0] at H
        by_cases c7 : x6_1 < (l1.length : Int)
        · rw [if_pos c7] at H
          have c7b0 : decide (x6_1 < (l1.length : Int)) = true := decide_eq_true c7
          clear c7
          by_cases c8 : 0 ≤ x6_1
          · rw [if_pos c8] at H
            have c8b0 : decide (0 ≤ x6_1) = true := decide_eq_true c8
            clear c8
            by_cases c9 : 0 ≤ (rd l1 x6_1)
            · rw [if_pos c9] at H
              have c9b0 : decide (0 ≤ (rd l1 x6_1)) = true := decide_eq_true c9
              clear c9
              by_cases c10 : (rd l1 x6_1) < (l0.length : Int)
              · rw [if_pos c10] at H
                have c10b0 : decide ((rd l1 x6_1) < (l0.length : Int)) = true := decide_eq_true c10
                clear c10
                have H' := Aside0.mk H
                clear H
                have p187 : 0 ≤ (x6_1 : Int) := of_decide_eq_true (by first | (with_reducible assumption) | assumption)
                have q187 : x6_1 < (l1.length : Int) := of_decide_eq_true (by first | (with_reducible assumption) | assumption)
                obtain ⟨ad187, e187, hx187_0⟩ := Kd.at_int HR1.out x6_1 p187 q187
                cases e187
                replace hx187_0 := (HB.out.cell (World.block_lt_of_cell? w _ hx187_0)).trans hx187_0
                replace p187 := eq_true p187
                replace q187 := eq_true q187
                have p188 : 0 ≤ ((rd l1 x6_1) : Int) := of_decide_eq_true (by first | (with_reducible assumption) | assumption)
                have q188 : (rd l1 x6_1) < (l0.length : Int) := of_decide_eq_true (by first | (with_reducible assumption) | assumption)
                obtain ⟨ad188, A188_3, c188_3, e188, hx188_0, hx188_1, hx188_2, hx188_3, hl188_3, hi188_3⟩ := at_T41 HR0.out (rd l1 x6_1) p188 q188
                cases e188
                replace hx188_0 := (HB.out.cell (World.block_lt_of_cell? w _ hx188_0)).trans hx188_0
                replace hx188_1 := (HB.out.cell (World.block_lt_of_cell? w _ hx188_1)).trans hx188_1
                replace hx188_2 := (HB.out.cell (World.block_lt_of_cell? w _ hx188_2)).trans hx188_2
                replace hx188_3 := (HB.out.cell (World.block_lt_of_cell? w _ hx188_3)).trans hx188_3
                have HR188_3 := Aside0.mk hi188_3
                have HC188_3 := Aside0.mk hl188_3
                clear hi188_3 hl188_3
                replace p188 := eq_true p188
                replace q188 := eq_true q188
                go_wp2
                repeat (go_quiet (fail); try go_wp2)
                go_loopg [5, 8] k1 (fun kq v5 v8 w' => ∃ (x5_2 : List Int) (x8_2 : Int), v8 = .int .i64 x8_2 ∧ Aside0 (turnbuckleref05_Reached.l1 kq l0 l1 x5_2 x6_1 ((rd_T41 l0 (rd l1 x6_1)).f3) x8_2 = some r) ∧ Aside0 (kq ≤ k1) ∧ Aside0 (Kd.R (Kd.int .i64) 3 w' w.heap.size (fun _ => True) v5 x5_2) ∧ Aside0 (Below w.heap.size w w'))
                case atStart => exact ⟨(x5_1), (0), (by first | rfl | (simp; done) | (simp [*]; done)), H', ⟨Nat.le_refl _⟩, ⟨by (with_reducible repeat (first | apply Kd.R_alloc | apply Kd.R_drewN | apply Kd.R_drew)); exact HO_5.out⟩, ⟨by repeat (first | (with_reducible first | exact HB.out | apply below_alloc | apply pw_below_drewN | apply below_drew1) | exact HB.out)⟩⟩
                case round =>
                  clear H'
                  try clear c1
                  try clear p1
                  try clear q1
                  try clear hx1
                  try clear p2
                  try clear c3
                  try clear c7
                  try clear c7b0
                  try clear c8
                  try clear c8b0
                  try clear c9
                  try clear c9b0
                  try clear c10
                  try clear c10b0
                  try clear hx187_0
                  try clear hx188_0
                  try clear hx188_1
                  try clear hx188_2
                  try clear hx188_3
                  try clear p187
                  try clear p188
                  try clear p2
                  try clear q187
                  try clear q188
                  obtain ⟨x5_2, x8_2, rfl, HA, HK2, HO_5, HB⟩ := hrel
                  cases gk with
                  | zero => exact absurd HA.out (by simp [turnbuckleref05_Reached.l1])
                  | succ k2 =>
                    have H := HA.out
                    clear HA
                    simp only [turnbuckleref05_Reached.l1] at H
                    by_cases c11 : x8_2 < (((rd_T41 l0 (rd l1 x6_1)).f3).length : Int)
                    · rw [if_pos c11] at H
                      have c11b0 : decide (x8_2 < (((rd_T41 l0 (rd l1 x6_1)).f3).length : Int)) = true := decide_eq_true c11
                      clear c11
                      by_cases c12 : 0 ≤ x8_2
                      · rw [if_pos c12] at H
                        have c12b0 : decide (0 ≤ x8_2) = true := decide_eq_true c12
                        clear c12
                        have H' := Aside0.mk H
                        clear H
                        have p189 : 0 ≤ (x8_2 : Int) := of_decide_eq_true (by first | (with_reducible assumption) | assumption)
                        have q189 : x8_2 < (((rd_T41 l0 (rd l1 x6_1)).f3).length : Int) := of_decide_eq_true (by first | (with_reducible assumption) | assumption)
                        obtain ⟨ad189, e189, hx189_0, hx189_1, hx189_2, hx189_3, hx189_4⟩ := at_T38 HR188_3.out x8_2 p189 q189
                        cases e189
                        replace hx189_0 := (HB.out.cell (World.block_lt_of_cell? w _ hx189_0)).trans hx189_0
                        replace hx189_1 := (HB.out.cell (World.block_lt_of_cell? w _ hx189_1)).trans hx189_1
                        replace hx189_2 := (HB.out.cell (World.block_lt_of_cell? w _ hx189_2)).trans hx189_2
                        replace hx189_3 := (HB.out.cell (World.block_lt_of_cell? w _ hx189_3)).trans hx189_3
                        replace hx189_4 := (HB.out.cell (World.block_lt_of_cell? w _ hx189_4)).trans hx189_4
                        replace p189 := eq_true p189
                        replace q189 := eq_true q189
                        go_wp2
                        repeat (go_quiet (fail); try go_wp2)
                        go_loopg [9, 10] k2 (fun kq v9 v10 w' => ∃ (x9_3 : Bool) (x10_3 : Int), v9 = .bool x9_3 ∧ v10 = .int .i64 x10_3 ∧ Aside0 (turnbuckleref05_Reached.l2 kq l0 l1 x5_2 x6_1 ((rd_T41 l0 (rd l1 x6_1)).f3) x8_2 x9_3 x10_3 = some r) ∧ Aside0 (kq ≤ k2) ∧ Aside0 (Kd.R (Kd.int .i64) 3 w' w.heap.size (fun _ => True) u5 x5_2) ∧ Aside0 (Below w.heap.size w w'))
                        case atStart => exact ⟨((((rd_T38 ((rd_T41 l0 (rd l1 x6_1)).f3) x8_2).f0) != 2)), (0), (by first | rfl | (simp; done) | (simp [*]; done)), (by first | rfl | (simp; done) | (simp [*]; done)), H', ⟨Nat.le_refl _⟩, ⟨by (with_reducible repeat (first | apply Kd.R_alloc | apply Kd.R_drewN | apply Kd.R_drew)); exact HO_5.out⟩, ⟨by repeat (first | (with_reducible first | exact HB.out | apply below_alloc | apply pw_below_drewN | apply below_drew1) | exact HB.out)⟩⟩
                        case round =>
                          clear H'
                          try clear c1
                          try clear p1
                          try clear q1
                          try clear hx1
                          try clear p2
                          try clear c3
                          try clear c7
                          try clear c7b0
                          try clear c8
                          try clear c8b0
                          try clear c9
                          try clear c9b0
                          try clear c10
                          try clear c10b0
                          try clear c11
                          try clear c11b0
                          try clear c12
                          try clear c12b0
                          try clear hx187_0
                          try clear hx188_0
                          try clear hx188_1
                          try clear hx188_2
                          try clear hx188_3
                          try clear hx189_0
                          try clear hx189_1
                          try clear hx189_2
                          try clear hx189_3
                          try clear hx189_4
                          try clear p1
                          try clear p187
                          try clear p188
                          try clear p189
                          try clear p2
                          try clear q1
                          try clear q187
                          try clear q188
                          try clear q189
                          obtain ⟨x9_3, x10_3, rfl, rfl, HA, HK3, HO_5, HB⟩ := hrel
                          cases gk with
                          | zero => exact absurd HA.out (by simp [turnbuckleref05_Reached.l2])
                          | succ k3 =>
                            have H := HA.out
                            clear HA
                            simp only [turnbuckleref05_Reached.l2] at H
                            by_cases c13 : x10_3 < (x5_2.length : Int)
                            · rw [if_pos c13] at H
                              have c13b0 : decide (x10_3 < (x5_2.length : Int)) = true := decide_eq_true c13
                              clear c13
                              by_cases c14 : x9_3 = true
                              · subst c14
                                have H1 : (turnbuckleref05_Reached.l2 k3 l0 l1 x5_2 x6_1 ((rd_T41 l0 (rd l1 x6_1)).f3) x8_2 true (wrap64 (x10_3 + 1))) = some r := by rw [if_pos rfl] at H; exact H
                                clear H
                                have H := H1
                                clear H1
                                have H' := Aside0.mk H
                                clear H
                                obtain ⟨Ao15, co15, eo15⟩ := Kd.R_slice HO_5.out
                                subst eo15
                                go_wp2
                                repeat (go_quiet (fail); try go_wp2)
                                go_roundg k3
                                case measure => have := HK1.out; have := HK2.out; have := HK3.out; omega
                                case rel => exact ⟨(true), (wrap64 (x10_3 + 1)), (by first | rfl | (simp; done) | (simp [*]; done)), (by first | rfl | (simp; done) | (simp [*]; done)), H', ⟨by have := HK1.out; have := HK2.out; have := HK3.out; omega⟩, ⟨by (with_reducible repeat (first | apply Kd.R_alloc | apply Kd.R_drewN | apply Kd.R_drew)); exact HO_5.out⟩, ⟨by repeat (first | (with_reducible first | exact HB.out | apply below_alloc | apply pw_below_drewN | apply below_drew1) | exact HB.out)⟩⟩
                              · replace c14 := Bool.eq_false_iff.mpr c14
                                subst c14
                                have H1 : (if 0 ≤ x10_3 then (if 0 ≤ x8_2 then (if x8_2 < (((rd_T41 l0 (rd l1 x6_1)).f3).length : Int) then (turnbuckleref05_Reached.l2 k3 l0 l1 x5_2 x6_1 ((rd_T41 l0 (rd l1 x6_1)).f3) x8_2 ((rd x5_2 x10_3) == ((rd_T38 ((rd_T41 l0 (rd l1 x6_1)).f3) x8_2).f2)) (wrap64 (x10_3 + 1))) else (none)) else (none)) else (none)) = some r := by rw [if_neg (show ¬ (false = true) by decide)] at H; exact H
                                clear H
                                have H := H1
                                clear H1
                                by_cases c16 : 0 ≤ x10_3
                                · rw [if_pos c16] at H
                                  have c16b0 : decide (0 ≤ x10_3) = true := decide_eq_true c16
                                  clear c16
                                  by_cases c17 : 0 ≤ x8_2
                                  · rw [if_pos c17] at H
                                    have c17b0 : decide (0 ≤ x8_2) = true := decide_eq_true c17
                                    clear c17
                                    by_cases c18 : x8_2 < (((rd_T41 l0 (rd l1 x6_1)).f3).length : Int)
                                    · rw [if_pos c18] at H
                                      have c18b0 : decide (x8_2 < (((rd_T41 l0 (rd l1 x6_1)).f3).length : Int)) = true := decide_eq_true c18
                                      clear c18
                                      have H' := Aside0.mk H
                                      clear H
                                      obtain ⟨Ao19, co19, eo19⟩ := Kd.R_slice HO_5.out
                                      subst eo19
                                      have p190 : 0 ≤ (x10_3 : Int) := of_decide_eq_true (by first | (with_reducible assumption) | assumption)
                                      have q190 : x10_3 < (x5_2.length : Int) := of_decide_eq_true (by first | (with_reducible assumption) | assumption)
                                      obtain ⟨ad190, e190, hx190_0⟩ := Kd.at_int (Kd.R_reads' HO_5.out).2.2 x10_3 p190 q190
                                      cases e190
                                      replace p190 := eq_true p190
                                      replace q190 := eq_true q190
                                      have p191 : 0 ≤ (x8_2 : Int) := of_decide_eq_true (by first | (with_reducible assumption) | assumption)
                                      have q191 : x8_2 < (((rd_T41 l0 (rd l1 x6_1)).f3).length : Int) := of_decide_eq_true (by first | (with_reducible assumption) | assumption)
                                      obtain ⟨ad191, e191, hx191_0, hx191_1, hx191_2, hx191_3, hx191_4⟩ := at_T38 HR188_3.out x8_2 p191 q191
                                      obtain rfl : ad189 = ad191 := (by injection e191)
                                      replace hx191_0 := (HB.out.cell (World.block_lt_of_cell? w _ hx191_0)).trans hx191_0
                                      replace hx191_1 := (HB.out.cell (World.block_lt_of_cell? w _ hx191_1)).trans hx191_1
                                      replace hx191_2 := (HB.out.cell (World.block_lt_of_cell? w _ hx191_2)).trans hx191_2
                                      replace hx191_3 := (HB.out.cell (World.block_lt_of_cell? w _ hx191_3)).trans hx191_3
                                      replace hx191_4 := (HB.out.cell (World.block_lt_of_cell? w _ hx191_4)).trans hx191_4
                                      replace p191 := eq_true p191
                                      replace q191 := eq_true q191
                                      go_wp2
                                      repeat (go_quiet (fail); try go_wp2)
                                      go_roundg k3
                                      case measure => have := HK1.out; have := HK2.out; have := HK3.out; omega
                                      case rel => exact ⟨(((rd x5_2 x10_3) == ((rd_T38 ((rd_T41 l0 (rd l1 x6_1)).f3) x8_2).f2))), (wrap64 (x10_3 + 1)), (by first | rfl | (simp; done) | (simp [*]; done)), (by first | rfl | (simp; done) | (simp [*]; done)), H', ⟨by have := HK1.out; have := HK2.out; have := HK3.out; omega⟩, ⟨by (with_reducible repeat (first | apply Kd.R_alloc | apply Kd.R_drewN | apply Kd.R_drew)); exact HO_5.out⟩, ⟨by repeat (first | (with_reducible first | exact HB.out | apply below_alloc | apply pw_below_drewN | apply below_drew1) | exact HB.out)⟩⟩
                                    · rw [if_neg c18] at H
                                      exact absurd H (by simp)
                                  · rw [if_neg c17] at H
                                    exact absurd H (by simp)
                                · rw [if_neg c16] at H
                                  exact absurd H (by simp)
                            · rw [if_neg c13] at H
                              have c13b0 : decide (x10_3 < (x5_2.length : Int)) = false := decide_eq_false c13
                              clear c13
                              by_cases c20 : x9_3 = true
                              · subst c20
                                have H1 : (turnbuckleref05_Reached.l1 k3 l0 l1 x5_2 x6_1 ((rd_T41 l0 (rd l1 x6_1)).f3) (wrap64 (x8_2 + 1))) = some r := by rw [if_pos rfl] at H; exact H
                                clear H
                                have H := H1
                                clear H1
                                have H' := Aside0.mk H
                                clear H
                                obtain ⟨Ao21, co21, eo21⟩ := Kd.R_slice HO_5.out
                                subst eo21
                                go_wp2
                                repeat (go_quiet (fail); try go_wp2)
                                go_roundg k3
                                case measure => have := HK1.out; have := HK2.out; have := HK3.out; omega
                                case rel => exact ⟨(x5_2), (wrap64 (x8_2 + 1)), (by first | rfl | (simp; done) | (simp [*]; done)), H', ⟨by have := HK1.out; have := HK2.out; have := HK3.out; omega⟩, ⟨by (with_reducible repeat (first | apply Kd.R_alloc | apply Kd.R_drewN | apply Kd.R_drew)); exact HO_5.out⟩, ⟨by repeat (first | (with_reducible first | exact HB.out | apply below_alloc | apply pw_below_drewN | apply below_drew1) | exact HB.out)⟩⟩
                              · replace c20 := Bool.eq_false_iff.mpr c20
                                subst c20
                                have H1 : (if 0 ≤ x8_2 then (if x8_2 < (((rd_T41 l0 (rd l1 x6_1)).f3).length : Int) then (if x5_2.length < 17592186044416 then (turnbuckleref05_Reached.l1 k3 l0 l1 (x5_2 ++ [(rd_T38 ((rd_T41 l0 (rd l1 x6_1)).f3) x8_2).f2]) x6_1 ((rd_T41 l0 (rd l1 x6_1)).f3) (wrap64 (x8_2 + 1))) else (none)) else (none)) else (none)) = some r := by rw [if_neg (show ¬ (false = true) by decide)] at H; exact H
                                clear H
                                have H := H1
                                clear H1
                                by_cases c22 : 0 ≤ x8_2
                                · rw [if_pos c22] at H
                                  have c22b0 : decide (0 ≤ x8_2) = true := decide_eq_true c22
                                  clear c22
                                  by_cases c23 : x8_2 < (((rd_T41 l0 (rd l1 x6_1)).f3).length : Int)
                                  · rw [if_pos c23] at H
                                    have c23b0 : decide (x8_2 < (((rd_T41 l0 (rd l1 x6_1)).f3).length : Int)) = true := decide_eq_true c23
                                    clear c23
                                    by_cases c24 : x5_2.length < 17592186044416
                                    · rw [if_pos c24] at H
                                      have LMc24 := Aside0.mk c24
                                      clear c24
                                      obtain ⟨y193, hy193⟩ : ∃ y_ : List Int, y_ = (x5_2 ++ [(rd_T38 ((rd_T41 l0 (rd l1 x6_1)).f3) x8_2).f2]) := ⟨_, rfl⟩
                                      replace H : (turnbuckleref05_Reached.l1 k3 l0 l1 y193 x6_1 ((rd_T41 l0 (rd l1 x6_1)).f3) (wrap64 (x8_2 + 1))) = some r := by first | (rw [hy193]; with_reducible exact H) | (have H2_ := (Option.bind_some _ _).symm.trans H; rw [hy193]; with_reducible exact H2_) | (have H2_ := (Option.bind_some _ _).symm.trans H; with_reducible exact H2_) | with_reducible exact H | (rw [hy193]; exact H) | exact H
                                      have Ny193 := Aside0.mk hy193
                                      clear hy193
                                      have H' := Aside0.mk H
                                      clear H
                                      obtain ⟨Ao25, co25, eo25⟩ := Kd.R_slice HO_5.out
                                      subst eo25
                                      have p192 : 0 ≤ (x8_2 : Int) := of_decide_eq_true (by first | (with_reducible assumption) | assumption)
                                      have q192 : x8_2 < (((rd_T41 l0 (rd l1 x6_1)).f3).length : Int) := of_decide_eq_true (by first | (with_reducible assumption) | assumption)
                                      obtain ⟨ad192, e192, hx192_0, hx192_1, hx192_2, hx192_3, hx192_4⟩ := at_T38 HR188_3.out x8_2 p192 q192
                                      obtain rfl : ad189 = ad192 := (by injection e192)
                                      replace hx192_0 := (HB.out.cell (World.block_lt_of_cell? w _ hx192_0)).trans hx192_0
                                      replace hx192_1 := (HB.out.cell (World.block_lt_of_cell? w _ hx192_1)).trans hx192_1
                                      replace hx192_2 := (HB.out.cell (World.block_lt_of_cell? w _ hx192_2)).trans hx192_2
                                      replace hx192_3 := (HB.out.cell (World.block_lt_of_cell? w _ hx192_3)).trans hx192_3
                                      replace hx192_4 := (HB.out.cell (World.block_lt_of_cell? w _ hx192_4)).trans hx192_4
                                      replace p192 := eq_true p192
                                      replace q192 := eq_true q192
                                      go_wp2_with (first | ((with_reducible refine gate_builtin (b := .append) (xs := #[.tmp 61, .tmp 67]) rfl ?_); at_builtin; refine Kd.R_append (Kd.int .i64) (w0 := w) w.heap.size rfl (.tmp 61) (.tmp 67) 42 3 (.int .i64 0) 8 rfl Try.underlying42 info3 rfl (by decide) (by omega) (.slice Ao25 x5_2.length co25) x5_2 ((rd_T38 ((rd_T41 l0 (rd l1 x6_1)).f3) x8_2).f2) [.int .i64 ((rd_T38 ((rd_T41 l0 (rd l1 x6_1)).f3) x8_2).f2)] (fun _ => True) (fun _ => False) rfl rfl ?aP (fun _ hk => hk.elim) ?aF ?aO ?aB ?aS ?aL ?_; (case aP => exact rfl); (case aB => exact (by repeat (first | (with_reducible first | exact HB.out | apply below_alloc | apply pw_below_drewN | apply below_drew1) | exact HB.out))); (case aF => exact (fun _ _ => trivial)); (case aO => exact (by (with_reducible repeat (first | apply Kd.R_alloc | apply Kd.R_drewN | apply Kd.R_drew)); exact HO_5.out)); (case aS => exact (below_size (by repeat (first | (with_reducible first | exact HB.out | apply below_alloc | apply pw_below_drewN | apply below_drew1) | exact HB.out)))); (case aL => have := LMc24.out; omega); intro v194 w26 ho hb hg hat; rw [← Ny193.out] at ho; have n0_ := Aside0.mk (hb); have n1_ := Aside0.mk (ho); clear HB; clear HO_5; have HB := n0_; have HO195 := n1_; clear n0_ n1_; clear ho hb hg hat))
                                      repeat (go_quiet (first | ((with_reducible refine gate_builtin (b := .append) (xs := #[.tmp 61, .tmp 67]) rfl ?_); at_builtin; refine Kd.R_append (Kd.int .i64) (w0 := w) w.heap.size rfl (.tmp 61) (.tmp 67) 42 3 (.int .i64 0) 8 rfl Try.underlying42 info3 rfl (by decide) (by omega) (.slice Ao25 x5_2.length co25) x5_2 ((rd_T38 ((rd_T41 l0 (rd l1 x6_1)).f3) x8_2).f2) [.int .i64 ((rd_T38 ((rd_T41 l0 (rd l1 x6_1)).f3) x8_2).f2)] (fun _ => True) (fun _ => False) rfl rfl ?aP (fun _ hk => hk.elim) ?aF ?aO ?aB ?aS ?aL ?_; (case aP => exact rfl); (case aB => exact (by repeat (first | (with_reducible first | exact HB.out | apply below_alloc | apply pw_below_drewN | apply below_drew1) | exact HB.out))); (case aF => exact (fun _ _ => trivial)); (case aO => exact (by (with_reducible repeat (first | apply Kd.R_alloc | apply Kd.R_drewN | apply Kd.R_drew)); exact HO_5.out)); (case aS => exact (below_size (by repeat (first | (with_reducible first | exact HB.out | apply below_alloc | apply pw_below_drewN | apply below_drew1) | exact HB.out)))); (case aL => have := LMc24.out; omega); intro v194 w26 ho hb hg hat; rw [← Ny193.out] at ho; have n0_ := Aside0.mk (hb); have n1_ := Aside0.mk (ho); clear HB; clear HO_5; have HB := n0_; have HO195 := n1_; clear n0_ n1_; clear ho hb hg hat)); try go_wp2_with (first | ((with_reducible refine gate_builtin (b := .append) (xs := #[.tmp 61, .tmp 67]) rfl ?_); at_builtin; refine Kd.R_append (Kd.int .i64) (w0 := w) w.heap.size rfl (.tmp 61) (.tmp 67) 42 3 (.int .i64 0) 8 rfl Try.underlying42 info3 rfl (by decide) (by omega) (.slice Ao25 x5_2.length co25) x5_2 ((rd_T38 ((rd_T41 l0 (rd l1 x6_1)).f3) x8_2).f2) [.int .i64 ((rd_T38 ((rd_T41 l0 (rd l1 x6_1)).f3) x8_2).f2)] (fun _ => True) (fun _ => False) rfl rfl ?aP (fun _ hk => hk.elim) ?aF ?aO ?aB ?aS ?aL ?_; (case aP => exact rfl); (case aB => exact (by repeat (first | (with_reducible first | exact HB.out | apply below_alloc | apply pw_below_drewN | apply below_drew1) | exact HB.out))); (case aF => exact (fun _ _ => trivial)); (case aO => exact (by (with_reducible repeat (first | apply Kd.R_alloc | apply Kd.R_drewN | apply Kd.R_drew)); exact HO_5.out)); (case aS => exact (below_size (by repeat (first | (with_reducible first | exact HB.out | apply below_alloc | apply pw_below_drewN | apply below_drew1) | exact HB.out)))); (case aL => have := LMc24.out; omega); intro v194 w26 ho hb hg hat; rw [← Ny193.out] at ho; have n0_ := Aside0.mk (hb); have n1_ := Aside0.mk (ho); clear HB; clear HO_5; have HB := n0_; have HO195 := n1_; clear n0_ n1_; clear ho hb hg hat)))
                                      go_roundg k3
                                      case measure => have := HK1.out; have := HK2.out; have := HK3.out; omega
                                      case rel => exact ⟨(y193), (wrap64 (x8_2 + 1)), (by first | rfl | (simp; done) | (simp [*]; done)), H', ⟨by have := HK1.out; have := HK2.out; have := HK3.out; omega⟩, ⟨by (with_reducible repeat (first | apply Kd.R_alloc | apply Kd.R_drewN | apply Kd.R_drew)); exact HO195.out⟩, ⟨by repeat (first | (with_reducible first | exact HB.out | apply below_alloc | apply pw_below_drewN | apply below_drew1) | exact HB.out)⟩⟩
                                    · rw [if_neg c24] at H
                                      exact absurd H (by simp)
                                  · rw [if_neg c23] at H
                                    exact absurd H (by simp)
                                · rw [if_neg c22] at H
                                  exact absurd H (by simp)
                      · rw [if_neg c12] at H
                        exact absurd H (by simp)
                    · rw [if_neg c11] at H
                      have c11b0 : decide (x8_2 < (((rd_T41 l0 (rd l1 x6_1)).f3).length : Int)) = false := decide_eq_false c11
                      clear c11
                      have H' := Aside0.mk H
                      clear H
                      go_wp2
                      repeat (go_quiet (fail); try go_wp2)
                      go_roundg k2
                      case measure => have := HK1.out; have := HK2.out; omega
                      case rel => exact ⟨(x5_2), (wrap64 (x6_1 + 1)), (by first | rfl | (simp; done) | (simp [*]; done)), H', ⟨by have := HK1.out; have := HK2.out; omega⟩, ⟨by (with_reducible repeat (first | apply Kd.R_alloc | apply Kd.R_drewN | apply Kd.R_drew)); exact HO_5.out⟩, ⟨by repeat (first | (with_reducible first | exact HB.out | apply below_alloc | apply pw_below_drewN | apply below_drew1) | exact HB.out)⟩⟩
              · rw [if_neg c10] at H
                exact absurd H (by simp)
            · rw [if_neg c9] at H
              exact absurd H (by simp)
          · rw [if_neg c8] at H
            exact absurd H (by simp)
        · rw [if_neg c7] at H
          have c7b0 : decide (x6_1 < (l1.length : Int)) = false := decide_eq_false c7
          clear c7
          obtain rfl := Option.some.inj H
          go_wp2
          repeat (go_quiet (fail); try go_wp2)
          go_ret
          exact ⟨_, by first | rfl | (simp [errW_none, errW_some] <;> rfl) | (simp [*, errW_none, errW_some] <;> rfl), by (with_reducible repeat (first | apply Kd.R_alloc | apply Kd.R_drewN | apply Kd.R_drew)); exact HO_5.out, by repeat (first | (with_reducible first | exact HB.out | apply below_alloc | apply pw_below_drewN | apply below_drew1) | exact HB.out)⟩
  · rw [if_neg c3] at H
    exact absurd H (by simp)

/-! ### turnbuckleref05_Itself: function 28 -/
mutual
def turnbuckleref05_Itself.l0 : Nat → List (S41) → Int → List (S38) → List Int → Int → Option (Bool)
  | 0, _, _, _, _, _ => none
  | k + 1, x0, x1, x5, x6, x7 => if x7 < (x5.length : Int) then (if 0 ≤ x7 then (if ((rd_T38 x5 x7).f0) = 2 then (if x6.length < 17592186044416 then (turnbuckleref05_Itself.l0 k x0 x1 x5 (x6 ++ [(rd_T38 x5 x7).f2]) (wrap64 (x7 + 1))) else (none)) else (turnbuckleref05_Itself.l0 k x0 x1 x5 x6 (wrap64 (x7 + 1)))) else (none)) else (turnbuckleref05_Itself.l1 k x0 x1 x6 0)
def turnbuckleref05_Itself.l1 : Nat → List (S41) → Int → List Int → Int → Option (Bool)
  | 0, _, _, _, _ => none
  | k + 1, x0, x1, x6, x8 => if x8 < (x0.length : Int) then ((turnbuckleref05_Reached.f k x0 x6).bind fun t202 => (turnbuckleref05_Itself.l1 k x0 x1 t202 (wrap64 (x8 + 1)))) else (turnbuckleref05_Itself.l2 k x1 x6 0)
def turnbuckleref05_Itself.l2 : Nat → Int → List Int → Int → Option (Bool)
  | 0, _, _, _ => none
  | k + 1, x1, x6, x9 => if x9 < (x6.length : Int) then (if 0 ≤ x9 then (if (rd x6 x9) = x1 then (some true) else (turnbuckleref05_Itself.l2 k x1 x6 (wrap64 (x9 + 1)))) else (none)) else (some false)
end
def turnbuckleref05_Itself.f (k : Nat) (l0 : List (S41)) (a1 : Int) : Option (Bool) := if 0 ≤ a1 then (if a1 < (l0.length : Int) then (turnbuckleref05_Itself.l0 k l0 a1 ((rd_T41 l0 a1).f3) ([] : List Int) 0) else (none)) else (none)
theorem turnbuckleref05_Itself.mono_l : ∀ k, (∀ y0 y1 y2 y3 y4, LeO (turnbuckleref05_Itself.l0 k y0 y1 y2 y3 y4) (turnbuckleref05_Itself.l0 (k + 1) y0 y1 y2 y3 y4)) ∧ (∀ y0 y1 y2 y3, LeO (turnbuckleref05_Itself.l1 k y0 y1 y2 y3) (turnbuckleref05_Itself.l1 (k + 1) y0 y1 y2 y3)) ∧ (∀ y0 y1 y2, LeO (turnbuckleref05_Itself.l2 k y0 y1 y2) (turnbuckleref05_Itself.l2 (k + 1) y0 y1 y2))
  | 0 => ⟨fun _ _ _ _ _ r h => by simp [turnbuckleref05_Itself.l0] at h, fun _ _ _ _ r h => by simp [turnbuckleref05_Itself.l1] at h, fun _ _ _ r h => by simp [turnbuckleref05_Itself.l2] at h⟩
  | k + 1 => by
    obtain ⟨ih0, ih1, ih2⟩ := turnbuckleref05_Itself.mono_l k
    refine ⟨?_, ?_, ?_⟩
    · intro y0 y1 y2 y3 y4
      unfold turnbuckleref05_Itself.l0
      repeat' first
      | (with_reducible exact ih0 _ _ _ _ _)
      | (with_reducible exact ih1 _ _ _ _)
      | (with_reducible exact ih2 _ _ _)
      | (with_reducible exact turnbuckleref05_Reached.mono _ _ _)
      | (with_reducible exact LeO.refl _)
      | (with_reducible exact LeO.none _)
      | (with_reducible refine LeO.ite ?_ ?_)
      | (with_reducible refine LeO.bind ?_ (fun _ => ?_))
      | exact ih0 _ _ _ _ _
      | exact ih1 _ _ _ _
      | exact ih2 _ _ _
      | exact turnbuckleref05_Reached.mono _ _ _
      | exact LeO.none _
      | refine LeO.ite ?_ ?_
      | refine LeO.bind ?_ (fun _ => ?_)
    · intro y0 y1 y2 y3
      unfold turnbuckleref05_Itself.l1
      repeat' first
      | (with_reducible exact ih0 _ _ _ _ _)
      | (with_reducible exact ih1 _ _ _ _)
      | (with_reducible exact ih2 _ _ _)
      | (with_reducible exact turnbuckleref05_Reached.mono _ _ _)
      | (with_reducible exact LeO.refl _)
      | (with_reducible exact LeO.none _)
      | (with_reducible refine LeO.ite ?_ ?_)
      | (with_reducible refine LeO.bind ?_ (fun _ => ?_))
      | exact ih0 _ _ _ _ _
      | exact ih1 _ _ _ _
      | exact ih2 _ _ _
      | exact turnbuckleref05_Reached.mono _ _ _
      | exact LeO.none _
      | refine LeO.ite ?_ ?_
      | refine LeO.bind ?_ (fun _ => ?_)
    · intro y0 y1 y2
      unfold turnbuckleref05_Itself.l2
      repeat' first
      | (with_reducible exact ih0 _ _ _ _ _)
      | (with_reducible exact ih1 _ _ _ _)
      | (with_reducible exact ih2 _ _ _)
      | (with_reducible exact turnbuckleref05_Reached.mono _ _ _)
      | (with_reducible exact LeO.refl _)
      | (with_reducible exact LeO.none _)
      | (with_reducible refine LeO.ite ?_ ?_)
      | (with_reducible refine LeO.bind ?_ (fun _ => ?_))
      | exact ih0 _ _ _ _ _
      | exact ih1 _ _ _ _
      | exact ih2 _ _ _
      | exact turnbuckleref05_Reached.mono _ _ _
      | exact LeO.none _
      | refine LeO.ite ?_ ?_
      | refine LeO.bind ?_ (fun _ => ?_)
theorem turnbuckleref05_Itself.mono : ∀ a0 a1 k, LeO (turnbuckleref05_Itself.f k a0 a1) (turnbuckleref05_Itself.f (k + 1) a0 a1) := by
  intro a0 a1 k
  obtain ⟨ih0, ih1, ih2⟩ := turnbuckleref05_Itself.mono_l k
  unfold turnbuckleref05_Itself.f
  repeat' first
      | (with_reducible exact ih0 _ _ _ _ _)
      | (with_reducible exact ih1 _ _ _ _)
      | (with_reducible exact ih2 _ _ _)
      | (with_reducible exact turnbuckleref05_Reached.mono _ _ _)
      | (with_reducible exact LeO.refl _)
      | (with_reducible exact LeO.none _)
      | (with_reducible refine LeO.ite ?_ ?_)
      | (with_reducible refine LeO.bind ?_ (fun _ => ?_))
      | exact ih0 _ _ _ _ _
      | exact ih1 _ _ _ _
      | exact ih2 _ _ _
      | exact turnbuckleref05_Reached.mono _ _ _
      | exact LeO.none _
      | refine LeO.ite ?_ ?_
      | refine LeO.bind ?_ (fun _ => ?_)
set_option maxHeartbeats 8000000 in
set_option maxRecDepth 100000 in
theorem turnbuckleref05_Itself.calls (k : Nat) (A0 : Option Addr) (c0 : Nat) (l0 : List (S41)) (a1 : Int) (r : Bool) (w : World) (hr0 : Kd.C k41 w A0 l0.length l0) (hc0 : l0.length ≤ c0) (h : turnbuckleref05_Itself.f k l0 a1 = some r) :
    Calls Try.prog 28 #[.slice A0 l0.length c0, .int .i64 a1] w fun e w' => e = .returned (.bool r) ∧ Below w.heap.size w w' := by
  have HR0 := Aside0.mk hr0
  have HC0 := Aside0.mk hc0
  clear hr0 hc0
  have HB := Aside0.mk (Below.refl w.heap.size w)
  have H : (if 0 ≤ a1 then (if a1 < (l0.length : Int) then (turnbuckleref05_Itself.l0 k l0 a1 ((rd_T41 l0 a1).f3) ([] : List Int) 0) else (none)) else (none)) = some r := h
  clear h
  by_cases c3 : 0 ≤ a1
  · rw [if_pos c3] at H
    have c3b0 : decide (0 ≤ a1) = true := decide_eq_true c3
    clear c3
    by_cases c4 : a1 < (l0.length : Int)
    · rw [if_pos c4] at H
      have c4b0 : decide (a1 < (l0.length : Int)) = true := decide_eq_true c4
      clear c4
      have H' := Aside0.mk H
      clear H
      have p196 : 0 ≤ (a1 : Int) := of_decide_eq_true (by first | (with_reducible assumption) | assumption)
      have q196 : a1 < (l0.length : Int) := of_decide_eq_true (by first | (with_reducible assumption) | assumption)
      obtain ⟨ad196, A196_3, c196_3, e196, hx196_0, hx196_1, hx196_2, hx196_3, hl196_3, hi196_3⟩ := at_T41 HR0.out a1 p196 q196
      cases e196
      have HR196_3 := Aside0.mk hi196_3
      have HC196_3 := Aside0.mk hl196_3
      clear hi196_3 hl196_3
      replace p196 := eq_true p196
      replace q196 := eq_true q196
      go_enter Try.func28, Try.ntmps28
      go_wp2
      go_loopg [6, 7] k (fun kq v6 v7 w' => ∃ (x6_1 : List Int) (x7_1 : Int), v7 = .int .i64 x7_1 ∧ Aside0 (turnbuckleref05_Itself.l0 kq l0 a1 ((rd_T41 l0 a1).f3) x6_1 x7_1 = some r) ∧ Aside0 (kq ≤ k) ∧ Aside0 (Kd.R (Kd.int .i64) 3 w' w.heap.size (fun _ => True) v6 x6_1) ∧ Aside0 (Below w.heap.size w w'))
      case atStart => exact ⟨(([] : List Int)), (0), (by first | rfl | (simp; done) | (simp [*]; done)), H', ⟨Nat.le_refl _⟩, ⟨by first | exact Kd.R_nil _ _ _ _ _ | exact Kd.N_nil _ _ _ _ _ | exact Kd.V_nil _ _ _ _ _ | exact Kd.Q_nil _ _ _ _ _ | exact Kd.S_nil _ _ _ _ _⟩, ⟨by repeat (first | (with_reducible first | exact HB.out | apply below_alloc | apply pw_below_drewN | apply below_drew1) | exact HB.out)⟩⟩
      case round =>
        clear H'
        try clear c1
        try clear p1
        try clear q1
        try clear hx1
        try clear c2
        try clear p2
        try clear c3
        try clear c3b0
        try clear c4
        try clear c4b0
        try clear hx196_0
        try clear hx196_1
        try clear hx196_2
        try clear hx196_3
        try clear p196
        try clear q196
        obtain ⟨x6_1, x7_1, rfl, HA, HK1, HO_6, HB⟩ := hrel
        cases gk with
        | zero => exact absurd HA.out (by simp [turnbuckleref05_Itself.l0])
        | succ k1 =>
          have H := HA.out
          clear HA
          simp only [turnbuckleref05_Itself.l0] at H
          by_cases c5 : x7_1 < (((rd_T41 l0 a1).f3).length : Int)
          · rw [if_pos c5] at H
            have c5b0 : decide (x7_1 < (((rd_T41 l0 a1).f3).length : Int)) = true := decide_eq_true c5
            clear c5
            by_cases c6 : 0 ≤ x7_1
            · rw [if_pos c6] at H
              have c6b0 : decide (0 ≤ x7_1) = true := decide_eq_true c6
              clear c6
              by_cases c7 : ((rd_T38 ((rd_T41 l0 a1).f3) x7_1).f0) = 2
              · rw [if_pos c7] at H
                have c7b0 : (((rd_T38 ((rd_T41 l0 a1).f3) x7_1).f0) == 2) = true := beq_iff_eq.mpr c7
                have c7b1 : (((rd_T38 ((rd_T41 l0 a1).f3) x7_1).f0) != 2) = false := bne_eq_false_iff_eq.mpr c7
                clear c7
                by_cases c8 : x6_1.length < 17592186044416
                · rw [if_pos c8] at H
                  have LMc8 := Aside0.mk c8
                  clear c8
                  obtain ⟨y199, hy199⟩ : ∃ y_ : List Int, y_ = (x6_1 ++ [(rd_T38 ((rd_T41 l0 a1).f3) x7_1).f2]) := ⟨_, rfl⟩
                  replace H : (turnbuckleref05_Itself.l0 k1 l0 a1 ((rd_T41 l0 a1).f3) y199 (wrap64 (x7_1 + 1))) = some r := by first | (rw [hy199]; with_reducible exact H) | (have H2_ := (Option.bind_some _ _).symm.trans H; rw [hy199]; with_reducible exact H2_) | (have H2_ := (Option.bind_some _ _).symm.trans H; with_reducible exact H2_) | with_reducible exact H | (rw [hy199]; exact H) | exact H
                  have Ny199 := Aside0.mk hy199
                  clear hy199
                  have H' := Aside0.mk H
                  clear H
                  have p197 : 0 ≤ (x7_1 : Int) := of_decide_eq_true (by first | (with_reducible assumption) | assumption)
                  have q197 : x7_1 < (((rd_T41 l0 a1).f3).length : Int) := of_decide_eq_true (by first | (with_reducible assumption) | assumption)
                  obtain ⟨ad197, e197, hx197_0, hx197_1, hx197_2, hx197_3, hx197_4⟩ := at_T38 HR196_3.out x7_1 p197 q197
                  cases e197
                  replace hx197_0 := (HB.out.cell (World.block_lt_of_cell? w _ hx197_0)).trans hx197_0
                  replace hx197_1 := (HB.out.cell (World.block_lt_of_cell? w _ hx197_1)).trans hx197_1
                  replace hx197_2 := (HB.out.cell (World.block_lt_of_cell? w _ hx197_2)).trans hx197_2
                  replace hx197_3 := (HB.out.cell (World.block_lt_of_cell? w _ hx197_3)).trans hx197_3
                  replace hx197_4 := (HB.out.cell (World.block_lt_of_cell? w _ hx197_4)).trans hx197_4
                  replace p197 := eq_true p197
                  replace q197 := eq_true q197
                  have p198 : 0 ≤ (x7_1 : Int) := of_decide_eq_true (by first | (with_reducible assumption) | assumption)
                  have q198 : x7_1 < (((rd_T41 l0 a1).f3).length : Int) := of_decide_eq_true (by first | (with_reducible assumption) | assumption)
                  obtain ⟨ad198, e198, hx198_0, hx198_1, hx198_2, hx198_3, hx198_4⟩ := at_T38 HR196_3.out x7_1 p198 q198
                  obtain rfl : ad197 = ad198 := (by injection e198)
                  replace hx198_0 := (HB.out.cell (World.block_lt_of_cell? w _ hx198_0)).trans hx198_0
                  replace hx198_1 := (HB.out.cell (World.block_lt_of_cell? w _ hx198_1)).trans hx198_1
                  replace hx198_2 := (HB.out.cell (World.block_lt_of_cell? w _ hx198_2)).trans hx198_2
                  replace hx198_3 := (HB.out.cell (World.block_lt_of_cell? w _ hx198_3)).trans hx198_3
                  replace hx198_4 := (HB.out.cell (World.block_lt_of_cell? w _ hx198_4)).trans hx198_4
                  replace p198 := eq_true p198
                  replace q198 := eq_true q198
                  go_wp2_with (first | ((with_reducible refine gate_builtin (b := .append) (xs := #[.tmp 27, .tmp 33]) rfl ?_); at_builtin; refine Kd.R_append (Kd.int .i64) (w0 := w) w.heap.size rfl (.tmp 27) (.tmp 33) 42 3 (.int .i64 0) 8 rfl Try.underlying42 info3 rfl (by decide) (by omega) u6 x6_1 ((rd_T38 ((rd_T41 l0 a1).f3) x7_1).f2) [.int .i64 ((rd_T38 ((rd_T41 l0 a1).f3) x7_1).f2)] (fun _ => True) (fun _ => False) rfl rfl ?aP (fun _ hk => hk.elim) ?aF ?aO ?aB ?aS ?aL ?_; (case aP => exact rfl); (case aB => exact (by repeat (first | (with_reducible first | exact HB.out | apply below_alloc | apply pw_below_drewN | apply below_drew1) | exact HB.out))); (case aF => exact (fun _ _ => trivial)); (case aO => exact (by (with_reducible repeat (first | apply Kd.R_alloc | apply Kd.R_drewN | apply Kd.R_drew)); exact HO_6.out)); (case aS => exact (below_size (by repeat (first | (with_reducible first | exact HB.out | apply below_alloc | apply pw_below_drewN | apply below_drew1) | exact HB.out)))); (case aL => have := LMc8.out; omega); intro v200 w9 ho hb hg hat; rw [← Ny199.out] at ho; have n0_ := Aside0.mk (hb); have n1_ := Aside0.mk (ho); clear HB; clear HO_6; have HB := n0_; have HO201 := n1_; clear n0_ n1_; clear ho hb hg hat))
                  go_roundg k1
                  case measure => have := HK1.out; omega
                  case rel => exact ⟨(y199), (wrap64 (x7_1 + 1)), (by first | rfl | (simp; done) | (simp [*]; done)), H', ⟨by have := HK1.out; omega⟩, ⟨by (with_reducible repeat (first | apply Kd.R_alloc | apply Kd.R_drewN | apply Kd.R_drew)); exact HO201.out⟩, ⟨by repeat (first | (with_reducible first | exact HB.out | apply below_alloc | apply pw_below_drewN | apply below_drew1) | exact HB.out)⟩⟩
                · rw [if_neg c8] at H
                  exact absurd H (by simp)
              · rw [if_neg c7] at H
                have c7b0 : (((rd_T38 ((rd_T41 l0 a1).f3) x7_1).f0) == 2) = false := beq_eq_false_iff_ne.mpr c7
                have c7b1 : (((rd_T38 ((rd_T41 l0 a1).f3) x7_1).f0) != 2) = true := bne_iff_ne.mpr c7
                have H' := Aside0.mk H
                clear H
                have p197 : 0 ≤ (x7_1 : Int) := of_decide_eq_true (by first | (with_reducible assumption) | assumption)
                have q197 : x7_1 < (((rd_T41 l0 a1).f3).length : Int) := of_decide_eq_true (by first | (with_reducible assumption) | assumption)
                obtain ⟨ad197, e197, hx197_0, hx197_1, hx197_2, hx197_3, hx197_4⟩ := at_T38 HR196_3.out x7_1 p197 q197
                cases e197
                replace hx197_0 := (HB.out.cell (World.block_lt_of_cell? w _ hx197_0)).trans hx197_0
                replace hx197_1 := (HB.out.cell (World.block_lt_of_cell? w _ hx197_1)).trans hx197_1
                replace hx197_2 := (HB.out.cell (World.block_lt_of_cell? w _ hx197_2)).trans hx197_2
                replace hx197_3 := (HB.out.cell (World.block_lt_of_cell? w _ hx197_3)).trans hx197_3
                replace hx197_4 := (HB.out.cell (World.block_lt_of_cell? w _ hx197_4)).trans hx197_4
                replace p197 := eq_true p197
                replace q197 := eq_true q197
                go_wp2
                go_roundg k1
                case measure => have := HK1.out; omega
                case rel => exact ⟨(x6_1), (wrap64 (x7_1 + 1)), (by first | rfl | (simp; done) | (simp [*]; done)), H', ⟨by have := HK1.out; omega⟩, ⟨by (with_reducible repeat (first | apply Kd.R_alloc | apply Kd.R_drewN | apply Kd.R_drew)); exact HO_6.out⟩, ⟨by repeat (first | (with_reducible first | exact HB.out | apply below_alloc | apply pw_below_drewN | apply below_drew1) | exact HB.out)⟩⟩
            · rw [if_neg c6] at H
              exact absurd H (by simp)
          · rw [if_neg c5] at H
            have c5b0 : decide (x7_1 < (((rd_T41 l0 a1).f3).length : Int)) = false := decide_eq_false c5
            clear c5
            have H' := Aside0.mk H
            clear H
            go_wp2
            go_loopg [6, 8] k1 (fun kq v6 v8 w' => ∃ (x6_2 : List Int) (x8_2 : Int), v8 = .int .i64 x8_2 ∧ Aside0 (turnbuckleref05_Itself.l1 kq l0 a1 x6_2 x8_2 = some r) ∧ Aside0 (kq ≤ k1) ∧ Aside0 (Kd.R (Kd.int .i64) 3 w' w.heap.size (fun _ => True) v6 x6_2) ∧ Aside0 (Below w.heap.size w w'))
            case atStart => exact ⟨(x6_1), (0), (by first | rfl | (simp; done) | (simp [*]; done)), H', ⟨Nat.le_refl _⟩, ⟨by (with_reducible repeat (first | apply Kd.R_alloc | apply Kd.R_drewN | apply Kd.R_drew)); exact HO_6.out⟩, ⟨by repeat (first | (with_reducible first | exact HB.out | apply below_alloc | apply pw_below_drewN | apply below_drew1) | exact HB.out)⟩⟩
            case round =>
              clear H'
              try clear c1
              try clear p1
              try clear q1
              try clear hx1
              try clear c2
              try clear p2
              try clear c3
              try clear c3b0
              try clear c4
              try clear c4b0
              try clear c5
              try clear c5b0
              try clear c6
              try clear c6b0
              try clear p6
              try clear c7
              try clear c7b0
              try clear c7b1
              try clear c8
              try clear hx196_0
              try clear hx196_1
              try clear hx196_2
              try clear hx196_3
              try clear hx197_0
              try clear hx197_1
              try clear hx197_2
              try clear hx197_3
              try clear hx197_4
              try clear hx198_0
              try clear hx198_1
              try clear hx198_2
              try clear hx198_3
              try clear hx198_4
              try clear p1
              try clear p196
              try clear p197
              try clear p198
              try clear p2
              try clear q1
              try clear q196
              try clear q197
              try clear q198
              obtain ⟨x6_2, x8_2, rfl, HA, HK2, HO_6, HB⟩ := hrel
              cases gk with
              | zero => exact absurd HA.out (by simp [turnbuckleref05_Itself.l1])
              | succ k2 =>
                have H := HA.out
                clear HA
                simp only [turnbuckleref05_Itself.l1] at H
                by_cases c10 : x8_2 < (l0.length : Int)
                · rw [if_pos c10] at H
                  have c10b0 : decide (x8_2 < (l0.length : Int)) = true := decide_eq_true c10
                  clear c10
                  replace H := Option.bind_eq_some_iff.mp H
                  obtain ⟨t202, A110, H⟩ := H
                  replace H : (turnbuckleref05_Itself.l1 k2 l0 a1 t202 (wrap64 (x8_2 + 1))) = some r := H
                  have A11 := Aside0.mk A110
                  clear A110
                  have H' := Aside0.mk H
                  clear H
                  obtain ⟨Ao12, co12, eo12⟩ := Kd.R_slice HO_6.out
                  subst eo12
                  go_wp2_with (first | ((with_reducible refine gate_callee (f := 33) rfl ?_); refine goesL_ (some 43) rfl rfl Try.func33 (by kernel_rfl) rfl #[.slice (some ad196) l0.length c0, .slice Ao12 x6_2.length co12] rfl (by (try simp only [List.map_toArray, List.map_cons, List.map_nil]); first | done | rfl | (simp only [List.length_drop, List.length_take]; rfl)) ?_; (with_reducible refine (turnbuckleref05_Reached.calls k2 _ _ l0 _ _ x6_2 t202 _ ?side1 ?side2 ?side3 ?side4 A11.out).mono ?_); (case side1 => repeat (first | exact (Kd.C_below HR0.out HB.out) | (with_reducible refine Kd.C_alloc ?_ _) | (with_reducible refine Kd.C_drewN ?_ _) | (with_reducible refine Kd.C_drew ?_))); (case side2 => exact HC0.out); (case side3 => repeat (first | exact (Kd.R_reads' HO_6.out).2.2 | (with_reducible refine Kd.C_alloc ?_ _) | (with_reducible refine Kd.C_drewN ?_ _) | (with_reducible refine Kd.C_drew ?_))); (case side4 => exact (Kd.R_reads' HO_6.out).2.1); rintro e w13 ⟨v203, rfl, ho0, hb⟩; refine ⟨_, rfl, ?_⟩; have n0_ := Aside0.mk (Kd.R_elder' (by (with_reducible repeat (first | apply Kd.R_alloc | apply Kd.R_drewN | apply Kd.R_drew)); exact HO_6.out) (Kd.R_base ho0) hb); have n1_ := Aside0.mk (Kd.R_lower (Kd.R_new' ho0 (Kd.R_lt (by (with_reducible repeat (first | apply Kd.R_alloc | apply Kd.R_drewN | apply Kd.R_drew)); exact HO_6.out))) (below_size (by repeat (first | (with_reducible first | exact HB.out | apply below_alloc | apply pw_below_drewN | apply below_drew1) | exact HB.out)))); have n2_ := Aside0.mk (below_step (by repeat (first | (with_reducible first | exact HB.out | apply below_alloc | apply pw_below_drewN | apply below_drew1) | exact HB.out)) hb); clear HO_6; clear HB; have HO_6 := n0_; have HO204 := n1_; have HB := n2_; clear n0_ n1_ n2_; (try clear hb); (try clear hb2); (try clear hk); (try clear hi); (try clear ho0)))
                  go_roundg k2
                  case measure => have := HK1.out; have := HK2.out; omega
                  case rel => exact ⟨(t202), (wrap64 (x8_2 + 1)), (by first | rfl | (simp; done) | (simp [*]; done)), H', ⟨by have := HK1.out; have := HK2.out; omega⟩, ⟨by (with_reducible repeat (first | apply Kd.R_alloc | apply Kd.R_drewN | apply Kd.R_drew)); exact Kd.R_mono HO204.out (fun _ hk => trivial)⟩, ⟨by repeat (first | (with_reducible first | exact HB.out | apply below_alloc | apply pw_below_drewN | apply below_drew1) | exact HB.out)⟩⟩
                · rw [if_neg c10] at H
                  have c10b0 : decide (x8_2 < (l0.length : Int)) = false := decide_eq_false c10
                  clear c10
                  have H' := Aside0.mk H
                  clear H
                  go_wp2
                  go_loopg [9] k2 (fun kq v9 w' => ∃ (x9_3 : Int), v9 = .int .i64 x9_3 ∧ Aside0 (turnbuckleref05_Itself.l2 kq a1 x6_2 x9_3 = some r) ∧ Aside0 (kq ≤ k2) ∧ Aside0 (Kd.R (Kd.int .i64) 3 w' w.heap.size (fun _ => True) u6 x6_2) ∧ Aside0 (Below w.heap.size w w'))
                  case atStart => exact ⟨(0), (by first | rfl | (simp; done) | (simp [*]; done)), H', ⟨Nat.le_refl _⟩, ⟨by (with_reducible repeat (first | apply Kd.R_alloc | apply Kd.R_drewN | apply Kd.R_drew)); exact HO_6.out⟩, ⟨by repeat (first | (with_reducible first | exact HB.out | apply below_alloc | apply pw_below_drewN | apply below_drew1) | exact HB.out)⟩⟩
                  case round =>
                    clear H'
                    try clear c1
                    try clear p1
                    try clear q1
                    try clear hx1
                    try clear c2
                    try clear p2
                    try clear c3
                    try clear c3b0
                    try clear c4
                    try clear c4b0
                    try clear c5
                    try clear c5b0
                    try clear c6
                    try clear c6b0
                    try clear p6
                    try clear c7
                    try clear c7b0
                    try clear c7b1
                    try clear c8
                    try clear c10
                    try clear c10b0
                    try clear hx196_0
                    try clear hx196_1
                    try clear hx196_2
                    try clear hx196_3
                    try clear hx197_0
                    try clear hx197_1
                    try clear hx197_2
                    try clear hx197_3
                    try clear hx197_4
                    try clear hx198_0
                    try clear hx198_1
                    try clear hx198_2
                    try clear hx198_3
                    try clear hx198_4
                    try clear p1
                    try clear p196
                    try clear p197
                    try clear p198
                    try clear p2
                    try clear p6
                    try clear q1
                    try clear q196
                    try clear q197
                    try clear q198
                    obtain ⟨x9_3, rfl, HA, HK3, HO_6, HB⟩ := hrel
                    cases gk with
                    | zero => exact absurd HA.out (by simp [turnbuckleref05_Itself.l2])
                    | succ k3 =>
                      have H := HA.out
                      clear HA
                      simp only [turnbuckleref05_Itself.l2] at H
                      by_cases c14 : x9_3 < (x6_2.length : Int)
                      · rw [if_pos c14] at H
                        have c14b0 : decide (x9_3 < (x6_2.length : Int)) = true := decide_eq_true c14
                        clear c14
                        by_cases c15 : 0 ≤ x9_3
                        · rw [if_pos c15] at H
                          have c15b0 : decide (0 ≤ x9_3) = true := decide_eq_true c15
                          clear c15
                          by_cases c16 : (rd x6_2 x9_3) = a1
                          · rw [if_pos c16] at H
                            have c16b0 : ((rd x6_2 x9_3) == a1) = true := beq_iff_eq.mpr c16
                            have c16b1 : ((rd x6_2 x9_3) != a1) = false := bne_eq_false_iff_eq.mpr c16
                            clear c16
                            obtain rfl := Option.some.inj H
                            obtain ⟨Ao17, co17, eo17⟩ := Kd.R_slice HO_6.out
                            subst eo17
                            have p205 : 0 ≤ (x9_3 : Int) := of_decide_eq_true (by first | (with_reducible assumption) | assumption)
                            have q205 : x9_3 < (x6_2.length : Int) := of_decide_eq_true (by first | (with_reducible assumption) | assumption)
                            obtain ⟨ad205, e205, hx205_0⟩ := Kd.at_int (Kd.R_reads' HO_6.out).2.2 x9_3 p205 q205
                            cases e205
                            replace p205 := eq_true p205
                            replace q205 := eq_true q205
                            go_wp2
                            go_ret
                            exact ⟨by first | rfl | (simp [errW_none, errW_some] <;> rfl) | (simp [*, errW_none, errW_some] <;> rfl), by repeat (first | (with_reducible first | exact HB.out | apply below_alloc | apply pw_below_drewN | apply below_drew1) | exact HB.out)⟩
                          · rw [if_neg c16] at H
                            have c16b0 : ((rd x6_2 x9_3) == a1) = false := beq_eq_false_iff_ne.mpr c16
                            have c16b1 : ((rd x6_2 x9_3) != a1) = true := bne_iff_ne.mpr c16
                            have H' := Aside0.mk H
                            clear H
                            obtain ⟨Ao18, co18, eo18⟩ := Kd.R_slice HO_6.out
                            subst eo18
                            have p205 : 0 ≤ (x9_3 : Int) := of_decide_eq_true (by first | (with_reducible assumption) | assumption)
                            have q205 : x9_3 < (x6_2.length : Int) := of_decide_eq_true (by first | (with_reducible assumption) | assumption)
                            obtain ⟨ad205, e205, hx205_0⟩ := Kd.at_int (Kd.R_reads' HO_6.out).2.2 x9_3 p205 q205
                            cases e205
                            replace p205 := eq_true p205
                            replace q205 := eq_true q205
                            go_wp2
                            go_roundg k3
                            case measure => have := HK1.out; have := HK2.out; have := HK3.out; omega
                            case rel => exact ⟨(wrap64 (x9_3 + 1)), (by first | rfl | (simp; done) | (simp [*]; done)), H', ⟨by have := HK1.out; have := HK2.out; have := HK3.out; omega⟩, ⟨by (with_reducible repeat (first | apply Kd.R_alloc | apply Kd.R_drewN | apply Kd.R_drew)); exact HO_6.out⟩, ⟨by repeat (first | (with_reducible first | exact HB.out | apply below_alloc | apply pw_below_drewN | apply below_drew1) | exact HB.out)⟩⟩
                        · rw [if_neg c15] at H
                          exact absurd H (by simp)
                      · rw [if_neg c14] at H
                        have c14b0 : decide (x9_3 < (x6_2.length : Int)) = false := decide_eq_false c14
                        clear c14
                        obtain rfl := Option.some.inj H
                        obtain ⟨Ao19, co19, eo19⟩ := Kd.R_slice HO_6.out
                        subst eo19
                        go_wp2
                        go_ret
                        exact ⟨by first | rfl | (simp [errW_none, errW_some] <;> rfl) | (simp [*, errW_none, errW_some] <;> rfl), by repeat (first | (with_reducible first | exact HB.out | apply below_alloc | apply pw_below_drewN | apply below_drew1) | exact HB.out)⟩
    · rw [if_neg c4] at H
      exact absurd H (by simp)
  · rw [if_neg c3] at H
    exact absurd H (by simp)

end Go.Proofs.Ytckijljnomojiaa.PTypesParses
