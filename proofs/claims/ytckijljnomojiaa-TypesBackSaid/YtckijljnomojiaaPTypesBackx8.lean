-- laid by wip/tools/mkprint.py, a turned copy of the print
import Derived.Test.YtckijljnomojiaaPTypesBackx0
import Derived.Test.YtckijljnomojiaaPTypesBackx2
import Derived.Test.YtckijljnomojiaaPTypesBackx3
namespace Go.Proofs.Ytckijljnomojiaa.PTypesBack
open Go.RowKit Go.Proofs.YtckijljnomojiaaW.PrintWords Go.Proofs.YtckijljnomojiaaW.PrintLast Go.Proofs.YtckijljnomojiaaW.PrintMore
attribute [local go_sem] max2_int min2_int max_two min_two max_three min_three max_four min_four   -- for this text's walks alone
set_option linter.unusedVariables false
set_option linter.unusedSimpArgs false

/-! ### wire_Ints: function 20 -/
def wire_Ints.l0 : Nat → List Int → List Int → Int → Int → Option (List Int × Int)
  | 0, _, _, _, _ => none
  | k + 1, x4, x14, x15, x16 => if x16 < x15 then (if 0 ≤ x16 then (if x16 < (x14.length : Int) then (if (rd x14 x16) < 0 then (some (([] : List Int), 1)) else (if (rd x14 x16) > 2147483647 then (some (([] : List Int), 1)) else ((wire_Number.f (IntKind.u64.wrap (rd x14 x16))).bind fun t188 => (if x4.length + t188.length < 140737488355328 then (wire_Ints.l0 k (x4 ++ t188) x14 x15 (wrap64 (x16 + 1))) else (none))))) else (none)) else (none)) else (some (x4, 0))
def wire_Ints.f (k : Nat) (l0 : List Int) : Option (List Int × Int) := if (l0.length : Int) > 1000 then (some (([] : List Int), 11)) else ((wire_Number.f (IntKind.u64.wrap ((l0.length : Int)))).bind fun t184 => (wire_Ints.l0 k t184 l0 (l0.length : Int) 0))
theorem wire_Ints.mono_l : ∀ k, (∀ y0 y1 y2 y3, LeO (wire_Ints.l0 k y0 y1 y2 y3) (wire_Ints.l0 (k + 1) y0 y1 y2 y3))
  | 0 => fun _ _ _ _ r h => by simp [wire_Ints.l0] at h
  | k + 1 => by
    have ih0 := wire_Ints.mono_l k
    · intro y0 y1 y2 y3
      unfold wire_Ints.l0
      repeat' first
      | (with_reducible exact ih0 _ _ _ _)
      | (with_reducible exact LeO.refl _)
      | (with_reducible exact LeO.none _)
      | (with_reducible refine LeO.ite ?_ ?_)
      | (with_reducible refine LeO.bind ?_ (fun _ => ?_))
      | exact ih0 _ _ _ _
      | exact LeO.none _
      | refine LeO.ite ?_ ?_
      | refine LeO.bind ?_ (fun _ => ?_)
theorem wire_Ints.mono : ∀ a0 k, LeO (wire_Ints.f k a0) (wire_Ints.f (k + 1) a0) := by
  intro a0 k
  have ih0 := wire_Ints.mono_l k
  unfold wire_Ints.f
  repeat' first
      | (with_reducible exact ih0 _ _ _ _)
      | (with_reducible exact LeO.refl _)
      | (with_reducible exact LeO.none _)
      | (with_reducible refine LeO.ite ?_ ?_)
      | (with_reducible refine LeO.bind ?_ (fun _ => ?_))
      | exact ih0 _ _ _ _
      | exact LeO.none _
      | refine LeO.ite ?_ ?_
      | refine LeO.bind ?_ (fun _ => ?_)
set_option maxHeartbeats 8000000 in
set_option maxRecDepth 100000 in
theorem wire_Ints.calls (k : Nat) (A0 : Option Addr) (c0 : Nat) (l0 : List Int) (r1 : List Int) (r2 : Int) (w : World) (hr0 : Kd.C (Kd.int .i64) w A0 l0.length l0) (hc0 : l0.length ≤ c0) (h : wire_Ints.f k l0 = some (r1, r2)) :
    Calls Try.prog 20 #[.slice A0 l0.length c0] w fun e w' => ∃ v0_ : Value, e = .returned (.tuple #[v0_, .int .i64 r2]) ∧ Kd.R (Kd.int .u8) 5 w' w.heap.size (fun _ => True) v0_ r1 ∧ Below w.heap.size w w' := by
  have HR0 := Aside0.mk hr0
  have HC0 := Aside0.mk hc0
  clear hr0 hc0
  have HB := Aside0.mk (Below.refl w.heap.size w)
  have H : (if (l0.length : Int) > 1000 then (some (([] : List Int), 11)) else ((wire_Number.f (IntKind.u64.wrap ((l0.length : Int)))).bind fun t184 => (wire_Ints.l0 k t184 l0 (l0.length : Int) 0))) = some (r1, r2) := h
  clear h
  by_cases c2 : (l0.length : Int) > 1000
  · rw [if_pos c2] at H
    have c2b0 : decide (1000 < (l0.length : Int)) = true := decide_eq_true c2
    have c2b1 : decide (1000 < l0.length) = true := decide_eq_true (by omega)
    clear c2
    simp only [Option.some.injEq, Prod.mk.injEq] at H
    obtain ⟨rfl, rfl⟩ := H
    go_enter Try.func20, Try.ntmps20
    go_wp2
    go_ret2
    exact ⟨_, by first | rfl | (simp [errW_none, errW_some] <;> rfl) | (simp [*, errW_none, errW_some] <;> rfl), by first | exact Kd.R_nil _ _ _ _ _ | exact Kd.N_nil _ _ _ _ _ | exact Kd.V_nil _ _ _ _ _ | exact Kd.Q_nil _ _ _ _ _ | exact Kd.S_nil _ _ _ _ _, by repeat (first | (with_reducible first | exact HB.out | apply below_alloc | apply pw_below_drewN | apply below_drew1) | exact HB.out)⟩
  · rw [if_neg c2] at H
    have c2b0 : decide (1000 < (l0.length : Int)) = false := decide_eq_false c2
    have c2b1 : decide (1000 < l0.length) = false := decide_eq_false (by omega)
    clear c2
    replace H := Option.bind_eq_some_iff.mp H
    obtain ⟨t184, A30, H⟩ := H
    replace H : (wire_Ints.l0 k t184 l0 (l0.length : Int) 0) = some (r1, r2) := H
    have A3 := Aside0.mk A30
    clear A30
    have H' := Aside0.mk H
    clear H
    go_enter Try.func20, Try.ntmps20
    go_wp2_with (first | ((with_reducible refine gate_callee (f := 18) rfl ?_); refine goesL_ (some 13) rfl rfl Try.func18 (by kernel_rfl) rfl #[.int .u64 (IntKind.u64.wrap ((l0.length : Int)))] rfl (by (try simp only [List.map_toArray, List.map_cons, List.map_nil]); first | done | rfl | (simp only [List.length_drop, List.length_take]; rfl)) ?_; (with_reducible refine (wire_Number.calls (IntKind.u64.wrap ((l0.length : Int))) t184 _ A3.out).mono ?_); rintro e w4 ⟨v185, rfl, ho0, hb⟩; refine ⟨_, rfl, ?_⟩; have n0_ := Aside0.mk (Kd.R_lower ho0 (below_size (by repeat (first | (with_reducible first | exact HB.out | apply below_alloc | apply pw_below_drewN | apply below_drew1) | exact HB.out)))); have n1_ := Aside0.mk (below_step (by repeat (first | (with_reducible first | exact HB.out | apply below_alloc | apply pw_below_drewN | apply below_drew1) | exact HB.out)) hb); clear HB; have HO186 := n0_; have HB := n1_; clear n0_ n1_; (try clear hb); (try clear hb2); (try clear hk); (try clear hi); (try clear ho0)))
    go_loopg [4, 16] k (fun kq v4 v16 w' => ∃ (x4_1 : List Int) (x16_1 : Int), v16 = .int .i64 x16_1 ∧ Aside0 (wire_Ints.l0 kq x4_1 l0 (l0.length : Int) x16_1 = some (r1, r2)) ∧ Aside0 (kq ≤ k) ∧ Aside0 (Kd.R (Kd.int .u8) 5 w' w.heap.size (fun _ => True) v4 x4_1) ∧ Aside0 (Below w.heap.size w w'))
    case atStart => exact ⟨(t184), (0), (by first | rfl | (simp; done) | (simp [*]; done)), H', ⟨Nat.le_refl _⟩, ⟨by (with_reducible repeat (first | apply Kd.R_alloc | apply Kd.R_drewN | apply Kd.R_drew)); exact HO186.out⟩, ⟨by repeat (first | (with_reducible first | exact HB.out | apply below_alloc | apply pw_below_drewN | apply below_drew1) | exact HB.out)⟩⟩
    case round =>
      clear H'
      try clear c1
      try clear c2
      try clear c2b0
      try clear c2b1
      try clear p2
      obtain ⟨x4_1, x16_1, rfl, HA, HK1, HO_4, HB⟩ := hrel
      cases gk with
      | zero => exact absurd HA.out (by simp [wire_Ints.l0])
      | succ k1 =>
        have H := HA.out
        clear HA
        simp only [wire_Ints.l0] at H
        by_cases c5 : x16_1 < (l0.length : Int)
        · rw [if_pos c5] at H
          have c5b0 : decide (x16_1 < (l0.length : Int)) = true := decide_eq_true c5
          clear c5
          by_cases c6 : 0 ≤ x16_1
          · rw [if_pos c6] at H
            have c6b0 : decide (0 ≤ x16_1) = true := decide_eq_true c6
            clear c6
            by_cases c7 : x16_1 < (l0.length : Int)
            · rw [if_pos c7] at H
              have c7b0 : decide (x16_1 < (l0.length : Int)) = true := decide_eq_true c7
              clear c7
              by_cases c8 : (rd l0 x16_1) < 0
              · rw [if_pos c8] at H
                have c8b0 : decide ((rd l0 x16_1) < 0) = true := decide_eq_true c8
                clear c8
                simp only [Option.some.injEq, Prod.mk.injEq] at H
                obtain ⟨rfl, rfl⟩ := H
                have p187 : 0 ≤ (x16_1 : Int) := of_decide_eq_true (by first | (with_reducible assumption) | assumption)
                have q187 : x16_1 < (l0.length : Int) := of_decide_eq_true (by first | (with_reducible assumption) | assumption)
                obtain ⟨ad187, e187, hx187_0⟩ := Kd.at_int HR0.out x16_1 p187 q187
                cases e187
                replace hx187_0 := (HB.out.cell (World.block_lt_of_cell? w _ hx187_0)).trans hx187_0
                replace p187 := eq_true p187
                replace q187 := eq_true q187
                go_wp2
                go_ret2
                exact ⟨_, by first | rfl | (simp [errW_none, errW_some] <;> rfl) | (simp [*, errW_none, errW_some] <;> rfl), by first | exact Kd.R_nil _ _ _ _ _ | exact Kd.N_nil _ _ _ _ _ | exact Kd.V_nil _ _ _ _ _ | exact Kd.Q_nil _ _ _ _ _ | exact Kd.S_nil _ _ _ _ _, by repeat (first | (with_reducible first | exact HB.out | apply below_alloc | apply pw_below_drewN | apply below_drew1) | exact HB.out)⟩
              · rw [if_neg c8] at H
                have c8b0 : decide ((rd l0 x16_1) < 0) = false := decide_eq_false c8
                clear c8
                by_cases c9 : (rd l0 x16_1) > 2147483647
                · rw [if_pos c9] at H
                  have c9b0 : decide (2147483647 < (rd l0 x16_1)) = true := decide_eq_true c9
                  clear c9
                  simp only [Option.some.injEq, Prod.mk.injEq] at H
                  obtain ⟨rfl, rfl⟩ := H
                  have p187 : 0 ≤ (x16_1 : Int) := of_decide_eq_true (by first | (with_reducible assumption) | assumption)
                  have q187 : x16_1 < (l0.length : Int) := of_decide_eq_true (by first | (with_reducible assumption) | assumption)
                  obtain ⟨ad187, e187, hx187_0⟩ := Kd.at_int HR0.out x16_1 p187 q187
                  cases e187
                  replace hx187_0 := (HB.out.cell (World.block_lt_of_cell? w _ hx187_0)).trans hx187_0
                  replace p187 := eq_true p187
                  replace q187 := eq_true q187
                  go_wp2
                  go_ret2
                  exact ⟨_, by first | rfl | (simp [errW_none, errW_some] <;> rfl) | (simp [*, errW_none, errW_some] <;> rfl), by first | exact Kd.R_nil _ _ _ _ _ | exact Kd.N_nil _ _ _ _ _ | exact Kd.V_nil _ _ _ _ _ | exact Kd.Q_nil _ _ _ _ _ | exact Kd.S_nil _ _ _ _ _, by repeat (first | (with_reducible first | exact HB.out | apply below_alloc | apply pw_below_drewN | apply below_drew1) | exact HB.out)⟩
                · rw [if_neg c9] at H
                  have c9b0 : decide (2147483647 < (rd l0 x16_1)) = false := decide_eq_false c9
                  clear c9
                  replace H := Option.bind_eq_some_iff.mp H
                  obtain ⟨t188, A100, H⟩ := H
                  replace H : (if x4_1.length + t188.length < 140737488355328 then (wire_Ints.l0 k1 (x4_1 ++ t188) l0 (l0.length : Int) (wrap64 (x16_1 + 1))) else (none)) = some (r1, r2) := H
                  have A10 := Aside0.mk A100
                  clear A100
                  by_cases c11 : x4_1.length + t188.length < 140737488355328
                  · rw [if_pos c11] at H
                    have LMc11 := Aside0.mk c11
                    clear c11
                    obtain ⟨y191, hy191⟩ : ∃ y_ : List Int, y_ = (x4_1 ++ t188) := ⟨_, rfl⟩
                    replace H : (wire_Ints.l0 k1 y191 l0 (l0.length : Int) (wrap64 (x16_1 + 1))) = some (r1, r2) := by first | (rw [hy191]; with_reducible exact H) | (have H2_ := (Option.bind_some _ _).symm.trans H; rw [hy191]; with_reducible exact H2_) | (have H2_ := (Option.bind_some _ _).symm.trans H; with_reducible exact H2_) | with_reducible exact H | (rw [hy191]; exact H) | exact H
                    have Ny191 := Aside0.mk hy191
                    clear hy191
                    have H' := Aside0.mk H
                    clear H
                    have p187 : 0 ≤ (x16_1 : Int) := of_decide_eq_true (by first | (with_reducible assumption) | assumption)
                    have q187 : x16_1 < (l0.length : Int) := of_decide_eq_true (by first | (with_reducible assumption) | assumption)
                    obtain ⟨ad187, e187, hx187_0⟩ := Kd.at_int HR0.out x16_1 p187 q187
                    cases e187
                    replace hx187_0 := (HB.out.cell (World.block_lt_of_cell? w _ hx187_0)).trans hx187_0
                    replace p187 := eq_true p187
                    replace q187 := eq_true q187
                    go_wp2_with (first | ((with_reducible refine gate_callee (f := 18) rfl ?_); refine goesL_ (some 29) rfl rfl Try.func18 (by kernel_rfl) rfl #[.int .u64 (IntKind.u64.wrap (rd l0 x16_1))] rfl (by (try simp only [List.map_toArray, List.map_cons, List.map_nil]); first | done | rfl | (simp only [List.length_drop, List.length_take]; rfl)) ?_; (with_reducible refine (wire_Number.calls (IntKind.u64.wrap (rd l0 x16_1)) t188 _ A10.out).mono ?_); rintro e w12 ⟨v189, rfl, ho0, hb⟩; refine ⟨_, rfl, ?_⟩; have n0_ := Aside0.mk (Kd.R_elder' (by (with_reducible repeat (first | apply Kd.R_alloc | apply Kd.R_drewN | apply Kd.R_drew)); exact HO_4.out) (Kd.R_base ho0) hb); have n1_ := Aside0.mk (Kd.R_lower (Kd.R_new' ho0 (Kd.R_lt (by (with_reducible repeat (first | apply Kd.R_alloc | apply Kd.R_drewN | apply Kd.R_drew)); exact HO_4.out))) (below_size (by repeat (first | (with_reducible first | exact HB.out | apply below_alloc | apply pw_below_drewN | apply below_drew1) | exact HB.out)))); have n2_ := Aside0.mk (below_step (by repeat (first | (with_reducible first | exact HB.out | apply below_alloc | apply pw_below_drewN | apply below_drew1) | exact HB.out)) hb); clear HO_4; clear HB; have HO_4 := n0_; have HO190 := n1_; have HB := n2_; clear n0_ n1_ n2_; (try clear hb); (try clear hb2); (try clear hk); (try clear hi); (try clear ho0); obtain ⟨Ao14, co14, eo14⟩ := Kd.R_slice HO190.out; subst eo14) | ((with_reducible refine gate_builtin (b := .append) (xs := #[.tmp 26, .tmp 29]) rfl ?_); at_builtin; refine Kd.R_append_rows (Kd.int .u8) (w0 := w) w.heap.size rfl (.tmp 26) (.tmp 29) 22 5 (.int .u8 0) 1 rfl Try.underlying22 info5 rfl (by decide) (by omega) u4 x4_1 t188 _ _ _ (fun k_ => some k_ ≠ (.slice Ao14 t188.length co14 : Value).ownBlock) (fun _ => False) rfl rfl ?aO ?aR (fun _ _ h => h) (fun _ h => h.elim) ?aF ?aB ?aS ?aL ?_; (case aR => repeat (first | exact (Kd.R_reads' HO190.out).2.2 | (with_reducible refine Kd.C_alloc ?_ _) | (with_reducible refine Kd.C_drewN ?_ _) | (with_reducible refine Kd.C_drew ?_))); (case aB => exact (by repeat (first | (with_reducible first | exact HB.out | apply below_alloc | apply pw_below_drewN | apply below_drew1) | exact HB.out))); (case aF => exact (fun k_ hk => Kd.fresh' (Kd.R_lt (by (with_reducible repeat (first | apply Kd.R_alloc | apply Kd.R_drewN | apply Kd.R_drew)); exact HO190.out)) k_ hk)); (case aO => exact (by (with_reducible repeat (first | apply Kd.R_alloc | apply Kd.R_drewN | apply Kd.R_drew)); exact Kd.R_mono HO_4.out (fun _ hk => hk.2))); (case aS => exact (below_size (by repeat (first | (with_reducible first | exact HB.out | apply below_alloc | apply pw_below_drewN | apply below_drew1) | exact HB.out)))); (case aL => have := LMc11.out; omega); intro v192 w13 ho hb hg hat; rw [← Ny191.out] at ho; have n0_ := Aside0.mk (Kd.R_after (ok := (fun _ => True)) (by (with_reducible repeat (first | apply Kd.R_alloc | apply Kd.R_drewN | apply Kd.R_drew)); exact HO190.out) hg hat); have n1_ := Aside0.mk (hb); have n2_ := Aside0.mk (ho); clear HO190; clear HB; clear HO_4; have HO190 := n0_; have HB := n1_; have HO193 := n2_; clear n0_ n1_ n2_; clear ho hb hg hat))
                    go_roundg k1
                    case measure => have := HK1.out; omega
                    case rel => exact ⟨(y191), (wrap64 (x16_1 + 1)), (by first | rfl | (simp; done) | (simp [*]; done)), H', ⟨by have := HK1.out; omega⟩, ⟨by (with_reducible repeat (first | apply Kd.R_alloc | apply Kd.R_drewN | apply Kd.R_drew)); exact Kd.R_mono HO193.out (fun _ hk => trivial)⟩, ⟨by repeat (first | (with_reducible first | exact HB.out | apply below_alloc | apply pw_below_drewN | apply below_drew1) | exact HB.out)⟩⟩
                  · rw [if_neg c11] at H
                    exact absurd H (by simp)
            · rw [if_neg c7] at H
              exact absurd H (by simp)
          · rw [if_neg c6] at H
            exact absurd H (by simp)
        · rw [if_neg c5] at H
          have c5b0 : decide (x16_1 < (l0.length : Int)) = false := decide_eq_false c5
          clear c5
          simp only [Option.some.injEq, Prod.mk.injEq] at H
          obtain ⟨rfl, rfl⟩ := H
          go_wp2
          go_ret2
          exact ⟨_, by first | rfl | (simp [errW_none, errW_some] <;> rfl) | (simp [*, errW_none, errW_some] <;> rfl), by (with_reducible repeat (first | apply Kd.R_alloc | apply Kd.R_drewN | apply Kd.R_drew)); exact HO_4.out, by repeat (first | (with_reducible first | exact HB.out | apply below_alloc | apply pw_below_drewN | apply below_drew1) | exact HB.out)⟩

/-! ### types_Bytes: function 9 -/
mutual
def types_Bytes.l0 : Nat → List Int → List (S41) → Int → Int → Option (List Int × Int)
  | 0, _, _, _, _ => none
  | k + 1, x6, x29, x30, x31 => if x31 < x30 then (if 0 ≤ x31 then (if x31 < (x29.length : Int) then ((wire_Text.f ((rd_T41 x29 x31).f0)).bind fun bt201 => (if (rd_T41 x29 x31).f1 = true then (types_Bytes.j1 k x6 bt201.1 (0 + 1) x29 x30 x31 ((rd_T41 x29 x31).f0) ((rd_T41 x29 x31).f1) ((rd_T41 x29 x31).f2) ((rd_T41 x29 x31).f3)) else (types_Bytes.j1 k x6 bt201.1 0 x29 x30 x31 ((rd_T41 x29 x31).f0) ((rd_T41 x29 x31).f1) ((rd_T41 x29 x31).f2) ((rd_T41 x29 x31).f3)))) else (none)) else (none)) else (some (x6, 0))
def types_Bytes.j1 : Nat → List Int → List Int → Int → List (S41) → Int → Int → ByteArray → Bool → Bool → List (S38) → Option (List Int × Int)
  | 0, _, _, _, _, _, _, _, _, _, _ => none
  | k + 1, x6, x9, x11, x29, x30, x31, x201000, x201001, x201002, x201003 => if x201002 = true then (types_Bytes.j2 k x6 x9 (wrap64 (x11 + 2)) x29 x30 x31 x201000 x201001 x201002 x201003) else (types_Bytes.j2 k x6 x9 x11 x29 x30 x31 x201000 x201001 x201002 x201003)
def types_Bytes.j2 : Nat → List Int → List Int → Int → List (S41) → Int → Int → ByteArray → Bool → Bool → List (S38) → Option (List Int × Int)
  | 0, _, _, _, _, _, _, _, _, _, _ => none
  | k + 1, x6, x9, x11, x29, x30, x31, x201000, x201001, x201002, x201003 => types_Bytes.l1 k x6 x9 (([x11] : List Int)) x29 x30 x31 x201003 (x201003.length : Int) 0
def types_Bytes.l1 : Nat → List Int → List Int → List Int → List (S41) → Int → Int → List (S38) → Int → Int → Option (List Int × Int)
  | 0, _, _, _, _, _, _, _, _, _ => none
  | k + 1, x6, x9, x12, x29, x30, x31, x52, x53, x54 => if x54 < x53 then (if 0 ≤ x54 then (if x54 < (x52.length : Int) then ((some (([(rd_T38 x52 x54).f0, (rd_T38 x52 x54).f1, (rd_T38 x52 x54).f2, (rd_T38 x52 x54).f3, (rd_T38 x52 x54).f4] : List Int) : List Int)).bind fun y210 => (if x12.length + y210.length < 17592186044416 then (types_Bytes.l1 k x6 x9 (x12 ++ y210) x29 x30 x31 x52 x53 (wrap64 (x54 + 1))) else (none))) else (none)) else (none)) else ((wire_Ints.f k x12).bind fun bt216 => (if x6.length + x9.length < 140737488355328 then ((some (x6 ++ x9 : List Int)).bind fun y220 => (if y220.length + bt216.1.length < 140737488355328 then (types_Bytes.l0 k (y220 ++ bt216.1) x29 x30 (wrap64 (x31 + 1))) else (none))) else (none)))
end
def types_Bytes.f (k : Nat) (l0 : List (S41)) : Option (List Int × Int) := (types_Check.f l0).bind fun bt194 => (if bt194.2 = 0 then ((wire_Number.f (IntKind.u64.wrap ((l0.length : Int)))).bind fun t196 => (types_Bytes.l0 k t196 l0 (l0.length : Int) 0)) else (some (([] : List Int), bt194.2)))
theorem types_Bytes.mono_l : ∀ k, (∀ y0 y1 y2 y3, LeO (types_Bytes.l0 k y0 y1 y2 y3) (types_Bytes.l0 (k + 1) y0 y1 y2 y3)) ∧ (∀ y0 y1 y2 y3 y4 y5 y6 y7 y8 y9, LeO (types_Bytes.j1 k y0 y1 y2 y3 y4 y5 y6 y7 y8 y9) (types_Bytes.j1 (k + 1) y0 y1 y2 y3 y4 y5 y6 y7 y8 y9)) ∧ (∀ y0 y1 y2 y3 y4 y5 y6 y7 y8 y9, LeO (types_Bytes.j2 k y0 y1 y2 y3 y4 y5 y6 y7 y8 y9) (types_Bytes.j2 (k + 1) y0 y1 y2 y3 y4 y5 y6 y7 y8 y9)) ∧ (∀ y0 y1 y2 y3 y4 y5 y6 y7 y8, LeO (types_Bytes.l1 k y0 y1 y2 y3 y4 y5 y6 y7 y8) (types_Bytes.l1 (k + 1) y0 y1 y2 y3 y4 y5 y6 y7 y8))
  | 0 => ⟨fun _ _ _ _ r h => by simp [types_Bytes.l0] at h, fun _ _ _ _ _ _ _ _ _ _ r h => by simp [types_Bytes.j1] at h, fun _ _ _ _ _ _ _ _ _ _ r h => by simp [types_Bytes.j2] at h, fun _ _ _ _ _ _ _ _ _ r h => by simp [types_Bytes.l1] at h⟩
  | k + 1 => by
    obtain ⟨ih0, ih1, ih2, ih3⟩ := types_Bytes.mono_l k
    refine ⟨?_, ?_, ?_, ?_⟩
    · intro y0 y1 y2 y3
      unfold types_Bytes.l0
      repeat' first
      | (with_reducible exact ih0 _ _ _ _)
      | (with_reducible exact ih1 _ _ _ _ _ _ _ _ _ _)
      | (with_reducible exact ih2 _ _ _ _ _ _ _ _ _ _)
      | (with_reducible exact ih3 _ _ _ _ _ _ _ _ _)
      | (with_reducible exact wire_Ints.mono _ _)
      | (with_reducible exact LeO.refl _)
      | (with_reducible exact LeO.none _)
      | (with_reducible refine LeO.ite ?_ ?_)
      | (with_reducible refine LeO.bind ?_ (fun _ => ?_))
      | exact ih0 _ _ _ _
      | exact ih1 _ _ _ _ _ _ _ _ _ _
      | exact ih2 _ _ _ _ _ _ _ _ _ _
      | exact ih3 _ _ _ _ _ _ _ _ _
      | exact wire_Ints.mono _ _
      | exact LeO.none _
      | refine LeO.ite ?_ ?_
      | refine LeO.bind ?_ (fun _ => ?_)
    · intro y0 y1 y2 y3 y4 y5 y6 y7 y8 y9
      unfold types_Bytes.j1
      repeat' first
      | (with_reducible exact ih0 _ _ _ _)
      | (with_reducible exact ih1 _ _ _ _ _ _ _ _ _ _)
      | (with_reducible exact ih2 _ _ _ _ _ _ _ _ _ _)
      | (with_reducible exact ih3 _ _ _ _ _ _ _ _ _)
      | (with_reducible exact wire_Ints.mono _ _)
      | (with_reducible exact LeO.refl _)
      | (with_reducible exact LeO.none _)
      | (with_reducible refine LeO.ite ?_ ?_)
      | (with_reducible refine LeO.bind ?_ (fun _ => ?_))
      | exact ih0 _ _ _ _
      | exact ih1 _ _ _ _ _ _ _ _ _ _
      | exact ih2 _ _ _ _ _ _ _ _ _ _
      | exact ih3 _ _ _ _ _ _ _ _ _
      | exact wire_Ints.mono _ _
      | exact LeO.none _
      | refine LeO.ite ?_ ?_
      | refine LeO.bind ?_ (fun _ => ?_)
    · intro y0 y1 y2 y3 y4 y5 y6 y7 y8 y9
      unfold types_Bytes.j2
      repeat' first
      | (with_reducible exact ih0 _ _ _ _)
      | (with_reducible exact ih1 _ _ _ _ _ _ _ _ _ _)
      | (with_reducible exact ih2 _ _ _ _ _ _ _ _ _ _)
      | (with_reducible exact ih3 _ _ _ _ _ _ _ _ _)
      | (with_reducible exact wire_Ints.mono _ _)
      | (with_reducible exact LeO.refl _)
      | (with_reducible exact LeO.none _)
      | (with_reducible refine LeO.ite ?_ ?_)
      | (with_reducible refine LeO.bind ?_ (fun _ => ?_))
      | exact ih0 _ _ _ _
      | exact ih1 _ _ _ _ _ _ _ _ _ _
      | exact ih2 _ _ _ _ _ _ _ _ _ _
      | exact ih3 _ _ _ _ _ _ _ _ _
      | exact wire_Ints.mono _ _
      | exact LeO.none _
      | refine LeO.ite ?_ ?_
      | refine LeO.bind ?_ (fun _ => ?_)
    · intro y0 y1 y2 y3 y4 y5 y6 y7 y8
      unfold types_Bytes.l1
      repeat' first
      | (with_reducible exact ih0 _ _ _ _)
      | (with_reducible exact ih1 _ _ _ _ _ _ _ _ _ _)
      | (with_reducible exact ih2 _ _ _ _ _ _ _ _ _ _)
      | (with_reducible exact ih3 _ _ _ _ _ _ _ _ _)
      | (with_reducible exact wire_Ints.mono _ _)
      | (with_reducible exact LeO.refl _)
      | (with_reducible exact LeO.none _)
      | (with_reducible refine LeO.ite ?_ ?_)
      | (with_reducible refine LeO.bind ?_ (fun _ => ?_))
      | exact ih0 _ _ _ _
      | exact ih1 _ _ _ _ _ _ _ _ _ _
      | exact ih2 _ _ _ _ _ _ _ _ _ _
      | exact ih3 _ _ _ _ _ _ _ _ _
      | exact wire_Ints.mono _ _
      | exact LeO.none _
      | refine LeO.ite ?_ ?_
      | refine LeO.bind ?_ (fun _ => ?_)
theorem types_Bytes.mono : ∀ a0 k, LeO (types_Bytes.f k a0) (types_Bytes.f (k + 1) a0) := by
  intro a0 k
  obtain ⟨ih0, ih1, ih2, ih3⟩ := types_Bytes.mono_l k
  unfold types_Bytes.f
  repeat' first
      | (with_reducible exact ih0 _ _ _ _)
      | (with_reducible exact ih1 _ _ _ _ _ _ _ _ _ _)
      | (with_reducible exact ih2 _ _ _ _ _ _ _ _ _ _)
      | (with_reducible exact ih3 _ _ _ _ _ _ _ _ _)
      | (with_reducible exact wire_Ints.mono _ _)
      | (with_reducible exact LeO.refl _)
      | (with_reducible exact LeO.none _)
      | (with_reducible refine LeO.ite ?_ ?_)
      | (with_reducible refine LeO.bind ?_ (fun _ => ?_))
      | exact ih0 _ _ _ _
      | exact ih1 _ _ _ _ _ _ _ _ _ _
      | exact ih2 _ _ _ _ _ _ _ _ _ _
      | exact ih3 _ _ _ _ _ _ _ _ _
      | exact wire_Ints.mono _ _
      | exact LeO.none _
      | refine LeO.ite ?_ ?_
      | refine LeO.bind ?_ (fun _ => ?_)
set_option maxHeartbeats 8000000 in
set_option maxRecDepth 100000 in
theorem types_Bytes.calls (k : Nat) (A0 : Option Addr) (c0 : Nat) (l0 : List (S41)) (r1 : List Int) (r2 : Int) (w : World) (hr0 : Kd.C k41 w A0 l0.length l0) (hc0 : l0.length ≤ c0) (h : types_Bytes.f k l0 = some (r1, r2)) :
    Calls Try.prog 9 #[.slice A0 l0.length c0] w fun e w' => ∃ v0_ : Value, e = .returned (.tuple #[v0_, .int .i64 r2]) ∧ Kd.R (Kd.int .u8) 5 w' w.heap.size (fun _ => True) v0_ r1 ∧ Below w.heap.size w w' := by
  have hu41 := Try.underlying41
  have hu38 := Try.underlying38
  have HR0 := Aside0.mk hr0
  have HC0 := Aside0.mk hc0
  clear hr0 hc0
  have HB := Aside0.mk (Below.refl w.heap.size w)
  have H : ((types_Check.f l0).bind fun bt194 => (if bt194.2 = 0 then ((wire_Number.f (IntKind.u64.wrap ((l0.length : Int)))).bind fun t196 => (types_Bytes.l0 k t196 l0 (l0.length : Int) 0)) else (some (([] : List Int), bt194.2)))) = some (r1, r2) := h
  clear h
  replace H := Option.bind_eq_some_iff.mp H
  obtain ⟨⟨t194, t195⟩, A20, H⟩ := H
  replace H : (if t195 = 0 then ((wire_Number.f (IntKind.u64.wrap ((l0.length : Int)))).bind fun t196 => (types_Bytes.l0 k t196 l0 (l0.length : Int) 0)) else (some (([] : List Int), t195))) = some (r1, r2) := H
  have A2 := Aside0.mk A20
  clear A20
  by_cases c3 : t195 = 0
  · rw [if_pos c3] at H
    have c3b0 : (t195 == 0) = true := beq_iff_eq.mpr c3
    have c3b1 : (t195 != 0) = false := bne_eq_false_iff_eq.mpr c3
    clear c3
    replace H := Option.bind_eq_some_iff.mp H
    obtain ⟨t196, A40, H⟩ := H
    replace H : (types_Bytes.l0 k t196 l0 (l0.length : Int) 0) = some (r1, r2) := H
    have A4 := Aside0.mk A40
    clear A40
    have H' := Aside0.mk H
    clear H
    go_enter Try.func9, Try.ntmps9
    go_wp2_with (first | ((with_reducible refine gate_callee (f := 10) rfl ?_); refine goesL_ (some 19) rfl rfl Try.func10 (by kernel_rfl) rfl #[.slice A0 l0.length c0] rfl (by (try simp only [List.map_toArray, List.map_cons, List.map_nil]); first | done | rfl | (simp only [List.length_drop, List.length_take]; rfl)) ?_; (with_reducible refine (types_Check.calls _ _ l0 t194 t195 _ ?side1 ?side2 A2.out).mono ?_); (case side1 => repeat (first | exact HR0.out | (with_reducible refine Kd.C_alloc ?_ _) | (with_reducible refine Kd.C_drewN ?_ _) | (with_reducible refine Kd.C_drew ?_))); (case side2 => exact HC0.out); rintro e w5 ⟨rfl, hb⟩; refine ⟨_, rfl, ?_⟩; have n0_ := Aside0.mk (below_step (by repeat (first | (with_reducible first | exact HB.out | apply below_alloc | apply pw_below_drewN | apply below_drew1) | exact HB.out)) hb); clear HB; have HB := n0_; clear n0_; (try clear hb); (try clear hb2); (try clear hk); (try clear hi)) | ((with_reducible refine gate_callee (f := 18) rfl ?_); refine goesL_ (some 28) rfl rfl Try.func18 (by kernel_rfl) rfl #[.int .u64 (IntKind.u64.wrap ((l0.length : Int)))] rfl (by (try simp only [List.map_toArray, List.map_cons, List.map_nil]); first | done | rfl | (simp only [List.length_drop, List.length_take]; rfl)) ?_; (with_reducible refine (wire_Number.calls (IntKind.u64.wrap ((l0.length : Int))) t196 _ A4.out).mono ?_); rintro e w6 ⟨v197, rfl, ho0, hb⟩; refine ⟨_, rfl, ?_⟩; have n0_ := Aside0.mk (Kd.R_lower ho0 (below_size (by repeat (first | (with_reducible first | exact HB.out | apply below_alloc | apply pw_below_drewN | apply below_drew1) | exact HB.out)))); have n1_ := Aside0.mk (below_step (by repeat (first | (with_reducible first | exact HB.out | apply below_alloc | apply pw_below_drewN | apply below_drew1) | exact HB.out)) hb); clear HB; have HO198 := n0_; have HB := n1_; clear n0_ n1_; (try clear hb); (try clear hb2); (try clear hk); (try clear hi); (try clear ho0)))
    go_loopg [6, 31] k (fun kq v6 v31 w' => ∃ (x6_1 : List Int) (x31_1 : Int), v31 = .int .i64 x31_1 ∧ Aside0 (types_Bytes.l0 kq x6_1 l0 (l0.length : Int) x31_1 = some (r1, r2)) ∧ Aside0 (kq ≤ k) ∧ Aside0 (Kd.R (Kd.int .u8) 5 w' w.heap.size (fun _ => True) v6 x6_1) ∧ Aside0 (Below w.heap.size w w'))
    case atStart => exact ⟨(t196), (0), (by first | rfl | (simp; done) | (simp [*]; done)), H', ⟨Nat.le_refl _⟩, ⟨by (with_reducible repeat (first | apply Kd.R_alloc | apply Kd.R_drewN | apply Kd.R_drew)); exact HO198.out⟩, ⟨by repeat (first | (with_reducible first | exact HB.out | apply below_alloc | apply pw_below_drewN | apply below_drew1) | exact HB.out)⟩⟩
    case round =>
      clear H'
      try clear c1
      try clear p2
      try clear c3
      try clear c3b0
      try clear c3b1
      obtain ⟨x6_1, x31_1, rfl, HA, HK1, HO_6, HB⟩ := hrel
      cases gk with
      | zero => exact absurd HA.out (by simp [types_Bytes.l0])
      | succ k1 =>
        have H := HA.out
        clear HA
        simp only [types_Bytes.l0] at H
        by_cases c7 : x31_1 < (l0.length : Int)
        · rw [if_pos c7] at H
          have c7b0 : decide (x31_1 < (l0.length : Int)) = true := decide_eq_true c7
          clear c7
          by_cases c8 : 0 ≤ x31_1
          · rw [if_pos c8] at H
            have c8b0 : decide (0 ≤ x31_1) = true := decide_eq_true c8
            clear c8
            by_cases c9 : x31_1 < (l0.length : Int)
            · rw [if_pos c9] at H
              have c9b0 : decide (x31_1 < (l0.length : Int)) = true := decide_eq_true c9
              clear c9
              replace H := Option.bind_eq_some_iff.mp H
              obtain ⟨⟨t201, t202⟩, A100, H⟩ := H
              replace H : (if (rd_T41 l0 x31_1).f1 = true then (types_Bytes.j1 k1 x6_1 t201 (0 + 1) l0 (l0.length : Int) x31_1 ((rd_T41 l0 x31_1).f0) ((rd_T41 l0 x31_1).f1) ((rd_T41 l0 x31_1).f2) ((rd_T41 l0 x31_1).f3)) else (types_Bytes.j1 k1 x6_1 t201 0 l0 (l0.length : Int) x31_1 ((rd_T41 l0 x31_1).f0) ((rd_T41 l0 x31_1).f1) ((rd_T41 l0 x31_1).f2) ((rd_T41 l0 x31_1).f3))) = some (r1, r2) := H
              have A10 := Aside0.mk A100
              clear A100
              have HC11 := Aside0.mk H
              clear H
              have p199 : 0 ≤ (x31_1 : Int) := of_decide_eq_true (by first | (with_reducible assumption) | assumption)
              have q199 : x31_1 < (l0.length : Int) := of_decide_eq_true (by first | (with_reducible assumption) | assumption)
              obtain ⟨ad199, A199_3, c199_3, e199, hx199_0, hx199_1, hx199_2, hx199_3, hl199_3, hi199_3⟩ := at_T41 HR0.out x31_1 p199 q199
              cases e199
              replace hx199_0 := (HB.out.cell (World.block_lt_of_cell? w _ hx199_0)).trans hx199_0
              replace hx199_1 := (HB.out.cell (World.block_lt_of_cell? w _ hx199_1)).trans hx199_1
              replace hx199_2 := (HB.out.cell (World.block_lt_of_cell? w _ hx199_2)).trans hx199_2
              replace hx199_3 := (HB.out.cell (World.block_lt_of_cell? w _ hx199_3)).trans hx199_3
              have HR199_3 := Aside0.mk hi199_3
              have HC199_3 := Aside0.mk hl199_3
              clear hi199_3 hl199_3
              replace p199 := eq_true p199
              replace q199 := eq_true q199
              go_upto_if 42 with (first | ((with_reducible refine gate_dst (N := 8) rfl ?_); refine box_event ?hg (N := 8) ?hd (cs := #[.string (⟨#[]⟩ : ByteArray), .bool false, .bool false, .slice none 0 0]) (t := 41) ?hr ?_; (case hd => rfl); (case hg => rfl); (case hr => first | (go_simp; done) | (go_simp; rfl)); intro gb200 hg w12 hbox hb; have n0_ := Aside0.mk (Kd.R_below (by (with_reducible repeat (first | apply Kd.R_alloc | apply Kd.R_drewN | apply Kd.R_drew)); exact HO_6.out) hb); have n1_ := Aside0.mk (below_step (by repeat (first | (with_reducible first | exact HB.out | apply below_alloc | apply pw_below_drewN | apply below_drew1) | exact HB.out)) hb); have n2_ := Aside0.mk (hbox); have n3_ := Aside0.mk ((by rw [hg]; exact (below_size (by repeat (first | (with_reducible first | exact HB.out | apply below_alloc | apply pw_below_drewN | apply below_drew1) | exact HB.out))) : w.heap.size ≤ gb200)); have n4_ := Aside0.mk ((by rw [hg]; exact (below_size (by repeat (first | (with_reducible first | exact HB.out | apply below_alloc | apply pw_below_drewN | apply below_drew1) | exact HB.out))) : w.heap.size ≤ gb200)); clear HO_6; clear HB; have HO_6 := n0_; have HB := n1_; have BK200 := n2_; have GW200 := n3_; have GE200 := n4_; clear n0_ n1_ n2_ n3_ n4_; clear hb hbox hg; have hcz13_0 : w12.cell? ⟨gb200, 0, none⟩ = some (.string (⟨#[]⟩ : ByteArray)) := (blk_cell BK200.out 0).trans rfl; have hcz13_1 : w12.cell? ⟨gb200, 1, none⟩ = some (.bool false) := (blk_cell BK200.out 1).trans rfl; have hcz13_2 : w12.cell? ⟨gb200, 2, none⟩ = some (.bool false) := (blk_cell BK200.out 2).trans rfl; have hcz13_3 : w12.cell? ⟨gb200, 3, none⟩ = some (.slice none 0 0) := (blk_cell BK200.out 3).trans rfl; have hfz13_0 := blk_frozen BK200.out 0; have hfz13_1 := blk_frozen BK200.out 1; have hfz13_2 := blk_frozen BK200.out 2; have hfz13_3 := blk_frozen BK200.out 3) | ((with_reducible refine gate_callee (f := 19) rfl ?_); refine goesL_ (some 38) rfl rfl Try.func19 (by kernel_rfl) rfl #[.string ((rd_T41 l0 x31_1).f0)] rfl (by (try simp only [List.map_toArray, List.map_cons, List.map_nil]); first | done | rfl | (simp only [List.length_drop, List.length_take]; rfl)) ?_; (with_reducible refine (wire_Text.calls ((rd_T41 l0 x31_1).f0) t201 t202 _ A10.out).mono ?_); rintro e w14 ⟨v203, rfl, ho0, hb⟩; refine ⟨_, rfl, ?_⟩; have n0_ := Aside0.mk (Kd.R_elder' (by (with_reducible repeat (first | apply Kd.R_alloc | apply Kd.R_drewN | apply Kd.R_drew)); exact (Kd.R_mono (Kd.R_far (p := ⟨gb200, 3, none⟩) (Kd.R_far (p := ⟨gb200, 2, none⟩) (Kd.R_far (p := ⟨gb200, 1, none⟩) (Kd.R_far (p := ⟨gb200, 0, none⟩) (Kd.R_types HO_6.out BK200.out (by decide)) (fun _ hk => hk.2) (.string ((rd_T41 l0 x31_1).f0))) (fun _ hk => hk.2) (.bool ((rd_T41 l0 x31_1).f1))) (fun _ hk => hk.2) (.bool ((rd_T41 l0 x31_1).f2))) (fun _ hk => hk.2) (.slice A199_3 ((rd_T41 l0 x31_1).f3).length c199_3)) (fun _ h_ => h_.1))) (Kd.R_base ho0) hb); have n1_ := Aside0.mk (Kd.R_lower (Kd.R_new' ho0 (Kd.R_lt (by (with_reducible repeat (first | apply Kd.R_alloc | apply Kd.R_drewN | apply Kd.R_drew)); exact (Kd.R_mono (Kd.R_far (p := ⟨gb200, 3, none⟩) (Kd.R_far (p := ⟨gb200, 2, none⟩) (Kd.R_far (p := ⟨gb200, 1, none⟩) (Kd.R_far (p := ⟨gb200, 0, none⟩) (Kd.R_types HO_6.out BK200.out (by decide)) (fun _ hk => hk.2) (.string ((rd_T41 l0 x31_1).f0))) (fun _ hk => hk.2) (.bool ((rd_T41 l0 x31_1).f1))) (fun _ hk => hk.2) (.bool ((rd_T41 l0 x31_1).f2))) (fun _ hk => hk.2) (.slice A199_3 ((rd_T41 l0 x31_1).f3).length c199_3)) (fun _ h_ => h_.1))))) (below_size (by repeat (first | (with_reducible first | exact HB.out | apply below_alloc | apply pw_below_drewN | apply below_drew1 | refine below_set ?_ GE200.out) | exact HB.out)))); have n2_ := Aside0.mk (blk_below (g := gb200) (o := .cells #[.string ((rd_T41 l0 x31_1).f0), .bool ((rd_T41 l0 x31_1).f1), .bool ((rd_T41 l0 x31_1).f2), .slice A199_3 ((rd_T41 l0 x31_1).f3).length c199_3] 41 (0, 0)) (by (with_reducible repeat (first | refine blk_drewN ?_ _ | refine blk_drew ?_ | refine blk_alloc ?_ _)); refine blk_put (cs := #[.string ((rd_T41 l0 x31_1).f0), .bool ((rd_T41 l0 x31_1).f1), .bool ((rd_T41 l0 x31_1).f2), .slice none 0 0]) ?_ 3 _ rfl; (with_reducible repeat (first | refine blk_drewN ?_ _ | refine blk_drew ?_ | refine blk_alloc ?_ _)); refine blk_put (cs := #[.string ((rd_T41 l0 x31_1).f0), .bool ((rd_T41 l0 x31_1).f1), .bool false, .slice none 0 0]) ?_ 2 _ rfl; (with_reducible repeat (first | refine blk_drewN ?_ _ | refine blk_drew ?_ | refine blk_alloc ?_ _)); refine blk_put (cs := #[.string ((rd_T41 l0 x31_1).f0), .bool false, .bool false, .slice none 0 0]) ?_ 1 _ rfl; (with_reducible repeat (first | refine blk_drewN ?_ _ | refine blk_drew ?_ | refine blk_alloc ?_ _)); refine blk_put (cs := #[.string (⟨#[]⟩ : ByteArray), .bool false, .bool false, .slice none 0 0]) ?_ 0 _ rfl; (with_reducible repeat (first | refine blk_drewN ?_ _ | refine blk_drew ?_ | refine blk_alloc ?_ _)); exact BK200.out) hb); have n3_ := Aside0.mk (below_step (by repeat (first | (with_reducible first | exact HB.out | apply below_alloc | apply pw_below_drewN | apply below_drew1 | refine below_set ?_ GE200.out) | exact HB.out)) hb); clear HO_6; clear BK200; clear HB; have HO_6 := n0_; have HO204 := n1_; have BK200 := n2_; have HB := n3_; clear n0_ n1_ n2_ n3_; (try clear hb); (try clear hb2); (try clear hk); (try clear hi); (try clear ho0); have hcz15_0 : w14.cell? ⟨gb200, 0, none⟩ = some (.string ((rd_T41 l0 x31_1).f0)) := (blk_cell BK200.out 0).trans rfl; have hcz15_1 : w14.cell? ⟨gb200, 1, none⟩ = some (.bool ((rd_T41 l0 x31_1).f1)) := (blk_cell BK200.out 1).trans rfl; have hcz15_2 : w14.cell? ⟨gb200, 2, none⟩ = some (.bool ((rd_T41 l0 x31_1).f2)) := (blk_cell BK200.out 2).trans rfl; have hcz15_3 : w14.cell? ⟨gb200, 3, none⟩ = some (.slice A199_3 ((rd_T41 l0 x31_1).f3).length c199_3) := (blk_cell BK200.out 3).trans rfl; have hfz15_0 := blk_frozen BK200.out 0; have hfz15_1 := blk_frozen BK200.out 1; have hfz15_2 := blk_frozen BK200.out 2; have hfz15_3 := blk_frozen BK200.out 3))
              (try simp only [Act.put, List.setIfInBounds_toArray, List.set_cons_zero, List.set_cons_succ])
              go_cut [11] (fun v11 wc => ∃ (kq : Nat) (x11_10 : Int), v11 = .int .i64 x11_10 ∧ Aside0 (types_Bytes.j1 kq x6_1 t201 x11_10 l0 (l0.length : Int) x31_1 ((rd_T41 l0 x31_1).f0) ((rd_T41 l0 x31_1).f1) ((rd_T41 l0 x31_1).f2) ((rd_T41 l0 x31_1).f3) = some (r1, r2)) ∧ Aside0 (kq ≤ k1) ∧ Aside0 (Kd.R (Kd.int .u8) 5 wc w.heap.size (fun k_ => some k_ ≠ (v203 : Value).ownBlock) u6 x6_1) ∧ Aside0 (Kd.R (Kd.int .u8) 5 wc w.heap.size (fun k_ => some k_ ≠ (u6 : Value).ownBlock) v203 t201) ∧ Aside0 (wc.heap[gb200]? = some (.cells #[.string ((rd_T41 l0 x31_1).f0), .bool ((rd_T41 l0 x31_1).f1), .bool ((rd_T41 l0 x31_1).f2), (.slice A199_3 ((rd_T41 l0 x31_1).f3).length c199_3)] 41 (0, 0))) ∧ Aside0 (Below w.heap.size w wc))
              case first =>
                have H := HC11.out
                clear HC11
                obtain ⟨bq16, hbq16⟩ : ∃ b_ : Bool, b_ = ((rd_T41 l0 x31_1).f1) := ⟨_, rfl⟩
                replace H : (if bq16 = true then (types_Bytes.j1 k1 x6_1 t201 (0 + 1) l0 (l0.length : Int) x31_1 ((rd_T41 l0 x31_1).f0) bq16 ((rd_T41 l0 x31_1).f2) ((rd_T41 l0 x31_1).f3)) else (types_Bytes.j1 k1 x6_1 t201 0 l0 (l0.length : Int) x31_1 ((rd_T41 l0 x31_1).f0) bq16 ((rd_T41 l0 x31_1).f2) ((rd_T41 l0 x31_1).f3))) = some (r1, r2) := by rw [← hbq16] at H; exact H
                have Nbq16 := Aside0.mk hbq16
                clear hbq16
                (try rw [← Nbq16.out])
                by_cases c17 : bq16 = true
                · subst c17
                  have H1 : (types_Bytes.j1 k1 x6_1 t201 (0 + 1) l0 (l0.length : Int) x31_1 ((rd_T41 l0 x31_1).f0) true ((rd_T41 l0 x31_1).f2) ((rd_T41 l0 x31_1).f3)) = some (r1, r2) := by rw [if_pos rfl] at H; exact H
                  clear H
                  have H := H1
                  clear H1
                  have H' := Aside0.mk H
                  clear H
                  go_wp2
                  go_meet
                  case rel => exact ⟨_, (0 + 1), (by first | rfl | (simp; done) | (simp [*]; done)), (by rw [← Nbq16.out]; exact H'), ⟨by have := HK1.out; first | omega | exact Nat.le_refl _⟩, ⟨by (with_reducible repeat (first | apply Kd.R_alloc | apply Kd.R_drewN | apply Kd.R_drew)); exact Kd.R_mono HO_6.out (fun _ hk => hk.2)⟩, ⟨by (with_reducible repeat (first | apply Kd.R_alloc | apply Kd.R_drewN | apply Kd.R_drew)); exact Kd.R_mono HO204.out (fun _ hk => hk.2)⟩, ⟨by (with_reducible repeat (first | refine blk_drewN ?_ _ | refine blk_drew ?_ | refine blk_alloc ?_ _)); exact BK200.out⟩, ⟨by repeat (first | (with_reducible first | exact HB.out | apply below_alloc | apply pw_below_drewN | apply below_drew1 | refine below_set ?_ GE200.out) | exact HB.out)⟩⟩
                · replace c17 := Bool.eq_false_iff.mpr c17
                  subst c17
                  have H1 : (types_Bytes.j1 k1 x6_1 t201 0 l0 (l0.length : Int) x31_1 ((rd_T41 l0 x31_1).f0) false ((rd_T41 l0 x31_1).f2) ((rd_T41 l0 x31_1).f3)) = some (r1, r2) := by rw [if_neg (show ¬ (false = true) by decide)] at H; exact H
                  clear H
                  have H := H1
                  clear H1
                  have H' := Aside0.mk H
                  clear H
                  go_wp2
                  go_meet
                  case rel => exact ⟨_, (0), (by first | rfl | (simp; done) | (simp [*]; done)), (by rw [← Nbq16.out]; exact H'), ⟨by have := HK1.out; first | omega | exact Nat.le_refl _⟩, ⟨by (with_reducible repeat (first | apply Kd.R_alloc | apply Kd.R_drewN | apply Kd.R_drew)); exact Kd.R_mono HO_6.out (fun _ hk => hk.2)⟩, ⟨by (with_reducible repeat (first | apply Kd.R_alloc | apply Kd.R_drewN | apply Kd.R_drew)); exact Kd.R_mono HO204.out (fun _ hk => hk.2)⟩, ⟨by (with_reducible repeat (first | refine blk_drewN ?_ _ | refine blk_drew ?_ | refine blk_alloc ?_ _)); exact BK200.out⟩, ⟨by repeat (first | (with_reducible first | exact HB.out | apply below_alloc | apply pw_below_drewN | apply below_drew1 | refine below_set ?_ GE200.out) | exact HB.out)⟩⟩
              case rest =>
                clear HC11
                try clear c1
                try clear p1
                try clear q1
                try clear hx1
                try clear p2
                try clear c3
                try clear c3b0
                try clear c3b1
                try clear c7
                try clear c7b0
                try clear c8
                try clear c8b0
                try clear c9
                try clear c9b0
                try clear c10
                try clear q16
                try clear c17
                try clear hcz13_0
                try clear hcz13_1
                try clear hcz13_2
                try clear hcz13_3
                try clear hcz15_0
                try clear hcz15_1
                try clear hcz15_2
                try clear hcz15_3
                try clear hfz13_0
                try clear hfz13_1
                try clear hfz13_2
                try clear hfz13_3
                try clear hfz15_0
                try clear hfz15_1
                try clear hfz15_2
                try clear hfz15_3
                try clear hx199_0
                try clear hx199_1
                try clear hx199_2
                try clear hx199_3
                try clear p199
                try clear p2
                try clear q199
                obtain ⟨kq, x11_10, rfl, HA, HJ10, HO_6, HO_9, BK200, HB⟩ := hcut
                cases kq with
                | zero => exact absurd HA.out (by simp [types_Bytes.j1])
                | succ kj10 =>
                  have H := HA.out
                  clear HA
                  simp only [types_Bytes.j1] at H
                  have HC18 := Aside0.mk H
                  clear H
                  have hcz19_0 : wc.cell? ⟨gb200, 0, none⟩ = some (.string ((rd_T41 l0 x31_1).f0)) := (blk_cell BK200.out 0).trans rfl
                  have hcz19_1 : wc.cell? ⟨gb200, 1, none⟩ = some (.bool ((rd_T41 l0 x31_1).f1)) := (blk_cell BK200.out 1).trans rfl
                  have hcz19_2 : wc.cell? ⟨gb200, 2, none⟩ = some (.bool ((rd_T41 l0 x31_1).f2)) := (blk_cell BK200.out 2).trans rfl
                  have hcz19_3 : wc.cell? ⟨gb200, 3, none⟩ = some (.slice A199_3 ((rd_T41 l0 x31_1).f3).length c199_3) := (blk_cell BK200.out 3).trans rfl
                  have hfz19_0 := blk_frozen BK200.out 0
                  have hfz19_1 := blk_frozen BK200.out 1
                  have hfz19_2 := blk_frozen BK200.out 2
                  have hfz19_3 := blk_frozen BK200.out 3
                  go_upto_if 46 with (fail)
                  go_cut [11] (fun v11 wc => ∃ (kq : Nat) (x11_17 : Int), v11 = .int .i64 x11_17 ∧ Aside0 (types_Bytes.j2 kq x6_1 t201 x11_17 l0 (l0.length : Int) x31_1 ((rd_T41 l0 x31_1).f0) ((rd_T41 l0 x31_1).f1) ((rd_T41 l0 x31_1).f2) ((rd_T41 l0 x31_1).f3) = some (r1, r2)) ∧ Aside0 (kq ≤ kj10) ∧ Aside0 (Kd.R (Kd.int .u8) 5 wc w.heap.size (fun k_ => some k_ ≠ (v203 : Value).ownBlock) u6 x6_1) ∧ Aside0 (Kd.R (Kd.int .u8) 5 wc w.heap.size (fun k_ => some k_ ≠ (u6 : Value).ownBlock) v203 t201) ∧ Aside0 (wc.heap[gb200]? = some (.cells #[.string ((rd_T41 l0 x31_1).f0), .bool ((rd_T41 l0 x31_1).f1), .bool ((rd_T41 l0 x31_1).f2), (.slice A199_3 ((rd_T41 l0 x31_1).f3).length c199_3)] 41 (0, 0))) ∧ Aside0 (Below w.heap.size w wc))
                  case first =>
                    have H := HC18.out
                    clear HC18
                    by_cases c20 : ((rd_T41 l0 x31_1).f2) = true
                    · rw [if_pos c20] at H
                      have c20b0 : ((rd_T41 l0 x31_1).f2) = true := c20
                      clear c20
                      (first | rw [c20b0] | (simp only [i64_w, i32_w]; rw [c20b0]) | skip)
                      have H' := Aside0.mk H
                      clear H
                      go_wp2
                      go_meet
                      case rel => exact ⟨_, (wrap64 (x11_10 + 2)), (by first | rfl | (simp; done) | (simp [*]; done)), H', ⟨by have := HK1.out; have := HJ10.out; first | omega | exact Nat.le_refl _⟩, ⟨by (with_reducible repeat (first | apply Kd.R_alloc | apply Kd.R_drewN | apply Kd.R_drew)); exact HO_6.out⟩, ⟨by (with_reducible repeat (first | apply Kd.R_alloc | apply Kd.R_drewN | apply Kd.R_drew)); exact HO_9.out⟩, ⟨by (with_reducible repeat (first | refine blk_drewN ?_ _ | refine blk_drew ?_ | refine blk_alloc ?_ _)); exact BK200.out⟩, ⟨by repeat (first | (with_reducible first | exact HB.out | apply below_alloc | apply pw_below_drewN | apply below_drew1 | refine below_set ?_ GE200.out) | exact HB.out)⟩⟩
                    · rw [if_neg c20] at H
                      have c20b0 : ((rd_T41 l0 x31_1).f2) = false := by simpa using c20
                      clear c20
                      (first | rw [c20b0] | (simp only [i64_w, i32_w]; rw [c20b0]) | skip)
                      have H' := Aside0.mk H
                      clear H
                      go_wp2
                      go_meet
                      case rel => exact ⟨_, (x11_10), (by first | rfl | (simp; done) | (simp [*]; done)), H', ⟨by have := HK1.out; have := HJ10.out; first | omega | exact Nat.le_refl _⟩, ⟨by (with_reducible repeat (first | apply Kd.R_alloc | apply Kd.R_drewN | apply Kd.R_drew)); exact HO_6.out⟩, ⟨by (with_reducible repeat (first | apply Kd.R_alloc | apply Kd.R_drewN | apply Kd.R_drew)); exact HO_9.out⟩, ⟨by (with_reducible repeat (first | refine blk_drewN ?_ _ | refine blk_drew ?_ | refine blk_alloc ?_ _)); exact BK200.out⟩, ⟨by repeat (first | (with_reducible first | exact HB.out | apply below_alloc | apply pw_below_drewN | apply below_drew1 | refine below_set ?_ GE200.out) | exact HB.out)⟩⟩
                  case rest =>
                    clear HC18
                    try clear c1
                    try clear p1
                    try clear q1
                    try clear hx1
                    try clear c2
                    try clear p2
                    try clear c3
                    try clear c3b0
                    try clear c3b1
                    try clear p6
                    try clear c7
                    try clear c7b0
                    try clear c8
                    try clear c8b0
                    try clear c9
                    try clear c9b0
                    try clear c10
                    try clear q16
                    try clear c17
                    try clear c18
                    try clear c19
                    try clear p19
                    try clear q19
                    try clear hx19
                    try clear c20
                    try clear c20b0
                    try clear hcz13_0
                    try clear hcz13_1
                    try clear hcz13_2
                    try clear hcz13_3
                    try clear hcz15_0
                    try clear hcz15_1
                    try clear hcz15_2
                    try clear hcz15_3
                    try clear hcz19_0
                    try clear hcz19_1
                    try clear hcz19_2
                    try clear hcz19_3
                    try clear hfz13_0
                    try clear hfz13_1
                    try clear hfz13_2
                    try clear hfz13_3
                    try clear hfz15_0
                    try clear hfz15_1
                    try clear hfz15_2
                    try clear hfz15_3
                    try clear hfz19_0
                    try clear hfz19_1
                    try clear hfz19_2
                    try clear hfz19_3
                    try clear hx199_0
                    try clear hx199_1
                    try clear hx199_2
                    try clear hx199_3
                    try clear p1
                    try clear p199
                    try clear p2
                    try clear q1
                    try clear q16
                    try clear q199
                    obtain ⟨kq, x11_17, rfl, HA, HJ17, HO_6, HO_9, BK200, HB⟩ := hcut
                    cases kq with
                    | zero => exact absurd HA.out (by simp [types_Bytes.j2])
                    | succ kj17 =>
                      have H := HA.out
                      clear HA
                      simp only [types_Bytes.j2] at H
                      obtain ⟨y205, hy205⟩ : ∃ y_ : List Int, y_ = (([x11_17] : List Int)) := ⟨_, rfl⟩
                      replace H : (types_Bytes.l1 kj17 x6_1 t201 y205 l0 (l0.length : Int) x31_1 ((rd_T41 l0 x31_1).f3) (((rd_T41 l0 x31_1).f3).length : Int) 0) = some (r1, r2) := by first | (rw [hy205]; with_reducible exact H) | (have H2_ := (Option.bind_some _ _).symm.trans H; rw [hy205]; with_reducible exact H2_) | (have H2_ := (Option.bind_some _ _).symm.trans H; with_reducible exact H2_) | with_reducible exact H | (rw [hy205]; exact H) | exact H
                      have Ny205 := Aside0.mk hy205
                      clear hy205
                      have H' := Aside0.mk H
                      clear H
                      go_wp2_with (first | ((with_reducible refine gate_dst (N := 50) rfl ?_); refine Kd.R_lit (Kd.int .i64) _ 3 ?hg (N := 50) ?hd (xs := ([x11_17] : List Int)) (inner := [.int .i64 x11_17]) (ok := fun _ => True) (okp := fun _ => True) ?hr ?hp (fun _ hk => hk) trivial (Below.refl _ _) (Nat.le_refl _) (by simp) ?_; (case hd => rfl); (case hg => rfl); (case hr => first | (go_simp; done) | (go_simp; rfl)); (case hp => exact (Reps.one (show Kd.M (Kd.int .i64) _ _ _ x11_17 [.int .i64 x11_17] from rfl) (Reps.none _ _))); intro v206 w21 ho22 hb hg_ hnew_; clear hg_ hnew_; (first | rw [← Ny205.out] at ho22 | (simp only [Int.reduceToNat] at ho22; rw [← Ny205.out] at ho22)); have n0_ := Aside0.mk (Kd.R_below (by (with_reducible repeat (first | apply Kd.R_alloc | apply Kd.R_drewN | apply Kd.R_drew)); exact HO_6.out) hb); have n1_ := Aside0.mk (Kd.R_below (by (with_reducible repeat (first | apply Kd.R_alloc | apply Kd.R_drewN | apply Kd.R_drew)); exact HO_9.out) hb); have n2_ := Aside0.mk (Kd.R_lower ho22 (below_size (by repeat (first | (with_reducible first | exact HB.out | apply below_alloc | apply pw_below_drewN | apply below_drew1 | refine below_set ?_ GE200.out) | exact HB.out)))); have n3_ := Aside0.mk (blk_below (g := gb200) (o := .cells #[.string ((rd_T41 l0 x31_1).f0), .bool ((rd_T41 l0 x31_1).f1), .bool ((rd_T41 l0 x31_1).f2), .slice A199_3 ((rd_T41 l0 x31_1).f3).length c199_3] 41 (0, 0)) (by (with_reducible repeat (first | refine blk_drewN ?_ _ | refine blk_drew ?_ | refine blk_alloc ?_ _)); exact BK200.out) hb); have n4_ := Aside0.mk (below_step (by repeat (first | (with_reducible first | exact HB.out | apply below_alloc | apply pw_below_drewN | apply below_drew1 | refine below_set ?_ GE200.out) | exact HB.out)) hb); clear HO_6; clear HO_9; clear BK200; clear HB; have HO_6 := n0_; have HO_9 := n1_; have HO207 := n2_; have BK200 := n3_; have HB := n4_; clear n0_ n1_ n2_ n3_ n4_; clear hb ho22; have hcz23_0 : w21.cell? ⟨gb200, 0, none⟩ = some (.string ((rd_T41 l0 x31_1).f0)) := (blk_cell BK200.out 0).trans rfl; have hcz23_1 : w21.cell? ⟨gb200, 1, none⟩ = some (.bool ((rd_T41 l0 x31_1).f1)) := (blk_cell BK200.out 1).trans rfl; have hcz23_2 : w21.cell? ⟨gb200, 2, none⟩ = some (.bool ((rd_T41 l0 x31_1).f2)) := (blk_cell BK200.out 2).trans rfl; have hcz23_3 : w21.cell? ⟨gb200, 3, none⟩ = some (.slice A199_3 ((rd_T41 l0 x31_1).f3).length c199_3) := (blk_cell BK200.out 3).trans rfl; have hfz23_0 := blk_frozen BK200.out 0; have hfz23_1 := blk_frozen BK200.out 1; have hfz23_2 := blk_frozen BK200.out 2; have hfz23_3 := blk_frozen BK200.out 3))
                      go_loopg [12, 54] kj17 (fun kq v12 v54 w' => ∃ (x12_4 : List Int) (x54_4 : Int), v54 = .int .i64 x54_4 ∧ Aside0 (types_Bytes.l1 kq x6_1 t201 x12_4 l0 (l0.length : Int) x31_1 ((rd_T41 l0 x31_1).f3) (((rd_T41 l0 x31_1).f3).length : Int) x54_4 = some (r1, r2)) ∧ Aside0 (kq ≤ kj17) ∧ Aside0 (Kd.R (Kd.int .u8) 5 w' w.heap.size (fun k_ => some k_ ≠ (v203 : Value).ownBlock) u6 x6_1) ∧ Aside0 (Kd.R (Kd.int .u8) 5 w' w.heap.size (fun k_ => some k_ ≠ (u6 : Value).ownBlock) v203 t201) ∧ Aside0 (Kd.R (Kd.int .i64) 3 w' w.heap.size (fun _ => True) v12 x12_4) ∧ Aside0 (w'.heap[gb200]? = some (.cells #[.string ((rd_T41 l0 x31_1).f0), .bool ((rd_T41 l0 x31_1).f1), .bool ((rd_T41 l0 x31_1).f2), (.slice A199_3 ((rd_T41 l0 x31_1).f3).length c199_3)] 41 (0, 0))) ∧ Aside0 (Below w.heap.size w w'))
                      case atStart => exact ⟨(y205), (0), (by first | rfl | (simp; done) | (simp [*]; done)), H', ⟨Nat.le_refl _⟩, ⟨by (with_reducible repeat (first | apply Kd.R_alloc | apply Kd.R_drewN | apply Kd.R_drew)); exact HO_6.out⟩, ⟨by (with_reducible repeat (first | apply Kd.R_alloc | apply Kd.R_drewN | apply Kd.R_drew)); exact HO_9.out⟩, ⟨by (with_reducible repeat (first | apply Kd.R_alloc | apply Kd.R_drewN | apply Kd.R_drew)); exact HO207.out⟩, ⟨by (with_reducible repeat (first | refine blk_drewN ?_ _ | refine blk_drew ?_ | refine blk_alloc ?_ _)); exact BK200.out⟩, ⟨by repeat (first | (with_reducible first | exact HB.out | apply below_alloc | apply pw_below_drewN | apply below_drew1 | refine below_set ?_ GE200.out) | exact HB.out)⟩⟩
                      case round =>
                        clear H'
                        try clear c1
                        try clear p1
                        try clear q1
                        try clear hx1
                        try clear c2
                        try clear p2
                        try clear c3
                        try clear c3b0
                        try clear c3b1
                        try clear p6
                        try clear c7
                        try clear c7b0
                        try clear c8
                        try clear c8b0
                        try clear c9
                        try clear c9b0
                        try clear c10
                        try clear q16
                        try clear c17
                        try clear c18
                        try clear c19
                        try clear p19
                        try clear q19
                        try clear hx19
                        try clear c20
                        try clear c20b0
                        try clear hcz13_0
                        try clear hcz13_1
                        try clear hcz13_2
                        try clear hcz13_3
                        try clear hcz15_0
                        try clear hcz15_1
                        try clear hcz15_2
                        try clear hcz15_3
                        try clear hcz19_0
                        try clear hcz19_1
                        try clear hcz19_2
                        try clear hcz19_3
                        try clear hcz23_0
                        try clear hcz23_1
                        try clear hcz23_2
                        try clear hcz23_3
                        try clear hfz13_0
                        try clear hfz13_1
                        try clear hfz13_2
                        try clear hfz13_3
                        try clear hfz15_0
                        try clear hfz15_1
                        try clear hfz15_2
                        try clear hfz15_3
                        try clear hfz19_0
                        try clear hfz19_1
                        try clear hfz19_2
                        try clear hfz19_3
                        try clear hfz23_0
                        try clear hfz23_1
                        try clear hfz23_2
                        try clear hfz23_3
                        try clear hx199_0
                        try clear hx199_1
                        try clear hx199_2
                        try clear hx199_3
                        try clear p1
                        try clear p19
                        try clear p199
                        try clear p2
                        try clear p6
                        try clear q1
                        try clear q16
                        try clear q19
                        try clear q199
                        obtain ⟨x12_4, x54_4, rfl, HA, HK4, HO_6, HO_9, HO_12, BK200, HB⟩ := hrel
                        cases gk with
                        | zero => exact absurd HA.out (by simp [types_Bytes.l1])
                        | succ k4 =>
                          have H := HA.out
                          clear HA
                          simp only [types_Bytes.l1] at H
                          by_cases c24 : x54_4 < (((rd_T41 l0 x31_1).f3).length : Int)
                          · rw [if_pos c24] at H
                            have c24b0 : decide (x54_4 < (((rd_T41 l0 x31_1).f3).length : Int)) = true := decide_eq_true c24
                            clear c24
                            by_cases c25 : 0 ≤ x54_4
                            · rw [if_pos c25] at H
                              have c25b0 : decide (0 ≤ x54_4) = true := decide_eq_true c25
                              clear c25
                              by_cases c26 : x54_4 < (((rd_T41 l0 x31_1).f3).length : Int)
                              · rw [if_pos c26] at H
                                have c26b0 : decide (x54_4 < (((rd_T41 l0 x31_1).f3).length : Int)) = true := decide_eq_true c26
                                clear c26
                                obtain ⟨y210, hy210⟩ : ∃ y_ : List Int, y_ = (([(rd_T38 ((rd_T41 l0 x31_1).f3) x54_4).f0, (rd_T38 ((rd_T41 l0 x31_1).f3) x54_4).f1, (rd_T38 ((rd_T41 l0 x31_1).f3) x54_4).f2, (rd_T38 ((rd_T41 l0 x31_1).f3) x54_4).f3, (rd_T38 ((rd_T41 l0 x31_1).f3) x54_4).f4] : List Int)) := ⟨_, rfl⟩
                                replace H : (if x12_4.length + y210.length < 17592186044416 then (types_Bytes.l1 k4 x6_1 t201 (x12_4 ++ y210) l0 (l0.length : Int) x31_1 ((rd_T41 l0 x31_1).f3) (((rd_T41 l0 x31_1).f3).length : Int) (wrap64 (x54_4 + 1))) else (none)) = some (r1, r2) := by first | (rw [hy210]; with_reducible exact H) | (have H2_ := (Option.bind_some _ _).symm.trans H; rw [hy210]; with_reducible exact H2_) | (have H2_ := (Option.bind_some _ _).symm.trans H; with_reducible exact H2_) | with_reducible exact H | (rw [hy210]; exact H) | exact H
                                have Ny210 := Aside0.mk hy210
                                clear hy210
                                by_cases c27 : x12_4.length + y210.length < 17592186044416
                                · rw [if_pos c27] at H
                                  have LMc27 := Aside0.mk c27
                                  clear c27
                                  obtain ⟨y213, hy213⟩ : ∃ y_ : List Int, y_ = (x12_4 ++ y210) := ⟨_, rfl⟩
                                  replace H : (types_Bytes.l1 k4 x6_1 t201 y213 l0 (l0.length : Int) x31_1 ((rd_T41 l0 x31_1).f3) (((rd_T41 l0 x31_1).f3).length : Int) (wrap64 (x54_4 + 1))) = some (r1, r2) := by first | (rw [hy213]; with_reducible exact H) | (have H2_ := (Option.bind_some _ _).symm.trans H; rw [hy213]; with_reducible exact H2_) | (have H2_ := (Option.bind_some _ _).symm.trans H; with_reducible exact H2_) | with_reducible exact H | (rw [hy213]; exact H) | exact H
                                  have Ny213 := Aside0.mk hy213
                                  clear hy213
                                  have H' := Aside0.mk H
                                  clear H
                                  have p208 : 0 ≤ (x54_4 : Int) := of_decide_eq_true (by first | (with_reducible assumption) | assumption)
                                  have q208 : x54_4 < (((rd_T41 l0 x31_1).f3).length : Int) := of_decide_eq_true (by first | (with_reducible assumption) | assumption)
                                  obtain ⟨ad208, e208, hx208_0, hx208_1, hx208_2, hx208_3, hx208_4⟩ := at_T38 HR199_3.out x54_4 p208 q208
                                  cases e208
                                  replace hx208_0 := (HB.out.cell (World.block_lt_of_cell? w _ hx208_0)).trans hx208_0
                                  replace hx208_1 := (HB.out.cell (World.block_lt_of_cell? w _ hx208_1)).trans hx208_1
                                  replace hx208_2 := (HB.out.cell (World.block_lt_of_cell? w _ hx208_2)).trans hx208_2
                                  replace hx208_3 := (HB.out.cell (World.block_lt_of_cell? w _ hx208_3)).trans hx208_3
                                  replace hx208_4 := (HB.out.cell (World.block_lt_of_cell? w _ hx208_4)).trans hx208_4
                                  replace p208 := eq_true p208
                                  replace q208 := eq_true q208
                                  go_wp2_with (first | ((with_reducible refine gate_dst (N := 14) rfl ?_); refine box_event ?hg (N := 14) ?hd (cs := #[.int .i64 0, .int .i64 0, .int .i64 0, .int .i64 0, .int .i64 0]) (t := 38) ?hr ?_; (case hd => rfl); (case hg => rfl); (case hr => first | (go_simp; done) | (go_simp; rfl)); intro gb209 hg w28 hbox hb; have n0_ := Aside0.mk (Kd.R_below (by (with_reducible repeat (first | apply Kd.R_alloc | apply Kd.R_drewN | apply Kd.R_drew)); exact HO_6.out) hb); have n1_ := Aside0.mk (Kd.R_below (by (with_reducible repeat (first | apply Kd.R_alloc | apply Kd.R_drewN | apply Kd.R_drew)); exact HO_9.out) hb); have n2_ := Aside0.mk (Kd.R_below (by (with_reducible repeat (first | apply Kd.R_alloc | apply Kd.R_drewN | apply Kd.R_drew)); exact HO_12.out) hb); have n3_ := Aside0.mk (blk_below (g := gb200) (o := .cells #[.string ((rd_T41 l0 x31_1).f0), .bool ((rd_T41 l0 x31_1).f1), .bool ((rd_T41 l0 x31_1).f2), .slice (some ad208) ((rd_T41 l0 x31_1).f3).length c199_3] 41 (0, 0)) (by (with_reducible repeat (first | refine blk_drewN ?_ _ | refine blk_drew ?_ | refine blk_alloc ?_ _)); exact BK200.out) hb); have n4_ := Aside0.mk (below_step (by repeat (first | (with_reducible first | exact HB.out | apply below_alloc | apply pw_below_drewN | apply below_drew1 | refine below_set ?_ GE200.out) | exact HB.out)) hb); have n5_ := Aside0.mk (hbox); have n6_ := Aside0.mk ((by rw [hg]; exact (below_size (by repeat (first | (with_reducible first | exact HB.out | apply below_alloc | apply pw_below_drewN | apply below_drew1 | refine below_set ?_ GE200.out) | exact HB.out))) : w.heap.size ≤ gb209)); have n7_ := Aside0.mk ((by rw [hg]; exact (below_size (by repeat (first | (with_reducible first | exact HB.out | apply below_alloc | apply pw_below_drewN | apply below_drew1 | refine below_set ?_ GE200.out) | exact HB.out))) : w.heap.size ≤ gb209)); have n8_ := Aside0.mk ((by rw [hg]; exact Nat.ne_of_lt (blk_lt (g := gb200) (o := .cells #[.string ((rd_T41 l0 x31_1).f0), .bool ((rd_T41 l0 x31_1).f1), .bool ((rd_T41 l0 x31_1).f2), .slice (some ad208) ((rd_T41 l0 x31_1).f3).length c199_3] 41 (0, 0)) (by (with_reducible repeat (first | refine blk_drewN ?_ _ | refine blk_drew ?_ | refine blk_alloc ?_ _)); exact BK200.out)) : gb200 ≠ gb209)); have n9_ := Aside0.mk ((by rw [hg]; exact Nat.ne_of_gt (blk_lt (g := gb200) (o := .cells #[.string ((rd_T41 l0 x31_1).f0), .bool ((rd_T41 l0 x31_1).f1), .bool ((rd_T41 l0 x31_1).f2), .slice (some ad208) ((rd_T41 l0 x31_1).f3).length c199_3] 41 (0, 0)) (by (with_reducible repeat (first | refine blk_drewN ?_ _ | refine blk_drew ?_ | refine blk_alloc ?_ _)); exact BK200.out)) : gb209 ≠ gb200)); clear HO_6; clear HO_9; clear HO_12; clear BK200; clear HB; have HO_6 := n0_; have HO_9 := n1_; have HO_12 := n2_; have BK200 := n3_; have HB := n4_; have BK209 := n5_; have GW209 := n6_; have GE209 := n7_; have NB200_209 := n8_; have NB209_200 := n9_; clear n0_ n1_ n2_ n3_ n4_ n5_ n6_ n7_ n8_ n9_; clear hb hbox hg; have hnb29 := NB209_200.out; have hnc29 := NB200_209.out; have hcz30_0 : w28.cell? ⟨gb209, 0, none⟩ = some (.int .i64 0) := (blk_cell BK209.out 0).trans rfl; have hcz30_1 : w28.cell? ⟨gb209, 1, none⟩ = some (.int .i64 0) := (blk_cell BK209.out 1).trans rfl; have hcz30_2 : w28.cell? ⟨gb209, 2, none⟩ = some (.int .i64 0) := (blk_cell BK209.out 2).trans rfl; have hcz30_3 : w28.cell? ⟨gb209, 3, none⟩ = some (.int .i64 0) := (blk_cell BK209.out 3).trans rfl; have hcz30_4 : w28.cell? ⟨gb209, 4, none⟩ = some (.int .i64 0) := (blk_cell BK209.out 4).trans rfl; have hfz30_0 := blk_frozen BK209.out 0; have hfz30_1 := blk_frozen BK209.out 1; have hfz30_2 := blk_frozen BK209.out 2; have hfz30_3 := blk_frozen BK209.out 3; have hfz30_4 := blk_frozen BK209.out 4) | ((with_reducible refine gate_dst (N := 69) rfl ?_); refine Kd.R_lit (Kd.int .i64) _ 3 ?hg (N := 69) ?hd (xs := ([(rd_T38 ((rd_T41 l0 x31_1).f3) x54_4).f0, (rd_T38 ((rd_T41 l0 x31_1).f3) x54_4).f1, (rd_T38 ((rd_T41 l0 x31_1).f3) x54_4).f2, (rd_T38 ((rd_T41 l0 x31_1).f3) x54_4).f3, (rd_T38 ((rd_T41 l0 x31_1).f3) x54_4).f4] : List Int)) (inner := [.int .i64 ((rd_T38 ((rd_T41 l0 x31_1).f3) x54_4).f0), .int .i64 ((rd_T38 ((rd_T41 l0 x31_1).f3) x54_4).f1), .int .i64 ((rd_T38 ((rd_T41 l0 x31_1).f3) x54_4).f2), .int .i64 ((rd_T38 ((rd_T41 l0 x31_1).f3) x54_4).f3), .int .i64 ((rd_T38 ((rd_T41 l0 x31_1).f3) x54_4).f4)]) (ok := fun _ => True) (okp := fun _ => True) ?hr ?hp (fun _ hk => hk) trivial (Below.refl _ _) (Nat.le_refl _) (by simp) ?_; (case hd => rfl); (case hg => rfl); (case hr => first | (go_simp; done) | (go_simp; rfl)); (case hp => exact (Reps.one (show Kd.M (Kd.int .i64) _ _ _ ((rd_T38 ((rd_T41 l0 x31_1).f3) x54_4).f0) [.int .i64 ((rd_T38 ((rd_T41 l0 x31_1).f3) x54_4).f0)] from rfl) (Reps.one (show Kd.M (Kd.int .i64) _ _ _ ((rd_T38 ((rd_T41 l0 x31_1).f3) x54_4).f1) [.int .i64 ((rd_T38 ((rd_T41 l0 x31_1).f3) x54_4).f1)] from rfl) (Reps.one (show Kd.M (Kd.int .i64) _ _ _ ((rd_T38 ((rd_T41 l0 x31_1).f3) x54_4).f2) [.int .i64 ((rd_T38 ((rd_T41 l0 x31_1).f3) x54_4).f2)] from rfl) (Reps.one (show Kd.M (Kd.int .i64) _ _ _ ((rd_T38 ((rd_T41 l0 x31_1).f3) x54_4).f3) [.int .i64 ((rd_T38 ((rd_T41 l0 x31_1).f3) x54_4).f3)] from rfl) (Reps.one (show Kd.M (Kd.int .i64) _ _ _ ((rd_T38 ((rd_T41 l0 x31_1).f3) x54_4).f4) [.int .i64 ((rd_T38 ((rd_T41 l0 x31_1).f3) x54_4).f4)] from rfl) (Reps.none _ _))))))); intro v211 w31 ho32 hb hg_ hnew_; clear hg_ hnew_; (first | rw [← Ny210.out] at ho32 | (simp only [Int.reduceToNat] at ho32; rw [← Ny210.out] at ho32)); have n0_ := Aside0.mk (Kd.R_below (by (with_reducible repeat (first | apply Kd.R_alloc | apply Kd.R_drewN | apply Kd.R_drew)); exact (Kd.R_mono (Kd.R_far (p := ⟨gb209, 4, none⟩) (Kd.R_far (p := ⟨gb209, 3, none⟩) (Kd.R_far (p := ⟨gb209, 2, none⟩) (Kd.R_far (p := ⟨gb209, 1, none⟩) (Kd.R_far (p := ⟨gb209, 0, none⟩) (Kd.R_types HO_6.out BK209.out (by decide)) (fun _ hk => hk.2) (.int .i64 ((rd_T38 ((rd_T41 l0 x31_1).f3) x54_4).f0))) (fun _ hk => hk.2) (.int .i64 ((rd_T38 ((rd_T41 l0 x31_1).f3) x54_4).f1))) (fun _ hk => hk.2) (.int .i64 ((rd_T38 ((rd_T41 l0 x31_1).f3) x54_4).f2))) (fun _ hk => hk.2) (.int .i64 ((rd_T38 ((rd_T41 l0 x31_1).f3) x54_4).f3))) (fun _ hk => hk.2) (.int .i64 ((rd_T38 ((rd_T41 l0 x31_1).f3) x54_4).f4))) (fun _ h_ => h_.1))) hb); have n1_ := Aside0.mk (Kd.R_below (by (with_reducible repeat (first | apply Kd.R_alloc | apply Kd.R_drewN | apply Kd.R_drew)); exact (Kd.R_mono (Kd.R_far (p := ⟨gb209, 4, none⟩) (Kd.R_far (p := ⟨gb209, 3, none⟩) (Kd.R_far (p := ⟨gb209, 2, none⟩) (Kd.R_far (p := ⟨gb209, 1, none⟩) (Kd.R_far (p := ⟨gb209, 0, none⟩) (Kd.R_types HO_9.out BK209.out (by decide)) (fun _ hk => hk.2) (.int .i64 ((rd_T38 ((rd_T41 l0 x31_1).f3) x54_4).f0))) (fun _ hk => hk.2) (.int .i64 ((rd_T38 ((rd_T41 l0 x31_1).f3) x54_4).f1))) (fun _ hk => hk.2) (.int .i64 ((rd_T38 ((rd_T41 l0 x31_1).f3) x54_4).f2))) (fun _ hk => hk.2) (.int .i64 ((rd_T38 ((rd_T41 l0 x31_1).f3) x54_4).f3))) (fun _ hk => hk.2) (.int .i64 ((rd_T38 ((rd_T41 l0 x31_1).f3) x54_4).f4))) (fun _ h_ => h_.1))) hb); have n2_ := Aside0.mk (Kd.R_elder' (by (with_reducible repeat (first | apply Kd.R_alloc | apply Kd.R_drewN | apply Kd.R_drew)); exact (Kd.R_mono (Kd.R_far (p := ⟨gb209, 4, none⟩) (Kd.R_far (p := ⟨gb209, 3, none⟩) (Kd.R_far (p := ⟨gb209, 2, none⟩) (Kd.R_far (p := ⟨gb209, 1, none⟩) (Kd.R_far (p := ⟨gb209, 0, none⟩) (Kd.R_types HO_12.out BK209.out (by decide)) (fun _ hk => hk.2) (.int .i64 ((rd_T38 ((rd_T41 l0 x31_1).f3) x54_4).f0))) (fun _ hk => hk.2) (.int .i64 ((rd_T38 ((rd_T41 l0 x31_1).f3) x54_4).f1))) (fun _ hk => hk.2) (.int .i64 ((rd_T38 ((rd_T41 l0 x31_1).f3) x54_4).f2))) (fun _ hk => hk.2) (.int .i64 ((rd_T38 ((rd_T41 l0 x31_1).f3) x54_4).f3))) (fun _ hk => hk.2) (.int .i64 ((rd_T38 ((rd_T41 l0 x31_1).f3) x54_4).f4))) (fun _ h_ => h_.1))) (Kd.R_base ho32) hb); have n3_ := Aside0.mk (Kd.R_lower (Kd.R_new' ho32 (Kd.R_lt (by (with_reducible repeat (first | apply Kd.R_alloc | apply Kd.R_drewN | apply Kd.R_drew)); exact (Kd.R_mono (Kd.R_far (p := ⟨gb209, 4, none⟩) (Kd.R_far (p := ⟨gb209, 3, none⟩) (Kd.R_far (p := ⟨gb209, 2, none⟩) (Kd.R_far (p := ⟨gb209, 1, none⟩) (Kd.R_far (p := ⟨gb209, 0, none⟩) (Kd.R_types HO_12.out BK209.out (by decide)) (fun _ hk => hk.2) (.int .i64 ((rd_T38 ((rd_T41 l0 x31_1).f3) x54_4).f0))) (fun _ hk => hk.2) (.int .i64 ((rd_T38 ((rd_T41 l0 x31_1).f3) x54_4).f1))) (fun _ hk => hk.2) (.int .i64 ((rd_T38 ((rd_T41 l0 x31_1).f3) x54_4).f2))) (fun _ hk => hk.2) (.int .i64 ((rd_T38 ((rd_T41 l0 x31_1).f3) x54_4).f3))) (fun _ hk => hk.2) (.int .i64 ((rd_T38 ((rd_T41 l0 x31_1).f3) x54_4).f4))) (fun _ h_ => h_.1))))) (below_size (by repeat (first | (with_reducible first | exact HB.out | apply below_alloc | apply pw_below_drewN | apply below_drew1 | refine below_set ?_ GE200.out | refine below_set ?_ GE209.out) | exact HB.out)))); have n4_ := Aside0.mk (blk_below (g := gb200) (o := .cells #[.string ((rd_T41 l0 x31_1).f0), .bool ((rd_T41 l0 x31_1).f1), .bool ((rd_T41 l0 x31_1).f2), .slice (some ad208) ((rd_T41 l0 x31_1).f3).length c199_3] 41 (0, 0)) (by (with_reducible repeat (first | refine blk_drewN ?_ _ | refine blk_drew ?_ | refine blk_alloc ?_ _)); refine blk_far ?_ NB200_209.out _; (with_reducible repeat (first | refine blk_drewN ?_ _ | refine blk_drew ?_ | refine blk_alloc ?_ _)); refine blk_far ?_ NB200_209.out _; (with_reducible repeat (first | refine blk_drewN ?_ _ | refine blk_drew ?_ | refine blk_alloc ?_ _)); refine blk_far ?_ NB200_209.out _; (with_reducible repeat (first | refine blk_drewN ?_ _ | refine blk_drew ?_ | refine blk_alloc ?_ _)); refine blk_far ?_ NB200_209.out _; (with_reducible repeat (first | refine blk_drewN ?_ _ | refine blk_drew ?_ | refine blk_alloc ?_ _)); refine blk_far ?_ NB200_209.out _; (with_reducible repeat (first | refine blk_drewN ?_ _ | refine blk_drew ?_ | refine blk_alloc ?_ _)); exact BK200.out) hb); have n5_ := Aside0.mk (blk_below (g := gb209) (o := .cells #[.int .i64 ((rd_T38 ((rd_T41 l0 x31_1).f3) x54_4).f0), .int .i64 ((rd_T38 ((rd_T41 l0 x31_1).f3) x54_4).f1), .int .i64 ((rd_T38 ((rd_T41 l0 x31_1).f3) x54_4).f2), .int .i64 ((rd_T38 ((rd_T41 l0 x31_1).f3) x54_4).f3), .int .i64 ((rd_T38 ((rd_T41 l0 x31_1).f3) x54_4).f4)] 38 (0, 0)) (by (with_reducible repeat (first | refine blk_drewN ?_ _ | refine blk_drew ?_ | refine blk_alloc ?_ _)); refine blk_put (cs := #[.int .i64 ((rd_T38 ((rd_T41 l0 x31_1).f3) x54_4).f0), .int .i64 ((rd_T38 ((rd_T41 l0 x31_1).f3) x54_4).f1), .int .i64 ((rd_T38 ((rd_T41 l0 x31_1).f3) x54_4).f2), .int .i64 ((rd_T38 ((rd_T41 l0 x31_1).f3) x54_4).f3), .int .i64 0]) ?_ 4 _ rfl; (with_reducible repeat (first | refine blk_drewN ?_ _ | refine blk_drew ?_ | refine blk_alloc ?_ _)); refine blk_put (cs := #[.int .i64 ((rd_T38 ((rd_T41 l0 x31_1).f3) x54_4).f0), .int .i64 ((rd_T38 ((rd_T41 l0 x31_1).f3) x54_4).f1), .int .i64 ((rd_T38 ((rd_T41 l0 x31_1).f3) x54_4).f2), .int .i64 0, .int .i64 0]) ?_ 3 _ rfl; (with_reducible repeat (first | refine blk_drewN ?_ _ | refine blk_drew ?_ | refine blk_alloc ?_ _)); refine blk_put (cs := #[.int .i64 ((rd_T38 ((rd_T41 l0 x31_1).f3) x54_4).f0), .int .i64 ((rd_T38 ((rd_T41 l0 x31_1).f3) x54_4).f1), .int .i64 0, .int .i64 0, .int .i64 0]) ?_ 2 _ rfl; (with_reducible repeat (first | refine blk_drewN ?_ _ | refine blk_drew ?_ | refine blk_alloc ?_ _)); refine blk_put (cs := #[.int .i64 ((rd_T38 ((rd_T41 l0 x31_1).f3) x54_4).f0), .int .i64 0, .int .i64 0, .int .i64 0, .int .i64 0]) ?_ 1 _ rfl; (with_reducible repeat (first | refine blk_drewN ?_ _ | refine blk_drew ?_ | refine blk_alloc ?_ _)); refine blk_put (cs := #[.int .i64 0, .int .i64 0, .int .i64 0, .int .i64 0, .int .i64 0]) ?_ 0 _ rfl; (with_reducible repeat (first | refine blk_drewN ?_ _ | refine blk_drew ?_ | refine blk_alloc ?_ _)); exact BK209.out) hb); have n6_ := Aside0.mk (below_step (by repeat (first | (with_reducible first | exact HB.out | apply below_alloc | apply pw_below_drewN | apply below_drew1 | refine below_set ?_ GE200.out | refine below_set ?_ GE209.out) | exact HB.out)) hb); clear HO_6; clear HO_9; clear HO_12; clear BK200; clear BK209; clear HB; have HO_6 := n0_; have HO_9 := n1_; have HO_12 := n2_; have HO212 := n3_; have BK200 := n4_; have BK209 := n5_; have HB := n6_; clear n0_ n1_ n2_ n3_ n4_ n5_ n6_; clear hb ho32; obtain ⟨Ao34, co34, eo34⟩ := Kd.R_slice HO212.out; subst eo34) | ((with_reducible refine gate_builtin (b := .append) (xs := #[.tmp 58, .tmp 69]) rfl ?_); at_builtin; refine Kd.R_append_rows (Kd.int .i64) (w0 := w) w.heap.size rfl (.tmp 58) (.tmp 69) 42 3 (.int .i64 0) 8 rfl Try.underlying42 info3 rfl (by decide) (by omega) u12 x12_4 y210 _ _ _ (fun k_ => some k_ ≠ (.slice Ao34 y210.length co34 : Value).ownBlock) (fun _ => False) rfl rfl ?aO ?aR (fun _ _ h => h) (fun _ h => h.elim) ?aF ?aB ?aS ?aL ?_; (case aR => repeat (first | exact (Kd.R_reads' HO212.out).2.2 | (with_reducible refine Kd.C_alloc ?_ _) | (with_reducible refine Kd.C_drewN ?_ _) | (with_reducible refine Kd.C_drew ?_))); (case aB => exact (by repeat (first | (with_reducible first | exact HB.out | apply below_alloc | apply pw_below_drewN | apply below_drew1 | refine below_set ?_ GE200.out | refine below_set ?_ GE209.out) | exact HB.out))); (case aF => exact (fun k_ hk => Kd.fresh' (Kd.R_lt (by (with_reducible repeat (first | apply Kd.R_alloc | apply Kd.R_drewN | apply Kd.R_drew)); exact HO212.out)) k_ hk)); (case aO => exact (by (with_reducible repeat (first | apply Kd.R_alloc | apply Kd.R_drewN | apply Kd.R_drew)); exact Kd.R_mono HO_12.out (fun _ hk => hk.2))); (case aS => exact (below_size (by repeat (first | (with_reducible first | exact HB.out | apply below_alloc | apply pw_below_drewN | apply below_drew1 | refine below_set ?_ GE200.out | refine below_set ?_ GE209.out) | exact HB.out)))); (case aL => have := LMc27.out; omega); intro v214 w33 ho hb hg hat; rw [← Ny213.out] at ho; have n0_ := Aside0.mk (Kd.R_over' (by (with_reducible repeat (first | apply Kd.R_alloc | apply Kd.R_drewN | apply Kd.R_drew)); exact HO_6.out) (Kd.R_typed (by (with_reducible repeat (first | apply Kd.R_alloc | apply Kd.R_drewN | apply Kd.R_drew)); exact HO_12.out)) (by decide) hg); have n1_ := Aside0.mk (Kd.R_over' (by (with_reducible repeat (first | apply Kd.R_alloc | apply Kd.R_drewN | apply Kd.R_drew)); exact HO_9.out) (Kd.R_typed (by (with_reducible repeat (first | apply Kd.R_alloc | apply Kd.R_drewN | apply Kd.R_drew)); exact HO_12.out)) (by decide) hg); have n2_ := Aside0.mk (blk_grown (g := gb200) (o := .cells #[.string ((rd_T41 l0 x31_1).f0), .bool ((rd_T41 l0 x31_1).f1), .bool ((rd_T41 l0 x31_1).f2), .slice (some ad208) ((rd_T41 l0 x31_1).f3).length c199_3] 41 (0, 0)) (by (with_reducible repeat (first | refine blk_drewN ?_ _ | refine blk_drew ?_ | refine blk_alloc ?_ _)); exact BK200.out) hg (Kd.R_ne HO_12.out BK200.out (by decide))); have n3_ := Aside0.mk (blk_grown (g := gb209) (o := .cells #[.int .i64 ((rd_T38 ((rd_T41 l0 x31_1).f3) x54_4).f0), .int .i64 ((rd_T38 ((rd_T41 l0 x31_1).f3) x54_4).f1), .int .i64 ((rd_T38 ((rd_T41 l0 x31_1).f3) x54_4).f2), .int .i64 ((rd_T38 ((rd_T41 l0 x31_1).f3) x54_4).f3), .int .i64 ((rd_T38 ((rd_T41 l0 x31_1).f3) x54_4).f4)] 38 (0, 0)) (by (with_reducible repeat (first | refine blk_drewN ?_ _ | refine blk_drew ?_ | refine blk_alloc ?_ _)); exact BK209.out) hg (Kd.R_ne HO_12.out BK209.out (by decide))); have n4_ := Aside0.mk (Kd.R_after (ok := (fun _ => True)) (by (with_reducible repeat (first | apply Kd.R_alloc | apply Kd.R_drewN | apply Kd.R_drew)); exact HO212.out) hg hat); have n5_ := Aside0.mk (hb); have n6_ := Aside0.mk (ho); clear HO_6; clear HO_9; clear BK200; clear BK209; clear HO212; clear HB; clear HO_12; have HO_6 := n0_; have HO_9 := n1_; have BK200 := n2_; have BK209 := n3_; have HO212 := n4_; have HB := n5_; have HO215 := n6_; clear n0_ n1_ n2_ n3_ n4_ n5_ n6_; clear ho hb hg hat))
                                  go_roundg k4
                                  case measure => have := HK1.out; have := HJ10.out; have := HJ17.out; have := HK4.out; omega
                                  case rel => exact ⟨(y213), (wrap64 (x54_4 + 1)), (by first | rfl | (simp; done) | (simp [*]; done)), H', ⟨by have := HK1.out; have := HJ10.out; have := HJ17.out; have := HK4.out; omega⟩, ⟨by (with_reducible repeat (first | apply Kd.R_alloc | apply Kd.R_drewN | apply Kd.R_drew)); exact HO_6.out⟩, ⟨by (with_reducible repeat (first | apply Kd.R_alloc | apply Kd.R_drewN | apply Kd.R_drew)); exact HO_9.out⟩, ⟨by (with_reducible repeat (first | apply Kd.R_alloc | apply Kd.R_drewN | apply Kd.R_drew)); exact Kd.R_mono HO215.out (fun _ hk => trivial)⟩, ⟨by (with_reducible repeat (first | refine blk_drewN ?_ _ | refine blk_drew ?_ | refine blk_alloc ?_ _)); exact BK200.out⟩, ⟨by repeat (first | (with_reducible first | exact HB.out | apply below_alloc | apply pw_below_drewN | apply below_drew1 | refine below_set ?_ GE200.out | refine below_set ?_ GE209.out) | exact HB.out)⟩⟩
                                · rw [if_neg c27] at H
                                  exact absurd H (by simp)
                              · rw [if_neg c26] at H
                                exact absurd H (by simp)
                            · rw [if_neg c25] at H
                              exact absurd H (by simp)
                          · rw [if_neg c24] at H
                            have c24b0 : decide (x54_4 < (((rd_T41 l0 x31_1).f3).length : Int)) = false := decide_eq_false c24
                            clear c24
                            replace H := Option.bind_eq_some_iff.mp H
                            obtain ⟨⟨t216, t217⟩, A350, H⟩ := H
                            replace H : (if x6_1.length + t201.length < 140737488355328 then ((some (x6_1 ++ t201 : List Int)).bind fun y220 => (if y220.length + t216.length < 140737488355328 then (types_Bytes.l0 k4 (y220 ++ t216) l0 (l0.length : Int) (wrap64 (x31_1 + 1))) else (none))) else (none)) = some (r1, r2) := H
                            have A35 := Aside0.mk A350
                            clear A350
                            by_cases c36 : x6_1.length + t201.length < 140737488355328
                            · rw [if_pos c36] at H
                              have LMc36 := Aside0.mk c36
                              clear c36
                              obtain ⟨y220, hy220⟩ : ∃ y_ : List Int, y_ = (x6_1 ++ t201) := ⟨_, rfl⟩
                              replace H : (if y220.length + t216.length < 140737488355328 then (types_Bytes.l0 k4 (y220 ++ t216) l0 (l0.length : Int) (wrap64 (x31_1 + 1))) else (none)) = some (r1, r2) := by first | (rw [hy220]; with_reducible exact H) | (have H2_ := (Option.bind_some _ _).symm.trans H; rw [hy220]; with_reducible exact H2_) | (have H2_ := (Option.bind_some _ _).symm.trans H; with_reducible exact H2_) | with_reducible exact H | (rw [hy220]; exact H) | exact H
                              have Ny220 := Aside0.mk hy220
                              clear hy220
                              by_cases c37 : y220.length + t216.length < 140737488355328
                              · rw [if_pos c37] at H
                                have LMc37 := Aside0.mk c37
                                clear c37
                                obtain ⟨y223, hy223⟩ : ∃ y_ : List Int, y_ = (y220 ++ t216) := ⟨_, rfl⟩
                                replace H : (types_Bytes.l0 k4 y223 l0 (l0.length : Int) (wrap64 (x31_1 + 1))) = some (r1, r2) := by first | (rw [hy223]; with_reducible exact H) | (have H2_ := (Option.bind_some _ _).symm.trans H; rw [hy223]; with_reducible exact H2_) | (have H2_ := (Option.bind_some _ _).symm.trans H; with_reducible exact H2_) | with_reducible exact H | (rw [hy223]; exact H) | exact H
                                have Ny223 := Aside0.mk hy223
                                clear hy223
                                have H' := Aside0.mk H
                                clear H
                                obtain ⟨Ao38, co38, eo38⟩ := Kd.R_slice HO_12.out
                                subst eo38
                                go_wp2_with (first | ((with_reducible refine gate_callee (f := 20) rfl ?_); refine goesL_ (some 74) rfl rfl Try.func20 (by kernel_rfl) rfl #[.slice Ao38 x12_4.length co38] rfl (by (try simp only [List.map_toArray, List.map_cons, List.map_nil]); first | done | rfl | (simp only [List.length_drop, List.length_take]; rfl)) ?_; (with_reducible refine (wire_Ints.calls k4 _ _ x12_4 t216 t217 _ ?side1 ?side2 A35.out).mono ?_); (case side1 => repeat (first | exact (Kd.R_reads' HO_12.out).2.2 | (with_reducible refine Kd.C_alloc ?_ _) | (with_reducible refine Kd.C_drewN ?_ _) | (with_reducible refine Kd.C_drew ?_))); (case side2 => exact (Kd.R_reads' HO_12.out).2.1); rintro e w39 ⟨v218, rfl, ho0, hb⟩; refine ⟨_, rfl, ?_⟩; have n0_ := Aside0.mk (Kd.R_elder' (by (with_reducible repeat (first | apply Kd.R_alloc | apply Kd.R_drewN | apply Kd.R_drew)); exact HO_6.out) (Kd.R_base ho0) hb); have n1_ := Aside0.mk (Kd.R_elder' (by (with_reducible repeat (first | apply Kd.R_alloc | apply Kd.R_drewN | apply Kd.R_drew)); exact HO_9.out) (Kd.R_base ho0) hb); have n2_ := Aside0.mk (Kd.R_below (by (with_reducible repeat (first | apply Kd.R_alloc | apply Kd.R_drewN | apply Kd.R_drew)); exact HO_12.out) hb); have n3_ := Aside0.mk (Kd.R_lower (Kd.R_new' (Kd.R_new' ho0 (Kd.R_lt (by (with_reducible repeat (first | apply Kd.R_alloc | apply Kd.R_drewN | apply Kd.R_drew)); exact HO_6.out))) (Kd.R_lt (by (with_reducible repeat (first | apply Kd.R_alloc | apply Kd.R_drewN | apply Kd.R_drew)); exact HO_9.out))) (below_size (by repeat (first | (with_reducible first | exact HB.out | apply below_alloc | apply pw_below_drewN | apply below_drew1 | refine below_set ?_ GE200.out) | exact HB.out)))); have n4_ := Aside0.mk (blk_below (g := gb200) (o := .cells #[.string ((rd_T41 l0 x31_1).f0), .bool ((rd_T41 l0 x31_1).f1), .bool ((rd_T41 l0 x31_1).f2), .slice A199_3 ((rd_T41 l0 x31_1).f3).length c199_3] 41 (0, 0)) (by (with_reducible repeat (first | refine blk_drewN ?_ _ | refine blk_drew ?_ | refine blk_alloc ?_ _)); exact BK200.out) hb); have n5_ := Aside0.mk (below_step (by repeat (first | (with_reducible first | exact HB.out | apply below_alloc | apply pw_below_drewN | apply below_drew1 | refine below_set ?_ GE200.out) | exact HB.out)) hb); clear HO_6; clear HO_9; clear HO_12; clear BK200; clear HB; have HO_6 := n0_; have HO_9 := n1_; have HO_12 := n2_; have HO219 := n3_; have BK200 := n4_; have HB := n5_; clear n0_ n1_ n2_ n3_ n4_ n5_; (try clear hb); (try clear hb2); (try clear hk); (try clear hi); (try clear ho0); obtain ⟨Ao41, co41, eo41⟩ := Kd.R_slice HO_9.out; subst eo41) | ((with_reducible refine gate_builtin (b := .append) (xs := #[.tmp 77, .tmp 78]) rfl ?_); at_builtin; refine Kd.R_append_rows (Kd.int .u8) (w0 := w) w.heap.size rfl (.tmp 77) (.tmp 78) 22 5 (.int .u8 0) 1 rfl Try.underlying22 info5 rfl (by decide) (by omega) u6 x6_1 t201 _ _ _ (fun k_ => some k_ ≠ (.slice Ao41 t201.length co41 : Value).ownBlock ∧ some k_ ≠ (v218 : Value).ownBlock) (fun _ => False) rfl rfl ?aO ?aR (fun _ _ h => h) (fun _ h => h.elim) ?aF ?aB ?aS ?aL ?_; (case aR => repeat (first | exact (Kd.R_reads' HO_9.out).2.2 | (with_reducible refine Kd.C_alloc ?_ _) | (with_reducible refine Kd.C_drewN ?_ _) | (with_reducible refine Kd.C_drew ?_))); (case aB => exact (by repeat (first | (with_reducible first | exact HB.out | apply below_alloc | apply pw_below_drewN | apply below_drew1 | refine below_set ?_ GE200.out) | exact HB.out))); (case aF => exact (fun k_ hk => ⟨Kd.fresh' (Kd.R_lt (by (with_reducible repeat (first | apply Kd.R_alloc | apply Kd.R_drewN | apply Kd.R_drew)); exact HO_9.out)) k_ hk, Kd.fresh' (Kd.R_lt (by (with_reducible repeat (first | apply Kd.R_alloc | apply Kd.R_drewN | apply Kd.R_drew)); exact HO219.out)) k_ hk⟩)); (case aO => exact (by (with_reducible repeat (first | apply Kd.R_alloc | apply Kd.R_drewN | apply Kd.R_drew)); exact HO_6.out)); (case aS => exact (below_size (by repeat (first | (with_reducible first | exact HB.out | apply below_alloc | apply pw_below_drewN | apply below_drew1 | refine below_set ?_ GE200.out) | exact HB.out)))); (case aL => have := LMc36.out; omega); intro v221 w40 ho hb hg hat; rw [← Ny220.out] at ho; have n0_ := Aside0.mk (Kd.R_after (ok := (fun k_ => some k_ ≠ (v218 : Value).ownBlock)) (by (with_reducible repeat (first | apply Kd.R_alloc | apply Kd.R_drewN | apply Kd.R_drew)); exact Kd.R_mono HO_9.out (fun _ hk => ⟨hk.2, hk.1⟩)) hg hat); have n1_ := Aside0.mk (Kd.R_over' (by (with_reducible repeat (first | apply Kd.R_alloc | apply Kd.R_drewN | apply Kd.R_drew)); exact HO_12.out) (Kd.R_typed (by (with_reducible repeat (first | apply Kd.R_alloc | apply Kd.R_drewN | apply Kd.R_drew)); exact HO_6.out)) (by decide) hg); have n2_ := Aside0.mk (blk_grown (g := gb200) (o := .cells #[.string ((rd_T41 l0 x31_1).f0), .bool ((rd_T41 l0 x31_1).f1), .bool ((rd_T41 l0 x31_1).f2), .slice A199_3 ((rd_T41 l0 x31_1).f3).length c199_3] 41 (0, 0)) (by (with_reducible repeat (first | refine blk_drewN ?_ _ | refine blk_drew ?_ | refine blk_alloc ?_ _)); exact BK200.out) hg (Kd.R_ne HO_6.out BK200.out (by decide))); have n3_ := Aside0.mk (Kd.R_after (ok := (fun k_ => some k_ ≠ (.slice Ao41 t201.length co41 : Value).ownBlock)) (by (with_reducible repeat (first | apply Kd.R_alloc | apply Kd.R_drewN | apply Kd.R_drew)); exact Kd.R_mono HO219.out (fun _ hk => ⟨hk.2, hk.1.2⟩)) hg hat); have n4_ := Aside0.mk (hb); have n5_ := Aside0.mk (ho); clear HO_9; clear HO_12; clear BK200; clear HO219; clear HB; clear HO_6; have HO_9 := n0_; have HO_12 := n1_; have BK200 := n2_; have HO219 := n3_; have HB := n4_; have HO222 := n5_; clear n0_ n1_ n2_ n3_ n4_ n5_; clear ho hb hg hat; obtain ⟨Ao43, co43, eo43⟩ := Kd.R_slice HO219.out; subst eo43) | ((with_reducible refine gate_builtin (b := .append) (xs := #[.tmp 79, .tmp 80]) rfl ?_); at_builtin; refine Kd.R_append_rows (Kd.int .u8) (w0 := w) w.heap.size rfl (.tmp 79) (.tmp 80) 22 5 (.int .u8 0) 1 rfl Try.underlying22 info5 rfl (by decide) (by omega) v221 y220 t216 _ _ _ (fun k_ => some k_ ≠ (.slice Ao41 t201.length co41 : Value).ownBlock ∧ some k_ ≠ (.slice Ao43 t216.length co43 : Value).ownBlock) (fun _ => False) rfl rfl ?aO ?aR (fun _ _ h => h) (fun _ h => h.elim) ?aF ?aB ?aS ?aL ?_; (case aR => repeat (first | exact (Kd.R_reads' HO219.out).2.2 | (with_reducible refine Kd.C_alloc ?_ _) | (with_reducible refine Kd.C_drewN ?_ _) | (with_reducible refine Kd.C_drew ?_))); (case aB => exact (by repeat (first | (with_reducible first | exact HB.out | apply below_alloc | apply pw_below_drewN | apply below_drew1 | refine below_set ?_ GE200.out) | exact HB.out))); (case aF => exact (fun k_ hk => ⟨Kd.fresh' (Kd.R_lt (by (with_reducible repeat (first | apply Kd.R_alloc | apply Kd.R_drewN | apply Kd.R_drew)); exact HO_9.out)) k_ hk, Kd.fresh' (Kd.R_lt (by (with_reducible repeat (first | apply Kd.R_alloc | apply Kd.R_drewN | apply Kd.R_drew)); exact HO219.out)) k_ hk⟩)); (case aO => exact (by (with_reducible repeat (first | apply Kd.R_alloc | apply Kd.R_drewN | apply Kd.R_drew)); exact HO222.out)); (case aS => exact (below_size (by repeat (first | (with_reducible first | exact HB.out | apply below_alloc | apply pw_below_drewN | apply below_drew1 | refine below_set ?_ GE200.out) | exact HB.out)))); (case aL => have := LMc37.out; omega); intro v224 w42 ho hb hg hat; rw [← Ny223.out] at ho; have n0_ := Aside0.mk (Kd.R_after (ok := (fun k_ => some k_ ≠ (.slice Ao43 t216.length co43 : Value).ownBlock)) (by (with_reducible repeat (first | apply Kd.R_alloc | apply Kd.R_drewN | apply Kd.R_drew)); exact HO_9.out) hg hat); have n1_ := Aside0.mk (Kd.R_over' (by (with_reducible repeat (first | apply Kd.R_alloc | apply Kd.R_drewN | apply Kd.R_drew)); exact HO_12.out) (Kd.R_typed (by (with_reducible repeat (first | apply Kd.R_alloc | apply Kd.R_drewN | apply Kd.R_drew)); exact HO222.out)) (by decide) hg); have n2_ := Aside0.mk (blk_grown (g := gb200) (o := .cells #[.string ((rd_T41 l0 x31_1).f0), .bool ((rd_T41 l0 x31_1).f1), .bool ((rd_T41 l0 x31_1).f2), .slice A199_3 ((rd_T41 l0 x31_1).f3).length c199_3] 41 (0, 0)) (by (with_reducible repeat (first | refine blk_drewN ?_ _ | refine blk_drew ?_ | refine blk_alloc ?_ _)); exact BK200.out) hg (Kd.R_ne HO222.out BK200.out (by decide))); have n3_ := Aside0.mk (Kd.R_after (ok := (fun k_ => some k_ ≠ (.slice Ao41 t201.length co41 : Value).ownBlock)) (by (with_reducible repeat (first | apply Kd.R_alloc | apply Kd.R_drewN | apply Kd.R_drew)); exact HO219.out) hg hat); have n4_ := Aside0.mk (hb); have n5_ := Aside0.mk (ho); clear HO_9; clear HO_12; clear BK200; clear HO219; clear HB; clear HO222; have HO_9 := n0_; have HO_12 := n1_; have BK200 := n2_; have HO219 := n3_; have HB := n4_; have HO225 := n5_; clear n0_ n1_ n2_ n3_ n4_ n5_; clear ho hb hg hat))
                                go_roundg k4
                                case measure => have := HK1.out; have := HJ10.out; have := HJ17.out; have := HK4.out; omega
                                case rel => exact ⟨(y223), (wrap64 (x31_1 + 1)), (by first | rfl | (simp; done) | (simp [*]; done)), H', ⟨by have := HK1.out; have := HJ10.out; have := HJ17.out; have := HK4.out; omega⟩, ⟨by (with_reducible repeat (first | apply Kd.R_alloc | apply Kd.R_drewN | apply Kd.R_drew)); exact Kd.R_mono HO225.out (fun _ hk => trivial)⟩, ⟨by repeat (first | (with_reducible first | exact HB.out | apply below_alloc | apply pw_below_drewN | apply below_drew1 | refine below_set ?_ GE200.out) | exact HB.out)⟩⟩
                              · rw [if_neg c37] at H
                                exact absurd H (by simp)
                            · rw [if_neg c36] at H
                              exact absurd H (by simp)
            · rw [if_neg c9] at H
              exact absurd H (by simp)
          · rw [if_neg c8] at H
            exact absurd H (by simp)
        · rw [if_neg c7] at H
          have c7b0 : decide (x31_1 < (l0.length : Int)) = false := decide_eq_false c7
          clear c7
          simp only [Option.some.injEq, Prod.mk.injEq] at H
          obtain ⟨rfl, rfl⟩ := H
          go_wp2
          go_ret2
          exact ⟨_, by first | rfl | (simp [errW_none, errW_some] <;> rfl) | (simp [*, errW_none, errW_some] <;> rfl), by (with_reducible repeat (first | apply Kd.R_alloc | apply Kd.R_drewN | apply Kd.R_drew)); exact HO_6.out, by repeat (first | (with_reducible first | exact HB.out | apply below_alloc | apply pw_below_drewN | apply below_drew1) | exact HB.out)⟩
  · rw [if_neg c3] at H
    have c3b0 : (t195 == 0) = false := beq_eq_false_iff_ne.mpr c3
    have c3b1 : (t195 != 0) = true := bne_iff_ne.mpr c3
    simp only [Option.some.injEq, Prod.mk.injEq] at H
    obtain ⟨rfl, rfl⟩ := H
    go_enter Try.func9, Try.ntmps9
    go_wp2_with (first | ((with_reducible refine gate_callee (f := 10) rfl ?_); refine goesL_ (some 19) rfl rfl Try.func10 (by kernel_rfl) rfl #[.slice A0 l0.length c0] rfl (by (try simp only [List.map_toArray, List.map_cons, List.map_nil]); first | done | rfl | (simp only [List.length_drop, List.length_take]; rfl)) ?_; (with_reducible refine (types_Check.calls _ _ l0 t194 t195 _ ?side1 ?side2 A2.out).mono ?_); (case side1 => repeat (first | exact HR0.out | (with_reducible refine Kd.C_alloc ?_ _) | (with_reducible refine Kd.C_drewN ?_ _) | (with_reducible refine Kd.C_drew ?_))); (case side2 => exact HC0.out); rintro e w44 ⟨rfl, hb⟩; refine ⟨_, rfl, ?_⟩; have n0_ := Aside0.mk (below_step (by repeat (first | (with_reducible first | exact HB.out | apply below_alloc | apply pw_below_drewN | apply below_drew1) | exact HB.out)) hb); clear HB; have HB := n0_; clear n0_; (try clear hb); (try clear hb2); (try clear hk); (try clear hi)))
    go_ret2
    exact ⟨_, by first | rfl | (simp [errW_none, errW_some] <;> rfl) | (simp [*, errW_none, errW_some] <;> rfl), by first | exact Kd.R_nil _ _ _ _ _ | exact Kd.N_nil _ _ _ _ _ | exact Kd.V_nil _ _ _ _ _ | exact Kd.Q_nil _ _ _ _ _ | exact Kd.S_nil _ _ _ _ _, by repeat (first | (with_reducible first | exact HB.out | apply below_alloc | apply pw_below_drewN | apply below_drew1) | exact HB.out)⟩

end Go.Proofs.Ytckijljnomojiaa.PTypesBack
