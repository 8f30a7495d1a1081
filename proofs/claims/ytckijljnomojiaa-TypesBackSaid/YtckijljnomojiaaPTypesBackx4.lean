-- laid by wip/tools/mkprint.py, a turned copy of the print
import Derived.Test.YtckijljnomojiaaPTypesBackx0
import Derived.Test.YtckijljnomojiaaPTypesBackx2
import Derived.Test.YtckijljnomojiaaPTypesBackx3
namespace Go.Proofs.Ytckijljnomojiaa.PTypesBack
open Go.RowKit Go.Proofs.YtckijljnomojiaaW.PrintWords Go.Proofs.YtckijljnomojiaaW.PrintLast Go.Proofs.YtckijljnomojiaaW.PrintMore
attribute [local go_sem] max2_int min2_int max_two min_two max_three min_three max_four min_four   -- for this text's walks alone
set_option linter.unusedVariables false
set_option linter.unusedSimpArgs false

/-! ### types_Layout: function 11 -/
def types_Layout.l0 : Nat → List Int → Int → List (S38) → Int → Int → Option (List Int × Int × Int)
  | 0, _, _, _, _, _ => none
  | k + 1, x5, x6, x15, x16, x17 => if x17 < x16 then (if 0 ≤ x17 then (if x17 < (x15.length : Int) then ((types_size.f ((rd_T38 x15 x17).f0) ((rd_T38 x15 x17).f1) ((rd_T38 x15 x17).f2) ((rd_T38 x15 x17).f3) ((rd_T38 x15 x17).f4)).bind fun t111 => (if t111 = 0 then (some (([] : List Int), 0, 7)) else (if x5.length < 17592186044416 then (types_Layout.l0 k (x5 ++ [x6]) (wrap64 (x6 + t111)) x15 x16 (wrap64 (x17 + 1))) else (none)))) else (none)) else (none)) else (if x6 > 256 then (some (([] : List Int), 0, 11)) else (some (x5, x6, 0)))
def types_Layout.f (k : Nat) (a0_0 : ByteArray) (a0_1 : Bool) (a0_2 : Bool) (l0_3 : List (S38)) : Option (List Int × Int × Int) := if (l0_3.length : Int) > 12 then (some (([] : List Int), 0, 11)) else (types_Layout.l0 k ([] : List Int) 8 l0_3 (l0_3.length : Int) 0)
theorem types_Layout.mono_l : ∀ k, (∀ y0 y1 y2 y3 y4, LeO (types_Layout.l0 k y0 y1 y2 y3 y4) (types_Layout.l0 (k + 1) y0 y1 y2 y3 y4))
  | 0 => fun _ _ _ _ _ r h => by simp [types_Layout.l0] at h
  | k + 1 => by
    have ih0 := types_Layout.mono_l k
    · intro y0 y1 y2 y3 y4
      unfold types_Layout.l0
      repeat' first
      | (with_reducible exact ih0 _ _ _ _ _)
      | (with_reducible exact LeO.refl _)
      | (with_reducible exact LeO.none _)
      | (with_reducible refine LeO.ite ?_ ?_)
      | (with_reducible refine LeO.bind ?_ (fun _ => ?_))
      | exact ih0 _ _ _ _ _
      | exact LeO.none _
      | refine LeO.ite ?_ ?_
      | refine LeO.bind ?_ (fun _ => ?_)
theorem types_Layout.mono : ∀ a0 a1 a2 a3 k, LeO (types_Layout.f k a0 a1 a2 a3) (types_Layout.f (k + 1) a0 a1 a2 a3) := by
  intro a0 a1 a2 a3 k
  have ih0 := types_Layout.mono_l k
  unfold types_Layout.f
  repeat' first
      | (with_reducible exact ih0 _ _ _ _ _)
      | (with_reducible exact LeO.refl _)
      | (with_reducible exact LeO.none _)
      | (with_reducible refine LeO.ite ?_ ?_)
      | (with_reducible refine LeO.bind ?_ (fun _ => ?_))
      | exact ih0 _ _ _ _ _
      | exact LeO.none _
      | refine LeO.ite ?_ ?_
      | refine LeO.bind ?_ (fun _ => ?_)
set_option maxHeartbeats 8000000 in
set_option maxRecDepth 100000 in
theorem types_Layout.calls (k : Nat) (a0_0 : ByteArray) (a0_1 : Bool) (a0_2 : Bool) (A0_3 : Option Addr) (c0_3 : Nat) (l0_3 : List (S38)) (r1 : List Int) (r2 : Int) (r3 : Int) (w : World) (hr0_3 : Kd.C k38 w A0_3 l0_3.length l0_3) (hc0_3 : l0_3.length ≤ c0_3) (h : types_Layout.f k a0_0 a0_1 a0_2 l0_3 = some (r1, r2, r3)) :
    Calls Try.prog 11 #[.agg #[.string a0_0, .bool a0_1, .bool a0_2, .slice A0_3 l0_3.length c0_3]] w fun e w' => ∃ v0_ : Value, e = .returned (.tuple #[v0_, .int .i64 r2, .int .i64 r3]) ∧ Kd.R (Kd.int .i64) 3 w' w.heap.size (fun _ => True) v0_ r1 ∧ Below w.heap.size w w' := by
  have hu41 := Try.underlying41
  have hu38 := Try.underlying38
  have HR0_3 := Aside0.mk hr0_3
  have HC0_3 := Aside0.mk hc0_3
  clear hr0_3 hc0_3
  have HB := Aside0.mk (Below.refl w.heap.size w)
  have H : (if (l0_3.length : Int) > 12 then (some (([] : List Int), 0, 11)) else (types_Layout.l0 k ([] : List Int) 8 l0_3 (l0_3.length : Int) 0)) = some (r1, r2, r3) := h
  clear h
  by_cases c2 : (l0_3.length : Int) > 12
  · rw [if_pos c2] at H
    have c2b0 : decide (12 < (l0_3.length : Int)) = true := decide_eq_true c2
    have c2b1 : decide (12 < l0_3.length) = true := decide_eq_true (by omega)
    clear c2
    simp only [Option.some.injEq, Prod.mk.injEq] at H
    obtain ⟨rfl, rfl, rfl⟩ := H
    go_enter Try.func11, Try.ntmps11
    go_wp2_with (first | ((with_reducible refine gate_dst (N := 1) rfl ?_); refine box_event ?hg (N := 1) ?hd (cs := #[.string a0_0, .bool a0_1, .bool a0_2, .slice A0_3 l0_3.length c0_3]) (t := 41) ?hr ?_; (case hd => rfl); (case hg => rfl); (case hr => first | (go_simp; done) | (go_simp; rfl)); intro gb108 hg w3 hbox hb; have n0_ := Aside0.mk (below_step (by repeat (first | (with_reducible first | exact HB.out | apply below_alloc | apply pw_below_drewN | apply below_drew1) | exact HB.out)) hb); have n1_ := Aside0.mk (hbox); have n2_ := Aside0.mk ((by rw [hg]; exact (below_size (by repeat (first | (with_reducible first | exact HB.out | apply below_alloc | apply pw_below_drewN | apply below_drew1) | exact HB.out))) : w.heap.size ≤ gb108)); have n3_ := Aside0.mk ((by rw [hg]; exact (below_size (by repeat (first | (with_reducible first | exact HB.out | apply below_alloc | apply pw_below_drewN | apply below_drew1) | exact HB.out))) : w.heap.size ≤ gb108)); clear HB; have HB := n0_; have BK108 := n1_; have GW108 := n2_; have GE108 := n3_; clear n0_ n1_ n2_ n3_; clear hb hbox hg; have hcz4_0 : w3.cell? ⟨gb108, 0, none⟩ = some (.string a0_0) := (blk_cell BK108.out 0).trans rfl; have hcz4_1 : w3.cell? ⟨gb108, 1, none⟩ = some (.bool a0_1) := (blk_cell BK108.out 1).trans rfl; have hcz4_2 : w3.cell? ⟨gb108, 2, none⟩ = some (.bool a0_2) := (blk_cell BK108.out 2).trans rfl; have hcz4_3 : w3.cell? ⟨gb108, 3, none⟩ = some (.slice A0_3 l0_3.length c0_3) := (blk_cell BK108.out 3).trans rfl; have hfz4_0 := blk_frozen BK108.out 0; have hfz4_1 := blk_frozen BK108.out 1; have hfz4_2 := blk_frozen BK108.out 2; have hfz4_3 := blk_frozen BK108.out 3))
    go_ret3
    exact ⟨_, by first | rfl | (simp [errW_none, errW_some] <;> rfl) | (simp [*, errW_none, errW_some] <;> rfl), by first | exact Kd.R_nil _ _ _ _ _ | exact Kd.N_nil _ _ _ _ _ | exact Kd.V_nil _ _ _ _ _ | exact Kd.Q_nil _ _ _ _ _ | exact Kd.S_nil _ _ _ _ _, by repeat (first | (with_reducible first | exact HB.out | apply below_alloc | apply pw_below_drewN | apply below_drew1 | refine below_set ?_ GE108.out) | exact HB.out)⟩
  · rw [if_neg c2] at H
    have c2b0 : decide (12 < (l0_3.length : Int)) = false := decide_eq_false c2
    have c2b1 : decide (12 < l0_3.length) = false := decide_eq_false (by omega)
    clear c2
    have H' := Aside0.mk H
    clear H
    go_enter Try.func11, Try.ntmps11
    go_wp2_with (first | ((with_reducible refine gate_dst (N := 1) rfl ?_); refine box_event ?hg (N := 1) ?hd (cs := #[.string a0_0, .bool a0_1, .bool a0_2, .slice A0_3 l0_3.length c0_3]) (t := 41) ?hr ?_; (case hd => rfl); (case hg => rfl); (case hr => first | (go_simp; done) | (go_simp; rfl)); intro gb108 hg w5 hbox hb; have n0_ := Aside0.mk (below_step (by repeat (first | (with_reducible first | exact HB.out | apply below_alloc | apply pw_below_drewN | apply below_drew1) | exact HB.out)) hb); have n1_ := Aside0.mk (hbox); have n2_ := Aside0.mk ((by rw [hg]; exact (below_size (by repeat (first | (with_reducible first | exact HB.out | apply below_alloc | apply pw_below_drewN | apply below_drew1) | exact HB.out))) : w.heap.size ≤ gb108)); have n3_ := Aside0.mk ((by rw [hg]; exact (below_size (by repeat (first | (with_reducible first | exact HB.out | apply below_alloc | apply pw_below_drewN | apply below_drew1) | exact HB.out))) : w.heap.size ≤ gb108)); clear HB; have HB := n0_; have BK108 := n1_; have GW108 := n2_; have GE108 := n3_; clear n0_ n1_ n2_ n3_; clear hb hbox hg; have hcz6_0 : w5.cell? ⟨gb108, 0, none⟩ = some (.string a0_0) := (blk_cell BK108.out 0).trans rfl; have hcz6_1 : w5.cell? ⟨gb108, 1, none⟩ = some (.bool a0_1) := (blk_cell BK108.out 1).trans rfl; have hcz6_2 : w5.cell? ⟨gb108, 2, none⟩ = some (.bool a0_2) := (blk_cell BK108.out 2).trans rfl; have hcz6_3 : w5.cell? ⟨gb108, 3, none⟩ = some (.slice A0_3 l0_3.length c0_3) := (blk_cell BK108.out 3).trans rfl; have hfz6_0 := blk_frozen BK108.out 0; have hfz6_1 := blk_frozen BK108.out 1; have hfz6_2 := blk_frozen BK108.out 2; have hfz6_3 := blk_frozen BK108.out 3))
    go_loopg [5, 6, 17] k (fun kq v5 v6 v17 w' => ∃ (x5_1 : List Int) (x6_1 : Int) (x17_1 : Int), v6 = .int .i64 x6_1 ∧ v17 = .int .i64 x17_1 ∧ Aside0 (types_Layout.l0 kq x5_1 x6_1 l0_3 (l0_3.length : Int) x17_1 = some (r1, r2, r3)) ∧ Aside0 (kq ≤ k) ∧ Aside0 (Kd.R (Kd.int .i64) 3 w' w.heap.size (fun _ => True) v5 x5_1) ∧ Aside0 (w'.heap[gb108]? = some (.cells #[.string a0_0, .bool a0_1, .bool a0_2, (.slice A0_3 l0_3.length c0_3)] 41 (0, 0))) ∧ Aside0 (Below w.heap.size w w'))
    case atStart => exact ⟨(([] : List Int)), (8), (0), (by first | rfl | (simp; done) | (simp [*]; done)), (by first | rfl | (simp; done) | (simp [*]; done)), H', ⟨Nat.le_refl _⟩, ⟨by first | exact Kd.R_nil _ _ _ _ _ | exact Kd.N_nil _ _ _ _ _ | exact Kd.V_nil _ _ _ _ _ | exact Kd.Q_nil _ _ _ _ _ | exact Kd.S_nil _ _ _ _ _⟩, ⟨by (with_reducible repeat (first | refine blk_drewN ?_ _ | refine blk_drew ?_ | refine blk_alloc ?_ _)); exact BK108.out⟩, ⟨by repeat (first | (with_reducible first | exact HB.out | apply below_alloc | apply pw_below_drewN | apply below_drew1 | refine below_set ?_ GE108.out) | exact HB.out)⟩⟩
    case round =>
      clear H'
      try clear c1
      try clear c2
      try clear c2b0
      try clear c2b1
      try clear p2
      try clear hcz4_0
      try clear hcz4_1
      try clear hcz4_2
      try clear hcz4_3
      try clear hcz6_0
      try clear hcz6_1
      try clear hcz6_2
      try clear hcz6_3
      try clear hfz4_0
      try clear hfz4_1
      try clear hfz4_2
      try clear hfz4_3
      try clear hfz6_0
      try clear hfz6_1
      try clear hfz6_2
      try clear hfz6_3
      obtain ⟨x5_1, x6_1, x17_1, rfl, rfl, HA, HK1, HO_5, BK108, HB⟩ := hrel
      cases gk with
      | zero => exact absurd HA.out (by simp [types_Layout.l0])
      | succ k1 =>
        have H := HA.out
        clear HA
        simp only [types_Layout.l0] at H
        by_cases c7 : x17_1 < (l0_3.length : Int)
        · rw [if_pos c7] at H
          have c7b0 : decide (x17_1 < (l0_3.length : Int)) = true := decide_eq_true c7
          clear c7
          by_cases c8 : 0 ≤ x17_1
          · rw [if_pos c8] at H
            have c8b0 : decide (0 ≤ x17_1) = true := decide_eq_true c8
            clear c8
            by_cases c9 : x17_1 < (l0_3.length : Int)
            · rw [if_pos c9] at H
              have c9b0 : decide (x17_1 < (l0_3.length : Int)) = true := decide_eq_true c9
              clear c9
              replace H := Option.bind_eq_some_iff.mp H
              obtain ⟨t111, A100, H⟩ := H
              replace H : (if t111 = 0 then (some (([] : List Int), 0, 7)) else (if x5_1.length < 17592186044416 then (types_Layout.l0 k1 (x5_1 ++ [x6_1]) (wrap64 (x6_1 + t111)) l0_3 (l0_3.length : Int) (wrap64 (x17_1 + 1))) else (none))) = some (r1, r2, r3) := H
              have A10 := Aside0.mk A100
              clear A100
              by_cases c11 : t111 = 0
              · rw [if_pos c11] at H
                have c11b0 : (t111 == 0) = true := beq_iff_eq.mpr c11
                have c11b1 : (t111 != 0) = false := bne_eq_false_iff_eq.mpr c11
                clear c11
                simp only [Option.some.injEq, Prod.mk.injEq] at H
                obtain ⟨rfl, rfl, rfl⟩ := H
                have p109 : 0 ≤ (x17_1 : Int) := of_decide_eq_true (by first | (with_reducible assumption) | assumption)
                have q109 : x17_1 < (l0_3.length : Int) := of_decide_eq_true (by first | (with_reducible assumption) | assumption)
                obtain ⟨ad109, e109, hx109_0, hx109_1, hx109_2, hx109_3, hx109_4⟩ := at_T38 HR0_3.out x17_1 p109 q109
                cases e109
                replace hx109_0 := (HB.out.cell (World.block_lt_of_cell? w _ hx109_0)).trans hx109_0
                replace hx109_1 := (HB.out.cell (World.block_lt_of_cell? w _ hx109_1)).trans hx109_1
                replace hx109_2 := (HB.out.cell (World.block_lt_of_cell? w _ hx109_2)).trans hx109_2
                replace hx109_3 := (HB.out.cell (World.block_lt_of_cell? w _ hx109_3)).trans hx109_3
                replace hx109_4 := (HB.out.cell (World.block_lt_of_cell? w _ hx109_4)).trans hx109_4
                replace p109 := eq_true p109
                replace q109 := eq_true q109
                go_wp2_with (first | ((with_reducible refine gate_dst (N := 8) rfl ?_); refine box_event ?hg (N := 8) ?hd (cs := #[.int .i64 0, .int .i64 0, .int .i64 0, .int .i64 0, .int .i64 0]) (t := 38) ?hr ?_; (case hd => rfl); (case hg => rfl); (case hr => first | (go_simp; done) | (go_simp; rfl)); intro gb110 hg w12 hbox hb; have n0_ := Aside0.mk (Kd.R_below (by (with_reducible repeat (first | apply Kd.R_alloc | apply Kd.R_drewN | apply Kd.R_drew)); exact HO_5.out) hb); have n1_ := Aside0.mk (blk_below (g := gb108) (o := .cells #[.string a0_0, .bool a0_1, .bool a0_2, .slice (some ad109) l0_3.length c0_3] 41 (0, 0)) (by (with_reducible repeat (first | refine blk_drewN ?_ _ | refine blk_drew ?_ | refine blk_alloc ?_ _)); exact BK108.out) hb); have n2_ := Aside0.mk (below_step (by repeat (first | (with_reducible first | exact HB.out | apply below_alloc | apply pw_below_drewN | apply below_drew1 | refine below_set ?_ GE108.out) | exact HB.out)) hb); have n3_ := Aside0.mk (hbox); have n4_ := Aside0.mk ((by rw [hg]; exact (below_size (by repeat (first | (with_reducible first | exact HB.out | apply below_alloc | apply pw_below_drewN | apply below_drew1 | refine below_set ?_ GE108.out) | exact HB.out))) : w.heap.size ≤ gb110)); have n5_ := Aside0.mk ((by rw [hg]; exact (below_size (by repeat (first | (with_reducible first | exact HB.out | apply below_alloc | apply pw_below_drewN | apply below_drew1 | refine below_set ?_ GE108.out) | exact HB.out))) : w.heap.size ≤ gb110)); have n6_ := Aside0.mk ((by rw [hg]; exact Nat.ne_of_lt (blk_lt (g := gb108) (o := .cells #[.string a0_0, .bool a0_1, .bool a0_2, .slice (some ad109) l0_3.length c0_3] 41 (0, 0)) (by (with_reducible repeat (first | refine blk_drewN ?_ _ | refine blk_drew ?_ | refine blk_alloc ?_ _)); exact BK108.out)) : gb108 ≠ gb110)); have n7_ := Aside0.mk ((by rw [hg]; exact Nat.ne_of_gt (blk_lt (g := gb108) (o := .cells #[.string a0_0, .bool a0_1, .bool a0_2, .slice (some ad109) l0_3.length c0_3] 41 (0, 0)) (by (with_reducible repeat (first | refine blk_drewN ?_ _ | refine blk_drew ?_ | refine blk_alloc ?_ _)); exact BK108.out)) : gb110 ≠ gb108)); clear HO_5; clear BK108; clear HB; have HO_5 := n0_; have BK108 := n1_; have HB := n2_; have BK110 := n3_; have GW110 := n4_; have GE110 := n5_; have NB108_110 := n6_; have NB110_108 := n7_; clear n0_ n1_ n2_ n3_ n4_ n5_ n6_ n7_; clear hb hbox hg; have hnb13 := NB110_108.out; have hnc13 := NB108_110.out; have hcz14_0 : w12.cell? ⟨gb110, 0, none⟩ = some (.int .i64 0) := (blk_cell BK110.out 0).trans rfl; have hcz14_1 : w12.cell? ⟨gb110, 1, none⟩ = some (.int .i64 0) := (blk_cell BK110.out 1).trans rfl; have hcz14_2 : w12.cell? ⟨gb110, 2, none⟩ = some (.int .i64 0) := (blk_cell BK110.out 2).trans rfl; have hcz14_3 : w12.cell? ⟨gb110, 3, none⟩ = some (.int .i64 0) := (blk_cell BK110.out 3).trans rfl; have hcz14_4 : w12.cell? ⟨gb110, 4, none⟩ = some (.int .i64 0) := (blk_cell BK110.out 4).trans rfl; have hfz14_0 := blk_frozen BK110.out 0; have hfz14_1 := blk_frozen BK110.out 1; have hfz14_2 := blk_frozen BK110.out 2; have hfz14_3 := blk_frozen BK110.out 3; have hfz14_4 := blk_frozen BK110.out 4) | ((with_reducible refine gate_callee (f := 23) rfl ?_); refine goesL_ (some 22) rfl rfl Try.func23 (by kernel_rfl) rfl #[.agg #[.int .i64 ((rd_T38 l0_3 x17_1).f0), .int .i64 ((rd_T38 l0_3 x17_1).f1), .int .i64 ((rd_T38 l0_3 x17_1).f2), .int .i64 ((rd_T38 l0_3 x17_1).f3), .int .i64 ((rd_T38 l0_3 x17_1).f4)]] rfl (by (try simp only [List.map_toArray, List.map_cons, List.map_nil]); first | done | rfl | (simp only [List.length_drop, List.length_take]; rfl)) ?_; (with_reducible refine (types_size.calls ((rd_T38 l0_3 x17_1).f0) ((rd_T38 l0_3 x17_1).f1) ((rd_T38 l0_3 x17_1).f2) ((rd_T38 l0_3 x17_1).f3) ((rd_T38 l0_3 x17_1).f4) t111 _ A10.out).mono ?_); rintro e w15 ⟨rfl, hb⟩; refine ⟨_, rfl, ?_⟩; have n0_ := Aside0.mk (Kd.R_below (by (with_reducible repeat (first | apply Kd.R_alloc | apply Kd.R_drewN | apply Kd.R_drew)); exact (Kd.R_mono (Kd.R_far (p := ⟨gb110, 4, none⟩) (Kd.R_far (p := ⟨gb110, 3, none⟩) (Kd.R_far (p := ⟨gb110, 2, none⟩) (Kd.R_far (p := ⟨gb110, 1, none⟩) (Kd.R_far (p := ⟨gb110, 0, none⟩) (Kd.R_types HO_5.out BK110.out (by decide)) (fun _ hk => hk.2) (.int .i64 ((rd_T38 l0_3 x17_1).f0))) (fun _ hk => hk.2) (.int .i64 ((rd_T38 l0_3 x17_1).f1))) (fun _ hk => hk.2) (.int .i64 ((rd_T38 l0_3 x17_1).f2))) (fun _ hk => hk.2) (.int .i64 ((rd_T38 l0_3 x17_1).f3))) (fun _ hk => hk.2) (.int .i64 ((rd_T38 l0_3 x17_1).f4))) (fun _ h_ => h_.1))) hb); have n1_ := Aside0.mk (blk_below (g := gb108) (o := .cells #[.string a0_0, .bool a0_1, .bool a0_2, .slice (some ad109) l0_3.length c0_3] 41 (0, 0)) (by (with_reducible repeat (first | refine blk_drewN ?_ _ | refine blk_drew ?_ | refine blk_alloc ?_ _)); refine blk_far ?_ NB108_110.out _; (with_reducible repeat (first | refine blk_drewN ?_ _ | refine blk_drew ?_ | refine blk_alloc ?_ _)); refine blk_far ?_ NB108_110.out _; (with_reducible repeat (first | refine blk_drewN ?_ _ | refine blk_drew ?_ | refine blk_alloc ?_ _)); refine blk_far ?_ NB108_110.out _; (with_reducible repeat (first | refine blk_drewN ?_ _ | refine blk_drew ?_ | refine blk_alloc ?_ _)); refine blk_far ?_ NB108_110.out _; (with_reducible repeat (first | refine blk_drewN ?_ _ | refine blk_drew ?_ | refine blk_alloc ?_ _)); refine blk_far ?_ NB108_110.out _; (with_reducible repeat (first | refine blk_drewN ?_ _ | refine blk_drew ?_ | refine blk_alloc ?_ _)); exact BK108.out) hb); have n2_ := Aside0.mk (blk_below (g := gb110) (o := .cells #[.int .i64 ((rd_T38 l0_3 x17_1).f0), .int .i64 ((rd_T38 l0_3 x17_1).f1), .int .i64 ((rd_T38 l0_3 x17_1).f2), .int .i64 ((rd_T38 l0_3 x17_1).f3), .int .i64 ((rd_T38 l0_3 x17_1).f4)] 38 (0, 0)) (by (with_reducible repeat (first | refine blk_drewN ?_ _ | refine blk_drew ?_ | refine blk_alloc ?_ _)); refine blk_put (cs := #[.int .i64 ((rd_T38 l0_3 x17_1).f0), .int .i64 ((rd_T38 l0_3 x17_1).f1), .int .i64 ((rd_T38 l0_3 x17_1).f2), .int .i64 ((rd_T38 l0_3 x17_1).f3), .int .i64 0]) ?_ 4 _ rfl; (with_reducible repeat (first | refine blk_drewN ?_ _ | refine blk_drew ?_ | refine blk_alloc ?_ _)); refine blk_put (cs := #[.int .i64 ((rd_T38 l0_3 x17_1).f0), .int .i64 ((rd_T38 l0_3 x17_1).f1), .int .i64 ((rd_T38 l0_3 x17_1).f2), .int .i64 0, .int .i64 0]) ?_ 3 _ rfl; (with_reducible repeat (first | refine blk_drewN ?_ _ | refine blk_drew ?_ | refine blk_alloc ?_ _)); refine blk_put (cs := #[.int .i64 ((rd_T38 l0_3 x17_1).f0), .int .i64 ((rd_T38 l0_3 x17_1).f1), .int .i64 0, .int .i64 0, .int .i64 0]) ?_ 2 _ rfl; (with_reducible repeat (first | refine blk_drewN ?_ _ | refine blk_drew ?_ | refine blk_alloc ?_ _)); refine blk_put (cs := #[.int .i64 ((rd_T38 l0_3 x17_1).f0), .int .i64 0, .int .i64 0, .int .i64 0, .int .i64 0]) ?_ 1 _ rfl; (with_reducible repeat (first | refine blk_drewN ?_ _ | refine blk_drew ?_ | refine blk_alloc ?_ _)); refine blk_put (cs := #[.int .i64 0, .int .i64 0, .int .i64 0, .int .i64 0, .int .i64 0]) ?_ 0 _ rfl; (with_reducible repeat (first | refine blk_drewN ?_ _ | refine blk_drew ?_ | refine blk_alloc ?_ _)); exact BK110.out) hb); have n3_ := Aside0.mk (below_step (by repeat (first | (with_reducible first | exact HB.out | apply below_alloc | apply pw_below_drewN | apply below_drew1 | refine below_set ?_ GE108.out | refine below_set ?_ GE110.out) | exact HB.out)) hb); clear HO_5; clear BK108; clear BK110; clear HB; have HO_5 := n0_; have BK108 := n1_; have BK110 := n2_; have HB := n3_; clear n0_ n1_ n2_ n3_; (try clear hb); (try clear hb2); (try clear hk); (try clear hi)))
                go_ret3
                exact ⟨_, by first | rfl | (simp [errW_none, errW_some] <;> rfl) | (simp [*, errW_none, errW_some] <;> rfl), by first | exact Kd.R_nil _ _ _ _ _ | exact Kd.N_nil _ _ _ _ _ | exact Kd.V_nil _ _ _ _ _ | exact Kd.Q_nil _ _ _ _ _ | exact Kd.S_nil _ _ _ _ _, by repeat (first | (with_reducible first | exact HB.out | apply below_alloc | apply pw_below_drewN | apply below_drew1 | refine below_set ?_ GE108.out | refine below_set ?_ GE110.out) | exact HB.out)⟩
              · rw [if_neg c11] at H
                have c11b0 : (t111 == 0) = false := beq_eq_false_iff_ne.mpr c11
                have c11b1 : (t111 != 0) = true := bne_iff_ne.mpr c11
                by_cases c16 : x5_1.length < 17592186044416
                · rw [if_pos c16] at H
                  have LMc16 := Aside0.mk c16
                  clear c16
                  obtain ⟨y112, hy112⟩ : ∃ y_ : List Int, y_ = (x5_1 ++ [x6_1]) := ⟨_, rfl⟩
                  replace H : (types_Layout.l0 k1 y112 (wrap64 (x6_1 + t111)) l0_3 (l0_3.length : Int) (wrap64 (x17_1 + 1))) = some (r1, r2, r3) := by first | (rw [hy112]; with_reducible exact H) | (have H2_ := (Option.bind_some _ _).symm.trans H; rw [hy112]; with_reducible exact H2_) | (have H2_ := (Option.bind_some _ _).symm.trans H; with_reducible exact H2_) | with_reducible exact H | (rw [hy112]; exact H) | exact H
                  have Ny112 := Aside0.mk hy112
                  clear hy112
                  have H' := Aside0.mk H
                  clear H
                  have p109 : 0 ≤ (x17_1 : Int) := of_decide_eq_true (by first | (with_reducible assumption) | assumption)
                  have q109 : x17_1 < (l0_3.length : Int) := of_decide_eq_true (by first | (with_reducible assumption) | assumption)
                  obtain ⟨ad109, e109, hx109_0, hx109_1, hx109_2, hx109_3, hx109_4⟩ := at_T38 HR0_3.out x17_1 p109 q109
                  cases e109
                  replace hx109_0 := (HB.out.cell (World.block_lt_of_cell? w _ hx109_0)).trans hx109_0
                  replace hx109_1 := (HB.out.cell (World.block_lt_of_cell? w _ hx109_1)).trans hx109_1
                  replace hx109_2 := (HB.out.cell (World.block_lt_of_cell? w _ hx109_2)).trans hx109_2
                  replace hx109_3 := (HB.out.cell (World.block_lt_of_cell? w _ hx109_3)).trans hx109_3
                  replace hx109_4 := (HB.out.cell (World.block_lt_of_cell? w _ hx109_4)).trans hx109_4
                  replace p109 := eq_true p109
                  replace q109 := eq_true q109
                  go_wp2_with (first | ((with_reducible refine gate_dst (N := 8) rfl ?_); refine box_event ?hg (N := 8) ?hd (cs := #[.int .i64 0, .int .i64 0, .int .i64 0, .int .i64 0, .int .i64 0]) (t := 38) ?hr ?_; (case hd => rfl); (case hg => rfl); (case hr => first | (go_simp; done) | (go_simp; rfl)); intro gb110 hg w17 hbox hb; have n0_ := Aside0.mk (Kd.R_below (by (with_reducible repeat (first | apply Kd.R_alloc | apply Kd.R_drewN | apply Kd.R_drew)); exact HO_5.out) hb); have n1_ := Aside0.mk (blk_below (g := gb108) (o := .cells #[.string a0_0, .bool a0_1, .bool a0_2, .slice (some ad109) l0_3.length c0_3] 41 (0, 0)) (by (with_reducible repeat (first | refine blk_drewN ?_ _ | refine blk_drew ?_ | refine blk_alloc ?_ _)); exact BK108.out) hb); have n2_ := Aside0.mk (below_step (by repeat (first | (with_reducible first | exact HB.out | apply below_alloc | apply pw_below_drewN | apply below_drew1 | refine below_set ?_ GE108.out) | exact HB.out)) hb); have n3_ := Aside0.mk (hbox); have n4_ := Aside0.mk ((by rw [hg]; exact (below_size (by repeat (first | (with_reducible first | exact HB.out | apply below_alloc | apply pw_below_drewN | apply below_drew1 | refine below_set ?_ GE108.out) | exact HB.out))) : w.heap.size ≤ gb110)); have n5_ := Aside0.mk ((by rw [hg]; exact (below_size (by repeat (first | (with_reducible first | exact HB.out | apply below_alloc | apply pw_below_drewN | apply below_drew1 | refine below_set ?_ GE108.out) | exact HB.out))) : w.heap.size ≤ gb110)); have n6_ := Aside0.mk ((by rw [hg]; exact Nat.ne_of_lt (blk_lt (g := gb108) (o := .cells #[.string a0_0, .bool a0_1, .bool a0_2, .slice (some ad109) l0_3.length c0_3] 41 (0, 0)) (by (with_reducible repeat (first | refine blk_drewN ?_ _ | refine blk_drew ?_ | refine blk_alloc ?_ _)); exact BK108.out)) : gb108 ≠ gb110)); have n7_ := Aside0.mk ((by rw [hg]; exact Nat.ne_of_gt (blk_lt (g := gb108) (o := .cells #[.string a0_0, .bool a0_1, .bool a0_2, .slice (some ad109) l0_3.length c0_3] 41 (0, 0)) (by (with_reducible repeat (first | refine blk_drewN ?_ _ | refine blk_drew ?_ | refine blk_alloc ?_ _)); exact BK108.out)) : gb110 ≠ gb108)); clear HO_5; clear BK108; clear HB; have HO_5 := n0_; have BK108 := n1_; have HB := n2_; have BK110 := n3_; have GW110 := n4_; have GE110 := n5_; have NB108_110 := n6_; have NB110_108 := n7_; clear n0_ n1_ n2_ n3_ n4_ n5_ n6_ n7_; clear hb hbox hg; have hnb18 := NB110_108.out; have hnc18 := NB108_110.out; have hcz19_0 : w17.cell? ⟨gb110, 0, none⟩ = some (.int .i64 0) := (blk_cell BK110.out 0).trans rfl; have hcz19_1 : w17.cell? ⟨gb110, 1, none⟩ = some (.int .i64 0) := (blk_cell BK110.out 1).trans rfl; have hcz19_2 : w17.cell? ⟨gb110, 2, none⟩ = some (.int .i64 0) := (blk_cell BK110.out 2).trans rfl; have hcz19_3 : w17.cell? ⟨gb110, 3, none⟩ = some (.int .i64 0) := (blk_cell BK110.out 3).trans rfl; have hcz19_4 : w17.cell? ⟨gb110, 4, none⟩ = some (.int .i64 0) := (blk_cell BK110.out 4).trans rfl; have hfz19_0 := blk_frozen BK110.out 0; have hfz19_1 := blk_frozen BK110.out 1; have hfz19_2 := blk_frozen BK110.out 2; have hfz19_3 := blk_frozen BK110.out 3; have hfz19_4 := blk_frozen BK110.out 4) | ((with_reducible refine gate_callee (f := 23) rfl ?_); refine goesL_ (some 22) rfl rfl Try.func23 (by kernel_rfl) rfl #[.agg #[.int .i64 ((rd_T38 l0_3 x17_1).f0), .int .i64 ((rd_T38 l0_3 x17_1).f1), .int .i64 ((rd_T38 l0_3 x17_1).f2), .int .i64 ((rd_T38 l0_3 x17_1).f3), .int .i64 ((rd_T38 l0_3 x17_1).f4)]] rfl (by (try simp only [List.map_toArray, List.map_cons, List.map_nil]); first | done | rfl | (simp only [List.length_drop, List.length_take]; rfl)) ?_; (with_reducible refine (types_size.calls ((rd_T38 l0_3 x17_1).f0) ((rd_T38 l0_3 x17_1).f1) ((rd_T38 l0_3 x17_1).f2) ((rd_T38 l0_3 x17_1).f3) ((rd_T38 l0_3 x17_1).f4) t111 _ A10.out).mono ?_); rintro e w20 ⟨rfl, hb⟩; refine ⟨_, rfl, ?_⟩; have n0_ := Aside0.mk (Kd.R_below (by (with_reducible repeat (first | apply Kd.R_alloc | apply Kd.R_drewN | apply Kd.R_drew)); exact (Kd.R_mono (Kd.R_far (p := ⟨gb110, 4, none⟩) (Kd.R_far (p := ⟨gb110, 3, none⟩) (Kd.R_far (p := ⟨gb110, 2, none⟩) (Kd.R_far (p := ⟨gb110, 1, none⟩) (Kd.R_far (p := ⟨gb110, 0, none⟩) (Kd.R_types HO_5.out BK110.out (by decide)) (fun _ hk => hk.2) (.int .i64 ((rd_T38 l0_3 x17_1).f0))) (fun _ hk => hk.2) (.int .i64 ((rd_T38 l0_3 x17_1).f1))) (fun _ hk => hk.2) (.int .i64 ((rd_T38 l0_3 x17_1).f2))) (fun _ hk => hk.2) (.int .i64 ((rd_T38 l0_3 x17_1).f3))) (fun _ hk => hk.2) (.int .i64 ((rd_T38 l0_3 x17_1).f4))) (fun _ h_ => h_.1))) hb); have n1_ := Aside0.mk (blk_below (g := gb108) (o := .cells #[.string a0_0, .bool a0_1, .bool a0_2, .slice (some ad109) l0_3.length c0_3] 41 (0, 0)) (by (with_reducible repeat (first | refine blk_drewN ?_ _ | refine blk_drew ?_ | refine blk_alloc ?_ _)); refine blk_far ?_ NB108_110.out _; (with_reducible repeat (first | refine blk_drewN ?_ _ | refine blk_drew ?_ | refine blk_alloc ?_ _)); refine blk_far ?_ NB108_110.out _; (with_reducible repeat (first | refine blk_drewN ?_ _ | refine blk_drew ?_ | refine blk_alloc ?_ _)); refine blk_far ?_ NB108_110.out _; (with_reducible repeat (first | refine blk_drewN ?_ _ | refine blk_drew ?_ | refine blk_alloc ?_ _)); refine blk_far ?_ NB108_110.out _; (with_reducible repeat (first | refine blk_drewN ?_ _ | refine blk_drew ?_ | refine blk_alloc ?_ _)); refine blk_far ?_ NB108_110.out _; (with_reducible repeat (first | refine blk_drewN ?_ _ | refine blk_drew ?_ | refine blk_alloc ?_ _)); exact BK108.out) hb); have n2_ := Aside0.mk (blk_below (g := gb110) (o := .cells #[.int .i64 ((rd_T38 l0_3 x17_1).f0), .int .i64 ((rd_T38 l0_3 x17_1).f1), .int .i64 ((rd_T38 l0_3 x17_1).f2), .int .i64 ((rd_T38 l0_3 x17_1).f3), .int .i64 ((rd_T38 l0_3 x17_1).f4)] 38 (0, 0)) (by (with_reducible repeat (first | refine blk_drewN ?_ _ | refine blk_drew ?_ | refine blk_alloc ?_ _)); refine blk_put (cs := #[.int .i64 ((rd_T38 l0_3 x17_1).f0), .int .i64 ((rd_T38 l0_3 x17_1).f1), .int .i64 ((rd_T38 l0_3 x17_1).f2), .int .i64 ((rd_T38 l0_3 x17_1).f3), .int .i64 0]) ?_ 4 _ rfl; (with_reducible repeat (first | refine blk_drewN ?_ _ | refine blk_drew ?_ | refine blk_alloc ?_ _)); refine blk_put (cs := #[.int .i64 ((rd_T38 l0_3 x17_1).f0), .int .i64 ((rd_T38 l0_3 x17_1).f1), .int .i64 ((rd_T38 l0_3 x17_1).f2), .int .i64 0, .int .i64 0]) ?_ 3 _ rfl; (with_reducible repeat (first | refine blk_drewN ?_ _ | refine blk_drew ?_ | refine blk_alloc ?_ _)); refine blk_put (cs := #[.int .i64 ((rd_T38 l0_3 x17_1).f0), .int .i64 ((rd_T38 l0_3 x17_1).f1), .int .i64 0, .int .i64 0, .int .i64 0]) ?_ 2 _ rfl; (with_reducible repeat (first | refine blk_drewN ?_ _ | refine blk_drew ?_ | refine blk_alloc ?_ _)); refine blk_put (cs := #[.int .i64 ((rd_T38 l0_3 x17_1).f0), .int .i64 0, .int .i64 0, .int .i64 0, .int .i64 0]) ?_ 1 _ rfl; (with_reducible repeat (first | refine blk_drewN ?_ _ | refine blk_drew ?_ | refine blk_alloc ?_ _)); refine blk_put (cs := #[.int .i64 0, .int .i64 0, .int .i64 0, .int .i64 0, .int .i64 0]) ?_ 0 _ rfl; (with_reducible repeat (first | refine blk_drewN ?_ _ | refine blk_drew ?_ | refine blk_alloc ?_ _)); exact BK110.out) hb); have n3_ := Aside0.mk (below_step (by repeat (first | (with_reducible first | exact HB.out | apply below_alloc | apply pw_below_drewN | apply below_drew1 | refine below_set ?_ GE108.out | refine below_set ?_ GE110.out) | exact HB.out)) hb); clear HO_5; clear BK108; clear BK110; clear HB; have HO_5 := n0_; have BK108 := n1_; have BK110 := n2_; have HB := n3_; clear n0_ n1_ n2_ n3_; (try clear hb); (try clear hb2); (try clear hk); (try clear hi)) | ((with_reducible refine gate_builtin (b := .append) (xs := #[.tmp 25, .tmp 27]) rfl ?_); at_builtin; refine Kd.R_append (Kd.int .i64) (w0 := w) w.heap.size rfl (.tmp 25) (.tmp 27) 42 3 (.int .i64 0) 8 rfl Try.underlying42 info3 rfl (by decide) (by omega) u5 x5_1 x6_1 [.int .i64 x6_1] (fun _ => True) (fun _ => False) rfl rfl ?aP (fun _ hk => hk.elim) ?aF ?aO ?aB ?aS ?aL ?_; (case aP => exact rfl); (case aB => exact (by repeat (first | (with_reducible first | exact HB.out | apply below_alloc | apply pw_below_drewN | apply below_drew1 | refine below_set ?_ GE108.out | refine below_set ?_ GE110.out) | exact HB.out))); (case aF => exact (fun _ _ => trivial)); (case aO => exact (by (with_reducible repeat (first | apply Kd.R_alloc | apply Kd.R_drewN | apply Kd.R_drew)); exact HO_5.out)); (case aS => exact (below_size (by repeat (first | (with_reducible first | exact HB.out | apply below_alloc | apply pw_below_drewN | apply below_drew1 | refine below_set ?_ GE108.out | refine below_set ?_ GE110.out) | exact HB.out)))); (case aL => have := LMc16.out; omega); intro v113 w21 ho hb hg hat; rw [← Ny112.out] at ho; have n0_ := Aside0.mk (blk_grown (g := gb108) (o := .cells #[.string a0_0, .bool a0_1, .bool a0_2, .slice (some ad109) l0_3.length c0_3] 41 (0, 0)) (by (with_reducible repeat (first | refine blk_drewN ?_ _ | refine blk_drew ?_ | refine blk_alloc ?_ _)); exact BK108.out) hg (Kd.R_ne HO_5.out BK108.out (by decide))); have n1_ := Aside0.mk (blk_grown (g := gb110) (o := .cells #[.int .i64 ((rd_T38 l0_3 x17_1).f0), .int .i64 ((rd_T38 l0_3 x17_1).f1), .int .i64 ((rd_T38 l0_3 x17_1).f2), .int .i64 ((rd_T38 l0_3 x17_1).f3), .int .i64 ((rd_T38 l0_3 x17_1).f4)] 38 (0, 0)) (by (with_reducible repeat (first | refine blk_drewN ?_ _ | refine blk_drew ?_ | refine blk_alloc ?_ _)); exact BK110.out) hg (Kd.R_ne HO_5.out BK110.out (by decide))); have n2_ := Aside0.mk (hb); have n3_ := Aside0.mk (ho); clear BK108; clear BK110; clear HB; clear HO_5; have BK108 := n0_; have BK110 := n1_; have HB := n2_; have HO114 := n3_; clear n0_ n1_ n2_ n3_; clear ho hb hg hat))
                  go_roundg k1
                  case measure => have := HK1.out; omega
                  case rel => exact ⟨(y112), (wrap64 (x6_1 + t111)), (wrap64 (x17_1 + 1)), (by first | rfl | (simp; done) | (simp [*]; done)), (by first | rfl | (simp; done) | (simp [*]; done)), H', ⟨by have := HK1.out; omega⟩, ⟨by (with_reducible repeat (first | apply Kd.R_alloc | apply Kd.R_drewN | apply Kd.R_drew)); exact HO114.out⟩, ⟨by (with_reducible repeat (first | refine blk_drewN ?_ _ | refine blk_drew ?_ | refine blk_alloc ?_ _)); exact BK108.out⟩, ⟨by repeat (first | (with_reducible first | exact HB.out | apply below_alloc | apply pw_below_drewN | apply below_drew1 | refine below_set ?_ GE108.out | refine below_set ?_ GE110.out) | exact HB.out)⟩⟩
                · rw [if_neg c16] at H
                  exact absurd H (by simp)
            · rw [if_neg c9] at H
              exact absurd H (by simp)
          · rw [if_neg c8] at H
            exact absurd H (by simp)
        · rw [if_neg c7] at H
          have c7b0 : decide (x17_1 < (l0_3.length : Int)) = false := decide_eq_false c7
          clear c7
          by_cases c22 : x6_1 > 256
          · rw [if_pos c22] at H
            have c22b0 : decide (256 < x6_1) = true := decide_eq_true c22
            clear c22
            simp only [Option.some.injEq, Prod.mk.injEq] at H
            obtain ⟨rfl, rfl, rfl⟩ := H
            go_wp2
            go_ret3
            exact ⟨_, by first | rfl | (simp [errW_none, errW_some] <;> rfl) | (simp [*, errW_none, errW_some] <;> rfl), by first | exact Kd.R_nil _ _ _ _ _ | exact Kd.N_nil _ _ _ _ _ | exact Kd.V_nil _ _ _ _ _ | exact Kd.Q_nil _ _ _ _ _ | exact Kd.S_nil _ _ _ _ _, by repeat (first | (with_reducible first | exact HB.out | apply below_alloc | apply pw_below_drewN | apply below_drew1 | refine below_set ?_ GE108.out) | exact HB.out)⟩
          · rw [if_neg c22] at H
            have c22b0 : decide (256 < x6_1) = false := decide_eq_false c22
            clear c22
            simp only [Option.some.injEq, Prod.mk.injEq] at H
            obtain ⟨rfl, rfl, rfl⟩ := H
            go_wp2
            go_ret3
            exact ⟨_, by first | rfl | (simp [errW_none, errW_some] <;> rfl) | (simp [*, errW_none, errW_some] <;> rfl), by (with_reducible repeat (first | apply Kd.R_alloc | apply Kd.R_drewN | apply Kd.R_drew)); exact HO_5.out, by repeat (first | (with_reducible first | exact HB.out | apply below_alloc | apply pw_below_drewN | apply below_drew1 | refine below_set ?_ GE108.out) | exact HB.out)⟩

/-! ### turnbucklelaw05_shown: function 5 -/
theorem C_block {α : Type} (d : Kd α) (w : World) (g : Nat) (xs : List α) (cs : List Value) (hx : xs.length ≤ 9223372036854775807) (h : Reps (d.K w) d.sz xs cs) (hl : ∀ k u, cs[k]? = some u → w.cell? ⟨g, k, none⟩ = some u) : d.C w (some ⟨g, 0, none⟩) xs.length xs := by
  refine ⟨rfl, hx, fun _ => ⟨⟨g, 0, none⟩, rfl, fun j p hj => ?_⟩⟩
  have hr := h.2 j p hj
  refine ⟨_, d.K_len hr, hr, fun i u hi => ?_⟩
  rw [List.getElem?_take] at hi
  split at hi
  · rw [List.getElem?_drop] at hi
    have := hl _ _ hi
    simp [Addr.add]
    split
    · rename_i h0
      rw [h0.1, h0.2] at this
      simpa using this
    · exact this
  · cases hi
theorem cell_lit (W : World) (cs : Array Value) (t : TypeId) (k : Nat) (u : Value) (h : cs[k]? = some u) : (W.alloc (.cells cs t)).cell? ⟨W.heap.size, k, none⟩ = some u := by
  have e : (W.alloc (.cells cs t)).heap[W.heap.size]? = some (.cells cs t (0, 0)) := by
    show (W.heap.push (.cells cs t (0, 0)))[W.heap.size]? = _
    simp
  unfold World.cell?
  rw [e]
  exact h
def tRow : List S38 := [⟨1, 2, 0, 0, 0⟩, ⟨3, 0, 0, 0, 0⟩, ⟨4, 0, 0, 0, 0⟩]
def uRow : List S38 := [⟨5, 0, 0, 1, 0⟩]
def tT : S41 := ⟨⟨#[116]⟩, false, false, tRow⟩
def uT (b : Bool) : S41 := ⟨⟨#[117]⟩, b, false, uRow⟩
def tCells : Array Value := #[.int .i64 1, .int .i64 2, .int .i64 0, .int .i64 0, .int .i64 0, .int .i64 3, .int .i64 0, .int .i64 0, .int .i64 0, .int .i64 0, .int .i64 4, .int .i64 0, .int .i64 0, .int .i64 0, .int .i64 0]
theorem C_t (w : World) (h : Below 0 w w → True) : Kd.C k38 (w.alloc (.cells tCells 38)) (some ⟨w.heap.size, 0, none⟩) 3 tRow := by
  refine C_block k38 _ _ tRow tCells.toList (by decide) ⟨rfl, fun j p hj => ?_⟩ (fun k u hu => cell_lit w tCells 38 k u (by simpa using hu))
  match j, hj with
  | 0, hj => simp [tRow] at hj; subst hj; exact k38_mk _ _
  | 1, hj => simp [tRow] at hj; subst hj; exact k38_mk _ _
  | 2, hj => simp [tRow] at hj; subst hj; exact k38_mk _ _
  | j + 3, hj => simp [tRow] at hj
theorem C_u (w : World) : Kd.C k38 (w.alloc (.cells #[.int .i64 5, .int .i64 0, .int .i64 0, .int .i64 1, .int .i64 0] 38)) (some ⟨w.heap.size, 0, none⟩) 1 uRow := by
  refine C_block k38 _ _ uRow [.int .i64 5, .int .i64 0, .int .i64 0, .int .i64 1, .int .i64 0] (by decide) ⟨rfl, fun j p hj => ?_⟩ (fun k u hu => cell_lit w _ 38 k u (by simpa using hu))
  match j, hj with
  | 0, hj => simp [uRow] at hj; subst hj; exact k38_mk _ _
  | j + 1, hj => simp [uRow] at hj
theorem C_tu (w : World) (b : Bool) (A U : Addr) (hT : Kd.C k38 w (some A) 3 tRow) (hU : Kd.C k38 w (some U) 1 uRow) :
    Kd.C k41 (w.alloc (.cells #[.string ⟨#[116]⟩, .bool false, .bool false, .slice (some A) 3 3, .string ⟨#[117]⟩, .bool b, .bool false, .slice (some U) 1 1] 41)) (some ⟨w.heap.size, 0, none⟩) 2 [tT, uT b] := by
  have hT' := Kd.C_alloc hT (.cells #[.string ⟨#[116]⟩, .bool false, .bool false, .slice (some A) 3 3, .string ⟨#[117]⟩, .bool b, .bool false, .slice (some U) 1 1] 41)
  have hU' := Kd.C_alloc hU (.cells #[.string ⟨#[116]⟩, .bool false, .bool false, .slice (some A) 3 3, .string ⟨#[117]⟩, .bool b, .bool false, .slice (some U) 1 1] 41)
  refine C_block k41 _ _ [tT, uT b] [.string ⟨#[116]⟩, .bool false, .bool false, .slice (some A) 3 3, .string ⟨#[117]⟩, .bool b, .bool false, .slice (some U) 1 1] (by simp) ⟨rfl, fun j p hj => ?_⟩ (fun k u hu => cell_lit w _ 41 k u (by simpa using hu))
  match j, hj with
  | 0, hj => simp at hj; subst hj; exact k41_mk _ tT (by decide) hT'
  | 1, hj => simp at hj; subst hj; exact k41_mk _ (uT b) (Nat.le_refl 1) hU'
  | j + 2, hj => simp at hj
theorem layout_t (w : World) (A : Addr) (h : Kd.C k38 w (some A) 3 tRow) :
    Calls Try.prog 11 #[.agg #[.string ⟨#[116]⟩, .bool false, .bool false, .slice (some A) 3 3]] w fun e w' => ∃ g c, e = .returned (.tuple #[.slice (some ⟨g, 0, none⟩) 3 c, .int .i64 64, .int .i64 0]) ∧ 3 ≤ c ∧ w'.cell? ⟨g, 0, none⟩ = some (.int .i64 8) ∧ w'.cell? ⟨g, 1, none⟩ = some (.int .i64 24) ∧ w'.cell? ⟨g, 2, none⟩ = some (.int .i64 40) ∧ g < w'.heap.size ∧ Below w.heap.size w w' := by
  have hf : types_Layout.f 10 ⟨#[116]⟩ false false tRow = some ([8, 24, 40], 64, 0) := by simp [types_Layout.f, types_Layout.l0, tRow, rd_T38, types_size.f, sizeF, wrap64]
  refine (types_Layout.calls 10 ⟨#[116]⟩ false false (some A) 3 tRow _ _ _ w h (by decide) hf).mono ?_
  rintro e w' ⟨v, rfl, hR, hB⟩
  obtain ⟨B, c, rfl, hl, hC⟩ := Kd.R_reads hR
  obtain ⟨inner, hown⟩ := Kd.R_own hR
  obtain ⟨g, rfl⟩ : ∃ g, B = some ⟨g, 0, none⟩ := by
    rcases hown.2 with ⟨h1, _⟩ | ⟨g, cap, cur, h1, _⟩
    · simp at h1
    · injection h1 with h1
      exact ⟨g, h1⟩
  obtain ⟨ad, e0, hcell⟩ := hC.2.2 (by decide)
  obtain rfl := Option.some.inj e0
  have h0 := hcell 0 8 rfl
  have h1 := hcell 1 24 rfl
  have h2 := hcell 2 40 rfl
  obtain ⟨c0, _, k0, g0⟩ := h0
  obtain ⟨c1, _, k1, g1⟩ := h1
  obtain ⟨c2, _, k2, g2⟩ := h2
  have q0 : w'.cell? ⟨g, 0, none⟩ = some (.int .i64 8) := by
    have := g0 0 (.int .i64 8) (by have := k0; simp [Kd.int, Kd.scalar] at this; subst this; rfl)
    simpa [Addr.add] using this
  refine ⟨g, c, rfl, hl, q0, ?_, ?_, World.block_lt_of_cell? w' _ q0, hB⟩
  · have := g1 0 (.int .i64 24) (by have := k1; simp [Kd.int, Kd.scalar] at this; subst this; rfl)
    exact this
  · have := g2 0 (.int .i64 40) (by have := k2; simp [Kd.int, Kd.scalar] at this; subst this; rfl)
    exact this
theorem te_t (b : Bool) : typeErr [tT, uT b] 0 = 0 := by
  unfold typeErr
  have e : rd_T41 [tT, uT b] ((0 : Nat) : Int) = tT := rfl
  rw [e]
  have h1 : nameAll tT.f0 = true := by decide
  rw [if_neg (by rintro (h | ⟨j, hj, _⟩); (· rw [h1] at h; cases h); (· omega)), if_neg (by decide), if_neg (by decide)]
  cases b <;> decide
theorem te_u (b : Bool) : typeErr [tT, uT b] 1 = if b then 9 else 7 := by
  unfold typeErr
  have e : rd_T41 [tT, uT b] ((1 : Nat) : Int) = uT b := rfl
  rw [e]
  have h1 : nameAll (uT b).f0 = true := by cases b <;> decide
  rw [if_neg (by
    rintro (h | ⟨j, hj, h⟩)
    · rw [h1] at h; cases h
    · obtain rfl : j = 0 := by omega
      have h' : (⟨#[116]⟩ : ByteArray) = ⟨#[117]⟩ := h
      simp at h'), if_neg (by cases b <;> decide), if_neg (by cases b <;> decide)]
  cases b <;> decide
theorem all_u (b : Bool) : allErr [tT, uT b] = (1, if b then 9 else 7) := by
  unfold allErr
  have h0 := te_t b
  have h1 := te_u b
  rw [if_neg (by simp), if_neg (fun h => by have := h 1 (by simp); rw [h1] at this; cases b <;> simp at this)]
  have := firstBad_hit (typeErr [tT, uT b]) 2 0 1 (fun j _ hj => by obtain rfl : j = 0 := (by omega); exact h0) (by omega) (by omega) (by rw [h1]; cases b <;> decide)
  rw [h1] at this
  exact this
theorem check_u (w : World) (b : Bool) (A : Addr) (hC : Kd.C k41 w (some A) 2 [tT, uT b]) : Calls Try.prog 10 #[.slice (some A) 2 2] w fun e w' => e = .returned (.tuple #[.int .i64 1, .int .i64 (if b then 9 else 7)]) ∧ Below w.heap.size w w' := by
  have hf : types_Check.f [tT, uT b] = some (1, if b then 9 else 7) := by
    unfold types_Check.f
    rw [if_pos, allErrC_eq, all_u b]
    intro i hi
    match i, hi with
    | 0, _ => exact (by decide : tT.f0.size ≤ 9223372036854775807)
    | 1, _ => exact (by decide : (⟨#[117]⟩ : ByteArray).size ≤ 9223372036854775807)
    | i + 2, hi => exact absurd hi (by simp)
  exact types_Check.calls (some A) 2 [tT, uT b] _ _ w hC (by simp) hf
theorem c_first (w w1 : World) (hT : Kd.C k38 ((w.alloc (.cells tCells 38)).alloc (.cells #[.string ⟨#[116]⟩, .bool false, .bool false, .slice (some ⟨w.heap.size, 0, none⟩) 3 3] 41)) (some ⟨w.heap.size, 0, none⟩) 3 tRow)
    (hb : Below ((w.alloc (.cells tCells 38)).alloc (.cells #[.string ⟨#[116]⟩, .bool false, .bool false, .slice (some ⟨w.heap.size, 0, none⟩) 3 3] 41)).heap.size ((w.alloc (.cells tCells 38)).alloc (.cells #[.string ⟨#[116]⟩, .bool false, .bool false, .slice (some ⟨w.heap.size, 0, none⟩) 3 3] 41)) w1) :
    (Kd.C k38 (w1.alloc (.cells #[.int .i64 5, .int .i64 0, .int .i64 0, .int .i64 1, .int .i64 0] 38)) (some ⟨w.heap.size, 0, none⟩) 3 tRow ∧ Kd.C k38 (w1.alloc (.cells #[.int .i64 5, .int .i64 0, .int .i64 0, .int .i64 1, .int .i64 0] 38)) (some ⟨w1.heap.size, 0, none⟩) 1 uRow) ∧ Kd.C k41 ((w1.alloc (.cells #[.int .i64 5, .int .i64 0, .int .i64 0, .int .i64 1, .int .i64 0] 38)).alloc (.cells #[.string ⟨#[116]⟩, .bool false, .bool false, .slice (some ⟨w.heap.size, 0, none⟩) 3 3, .string ⟨#[117]⟩, .bool false, .bool false, .slice (some ⟨w1.heap.size, 0, none⟩) 1 1] 41)) (some ⟨w1.heap.size + 1, 0, none⟩) 2 [tT, uT false] := by
  have h1 := Kd.C_alloc (Kd.C_below hT hb) (.cells #[.int .i64 5, .int .i64 0, .int .i64 0, .int .i64 1, .int .i64 0] 38)
  have h2 := C_u w1
  refine ⟨⟨h1, h2⟩, ?_⟩
  have h3 := C_tu (w1.alloc (.cells #[.int .i64 5, .int .i64 0, .int .i64 0, .int .i64 1, .int .i64 0] 38)) false ⟨w.heap.size, 0, none⟩ ⟨w1.heap.size, 0, none⟩ h1 h2
  have hsz : (w1.alloc (.cells #[.int .i64 5, .int .i64 0, .int .i64 0, .int .i64 1, .int .i64 0] 38)).heap.size = w1.heap.size + 1 := by simp
  rw [hsz] at h3
  exact h3
theorem c_second (w w1 w2 : World) (h1 : Kd.C k38 (w1.alloc (.cells #[.int .i64 5, .int .i64 0, .int .i64 0, .int .i64 1, .int .i64 0] 38)) (some ⟨w.heap.size, 0, none⟩) 3 tRow) (h2 : Kd.C k38 (w1.alloc (.cells #[.int .i64 5, .int .i64 0, .int .i64 0, .int .i64 1, .int .i64 0] 38)) (some ⟨w1.heap.size, 0, none⟩) 1 uRow)
    (hb : Below ((w1.alloc (.cells #[.int .i64 5, .int .i64 0, .int .i64 0, .int .i64 1, .int .i64 0] 38)).alloc (.cells #[.string ⟨#[116]⟩, .bool false, .bool false, .slice (some ⟨w.heap.size, 0, none⟩) 3 3, .string ⟨#[117]⟩, .bool false, .bool false, .slice (some ⟨w1.heap.size, 0, none⟩) 1 1] 41)).heap.size ((w1.alloc (.cells #[.int .i64 5, .int .i64 0, .int .i64 0, .int .i64 1, .int .i64 0] 38)).alloc (.cells #[.string ⟨#[116]⟩, .bool false, .bool false, .slice (some ⟨w.heap.size, 0, none⟩) 3 3, .string ⟨#[117]⟩, .bool false, .bool false, .slice (some ⟨w1.heap.size, 0, none⟩) 1 1] 41)) w2) :
    Kd.C k41 (w2.alloc (.cells #[.string ⟨#[116]⟩, .bool false, .bool false, .slice (some ⟨w.heap.size, 0, none⟩) 3 3, .string ⟨#[117]⟩, .bool true, .bool false, .slice (some ⟨w1.heap.size, 0, none⟩) 1 1] 41)) (some ⟨w2.heap.size, 0, none⟩) 2 [tT, uT true] :=
  C_tu w2 true ⟨w.heap.size, 0, none⟩ ⟨w1.heap.size, 0, none⟩ (Kd.C_below (Kd.C_alloc h1 _) hb) (Kd.C_below (Kd.C_alloc h2 _) hb)
set_option maxHeartbeats 4000000 in
set_option maxRecDepth 100000 in
theorem shown_any (w : World) : Calls Try.prog 5 #[] w fun e w' => e = .returned (.bool true) ∧ Below w.heap.size w w' := by
  have hT0 := Kd.C_alloc (C_t w (fun _ => trivial)) (.cells #[.string ⟨#[116]⟩, .bool false, .bool false, .slice (some ⟨w.heap.size, 0, none⟩) 3 3] 41)
  have HT := Lib.hid hT0
  clear hT0
  go_enter Try.func5, Try.ntmps5
  go_wp2_with (first | (go_at_call 10; have tok3 := tok2; refine (check_u _ true _ HD.out).mono ?_; rintro e w3 ⟨rfl, hb⟩; have hb1 : Below w2.heap.size w2 w3 := (below_step (by repeat (first | exact Below.refl _ _ | apply below_alloc)) hb); have HB3 := Lib.hid hb1; have qb2 : g < w2.heap.size := (by omega); have o0 := (HB3.out.cell (p := ⟨g, 0, none⟩) qb2).trans p0; have o1 := (HB3.out.cell (p := ⟨g, 1, none⟩) qb2).trans p1; have o2 := (HB3.out.cell (p := ⟨g, 2, none⟩) qb2).trans p2; clear hb hb1) | (go_at_call 10; refine (check_u _ false _ HC.out.2).mono ?_; rintro e w2 ⟨rfl, hb⟩; have HBx := Lib.hid hb; have hb1 : Below w1.heap.size w1 w2 := (below_step (by repeat (first | exact Below.refl _ _ | apply below_alloc)) hb); have HB2 := Lib.hid hb1; obtain ⟨hc, hf⟩ := xf_bcell hb1; have hs2 : w1.heap.size < w2.heap.size := (by have := hb.size; simp at this; omega); have s0 := (hc _ _ hs1).trans t0; have s1 := (hc _ _ hs1).trans t1; have s2 := (hc _ _ hs1).trans t2; have s3 := (hc _ _ hs1).trans t3; have p0 := (hc _ _ qb).trans q0; have p1 := (hc _ _ qb).trans q1; have p2 := (hc _ _ qb).trans q2; have HD := Lib.hid (c_second w w1 w2 HC.out.1.1 HC.out.1.2 hb); have tok2 := tok; clear hc hf hb hb1 tok) | (go_at_call 11; refine (layout_t _ ⟨w.heap.size, 0, none⟩ HT.out).mono ?_; rintro e w1 ⟨g, c, rfl, hc3, q0, q1, q2, qb, hb⟩; have HB1 := Lib.hid hb; obtain ⟨hc, hf⟩ := xf_bcell hb; have hs1 : w.heap.size + 1 < w1.heap.size := (by have := hb.size; simp at this; omega); have t0 : w1.cell? ⟨w.heap.size + 1, 0, none⟩ = some (.string ⟨#[116]⟩) := (by rw [hc _ _ (by simp)]; go_simp); have t1 : w1.cell? ⟨w.heap.size + 1, 1, none⟩ = some (.bool false) := (by rw [hc _ _ (by simp)]; go_simp); have t2 : w1.cell? ⟨w.heap.size + 1, 2, none⟩ = some (.bool false) := (by rw [hc _ _ (by simp)]; go_simp); have t3 : w1.cell? ⟨w.heap.size + 1, 3, none⟩ = some (.slice (some ⟨w.heap.size, 0, none⟩) 3 3) := (by rw [hc _ _ (by simp)]; go_simp); have HC := Lib.hid (c_first w w1 HT.out hb); have tok : True := trivial; clear hc hf hb))
  go_ret
  exact ⟨rfl, below_step (below_step (below_step (by repeat (first | exact Below.refl _ _ | apply below_alloc)) HB1.out) HB2.out) HB3.out⟩
def turnbucklelaw05_shown.f : Option Bool := some true
theorem turnbucklelaw05_shown.calls (r : Bool) (w : World) (h : turnbucklelaw05_shown.f = some r) :
    Calls Try.prog 5 #[] w fun e w' => e = .returned (.bool r) ∧ Below w.heap.size w w' := by
  obtain rfl := Option.some.inj h
  exact shown_any w


/-! ### wire_TakeNumber: function 12 -/
theorem at_num {k : IntKind} {w : World} {A : Option Addr} {n : Nat} {xs : List Int} (h : Kd.C (Kd.int k) w A n xs) (i : Nat) (h1 : i < n) : ∃ ad, A = some ad ∧ w.cell? (ad.add i) = some (.int k (xs.getD i 0)) := by
  obtain ⟨ad, c, e, _, hK, hc0⟩ := Kd.C_get h (0 : Int) i (by omega) (by omega)
  have hc : ∀ j u, c[j]? = some u → w.cell? (ad.add ((i : Int).toNat * 1 + j)) = some u := hc0
  simp only [Int.toNat_natCast] at hK hc
  obtain rfl : c = [.int k (xs.getD i 0)] := hK
  exact ⟨ad, e, by have hq := hc 0 _ rfl; rwa [Nat.mul_one, Nat.add_zero] at hq⟩
def bytesOk (l : List Int) : Prop := ∀ x ∈ l, 0 ≤ x ∧ x < 256
instance (l : List Int) : Decidable (bytesOk l) := by unfold bytesOk; infer_instance
theorem bytesOk.at {l : List Int} (h : bytesOk l) (i : Nat) (hi : i < l.length) : 0 ≤ l.getD i 0 ∧ l.getD i 0 < 256 := by
  have := h (l[i]) (List.getElem_mem hi)
  simpa [hi] using this
/-- a number off the front of bytes: the number, how many bytes, the error -/
def tnGo : List Int → Nat → Int → Int × Int × Int
  | [], _, _ => (0, 0, 2)
  | c :: r, i, n => if i = 9 then (if c ≥ 128 ∨ c = 0 then (0, 0, 3) else if c > 1 then (0, 0, 4) else (n + c * 128 ^ i, i + 1, 0)) else if c < 128 then (if c = 0 ∧ 0 < i then (0, 0, 3) else (n + c * 128 ^ i, i + 1, 0)) else tnGo r (i + 1) (n + (c - 128) * 128 ^ i)
def takeNum (l : List Int) : Int × Int × Int := tnGo l 0 0
theorem or_pack (n c : Int) (i : Nat) (h0 : 0 ≤ n) (h1 : n < 128 ^ i) (c0 : 0 ≤ c) (hi : i ≤ 9) (c1 : c < 128) (c2 : i = 9 → c ≤ 1) : bits .or .u64 n (IntKind.u64.wrap (c * 2 ^ (7 * i))) = n + c * 128 ^ i := by
  obtain ⟨N, rfl⟩ := Int.eq_ofNat_of_zero_le h0
  obtain ⟨C, rfl⟩ := Int.eq_ofNat_of_zero_le c0
  have hp : (2 : Nat) ^ (7 * i) = 128 ^ i := by rw [Nat.pow_mul]
  have hN : N < 2 ^ (7 * i) := by rw [hp]; exact_mod_cast h1
  have hC : C * 2 ^ (7 * i) < 18446744073709551616 - 2 ^ (7 * i) + 1 := by
    have hcc : C < 128 := by omega
    rcases Nat.lt_or_ge i 9 with h | h
    · have : i = 0 ∨ i = 1 ∨ i = 2 ∨ i = 3 ∨ i = 4 ∨ i = 5 ∨ i = 6 ∨ i = 7 ∨ i = 8 := by omega
      rcases this with rfl | rfl | rfl | rfl | rfl | rfl | rfl | rfl | rfl <;> simp <;> omega
    · obtain rfl : i = 9 := by omega
      have := c2 rfl
      simp
      omega
  have hpos : 0 < 2 ^ (7 * i) := Nat.pos_of_ne_zero (by simp)
  have hC' : C * 2 ^ (7 * i) < 18446744073709551616 := by omega
  have hs : IntKind.u64.wrap ((C : Int) * 2 ^ (7 * i)) = ((C * 2 ^ (7 * i) : Nat) : Int) := by
    have e : ((C : Int) * 2 ^ (7 * i)) = ((C * 2 ^ (7 * i) : Nat) : Int) := by push_cast; rfl
    rw [e]
    simp only [IntKind.wrap, IntKind.bits, IntKind.signed]
    simp
    omega
  have hP : 2 ^ (7 * i) ≤ 2 ^ 63 := Nat.pow_le_pow_right (by omega) (by omega)
  rw [hs, u64_or_nat _ _ (by omega) hC']
  have ho : N ||| (C * 2 ^ (7 * i)) = N + C * 2 ^ (7 * i) := by
    have h := Nat.shiftLeft_add_eq_or_of_lt hN C
    rw [Nat.shiftLeft_eq] at h
    rw [Nat.or_comm, ← h, Nat.add_comm]
  rw [ho]
  push_cast
  rw [Int.pow_mul]
  rfl

theorem pow_lt (n c : Int) (i : Nat) (h1 : n < 128 ^ i) (c1 : c < 128) : n + c * 128 ^ i < 128 ^ (i + 1) := by
  rw [Int.pow_succ]
  have hp : (0 : Int) < 128 ^ i := Int.pow_pos (by omega)
  have : c * 128 ^ i ≤ 127 * 128 ^ i := Int.mul_le_mul_of_nonneg_right (by omega) (by omega)
  omega
theorem pow_nn (n c : Int) (i : Nat) (h1 : 0 ≤ n) (c1 : 0 ≤ c) : 0 ≤ n + c * 128 ^ i := by
  have hp : (0 : Int) < 128 ^ i := Int.pow_pos (by omega)
  have := Int.mul_nonneg c1 (Int.le_of_lt hp)
  omega
theorem drop_at (l : List Int) (i : Nat) (h : i < l.length) : l.drop i = l.getD i 0 :: l.drop (i + 1) := by
  rw [List.drop_eq_getElem_cons h]
  simp [h]
theorem ret_take {a b c a' b' c' : Int} (h : a = a') (h1 : b = b') (h2 : c = c') : Ending.returned (.tuple #[.int .u64 a, .int .i64 b, .int .i64 c]) = .returned (.tuple #[.int .u64 a', .int .i64 b', .int .i64 c']) := by rw [h, h1, h2]
set_option maxHeartbeats 1000000 in
set_option maxRecDepth 100000 in
/-- wire.TakeNumber -/
theorem take_any (l : List Int) (A0 : Option Addr) (c0 : Nat) (w : World) (hlen : l.length ≤ 9223372036854775807) (hr0 : Kd.C (Kd.int .u8) w A0 l.length l) (hok : bytesOk l) :
    Calls Try.prog 12 #[.slice A0 l.length c0] w fun e w' => e = .returned (.tuple #[.int .u64 (takeNum l).1, .int .i64 (takeNum l).2.1, .int .i64 (takeNum l).2.2]) ∧ w = w' := by
  generalize hz : takeNum l = z
  have HZ := Lib.hid hz
  have HR := Lib.hid hr0
  have HOK := Lib.hid hok
  clear hz hr0 hok
  obtain ⟨z1, z2, z3⟩ := z
  go_enter Try.func12, Try.ntmps12
  go_wp2
  go_loop [5, 10] (fun v5 v10 => ∃ (i : Nat) (n : Int), v5 = .int .u64 n ∧ v10 = .int .i64 i ∧ i ≤ l.length ∧ i ≤ 9 ∧ Hid (0 ≤ n ∧ n < 128 ^ i ∧ tnGo (l.drop i) i n = (z1, z2, z3))) (fun _ v10 => 10 - (intOf v10).toNat)
  case atStart => exact ⟨0, 0, rfl, rfl, by omega, by omega, by omega, by decide, HZ.out⟩
  case round =>
    obtain ⟨i, n, rfl, rfl, hi, hi9, HI⟩ := hrel
    by_cases hlt : i < l.length
    · obtain ⟨ad, rfl, e0⟩ := at_num HR.out i hlt
      obtain ⟨b0, b1⟩ := HOK.out.at i hlt
      have hstep := HI.out.2.2
      rw [drop_at l i hlt] at hstep
      generalize l.getD i 0 = c at *
      simp only [tnGo] at hstep
      have HST := Lib.hid hstep
      clear hstep
      by_cases h9 : i = 9
      · have hb9 : ((i : Int) == 9) = true := by simp; omega
        have h := HST.out
        rw [if_pos h9] at h
        have H9 := Lib.hid h9
        clear h9
        by_cases h128 : 128 ≤ c
        · rw [if_pos (.inl h128)] at h
          cases h
          go_wp2
          go_ret3
          exact ⟨rfl, rfl⟩
        · by_cases hz : c = 0
          · subst hz
            rw [if_pos (.inr rfl)] at h
            cases h
            go_wp2
            go_ret3
            exact ⟨rfl, rfl⟩
          · rw [if_neg (by omega)] at h
            have hbz : (c == 0) = false := by simpa using hz
            by_cases h1 : 1 < c
            · rw [if_pos h1] at h
              cases h
              clear hz
              go_wp2
              go_ret3
              exact ⟨rfl, rfl⟩
            · rw [if_neg h1] at h
              cases h
              have HP := Lib.hid (or_pack n c i HI.out.1 HI.out.2.1 (by omega) (by omega) (by omega) (by omega))
              have hi0 : 0 < i := by have := H9.out; omega
              have HM := Lib.hid (show c % 128 = c by omega)
              clear hz
              go_wp2
              go_ret3
              exact ⟨ret_take (by rw [HM.out, HP.out]) rfl rfl, rfl⟩
      · have hb9 : ((i : Int) == 9) = false := by simp; omega
        have h := HST.out
        rw [if_neg h9] at h
        by_cases h128 : c < 128
        · rw [if_pos h128] at h
          by_cases hz : c = 0 ∧ 0 < i
          · rw [if_pos hz] at h
            cases h
            obtain ⟨hc0, hi0⟩ := hz
            have hbc : (c == 0) = true := by simpa using hc0
            clear h9 hc0
            go_wp2
            go_ret3
            exact ⟨rfl, rfl⟩
          · rw [if_neg hz] at h
            cases h
            have HP := Lib.hid (or_pack n c i HI.out.1 HI.out.2.1 (by omega) (by omega) (by omega) (by omega))
            have HM := Lib.hid (show c % 128 = c by omega)
            by_cases hc0 : c = 0
            · have hi0 : ¬ 0 < i := by omega
              have hbc : (c == 0) = true := by simpa using hc0
              clear hz h9 hc0
              go_wp2
              go_ret3
              exact ⟨ret_take (by rw [HM.out, HP.out]) rfl rfl, rfl⟩
            · have hbc : (c == 0) = false := by simpa using hc0
              clear hz h9 hc0
              go_wp2
              go_ret3
              exact ⟨ret_take (by rw [HM.out, HP.out]) rfl rfl, rfl⟩
        · rw [if_neg h128] at h
          have HM := Lib.hid (show c % 128 = c - 128 by omega)
          have HP := Lib.hid (or_pack n (c - 128) i HI.out.1 HI.out.2.1 (by omega) (by omega) (by omega) (by omega))
          have H9 := Lib.hid h9
          have H := Lib.hid h
          have HN := Lib.hid (And.intro (pow_nn n (c - 128) i HI.out.1 (by omega)) (pow_lt n (c - 128) i HI.out.2.1 (by omega)))
          clear h9 h
          go_wp2
          go_round
          case rel => exact ⟨i + 1, n + (c - 128) * 128 ^ i, by rw [HM.out, HP.out], by go_num, by omega, by have := H9.out; omega, HN.out.1, HN.out.2, H.out⟩
          case measure => simp [intOf]; omega
    · have h := HI.out.2.2
      rw [List.drop_of_length_le (by omega)] at h
      simp only [tnGo] at h
      cases h
      go_wp2
      go_ret3
      exact ⟨rfl, rfl⟩

def wire_TakeNumber.f (l0 : List Int) : Option (Int × Int × Int) := if l0.length ≤ 9223372036854775807 ∧ bytesOk l0 then some (takeNum l0) else none
theorem wire_TakeNumber.calls (A0 : Option Addr) (c0 : Nat) (l0 : List Int) (r1 : Int) (r2 : Int) (r3 : Int) (w : World) (hr0 : Kd.C (Kd.int .u8) w A0 l0.length l0) (hc0 : l0.length ≤ c0) (h : wire_TakeNumber.f l0 = some (r1, r2, r3)) :
    Calls Try.prog 12 #[.slice A0 l0.length c0] w fun e w' => e = .returned (.tuple #[.int .u64 r1, .int .i64 r2, .int .i64 r3]) ∧ Drawn0 w w' := by
  unfold wire_TakeNumber.f at h
  split at h
  · rename_i hc
    have h' := Option.some.inj h
    have h1 := take_any l0 A0 c0 w hc.1 hr0 hc.2
    rw [h'] at h1
    exact h1.mono fun e w' ⟨he, hw⟩ => ⟨he, by rw [← hw]; exact Drawn0.refl w⟩
  · cases h


/-! ### wire_TakeText: function 24 -/
/-- a name off the front of bytes -/
def takeText (l : List Int) : ByteArray × Int × Int :=
  if (takeNum l).2.2 ≠ 0 then (⟨#[]⟩, 0, (takeNum l).2.2) else if (takeNum l).1 < 1 ∨ 16 < (takeNum l).1 then (⟨#[]⟩, 0, 3) else if (l.length : Int) - (takeNum l).2.1 < (takeNum l).1 then (⟨#[]⟩, 0, 2)
  else if nameAll (strOfNums ((l.take ((takeNum l).2.1 + (takeNum l).1).toNat).drop (takeNum l).2.1.toNat)) then (strOfNums ((l.take ((takeNum l).2.1 + (takeNum l).1).toNat).drop (takeNum l).2.1.toNat), (takeNum l).2.1 + (takeNum l).1, 0) else (⟨#[]⟩, 0, 3)
theorem tnGo_facts (l : List Int) (hok : bytesOk l) : ∀ (i : Nat) (n : Int), i ≤ 9 → 0 ≤ n → n < 128 ^ i → (tnGo l i n).2.2 = 0 → 0 ≤ (tnGo l i n).1 ∧ (tnGo l i n).1 < 18446744073709551616 ∧ (i : Int) + 1 ≤ (tnGo l i n).2.1 ∧ (tnGo l i n).2.1 ≤ i + l.length := by
  induction l with
  | nil => intro i n _ _ _ h; simp [tnGo] at h
  | cons c r ih =>
    intro i n hi h0 h1 h
    have hc := hok c (by simp)
    simp only [tnGo] at h ⊢
    by_cases h9 : i = 9
    · rw [if_pos h9] at h ⊢
      by_cases ha : c ≥ 128 ∨ c = 0
      · rw [if_pos ha] at h; simp at h
      · rw [if_neg ha] at h ⊢
        by_cases hb : c > 1
        · rw [if_pos hb] at h; simp at h
        · rw [if_neg hb] at h ⊢
          subst h9
          have e : (128 : Int) ^ 9 = 9223372036854775808 := by decide
          rw [e] at h1 ⊢
          simp only [List.length_cons]
          refine ⟨by omega, by omega, by omega, by push_cast; omega⟩
    · rw [if_neg h9] at h ⊢
      by_cases ha : c < 128
      · rw [if_pos ha] at h ⊢
        by_cases hb : c = 0 ∧ 0 < i
        · rw [if_pos hb] at h; simp at h
        · rw [if_neg hb] at h ⊢
          have hp := pow_lt n c i h1 ha
          have hq := pow_nn n c i h0 hc.1
          have hle : (128 : Int) ^ (i + 1) ≤ 128 ^ 9 := by exact_mod_cast (Nat.pow_le_pow_right (n := 128) (by omega) (show i + 1 ≤ 9 by omega))
          have e : (128 : Int) ^ 9 = 9223372036854775808 := by decide
          simp only [List.length_cons]
          refine ⟨hq, by omega, by omega, by push_cast; omega⟩
      · rw [if_neg ha] at h ⊢
        have := ih (fun x hx => hok x (by simp [hx])) (i + 1) (n + (c - 128) * 128 ^ i) (by omega) (pow_nn n _ i h0 (by omega)) (pow_lt n _ i h1 (by omega)) h
        simp only [List.length_cons]
        refine ⟨this.1, this.2.1, by have := this.2.2.1; push_cast at this; omega, by have := this.2.2.2; push_cast at this ⊢; omega⟩
theorem takeNum_facts (l : List Int) (hok : bytesOk l) (h : (takeNum l).2.2 = 0) : 0 ≤ (takeNum l).1 ∧ (takeNum l).1 < 18446744073709551616 ∧ 1 ≤ (takeNum l).2.1 ∧ (takeNum l).2.1 ≤ l.length := by
  have := tnGo_facts l hok 0 0 (by omega) (by omega) (by decide) h
  unfold takeNum
  simpa using this
theorem takeNum_err (l : List Int) : ∀ i n, (tnGo l i n).2.2 ≠ 0 → tnGo l i n = (0, 0, (tnGo l i n).2.2) := by
  induction l with
  | nil => intro i n _; rfl
  | cons c r ih =>
    intro i n h
    simp only [tnGo] at h ⊢
    split at h
    · rename_i h9
      rw [if_pos h9]
      split at h
      · rename_i a; rw [if_pos a]
      · rename_i a; rw [if_neg a]
        split at h
        · rename_i b; rw [if_pos b]
        · simp at h
    · rename_i h9
      rw [if_neg h9]
      split at h
      · rename_i a; rw [if_pos a]
        split at h
        · rename_i b; rw [if_pos b]
        · simp at h
      · rename_i a; rw [if_neg a]
        exact ih _ _ h
theorem strOfNums_size (xs : List Int) : (strOfNums xs).size = xs.length := by simp [strOfNums, ByteArray.size]
theorem take_same (l : List Int) (A0 : Option Addr) (c0 : Nat) (n at_ e : Int) (w : World) (hlen : l.length ≤ 9223372036854775807) (hr0 : Kd.C (Kd.int .u8) w A0 l.length l) (hok : bytesOk l) (hz : takeNum l = (n, at_, e)) :
    Calls Try.prog 12 #[.slice A0 l.length c0] w fun e' w' => e' = .returned (.tuple #[.int .u64 n, .int .i64 at_, .int .i64 e]) ∧ w = w' := by
  have := take_any l A0 c0 w hlen hr0 hok
  rw [hz] at this
  exact this
theorem ret_text {a : ByteArray} {b c b' c' : Int} (h1 : b = b') (h2 : c = c') : Ending.returned (.tuple #[.string a, .int .i64 b, .int .i64 c]) = .returned (.tuple #[.string a, .int .i64 b', .int .i64 c']) := by rw [h1, h2]
theorem name_r (s : ByteArray) (r : Bool) (w : World) (hs : s.size ≤ maxLen) (hr : nameAll s = r) : Calls Try.prog 29 #[.string s] w fun e w' => e = .returned (.bool r) ∧ Below w.heap.size w w' := by
  rw [← hr]
  exact name_calls s w hs
set_option maxHeartbeats 2000000 in
set_option maxRecDepth 100000 in
/-- wire.TakeText -/
theorem takeText_any (l : List Int) (A0 : Option Addr) (c0 : Nat) (w : World) (hlen : l.length ≤ 140737488355328) (hc0 : l.length ≤ c0) (hr0 : Kd.C (Kd.int .u8) w A0 l.length l) (hok : bytesOk l) :
    Calls Try.prog 24 #[.slice A0 l.length c0] w fun e w' => e = .returned (.tuple #[.string (takeText l).1, .int .i64 (takeText l).2.1, .int .i64 (takeText l).2.2]) ∧ Below w.heap.size w w' := by
  obtain ⟨z, hz⟩ : ∃ z, z = takeText l := ⟨_, rfl⟩
  obtain ⟨y, hy⟩ : ∃ y, y = takeNum l := ⟨_, rfl⟩
  obtain ⟨n, a, e⟩ := y
  have hf := takeNum_facts l hok
  unfold takeText at hz
  rw [← hy] at hz hf
  simp only at hz hf
  rw [show takeText l = z from by unfold takeText; rw [← hy]; simp only; exact hz.symm]
  have HY := Lib.hid hy.symm
  have HR := Lib.hid hr0
  have HOK := Lib.hid hok
  clear hy hr0 hok
  by_cases he : e = 0
  · rw [if_neg (by omega)] at hz
    obtain ⟨n0, n1, a1, a2⟩ := hf he
    subst he
    by_cases hn : n < 1 ∨ 16 < n
    · rw [if_pos hn] at hz
      subst hz
      by_cases hn1 : n < 1
      · clear hn
        go_enter Try.func24, Try.ntmps24
        go_wp2_with (go_at_call 12; refine (take_same l A0 c0 n a 0 _ (by omega) HR.out HOK.out HY.out).mono ?_; rintro e w' ⟨rfl, rfl⟩)
        go_ret3
        exact ⟨rfl, Below.refl _ _⟩
      · have hn2 : 16 < n := by omega
        clear hn
        go_enter Try.func24, Try.ntmps24
        go_wp2_with (go_at_call 12; refine (take_same l A0 c0 n a 0 _ (by omega) HR.out HOK.out HY.out).mono ?_; rintro e w' ⟨rfl, rfl⟩)
        go_ret3
        exact ⟨rfl, Below.refl _ _⟩
    · rw [if_neg hn] at hz
      have hn1 : ¬ n < 1 := by omega
      have hn2 : ¬ 16 < n := by omega
      clear hn hf
      by_cases hs : (l.length : Int) - a < n
      · rw [if_pos hs] at hz
        subst hz
        go_enter Try.func24, Try.ntmps24
        go_wp2_with (go_at_call 12; refine (take_same l A0 c0 n a 0 _ (by omega) HR.out HOK.out HY.out).mono ?_; rintro e w' ⟨rfl, rfl⟩)
        go_ret3
        exact ⟨rfl, Below.refl _ _⟩
      · rw [if_neg hs] at hz
        obtain ⟨i5, hi5, _, hsz5, _⟩ := info_parts info5
        obtain ⟨A1, hcut, hA1, hC1⟩ := print_mid_of (P := Try.prog) (Value.int .u8) 0 22 5 .i64 .i64 Try.underlying22 hi5 hsz5 A0 c0 l a (a + n) (by omega) (by omega) (by omega) hc0
        have hr1 : Kd.C (Kd.int .u8) w A1 _ _ := Kd.C_of_reads (h1 := fun _ => rfl) (hA1 _ (Kd.reads_of_C HR.out))
        have hcv := Kd.C_string (P := Try.prog) (c := c0 - a.toNat) Try.underlying22 Try.underlying5 Try.underlying9 hr1
        have hsl : (strOfNums ((l.take (a + n).toNat).drop a.toNat)).size ≤ maxLen := by
          rw [strOfNums_size]
          have h1 : ((l.take (a + n).toNat).drop a.toNat).length ≤ l.length := by rw [List.length_drop, List.length_take]; omega
          unfold maxLen
          omega
        obtain ⟨s, hs2⟩ : ∃ s, s = strOfNums ((l.take (a + n).toNat).drop a.toNat) := ⟨_, rfl⟩
        rw [← hs2] at hz hcv hsl
        have hll : ((l.take (a + n).toNat).drop a.toNat).length ≤ c0 - a.toNat := hC1
        generalize ((l.take (a + n).toNat).drop a.toNat).length = nn at *
        clear hA1 hC1 hr1 hs2 hi5 hsz5
        have HSL := Lib.hid hsl
        clear hsl
        cases hna : nameAll s with
        | true =>
          rw [if_pos hna] at hz
          have HNA := Lib.hid hna
          clear hna
          subst hz
          go_enter Try.func24, Try.ntmps24
          go_wp2_with (first | (go_at_call 12; refine (take_same l A0 c0 n a 0 _ (by omega) HR.out HOK.out HY.out).mono ?_; rintro e w' ⟨rfl, rfl⟩) | (go_at_call 29; refine (name_r s true _ HSL.out HNA.out).mono ?_; rintro e w' ⟨rfl, hb⟩; have HB := Lib.hid hb; clear hb))
          go_ret3
          exact ⟨rfl, HB.out⟩
        | false =>
          rw [if_neg (by simp [hna])] at hz
          have HNA := Lib.hid hna
          clear hna
          subst hz
          go_enter Try.func24, Try.ntmps24
          go_wp2_with (first | (go_at_call 12; refine (take_same l A0 c0 n a 0 _ (by omega) HR.out HOK.out HY.out).mono ?_; rintro e w' ⟨rfl, rfl⟩) | (go_at_call 29; refine (name_r s false _ HSL.out HNA.out).mono ?_; rintro e w' ⟨rfl, hb⟩; have HB := Lib.hid hb; clear hb))
          go_ret3
          exact ⟨rfl, HB.out⟩
  · rw [if_pos he] at hz
    subst hz
    have he2 : (e != 0) = true := by simpa using he
    clear he hf
    go_enter Try.func24, Try.ntmps24
    go_wp2_with (go_at_call 12; refine (take_same l A0 c0 n a e _ (by omega) HR.out HOK.out HY.out).mono ?_; rintro e w' ⟨rfl, rfl⟩)
    go_ret3
    exact ⟨rfl, Below.refl _ _⟩
def wire_TakeText.f (l0 : List Int) : Option (ByteArray × Int × Int) := if l0.length ≤ 140737488355328 ∧ bytesOk l0 then some (takeText l0) else none
theorem wire_TakeText.calls (A0 : Option Addr) (c0 : Nat) (l0 : List Int) (r1 : ByteArray) (r2 : Int) (r3 : Int) (w : World) (hr0 : Kd.C (Kd.int .u8) w A0 l0.length l0) (hc0 : l0.length ≤ c0) (h : wire_TakeText.f l0 = some (r1, r2, r3)) :
    Calls Try.prog 24 #[.slice A0 l0.length c0] w fun e w' => e = .returned (.tuple #[.string r1, .int .i64 r2, .int .i64 r3]) ∧ Below w.heap.size w w' := by
  unfold wire_TakeText.f at h
  split at h
  · rename_i hs
    have h1 := takeText_any l0 A0 c0 w hs.1 hc0 hr0 hs.2
    rw [Option.some.inj h] at h1
    exact h1
  · cases h


/-! ### wire_TakeInts: function 25 -/
def wire_TakeInts.l0 : Nat → List Int → Int → List Int → Int → Int → Option (List Int × Int × Int)
  | 0, _, _, _, _, _ => none
  | k + 1, x0, x6, x8, x25, x26 => if x26 < x25 then (if 0 ≤ x6 then (if x6 ≤ (x0.length : Int) then ((wire_TakeNumber.f (x0.drop (x6 : Int).toNat)).bind fun bt119 => (if bt119.2.2 = 0 then (if bt119.1 > 2147483647 then (some (([] : List Int), 0, 4)) else (if x8.length < 17592186044416 then (wire_TakeInts.l0 k x0 (wrap64 (x6 + bt119.2.1)) (x8 ++ [wrap64 (bt119.1)]) x25 (IntKind.u64.wrap (x26 + 1))) else (none))) else (some (([] : List Int), 0, bt119.2.2)))) else (none)) else (none)) else (some (x8, x6, 0))
def wire_TakeInts.f (k : Nat) (l0 : List Int) : Option (List Int × Int × Int) := (wire_TakeNumber.f l0).bind fun bt115 => (if bt115.2.2 = 0 then (if bt115.1 > 1000 then (some (([] : List Int), 0, 11)) else (wire_TakeInts.l0 k l0 bt115.2.1 ([] : List Int) bt115.1 0)) else (some (([] : List Int), 0, bt115.2.2)))
theorem wire_TakeInts.mono_l : ∀ k, (∀ y0 y1 y2 y3 y4, LeO (wire_TakeInts.l0 k y0 y1 y2 y3 y4) (wire_TakeInts.l0 (k + 1) y0 y1 y2 y3 y4))
  | 0 => fun _ _ _ _ _ r h => by simp [wire_TakeInts.l0] at h
  | k + 1 => by
    have ih0 := wire_TakeInts.mono_l k
    · intro y0 y1 y2 y3 y4
      unfold wire_TakeInts.l0
      repeat' first
      | (with_reducible exact ih0 _ _ _ _ _)
      | (with_reducible exact LeO.refl _)
      | (with_reducible exact LeO.none _)
      | (with_reducible refine LeO.ite ?_ ?_)
      | (with_reducible refine LeO.bind ?_ (fun _ => ?_))
      | exact ih0 _ _ _ _ _
      | exact LeO.none _
      | refine LeO.ite ?_ ?_
      | refine LeO.bind ?_ (fun _ => ?_)
theorem wire_TakeInts.mono : ∀ a0 k, LeO (wire_TakeInts.f k a0) (wire_TakeInts.f (k + 1) a0) := by
  intro a0 k
  have ih0 := wire_TakeInts.mono_l k
  unfold wire_TakeInts.f
  repeat' first
      | (with_reducible exact ih0 _ _ _ _ _)
      | (with_reducible exact LeO.refl _)
      | (with_reducible exact LeO.none _)
      | (with_reducible refine LeO.ite ?_ ?_)
      | (with_reducible refine LeO.bind ?_ (fun _ => ?_))
      | exact ih0 _ _ _ _ _
      | exact LeO.none _
      | refine LeO.ite ?_ ?_
      | refine LeO.bind ?_ (fun _ => ?_)
set_option maxHeartbeats 8000000 in
set_option maxRecDepth 100000 in
theorem wire_TakeInts.calls (k : Nat) (A0 : Option Addr) (c0 : Nat) (l0 : List Int) (r1 : List Int) (r2 : Int) (r3 : Int) (w : World) (hr0 : Kd.C (Kd.int .u8) w A0 l0.length l0) (hc0 : l0.length ≤ c0) (h : wire_TakeInts.f k l0 = some (r1, r2, r3)) :
    Calls Try.prog 25 #[.slice A0 l0.length c0] w fun e w' => ∃ v0_ : Value, e = .returned (.tuple #[v0_, .int .i64 r2, .int .i64 r3]) ∧ Kd.R (Kd.int .i64) 3 w' w.heap.size (fun _ => True) v0_ r1 ∧ Below w.heap.size w w' := by
  have HR0 := Aside0.mk hr0
  have HC0 := Aside0.mk hc0
  clear hr0 hc0
  have HB := Aside0.mk (Below.refl w.heap.size w)
  have H : ((wire_TakeNumber.f l0).bind fun bt115 => (if bt115.2.2 = 0 then (if bt115.1 > 1000 then (some (([] : List Int), 0, 11)) else (wire_TakeInts.l0 k l0 bt115.2.1 ([] : List Int) bt115.1 0)) else (some (([] : List Int), 0, bt115.2.2)))) = some (r1, r2, r3) := h
  clear h
  replace H := Option.bind_eq_some_iff.mp H
  obtain ⟨⟨t115, t116, t117⟩, A20, H⟩ := H
  replace H : (if t117 = 0 then (if t115 > 1000 then (some (([] : List Int), 0, 11)) else (wire_TakeInts.l0 k l0 t116 ([] : List Int) t115 0)) else (some (([] : List Int), 0, t117))) = some (r1, r2, r3) := H
  have A2 := Aside0.mk A20
  clear A20
  by_cases c3 : t117 = 0
  · rw [if_pos c3] at H
    have c3b0 : (t117 == 0) = true := beq_iff_eq.mpr c3
    have c3b1 : (t117 != 0) = false := bne_eq_false_iff_eq.mpr c3
    clear c3
    by_cases c4 : t115 > 1000
    · rw [if_pos c4] at H
      have c4b0 : decide (1000 < t115) = true := decide_eq_true c4
      clear c4
      simp only [Option.some.injEq, Prod.mk.injEq] at H
      obtain ⟨rfl, rfl, rfl⟩ := H
      go_enter Try.func25, Try.ntmps25
      go_wp2_with (first | ((with_reducible refine gate_callee (f := 12) rfl ?_); refine goesL_ (some 14) rfl rfl Try.func12 (by kernel_rfl) rfl #[.slice A0 l0.length c0] rfl (by (try simp only [List.map_toArray, List.map_cons, List.map_nil]); first | done | rfl | (simp only [List.length_drop, List.length_take]; rfl)) ?_; (with_reducible refine (wire_TakeNumber.calls _ _ l0 t115 t116 t117 _ ?side1 ?side2 A2.out).mono ?_); (case side1 => repeat (first | exact HR0.out | (with_reducible refine Kd.C_alloc ?_ _) | (with_reducible refine Kd.C_drewN ?_ _) | (with_reducible refine Kd.C_drew ?_))); (case side2 => exact HC0.out); rintro e w' ⟨rfl, ⟨nd, rfl⟩⟩; refine ⟨_, rfl, ?_⟩))
      go_ret3
      exact ⟨_, by first | rfl | (simp [errW_none, errW_some] <;> rfl) | (simp [*, errW_none, errW_some] <;> rfl), by first | exact Kd.R_nil _ _ _ _ _ | exact Kd.N_nil _ _ _ _ _ | exact Kd.V_nil _ _ _ _ _ | exact Kd.Q_nil _ _ _ _ _ | exact Kd.S_nil _ _ _ _ _, by repeat (first | (with_reducible first | exact HB.out | apply below_alloc | apply pw_below_drewN | apply below_drew1) | exact HB.out)⟩
    · rw [if_neg c4] at H
      have c4b0 : decide (1000 < t115) = false := decide_eq_false c4
      clear c4
      have H' := Aside0.mk H
      clear H
      go_enter Try.func25, Try.ntmps25
      go_wp2_with (first | ((with_reducible refine gate_callee (f := 12) rfl ?_); refine goesL_ (some 14) rfl rfl Try.func12 (by kernel_rfl) rfl #[.slice A0 l0.length c0] rfl (by (try simp only [List.map_toArray, List.map_cons, List.map_nil]); first | done | rfl | (simp only [List.length_drop, List.length_take]; rfl)) ?_; (with_reducible refine (wire_TakeNumber.calls _ _ l0 t115 t116 t117 _ ?side1 ?side2 A2.out).mono ?_); (case side1 => repeat (first | exact HR0.out | (with_reducible refine Kd.C_alloc ?_ _) | (with_reducible refine Kd.C_drewN ?_ _) | (with_reducible refine Kd.C_drew ?_))); (case side2 => exact HC0.out); rintro e w' ⟨rfl, ⟨nd, rfl⟩⟩; refine ⟨_, rfl, ?_⟩))
      go_loopg [6, 8, 26] k (fun kq v6 v8 v26 w' => ∃ (x6_1 : Int) (x8_1 : List Int) (x26_1 : Int), v6 = .int .i64 x6_1 ∧ v26 = .int .u64 x26_1 ∧ Aside0 (wire_TakeInts.l0 kq l0 x6_1 x8_1 t115 x26_1 = some (r1, r2, r3)) ∧ Aside0 (kq ≤ k) ∧ Aside0 (Kd.R (Kd.int .i64) 3 w' w.heap.size (fun _ => True) v8 x8_1) ∧ Aside0 (Below w.heap.size w w'))
      case atStart => exact ⟨(t116), (([] : List Int)), (0), (by first | rfl | (simp; done) | (simp [*]; done)), (by first | rfl | (simp; done) | (simp [*]; done)), H', ⟨Nat.le_refl _⟩, ⟨by first | exact Kd.R_nil _ _ _ _ _ | exact Kd.N_nil _ _ _ _ _ | exact Kd.V_nil _ _ _ _ _ | exact Kd.Q_nil _ _ _ _ _ | exact Kd.S_nil _ _ _ _ _⟩, ⟨by repeat (first | (with_reducible first | exact HB.out | apply below_alloc | apply pw_below_drewN | apply below_drew1) | exact HB.out)⟩⟩
      case round =>
        clear H'
        try clear c1
        try clear c2
        try clear p2
        try clear c3
        try clear c3b0
        try clear c3b1
        try clear c4
        try clear c4b0
        obtain ⟨x6_1, x8_1, x26_1, rfl, rfl, HA, HK1, HO_8, HB⟩ := hrel
        cases gk with
        | zero => exact absurd HA.out (by simp [wire_TakeInts.l0])
        | succ k1 =>
          have H := HA.out
          clear HA
          simp only [wire_TakeInts.l0] at H
          by_cases c5 : x26_1 < t115
          · rw [if_pos c5] at H
            have c5b0 : decide (x26_1 < t115) = true := decide_eq_true c5
            clear c5
            by_cases c6 : 0 ≤ x6_1
            · rw [if_pos c6] at H
              have c6b0 := eq_true c6
              have c6b1 : decide (0 ≤ x6_1) = true := decide_eq_true c6
              clear c6
              by_cases c7 : x6_1 ≤ (l0.length : Int)
              · rw [if_pos c7] at H
                have c7b0 := eq_true c7
                have c7b1 : decide (x6_1 ≤ (l0.length : Int)) = true := decide_eq_true c7
                clear c7
                replace H := Option.bind_eq_some_iff.mp H
                obtain ⟨⟨t119, t120, t121⟩, A80, H⟩ := H
                replace H : (if t121 = 0 then (if t119 > 2147483647 then (some (([] : List Int), 0, 4)) else (if x8_1.length < 17592186044416 then (wire_TakeInts.l0 k1 l0 (wrap64 (x6_1 + t120)) (x8_1 ++ [wrap64 (t119)]) t115 (IntKind.u64.wrap (x26_1 + 1))) else (none))) else (some (([] : List Int), 0, t121))) = some (r1, r2, r3) := H
                have A8 := Aside0.mk A80
                clear A80
                by_cases c9 : t121 = 0
                · rw [if_pos c9] at H
                  have c9b0 : (t121 == 0) = true := beq_iff_eq.mpr c9
                  have c9b1 : (t121 != 0) = false := bne_eq_false_iff_eq.mpr c9
                  clear c9
                  by_cases c10 : t119 > 2147483647
                  · rw [if_pos c10] at H
                    have c10b0 : decide (2147483647 < t119) = true := decide_eq_true c10
                    clear c10
                    simp only [Option.some.injEq, Prod.mk.injEq] at H
                    obtain ⟨rfl, rfl, rfl⟩ := H
                    obtain ⟨i011, hi011, _, hsz11, _⟩ := info_parts info5
                    obtain ⟨A11, hcut11, hA11, hC11⟩ := print_drop_of (P := Try.prog) (Value.int .u8) 0 22 5 .i64 Try.underlying22 hi011 hsz11 A0 c0 l0 x6_1 (of_decide_eq_true (by first | (with_reducible assumption) | assumption)) (of_decide_eq_true (by first | (with_reducible assumption) | assumption)) HC0.out
                    have HR118 := Aside0.mk (Kd.C_of_reads (h1 := fun _ => rfl) (hA11 _ (Kd.reads_of_C HR0.out)))
                    have HC118 := Aside0.mk hC11
                    clear hA11 hC11 hi011 hsz11
                    go_wp2_with (first | ((with_reducible refine gate_callee (f := 12) rfl ?_); refine goesL_ (some 32) rfl rfl Try.func12 (by kernel_rfl) rfl #[.slice A11 (l0.drop (x6_1 : Int).toNat).length (c0 - x6_1.toNat)] rfl (by (try simp only [List.map_toArray, List.map_cons, List.map_nil]); first | done | (rw [show (l0.drop (x6_1 : Int).toNat).length = (l0.length - x6_1.toNat) from List.length_drop] <;> rfl) | rfl | (simp only [List.length_drop, List.length_take]; rfl)) ?_; (with_reducible refine (wire_TakeNumber.calls _ _ (l0.drop (x6_1 : Int).toNat) t119 t120 t121 _ ?side1 ?side2 A8.out).mono ?_); (case side1 => repeat (first | exact (Kd.C_below HR118.out HB.out) | (with_reducible refine Kd.C_alloc ?_ _) | (with_reducible refine Kd.C_drewN ?_ _) | (with_reducible refine Kd.C_drew ?_))); (case side2 => exact HC118.out); rintro e w' ⟨rfl, ⟨nd, rfl⟩⟩; refine ⟨_, rfl, ?_⟩))
                    go_ret3
                    exact ⟨_, by first | rfl | (simp [errW_none, errW_some] <;> rfl) | (simp [*, errW_none, errW_some] <;> rfl), by first | exact Kd.R_nil _ _ _ _ _ | exact Kd.N_nil _ _ _ _ _ | exact Kd.V_nil _ _ _ _ _ | exact Kd.Q_nil _ _ _ _ _ | exact Kd.S_nil _ _ _ _ _, by repeat (first | (with_reducible first | exact HB.out | apply below_alloc | apply pw_below_drewN | apply below_drew1) | exact HB.out)⟩
                  · rw [if_neg c10] at H
                    have c10b0 : decide (2147483647 < t119) = false := decide_eq_false c10
                    clear c10
                    by_cases c12 : x8_1.length < 17592186044416
                    · rw [if_pos c12] at H
                      have LMc12 := Aside0.mk c12
                      clear c12
                      obtain ⟨y122, hy122⟩ : ∃ y_ : List Int, y_ = (x8_1 ++ [wrap64 (t119)]) := ⟨_, rfl⟩
                      replace H : (wire_TakeInts.l0 k1 l0 (wrap64 (x6_1 + t120)) y122 t115 (IntKind.u64.wrap (x26_1 + 1))) = some (r1, r2, r3) := by first | (rw [hy122]; with_reducible exact H) | (have H2_ := (Option.bind_some _ _).symm.trans H; rw [hy122]; with_reducible exact H2_) | (have H2_ := (Option.bind_some _ _).symm.trans H; with_reducible exact H2_) | with_reducible exact H | (rw [hy122]; exact H) | exact H
                      have Ny122 := Aside0.mk hy122
                      clear hy122
                      have H' := Aside0.mk H
                      clear H
                      obtain ⟨i013, hi013, _, hsz13, _⟩ := info_parts info5
                      obtain ⟨A13, hcut13, hA13, hC13⟩ := print_drop_of (P := Try.prog) (Value.int .u8) 0 22 5 .i64 Try.underlying22 hi013 hsz13 A0 c0 l0 x6_1 (of_decide_eq_true (by first | (with_reducible assumption) | assumption)) (of_decide_eq_true (by first | (with_reducible assumption) | assumption)) HC0.out
                      have HR118 := Aside0.mk (Kd.C_of_reads (h1 := fun _ => rfl) (hA13 _ (Kd.reads_of_C HR0.out)))
                      have HC118 := Aside0.mk hC13
                      clear hA13 hC13 hi013 hsz13
                      go_wp2_with (first | ((with_reducible refine gate_callee (f := 12) rfl ?_); refine goesL_ (some 32) rfl rfl Try.func12 (by kernel_rfl) rfl #[.slice A13 (l0.drop (x6_1 : Int).toNat).length (c0 - x6_1.toNat)] rfl (by (try simp only [List.map_toArray, List.map_cons, List.map_nil]); first | done | (rw [show (l0.drop (x6_1 : Int).toNat).length = (l0.length - x6_1.toNat) from List.length_drop] <;> rfl) | rfl | (simp only [List.length_drop, List.length_take]; rfl)) ?_; (with_reducible refine (wire_TakeNumber.calls _ _ (l0.drop (x6_1 : Int).toNat) t119 t120 t121 _ ?side1 ?side2 A8.out).mono ?_); (case side1 => repeat (first | exact (Kd.C_below HR118.out HB.out) | (with_reducible refine Kd.C_alloc ?_ _) | (with_reducible refine Kd.C_drewN ?_ _) | (with_reducible refine Kd.C_drew ?_))); (case side2 => exact HC118.out); rintro e w' ⟨rfl, ⟨nd, rfl⟩⟩; refine ⟨_, rfl, ?_⟩) | ((with_reducible refine gate_builtin (b := .append) (xs := #[.tmp 43, .tmp 46]) rfl ?_); at_builtin; refine Kd.R_append (Kd.int .i64) (w0 := w) w.heap.size rfl (.tmp 43) (.tmp 46) 42 3 (.int .i64 0) 8 rfl Try.underlying42 info3 rfl (by decide) (by omega) u8 x8_1 (wrap64 (t119)) [.int .i64 (wrap64 (t119))] (fun _ => True) (fun _ => False) rfl rfl ?aP (fun _ hk => hk.elim) ?aF ?aO ?aB ?aS ?aL ?_; (case aP => exact rfl); (case aB => exact (by repeat (first | (with_reducible first | exact HB.out | apply below_alloc | apply pw_below_drewN | apply below_drew1) | exact HB.out))); (case aF => exact (fun _ _ => trivial)); (case aO => exact (by (with_reducible repeat (first | apply Kd.R_alloc | apply Kd.R_drewN | apply Kd.R_drew)); exact HO_8.out)); (case aS => exact (below_size (by repeat (first | (with_reducible first | exact HB.out | apply below_alloc | apply pw_below_drewN | apply below_drew1) | exact HB.out)))); (case aL => have := LMc12.out; omega); intro v123 w14 ho hb hg hat; rw [← Ny122.out] at ho; have n0_ := Aside0.mk (hb); have n1_ := Aside0.mk (ho); clear HB; clear HO_8; have HB := n0_; have HO124 := n1_; clear n0_ n1_; clear ho hb hg hat))
                      go_roundg k1
                      case measure => have := HK1.out; omega
                      case rel => exact ⟨(wrap64 (x6_1 + t120)), (y122), (IntKind.u64.wrap (x26_1 + 1)), (by first | rfl | (simp; done) | (simp [*]; done)), (by first | rfl | (simp; done) | (simp [*]; done)), H', ⟨by have := HK1.out; omega⟩, ⟨by (with_reducible repeat (first | apply Kd.R_alloc | apply Kd.R_drewN | apply Kd.R_drew)); exact HO124.out⟩, ⟨by repeat (first | (with_reducible first | exact HB.out | apply below_alloc | apply pw_below_drewN | apply below_drew1) | exact HB.out)⟩⟩
                    · rw [if_neg c12] at H
                      exact absurd H (by simp)
                · rw [if_neg c9] at H
                  have c9b0 : (t121 == 0) = false := beq_eq_false_iff_ne.mpr c9
                  have c9b1 : (t121 != 0) = true := bne_iff_ne.mpr c9
                  simp only [Option.some.injEq, Prod.mk.injEq] at H
                  obtain ⟨rfl, rfl, rfl⟩ := H
                  obtain ⟨i015, hi015, _, hsz15, _⟩ := info_parts info5
                  obtain ⟨A15, hcut15, hA15, hC15⟩ := print_drop_of (P := Try.prog) (Value.int .u8) 0 22 5 .i64 Try.underlying22 hi015 hsz15 A0 c0 l0 x6_1 (of_decide_eq_true (by first | (with_reducible assumption) | assumption)) (of_decide_eq_true (by first | (with_reducible assumption) | assumption)) HC0.out
                  have HR118 := Aside0.mk (Kd.C_of_reads (h1 := fun _ => rfl) (hA15 _ (Kd.reads_of_C HR0.out)))
                  have HC118 := Aside0.mk hC15
                  clear hA15 hC15 hi015 hsz15
                  go_wp2_with (first | ((with_reducible refine gate_callee (f := 12) rfl ?_); refine goesL_ (some 32) rfl rfl Try.func12 (by kernel_rfl) rfl #[.slice A15 (l0.drop (x6_1 : Int).toNat).length (c0 - x6_1.toNat)] rfl (by (try simp only [List.map_toArray, List.map_cons, List.map_nil]); first | done | (rw [show (l0.drop (x6_1 : Int).toNat).length = (l0.length - x6_1.toNat) from List.length_drop] <;> rfl) | rfl | (simp only [List.length_drop, List.length_take]; rfl)) ?_; (with_reducible refine (wire_TakeNumber.calls _ _ (l0.drop (x6_1 : Int).toNat) t119 t120 t121 _ ?side1 ?side2 A8.out).mono ?_); (case side1 => repeat (first | exact (Kd.C_below HR118.out HB.out) | (with_reducible refine Kd.C_alloc ?_ _) | (with_reducible refine Kd.C_drewN ?_ _) | (with_reducible refine Kd.C_drew ?_))); (case side2 => exact HC118.out); rintro e w' ⟨rfl, ⟨nd, rfl⟩⟩; refine ⟨_, rfl, ?_⟩))
                  go_ret3
                  exact ⟨_, by first | rfl | (simp [errW_none, errW_some] <;> rfl) | (simp [*, errW_none, errW_some] <;> rfl), by first | exact Kd.R_nil _ _ _ _ _ | exact Kd.N_nil _ _ _ _ _ | exact Kd.V_nil _ _ _ _ _ | exact Kd.Q_nil _ _ _ _ _ | exact Kd.S_nil _ _ _ _ _, by repeat (first | (with_reducible first | exact HB.out | apply below_alloc | apply pw_below_drewN | apply below_drew1) | exact HB.out)⟩
              · rw [if_neg c7] at H
                exact absurd H (by simp)
            · rw [if_neg c6] at H
              exact absurd H (by simp)
          · rw [if_neg c5] at H
            have c5b0 : decide (x26_1 < t115) = false := decide_eq_false c5
            clear c5
            simp only [Option.some.injEq, Prod.mk.injEq] at H
            obtain ⟨rfl, rfl, rfl⟩ := H
            go_wp2
            go_ret3
            exact ⟨_, by first | rfl | (simp [errW_none, errW_some] <;> rfl) | (simp [*, errW_none, errW_some] <;> rfl), by (with_reducible repeat (first | apply Kd.R_alloc | apply Kd.R_drewN | apply Kd.R_drew)); exact HO_8.out, by repeat (first | (with_reducible first | exact HB.out | apply below_alloc | apply pw_below_drewN | apply below_drew1) | exact HB.out)⟩
  · rw [if_neg c3] at H
    have c3b0 : (t117 == 0) = false := beq_eq_false_iff_ne.mpr c3
    have c3b1 : (t117 != 0) = true := bne_iff_ne.mpr c3
    simp only [Option.some.injEq, Prod.mk.injEq] at H
    obtain ⟨rfl, rfl, rfl⟩ := H
    go_enter Try.func25, Try.ntmps25
    go_wp2_with (first | ((with_reducible refine gate_callee (f := 12) rfl ?_); refine goesL_ (some 14) rfl rfl Try.func12 (by kernel_rfl) rfl #[.slice A0 l0.length c0] rfl (by (try simp only [List.map_toArray, List.map_cons, List.map_nil]); first | done | rfl | (simp only [List.length_drop, List.length_take]; rfl)) ?_; (with_reducible refine (wire_TakeNumber.calls _ _ l0 t115 t116 t117 _ ?side1 ?side2 A2.out).mono ?_); (case side1 => repeat (first | exact HR0.out | (with_reducible refine Kd.C_alloc ?_ _) | (with_reducible refine Kd.C_drewN ?_ _) | (with_reducible refine Kd.C_drew ?_))); (case side2 => exact HC0.out); rintro e w' ⟨rfl, ⟨nd, rfl⟩⟩; refine ⟨_, rfl, ?_⟩))
    go_ret3
    exact ⟨_, by first | rfl | (simp [errW_none, errW_some] <;> rfl) | (simp [*, errW_none, errW_some] <;> rfl), by first | exact Kd.R_nil _ _ _ _ _ | exact Kd.N_nil _ _ _ _ _ | exact Kd.V_nil _ _ _ _ _ | exact Kd.Q_nil _ _ _ _ _ | exact Kd.S_nil _ _ _ _ _, by repeat (first | (with_reducible first | exact HB.out | apply below_alloc | apply pw_below_drewN | apply below_drew1) | exact HB.out)⟩

end Go.Proofs.Ytckijljnomojiaa.PTypesBack
