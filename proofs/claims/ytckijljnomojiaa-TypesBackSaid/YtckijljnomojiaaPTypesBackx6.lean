-- laid by wip/tools/mkprint.py, a turned copy of the print
import Derived.Test.YtckijljnomojiaaPTypesBackx0
import Derived.Test.YtckijljnomojiaaPTypesBackx3
import Derived.Test.YtckijljnomojiaaPTypesBackx4
import Derived.Test.YtckijljnomojiaaPTypesBackx5
namespace Go.Proofs.Ytckijljnomojiaa.PTypesBack
open Go.RowKit Go.Proofs.YtckijljnomojiaaW.PrintWords Go.Proofs.YtckijljnomojiaaW.PrintLast Go.Proofs.YtckijljnomojiaaW.PrintMore
attribute [local go_sem] max2_int min2_int max_two min_two max_three min_three max_four min_four   -- for this text's walks alone
set_option linter.unusedVariables false
set_option linter.unusedSimpArgs false

/-! ### types_Parse: function 6 -/
def types_Parse.l0 : Nat → List Int → Int → List (S41) → Int → Int → Option ((List (S41)) × Int × Int)
  | 0, _, _, _, _, _ => none
  | k + 1, x0, x6, x8, x27, x28 => if x28 < x27 then (if 0 ≤ x6 then (if x6 ≤ (x0.length : Int) then ((types_one.f k (x0.drop (x6 : Int).toNat)).bind fun bt157 => (if bt157.2.2.2.2.2 = 0 then (if x8.length < 2932031007402 then (types_Parse.l0 k x0 (wrap64 (x6 + bt157.2.2.2.2.1)) (x8 ++ [(⟨bt157.1, bt157.2.1, bt157.2.2.1, bt157.2.2.2.1⟩ : S41)]) x27 (IntKind.u64.wrap (x28 + 1))) else (none)) else (some (([] : List (S41)), 0, bt157.2.2.2.2.2)))) else (none)) else (none)) else ((types_Check.f x8).bind fun bt169 => (if bt169.2 = 0 then (some (x8, x6, 0)) else (some (([] : List (S41)), 0, bt169.2))))
def types_Parse.f (k : Nat) (l0 : List Int) : Option ((List (S41)) × Int × Int) := (wire_TakeNumber.f l0).bind fun bt153 => (if bt153.2.2 = 0 then (if bt153.1 > 32 then (some (([] : List (S41)), 0, 11)) else (types_Parse.l0 k l0 bt153.2.1 ([] : List (S41)) bt153.1 0)) else (some (([] : List (S41)), 0, bt153.2.2)))
theorem types_Parse.mono_l : ∀ k, (∀ y0 y1 y2 y3 y4, LeO (types_Parse.l0 k y0 y1 y2 y3 y4) (types_Parse.l0 (k + 1) y0 y1 y2 y3 y4))
  | 0 => fun _ _ _ _ _ r h => by simp [types_Parse.l0] at h
  | k + 1 => by
    have ih0 := types_Parse.mono_l k
    · intro y0 y1 y2 y3 y4
      unfold types_Parse.l0
      repeat' first
      | (with_reducible exact ih0 _ _ _ _ _)
      | (with_reducible exact types_one.mono _ _)
      | (with_reducible exact LeO.refl _)
      | (with_reducible exact LeO.none _)
      | (with_reducible refine LeO.ite ?_ ?_)
      | (with_reducible refine LeO.bind ?_ (fun _ => ?_))
      | exact ih0 _ _ _ _ _
      | exact types_one.mono _ _
      | exact LeO.none _
      | refine LeO.ite ?_ ?_
      | refine LeO.bind ?_ (fun _ => ?_)
theorem types_Parse.mono : ∀ a0 k, LeO (types_Parse.f k a0) (types_Parse.f (k + 1) a0) := by
  intro a0 k
  have ih0 := types_Parse.mono_l k
  unfold types_Parse.f
  repeat' first
      | (with_reducible exact ih0 _ _ _ _ _)
      | (with_reducible exact types_one.mono _ _)
      | (with_reducible exact LeO.refl _)
      | (with_reducible exact LeO.none _)
      | (with_reducible refine LeO.ite ?_ ?_)
      | (with_reducible refine LeO.bind ?_ (fun _ => ?_))
      | exact ih0 _ _ _ _ _
      | exact types_one.mono _ _
      | exact LeO.none _
      | refine LeO.ite ?_ ?_
      | refine LeO.bind ?_ (fun _ => ?_)
set_option maxHeartbeats 8000000 in
set_option maxRecDepth 100000 in
theorem types_Parse.calls (k : Nat) (A0 : Option Addr) (c0 : Nat) (l0 : List Int) (r1 : List (S41)) (r2 : Int) (r3 : Int) (w : World) (hr0 : Kd.C (Kd.int .u8) w A0 l0.length l0) (hc0 : l0.length ≤ c0) (h : types_Parse.f k l0 = some (r1, r2, r3)) :
    Calls Try.prog 6 #[.slice A0 l0.length c0] w fun e w' => ∃ v0_ : Value, e = .returned (.tuple #[v0_, .int .i64 r2, .int .i64 r3]) ∧ Kd.S k41 41 w' w.heap.size (fun _ => True) v0_ r1 ∧ Below w.heap.size w w' := by
  have hu41 := Try.underlying41
  have HR0 := Aside0.mk hr0
  have HC0 := Aside0.mk hc0
  clear hr0 hc0
  have HB := Aside0.mk (Below.refl w.heap.size w)
  have H : ((wire_TakeNumber.f l0).bind fun bt153 => (if bt153.2.2 = 0 then (if bt153.1 > 32 then (some (([] : List (S41)), 0, 11)) else (types_Parse.l0 k l0 bt153.2.1 ([] : List (S41)) bt153.1 0)) else (some (([] : List (S41)), 0, bt153.2.2)))) = some (r1, r2, r3) := h
  clear h
  replace H := Option.bind_eq_some_iff.mp H
  obtain ⟨⟨t153, t154, t155⟩, A20, H⟩ := H
  replace H : (if t155 = 0 then (if t153 > 32 then (some (([] : List (S41)), 0, 11)) else (types_Parse.l0 k l0 t154 ([] : List (S41)) t153 0)) else (some (([] : List (S41)), 0, t155))) = some (r1, r2, r3) := H
  have A2 := Aside0.mk A20
  clear A20
  by_cases c3 : t155 = 0
  · rw [if_pos c3] at H
    have c3b0 : (t155 == 0) = true := beq_iff_eq.mpr c3
    have c3b1 : (t155 != 0) = false := bne_eq_false_iff_eq.mpr c3
    clear c3
    by_cases c4 : t153 > 32
    · rw [if_pos c4] at H
      have c4b0 : decide (32 < t153) = true := decide_eq_true c4
      clear c4
      simp only [Option.some.injEq, Prod.mk.injEq] at H
      obtain ⟨rfl, rfl, rfl⟩ := H
      go_enter Try.func6, Try.ntmps6
      go_wp2_with (first | ((with_reducible refine gate_callee (f := 12) rfl ?_); refine goesL_ (some 16) rfl rfl Try.func12 (by kernel_rfl) rfl #[.slice A0 l0.length c0] rfl (by (try simp only [List.map_toArray, List.map_cons, List.map_nil]); first | done | rfl | (simp only [List.length_drop, List.length_take]; rfl)) ?_; (with_reducible refine (wire_TakeNumber.calls _ _ l0 t153 t154 t155 _ ?side1 ?side2 A2.out).mono ?_); (case side1 => repeat (first | exact HR0.out | (with_reducible refine Kd.C_alloc ?_ _) | (with_reducible refine Kd.C_drewN ?_ _) | (with_reducible refine Kd.C_drew ?_))); (case side2 => exact HC0.out); rintro e w' ⟨rfl, ⟨nd, rfl⟩⟩; refine ⟨_, rfl, ?_⟩))
      go_ret3
      exact ⟨_, by first | rfl | (simp [errW_none, errW_some] <;> rfl) | (simp [*, errW_none, errW_some] <;> rfl), by first | exact Kd.S_nil _ _ _ _ _ | exact Kd.N_nil _ _ _ _ _ | exact Kd.V_nil _ _ _ _ _ | exact Kd.Q_nil _ _ _ _ _ | exact Kd.R_nil _ _ _ _ _, by repeat (first | (with_reducible first | exact HB.out | apply below_alloc | apply pw_below_drewN | apply below_drew1) | exact HB.out)⟩
    · rw [if_neg c4] at H
      have c4b0 : decide (32 < t153) = false := decide_eq_false c4
      clear c4
      have H' := Aside0.mk H
      clear H
      go_enter Try.func6, Try.ntmps6
      go_wp2_with (first | ((with_reducible refine gate_callee (f := 12) rfl ?_); refine goesL_ (some 16) rfl rfl Try.func12 (by kernel_rfl) rfl #[.slice A0 l0.length c0] rfl (by (try simp only [List.map_toArray, List.map_cons, List.map_nil]); first | done | rfl | (simp only [List.length_drop, List.length_take]; rfl)) ?_; (with_reducible refine (wire_TakeNumber.calls _ _ l0 t153 t154 t155 _ ?side1 ?side2 A2.out).mono ?_); (case side1 => repeat (first | exact HR0.out | (with_reducible refine Kd.C_alloc ?_ _) | (with_reducible refine Kd.C_drewN ?_ _) | (with_reducible refine Kd.C_drew ?_))); (case side2 => exact HC0.out); rintro e w' ⟨rfl, ⟨nd, rfl⟩⟩; refine ⟨_, rfl, ?_⟩))
      go_loopg [6, 8, 28] k (fun kq v6 v8 v28 w' => ∃ (x6_1 : Int) (x8_1 : List (S41)) (x28_1 : Int), v6 = .int .i64 x6_1 ∧ v28 = .int .u64 x28_1 ∧ Aside0 (types_Parse.l0 kq l0 x6_1 x8_1 t153 x28_1 = some (r1, r2, r3)) ∧ Aside0 (kq ≤ k) ∧ Aside0 (Kd.S k41 41 w' w.heap.size (fun _ => True) v8 x8_1) ∧ Aside0 (Below w.heap.size w w'))
      case atStart => exact ⟨(t154), (([] : List (S41))), (0), (by first | rfl | (simp; done) | (simp [*]; done)), (by first | rfl | (simp; done) | (simp [*]; done)), H', ⟨Nat.le_refl _⟩, ⟨by first | exact Kd.S_nil _ _ _ _ _ | exact Kd.N_nil _ _ _ _ _ | exact Kd.V_nil _ _ _ _ _ | exact Kd.Q_nil _ _ _ _ _ | exact Kd.R_nil _ _ _ _ _⟩, ⟨by repeat (first | (with_reducible first | exact HB.out | apply below_alloc | apply pw_below_drewN | apply below_drew1) | exact HB.out)⟩⟩
      case round =>
        clear H'
        try clear c1
        try clear p2
        try clear c3
        try clear c3b0
        try clear c3b1
        try clear c4
        try clear c4b0
        obtain ⟨x6_1, x8_1, x28_1, rfl, rfl, HA, HK1, HO_8, HB⟩ := hrel
        cases gk with
        | zero => exact absurd HA.out (by simp [types_Parse.l0])
        | succ k1 =>
          have H := HA.out
          clear HA
          simp only [types_Parse.l0] at H
          by_cases c5 : x28_1 < t153
          · rw [if_pos c5] at H
            have c5b0 : decide (x28_1 < t153) = true := decide_eq_true c5
            clear c5
            by_cases c6 : 0 ≤ x6_1
            · rw [if_pos c6] at H
              have c6b0 := eq_true c6
              have c6b1 : decide (0 ≤ x6_1) = true := decide_eq_true c6
              clear c6
              by_cases c7 : x6_1 ≤ (l0.length : Int)
              · rw [if_pos c7] at H
                have c7b0 := eq_true c7
                have c7b1 : decide (x6_1 ≤ (l0.length : Int)) = true := decide_eq_true c7
                clear c7
                replace H := Option.bind_eq_some_iff.mp H
                obtain ⟨⟨t157, t158, t159, t160, t163, t164⟩, A80, H⟩ := H
                replace H : (if t164 = 0 then (if x8_1.length < 2932031007402 then (types_Parse.l0 k1 l0 (wrap64 (x6_1 + t163)) (x8_1 ++ [(⟨t157, t158, t159, t160⟩ : S41)]) t153 (IntKind.u64.wrap (x28_1 + 1))) else (none)) else (some (([] : List (S41)), 0, t164))) = some (r1, r2, r3) := H
                have A8 := Aside0.mk A80
                clear A80
                by_cases c9 : t164 = 0
                · rw [if_pos c9] at H
                  have c9b0 : (t164 == 0) = true := beq_iff_eq.mpr c9
                  have c9b1 : (t164 != 0) = false := bne_eq_false_iff_eq.mpr c9
                  clear c9
                  by_cases c10 : x8_1.length < 2932031007402
                  · rw [if_pos c10] at H
                    have LMc10 := Aside0.mk c10
                    clear c10
                    obtain ⟨y166, hy166⟩ : ∃ y_ : List (S41), y_ = (x8_1 ++ [(⟨t157, t158, t159, t160⟩ : S41)]) := ⟨_, rfl⟩
                    replace H : (types_Parse.l0 k1 l0 (wrap64 (x6_1 + t163)) y166 t153 (IntKind.u64.wrap (x28_1 + 1))) = some (r1, r2, r3) := by first | (rw [hy166]; with_reducible exact H) | (have H2_ := (Option.bind_some _ _).symm.trans H; rw [hy166]; with_reducible exact H2_) | (have H2_ := (Option.bind_some _ _).symm.trans H; with_reducible exact H2_) | with_reducible exact H | (rw [hy166]; exact H) | exact H
                    have Ny166 := Aside0.mk hy166
                    clear hy166
                    have H' := Aside0.mk H
                    clear H
                    obtain ⟨i011, hi011, _, hsz11, _⟩ := info_parts info5
                    obtain ⟨A11, hcut11, hA11, hC11⟩ := print_drop_of (P := Try.prog) (Value.int .u8) 0 22 5 .i64 Try.underlying22 hi011 hsz11 A0 c0 l0 x6_1 (of_decide_eq_true (by first | (with_reducible assumption) | assumption)) (of_decide_eq_true (by first | (with_reducible assumption) | assumption)) HC0.out
                    have HR156 := Aside0.mk (Kd.C_of_reads (h1 := fun _ => rfl) (hA11 _ (Kd.reads_of_C HR0.out)))
                    have HC156 := Aside0.mk hC11
                    clear hA11 hC11 hi011 hsz11
                    go_wp2_with (first | ((with_reducible refine gate_callee (f := 13) rfl ?_); refine goesL_ (some 34) rfl rfl Try.func13 (by kernel_rfl) rfl #[.slice A11 (l0.drop (x6_1 : Int).toNat).length (c0 - x6_1.toNat)] rfl (by (try simp only [List.map_toArray, List.map_cons, List.map_nil]); first | done | (rw [show (l0.drop (x6_1 : Int).toNat).length = (l0.length - x6_1.toNat) from List.length_drop] <;> rfl) | rfl | (simp only [List.length_drop, List.length_take]; rfl)) ?_; (with_reducible refine (types_one.calls k1 _ _ (l0.drop (x6_1 : Int).toNat) t157 t158 t159 t160 t163 t164 _ ?side1 ?side2 A8.out).mono ?_); (case side1 => repeat (first | exact (Kd.C_below HR156.out HB.out) | (with_reducible refine Kd.C_alloc ?_ _) | (with_reducible refine Kd.C_drewN ?_ _) | (with_reducible refine Kd.C_drew ?_))); (case side2 => exact HC156.out); rintro e w12 ⟨v161, rfl, ho0, hb⟩; refine ⟨_, rfl, ?_⟩; have n0_ := Aside0.mk (Kd.S_elder' (by (with_reducible repeat (first | apply Kd.S_alloc | apply Kd.S_drewN | apply Kd.S_drew)); exact HO_8.out) (Kd.R_base ho0) hb); have n1_ := Aside0.mk (Kd.R_lower ho0 (below_size (by repeat (first | (with_reducible first | exact HB.out | apply below_alloc | apply pw_below_drewN | apply below_drew1) | exact HB.out)))); have n2_ := Aside0.mk (below_step (by repeat (first | (with_reducible first | exact HB.out | apply below_alloc | apply pw_below_drewN | apply below_drew1) | exact HB.out)) hb); clear HO_8; clear HB; have HO_8 := n0_; have HO162 := n1_; have HB := n2_; clear n0_ n1_ n2_; (try clear hb); (try clear hb2); (try clear hk); (try clear hi); (try clear ho0)) | ((with_reducible refine gate_dst (N := 9) rfl ?_); refine box_event ?hg (N := 9) ?hd (cs := #[.string (⟨#[]⟩ : ByteArray), .bool false, .bool false, .slice none 0 0]) (t := 41) ?hr ?_; (case hd => rfl); (case hg => rfl); (case hr => first | (go_simp; done) | (go_simp; rfl)); intro gb165 hg w13 hbox hb; have n0_ := Aside0.mk (Kd.S_below (Kd.S_elderB (by (with_reducible repeat (first | apply Kd.S_alloc | apply Kd.S_drewN | apply Kd.S_drew)); exact HO_8.out) gb165 (Nat.le_of_eq hg.symm)) hb); have n1_ := Aside0.mk (Kd.R_below (by (with_reducible repeat (first | apply Kd.R_alloc | apply Kd.R_drewN | apply Kd.R_drew)); exact HO162.out) hb); have n2_ := Aside0.mk (below_step (by repeat (first | (with_reducible first | exact HB.out | apply below_alloc | apply pw_below_drewN | apply below_drew1) | exact HB.out)) hb); have n3_ := Aside0.mk (hbox); have n4_ := Aside0.mk ((by rw [hg]; exact (below_size (by repeat (first | (with_reducible first | exact HB.out | apply below_alloc | apply pw_below_drewN | apply below_drew1) | exact HB.out))) : w.heap.size ≤ gb165)); have n5_ := Aside0.mk ((by rw [hg]; exact (below_size (by repeat (first | (with_reducible first | exact HB.out | apply below_alloc | apply pw_below_drewN | apply below_drew1) | exact HB.out))) : w.heap.size ≤ gb165)); clear HO_8; clear HO162; clear HB; have HO_8 := n0_; have HO162 := n1_; have HB := n2_; have BK165 := n3_; have GW165 := n4_; have GE165 := n5_; clear n0_ n1_ n2_ n3_ n4_ n5_; clear hb hbox hg; have hcz14_0 : w13.cell? ⟨gb165, 0, none⟩ = some (.string (⟨#[]⟩ : ByteArray)) := (blk_cell BK165.out 0).trans rfl; have hcz14_1 : w13.cell? ⟨gb165, 1, none⟩ = some (.bool false) := (blk_cell BK165.out 1).trans rfl; have hcz14_2 : w13.cell? ⟨gb165, 2, none⟩ = some (.bool false) := (blk_cell BK165.out 2).trans rfl; have hcz14_3 : w13.cell? ⟨gb165, 3, none⟩ = some (.slice none 0 0) := (blk_cell BK165.out 3).trans rfl; have hfz14_0 := blk_frozen BK165.out 0; have hfz14_1 := blk_frozen BK165.out 1; have hfz14_2 := blk_frozen BK165.out 2; have hfz14_3 := blk_frozen BK165.out 3; obtain ⟨Ao15, co15, eo15⟩ := Kd.R_slice HO162.out; subst eo15) | ((with_reducible refine gate_store (t := 41) (p := 9) rfl ?_); refine store_event (t := 41) (p := 9) (v := ?vo_w16) (w1 := ((((w13.setCell ⟨gb165, 0, none⟩ (.string t157)).setCell ⟨gb165, 1, none⟩ (.bool t158)).setCell ⟨gb165, 2, none⟩ (.bool t159)).setCell ⟨gb165, 3, none⟩ (.slice Ao15 t160.length co15))) ?hg ?ho ?hn ?hr ?_; (case ho => rfl); (case hg => rfl); (case hn => rfl); (case hr => first | (go_simp; done) | (go_simp; rfl)); intro w16 hw; have n0_ : Aside0 (Kd.S k41 41 w16 w.heap.size (fun k_ => some k_ ≠ (.slice Ao15 t160.length co15 : Value).ownBlock ∧ k_ ≠ gb165) u8 x8_1) := ⟨(by rw [hw]; exact (by (with_reducible repeat (first | apply Kd.S_alloc | apply Kd.S_drewN | apply Kd.S_drew)); exact Kd.S_mono (Kd.S_far (p := ⟨gb165, 3, none⟩) (Kd.S_far (p := ⟨gb165, 2, none⟩) (Kd.S_far (p := ⟨gb165, 1, none⟩) (Kd.S_far (p := ⟨gb165, 0, none⟩) (Kd.S_mono HO_8.out (fun k_ hk => (⟨hk, hk.2⟩ : _ ∧ k_ ≠ gb165))) (fun _ hk => hk.2) (.string t157)) (fun _ hk => hk.2) (.bool t158)) (fun _ hk => hk.2) (.bool t159)) (fun _ hk => hk.2) (.slice Ao15 t160.length co15)) (fun _ hk => ⟨hk.1.1.2, hk.1.2⟩)))⟩; have n1_ : Aside0 (Kd.R k38 38 w16 w.heap.size (fun _ => True) (.slice Ao15 t160.length co15) t160) := ⟨(by rw [hw]; exact (by (with_reducible repeat (first | apply Kd.R_alloc | apply Kd.R_drewN | apply Kd.R_drew)); exact Kd.R_mono (Kd.R_far (p := ⟨gb165, 3, none⟩) (Kd.R_far (p := ⟨gb165, 2, none⟩) (Kd.R_far (p := ⟨gb165, 1, none⟩) (Kd.R_far (p := ⟨gb165, 0, none⟩) (Kd.R_types HO162.out BK165.out (by decide)) (fun _ hk => hk.2) (.string t157)) (fun _ hk => hk.2) (.bool t158)) (fun _ hk => hk.2) (.bool t159)) (fun _ hk => hk.2) (.slice Ao15 t160.length co15)) (fun _ hk => trivial)))⟩; have n2_ : Aside0 (w16.heap[gb165]? = some (.cells #[.string t157, .bool t158, .bool t159, .slice Ao15 t160.length co15] 41 (0, 0))) := ⟨(by rw [hw]; exact (by (with_reducible repeat (first | refine blk_drewN ?_ _ | refine blk_drew ?_ | refine blk_alloc ?_ _)); refine blk_put (cs := #[.string t157, .bool t158, .bool t159, .slice none 0 0]) ?_ 3 _ rfl; (with_reducible repeat (first | refine blk_drewN ?_ _ | refine blk_drew ?_ | refine blk_alloc ?_ _)); refine blk_put (cs := #[.string t157, .bool t158, .bool false, .slice none 0 0]) ?_ 2 _ rfl; (with_reducible repeat (first | refine blk_drewN ?_ _ | refine blk_drew ?_ | refine blk_alloc ?_ _)); refine blk_put (cs := #[.string t157, .bool false, .bool false, .slice none 0 0]) ?_ 1 _ rfl; (with_reducible repeat (first | refine blk_drewN ?_ _ | refine blk_drew ?_ | refine blk_alloc ?_ _)); refine blk_put (cs := #[.string (⟨#[]⟩ : ByteArray), .bool false, .bool false, .slice none 0 0]) ?_ 0 _ rfl; (with_reducible repeat (first | refine blk_drewN ?_ _ | refine blk_drew ?_ | refine blk_alloc ?_ _)); exact BK165.out))⟩; have n3_ : Aside0 (Below w.heap.size w w16) := ⟨(by rw [hw]; exact (by repeat (first | (with_reducible first | exact HB.out | apply below_alloc | apply pw_below_drewN | apply below_drew1 | refine below_set ?_ GE165.out) | exact HB.out)))⟩; clear hw; clear HO_8; clear HO162; clear BK165; clear HB; have HO_8 := n0_; have HO162 := n1_; have BK165 := n2_; have HB := n3_; clear n0_ n1_ n2_ n3_; have hcz17_0 : w16.cell? ⟨gb165, 0, none⟩ = some (.string t157) := (blk_cell BK165.out 0).trans rfl; have hcz17_1 : w16.cell? ⟨gb165, 1, none⟩ = some (.bool t158) := (blk_cell BK165.out 1).trans rfl; have hcz17_2 : w16.cell? ⟨gb165, 2, none⟩ = some (.bool t159) := (blk_cell BK165.out 2).trans rfl; have hcz17_3 : w16.cell? ⟨gb165, 3, none⟩ = some (.slice Ao15 t160.length co15) := (blk_cell BK165.out 3).trans rfl; have hfz17_0 := blk_frozen BK165.out 0; have hfz17_1 := blk_frozen BK165.out 1; have hfz17_2 := blk_frozen BK165.out 2; have hfz17_3 := blk_frozen BK165.out 3) | ((with_reducible refine gate_builtin (b := .append) (xs := #[.tmp 41, .tmp 43]) rfl ?_); at_builtin; refine Kd.S_append k41 (w0 := w) w.heap.size rfl (.tmp 41) (.tmp 43) 24 41 (.agg #[(.string ⟨#[]⟩), (.bool false), (.bool false), (.slice none 0 0)]) 48 rfl Try.underlying24 info41 rfl (by decide) (by omega) u8 x8_1 (⟨t157, t158, t159, t160⟩ : S41) [.string t157, .bool t158, .bool t159, .slice Ao15 t160.length co15] (fun k_ => k_ ≠ gb165) (fun k_ => some k_ = (.slice Ao15 t160.length co15 : Value).ownBlock) rfl rfl ?aP (fun k_ hk_ => ((Kd.R_mono (ok' := fun k_ => ((fun k_ => k_ ≠ gb165)) k_ ∧ some k_ ≠ (u8 : Value).ownBlock) (Kd.R_types (Kd.R_apart' (HO162.out) (Kd.S_typed HO_8.out) (by decide)) BK165.out (by decide)) (fun k_ hk => ⟨hk.2, hk.1.2⟩))).1 k_ hk_.symm) ?aF ?aO ?aB ?aS ?aL ?_; (case aP => exact k41_mkM _ _ _ (⟨t157, t158, t159, t160⟩ : S41) (Kd.R_mono (Kd.R_tight rfl (Kd.R_mono (ok' := fun k_ => ((fun k_ => k_ ≠ gb165)) k_ ∧ some k_ ≠ (u8 : Value).ownBlock) (Kd.R_types (Kd.R_apart' (HO162.out) (Kd.S_typed HO_8.out) (by decide)) BK165.out (by decide)) (fun k_ hk => ⟨hk.2, hk.1.2⟩))) (fun _ h_ => h_))); (case aB => exact (by repeat (first | (with_reducible first | exact HB.out | apply below_alloc | apply pw_below_drewN | apply below_drew1 | refine below_set ?_ GE165.out) | exact HB.out))); (case aF => exact (fun k_ hk => Kd.freshB (g := gb165) (o := .cells #[.string t157, .bool t158, .bool t159, .slice Ao15 t160.length co15] 41 (0, 0)) (by (with_reducible repeat (first | refine blk_drewN ?_ _ | refine blk_drew ?_ | refine blk_alloc ?_ _)); exact BK165.out) k_ hk)); (case aO => exact (by (with_reducible repeat (first | apply Kd.S_alloc | apply Kd.S_drewN | apply Kd.S_drew)); exact Kd.S_mono HO_8.out (fun k_ hk => ⟨hk.2, fun e_ => hk.1 e_⟩))); (case aS => exact (below_size (by repeat (first | (with_reducible first | exact HB.out | apply below_alloc | apply pw_below_drewN | apply below_drew1 | refine below_set ?_ GE165.out) | exact HB.out)))); (case aL => have := LMc10.out; omega); intro v167 w18 ho hb hg hat; rw [← Ny166.out] at ho; have n0_ := Aside0.mk (blk_grown (g := gb165) (o := .cells #[.string t157, .bool t158, .bool t159, .slice Ao15 t160.length co15] 41 (0, 0)) (by (with_reducible repeat (first | refine blk_drewN ?_ _ | refine blk_drew ?_ | refine blk_alloc ?_ _)); exact BK165.out) hg (Kd.S_away HO_8.out (fun _ hk => hk.2))); have n1_ := Aside0.mk (hb); have n2_ := Aside0.mk (ho); clear BK165; clear HB; clear HO_8; clear HO162; have BK165 := n0_; have HB := n1_; have HO168 := n2_; clear n0_ n1_ n2_; clear ho hb hg hat))
                    go_roundg k1
                    case measure => have := HK1.out; omega
                    case rel => exact ⟨(wrap64 (x6_1 + t163)), (y166), (IntKind.u64.wrap (x28_1 + 1)), (by first | rfl | (simp; done) | (simp [*]; done)), (by first | rfl | (simp; done) | (simp [*]; done)), H', ⟨by have := HK1.out; omega⟩, ⟨by (with_reducible repeat (first | apply Kd.S_alloc | apply Kd.S_drewN | apply Kd.S_drew)); exact Kd.S_mono HO168.out (fun _ hk => trivial)⟩, ⟨by repeat (first | (with_reducible first | exact HB.out | apply below_alloc | apply pw_below_drewN | apply below_drew1 | refine below_set ?_ GE165.out) | exact HB.out)⟩⟩
                  · rw [if_neg c10] at H
                    exact absurd H (by simp)
                · rw [if_neg c9] at H
                  have c9b0 : (t164 == 0) = false := beq_eq_false_iff_ne.mpr c9
                  have c9b1 : (t164 != 0) = true := bne_iff_ne.mpr c9
                  simp only [Option.some.injEq, Prod.mk.injEq] at H
                  obtain ⟨rfl, rfl, rfl⟩ := H
                  obtain ⟨i019, hi019, _, hsz19, _⟩ := info_parts info5
                  obtain ⟨A19, hcut19, hA19, hC19⟩ := print_drop_of (P := Try.prog) (Value.int .u8) 0 22 5 .i64 Try.underlying22 hi019 hsz19 A0 c0 l0 x6_1 (of_decide_eq_true (by first | (with_reducible assumption) | assumption)) (of_decide_eq_true (by first | (with_reducible assumption) | assumption)) HC0.out
                  have HR156 := Aside0.mk (Kd.C_of_reads (h1 := fun _ => rfl) (hA19 _ (Kd.reads_of_C HR0.out)))
                  have HC156 := Aside0.mk hC19
                  clear hA19 hC19 hi019 hsz19
                  go_wp2_with (first | ((with_reducible refine gate_callee (f := 13) rfl ?_); refine goesL_ (some 34) rfl rfl Try.func13 (by kernel_rfl) rfl #[.slice A19 (l0.drop (x6_1 : Int).toNat).length (c0 - x6_1.toNat)] rfl (by (try simp only [List.map_toArray, List.map_cons, List.map_nil]); first | done | (rw [show (l0.drop (x6_1 : Int).toNat).length = (l0.length - x6_1.toNat) from List.length_drop] <;> rfl) | rfl | (simp only [List.length_drop, List.length_take]; rfl)) ?_; (with_reducible refine (types_one.calls k1 _ _ (l0.drop (x6_1 : Int).toNat) t157 t158 t159 t160 t163 t164 _ ?side1 ?side2 A8.out).mono ?_); (case side1 => repeat (first | exact (Kd.C_below HR156.out HB.out) | (with_reducible refine Kd.C_alloc ?_ _) | (with_reducible refine Kd.C_drewN ?_ _) | (with_reducible refine Kd.C_drew ?_))); (case side2 => exact HC156.out); rintro e w20 ⟨v161, rfl, ho0, hb⟩; refine ⟨_, rfl, ?_⟩; have n0_ := Aside0.mk (Kd.S_elder' (by (with_reducible repeat (first | apply Kd.S_alloc | apply Kd.S_drewN | apply Kd.S_drew)); exact HO_8.out) (Kd.R_base ho0) hb); have n1_ := Aside0.mk (Kd.R_lower ho0 (below_size (by repeat (first | (with_reducible first | exact HB.out | apply below_alloc | apply pw_below_drewN | apply below_drew1) | exact HB.out)))); have n2_ := Aside0.mk (below_step (by repeat (first | (with_reducible first | exact HB.out | apply below_alloc | apply pw_below_drewN | apply below_drew1) | exact HB.out)) hb); clear HO_8; clear HB; have HO_8 := n0_; have HO162 := n1_; have HB := n2_; clear n0_ n1_ n2_; (try clear hb); (try clear hb2); (try clear hk); (try clear hi); (try clear ho0)) | ((with_reducible refine gate_dst (N := 9) rfl ?_); refine box_event ?hg (N := 9) ?hd (cs := #[.string (⟨#[]⟩ : ByteArray), .bool false, .bool false, .slice none 0 0]) (t := 41) ?hr ?_; (case hd => rfl); (case hg => rfl); (case hr => first | (go_simp; done) | (go_simp; rfl)); intro gb165 hg w21 hbox hb; have n0_ := Aside0.mk (Kd.S_below (Kd.S_elderB (by (with_reducible repeat (first | apply Kd.S_alloc | apply Kd.S_drewN | apply Kd.S_drew)); exact HO_8.out) gb165 (Nat.le_of_eq hg.symm)) hb); have n1_ := Aside0.mk (Kd.R_below (by (with_reducible repeat (first | apply Kd.R_alloc | apply Kd.R_drewN | apply Kd.R_drew)); exact HO162.out) hb); have n2_ := Aside0.mk (below_step (by repeat (first | (with_reducible first | exact HB.out | apply below_alloc | apply pw_below_drewN | apply below_drew1) | exact HB.out)) hb); have n3_ := Aside0.mk (hbox); have n4_ := Aside0.mk ((by rw [hg]; exact (below_size (by repeat (first | (with_reducible first | exact HB.out | apply below_alloc | apply pw_below_drewN | apply below_drew1) | exact HB.out))) : w.heap.size ≤ gb165)); have n5_ := Aside0.mk ((by rw [hg]; exact (below_size (by repeat (first | (with_reducible first | exact HB.out | apply below_alloc | apply pw_below_drewN | apply below_drew1) | exact HB.out))) : w.heap.size ≤ gb165)); clear HO_8; clear HO162; clear HB; have HO_8 := n0_; have HO162 := n1_; have HB := n2_; have BK165 := n3_; have GW165 := n4_; have GE165 := n5_; clear n0_ n1_ n2_ n3_ n4_ n5_; clear hb hbox hg; have hcz22_0 : w21.cell? ⟨gb165, 0, none⟩ = some (.string (⟨#[]⟩ : ByteArray)) := (blk_cell BK165.out 0).trans rfl; have hcz22_1 : w21.cell? ⟨gb165, 1, none⟩ = some (.bool false) := (blk_cell BK165.out 1).trans rfl; have hcz22_2 : w21.cell? ⟨gb165, 2, none⟩ = some (.bool false) := (blk_cell BK165.out 2).trans rfl; have hcz22_3 : w21.cell? ⟨gb165, 3, none⟩ = some (.slice none 0 0) := (blk_cell BK165.out 3).trans rfl; have hfz22_0 := blk_frozen BK165.out 0; have hfz22_1 := blk_frozen BK165.out 1; have hfz22_2 := blk_frozen BK165.out 2; have hfz22_3 := blk_frozen BK165.out 3; obtain ⟨Ao23, co23, eo23⟩ := Kd.R_slice HO162.out; subst eo23))
                  go_ret3
                  exact ⟨_, by first | rfl | (simp [errW_none, errW_some] <;> rfl) | (simp [*, errW_none, errW_some] <;> rfl), by first | exact Kd.S_nil _ _ _ _ _ | exact Kd.N_nil _ _ _ _ _ | exact Kd.V_nil _ _ _ _ _ | exact Kd.Q_nil _ _ _ _ _ | exact Kd.R_nil _ _ _ _ _, by repeat (first | (with_reducible first | exact HB.out | apply below_alloc | apply pw_below_drewN | apply below_drew1 | refine below_set ?_ GE165.out) | exact HB.out)⟩
              · rw [if_neg c7] at H
                exact absurd H (by simp)
            · rw [if_neg c6] at H
              exact absurd H (by simp)
          · rw [if_neg c5] at H
            have c5b0 : decide (x28_1 < t153) = false := decide_eq_false c5
            clear c5
            replace H := Option.bind_eq_some_iff.mp H
            obtain ⟨⟨t169, t170⟩, A240, H⟩ := H
            replace H : (if t170 = 0 then (some (x8_1, x6_1, 0)) else (some (([] : List (S41)), 0, t170))) = some (r1, r2, r3) := H
            have A24 := Aside0.mk A240
            clear A240
            by_cases c25 : t170 = 0
            · rw [if_pos c25] at H
              have c25b0 : (t170 == 0) = true := beq_iff_eq.mpr c25
              have c25b1 : (t170 != 0) = false := bne_eq_false_iff_eq.mpr c25
              clear c25
              simp only [Option.some.injEq, Prod.mk.injEq] at H
              obtain ⟨rfl, rfl, rfl⟩ := H
              obtain ⟨Ao26, co26, eo26⟩ := Kd.S_slice HO_8.out
              subst eo26
              go_wp2_with (first | ((with_reducible refine gate_callee (f := 10) rfl ?_); refine goesL_ (some 51) rfl rfl Try.func10 (by kernel_rfl) rfl #[.slice Ao26 x8_1.length co26] rfl (by (try simp only [List.map_toArray, List.map_cons, List.map_nil]); first | done | rfl | (simp only [List.length_drop, List.length_take]; rfl)) ?_; (with_reducible refine (types_Check.calls _ _ x8_1 t169 t170 _ ?side1 ?side2 A24.out).mono ?_); (case side1 => repeat (first | exact (Kd.S_reads' HO_8.out).2.2 | (with_reducible refine Kd.C_alloc ?_ _) | (with_reducible refine Kd.C_drewN ?_ _) | (with_reducible refine Kd.C_drew ?_))); (case side2 => exact (Kd.S_reads' HO_8.out).2.1); rintro e w27 ⟨rfl, hb⟩; refine ⟨_, rfl, ?_⟩; have n0_ := Aside0.mk (Kd.S_below (by (with_reducible repeat (first | apply Kd.S_alloc | apply Kd.S_drewN | apply Kd.S_drew)); exact HO_8.out) hb); have n1_ := Aside0.mk (below_step (by repeat (first | (with_reducible first | exact HB.out | apply below_alloc | apply pw_below_drewN | apply below_drew1) | exact HB.out)) hb); clear HO_8; clear HB; have HO_8 := n0_; have HB := n1_; clear n0_ n1_; (try clear hb); (try clear hb2); (try clear hk); (try clear hi)))
              go_ret3
              exact ⟨_, by first | rfl | (simp [errW_none, errW_some] <;> rfl) | (simp [*, errW_none, errW_some] <;> rfl), by (with_reducible repeat (first | apply Kd.S_alloc | apply Kd.S_drewN | apply Kd.S_drew)); exact HO_8.out, by repeat (first | (with_reducible first | exact HB.out | apply below_alloc | apply pw_below_drewN | apply below_drew1) | exact HB.out)⟩
            · rw [if_neg c25] at H
              have c25b0 : (t170 == 0) = false := beq_eq_false_iff_ne.mpr c25
              have c25b1 : (t170 != 0) = true := bne_iff_ne.mpr c25
              simp only [Option.some.injEq, Prod.mk.injEq] at H
              obtain ⟨rfl, rfl, rfl⟩ := H
              obtain ⟨Ao28, co28, eo28⟩ := Kd.S_slice HO_8.out
              subst eo28
              go_wp2_with (first | ((with_reducible refine gate_callee (f := 10) rfl ?_); refine goesL_ (some 51) rfl rfl Try.func10 (by kernel_rfl) rfl #[.slice Ao28 x8_1.length co28] rfl (by (try simp only [List.map_toArray, List.map_cons, List.map_nil]); first | done | rfl | (simp only [List.length_drop, List.length_take]; rfl)) ?_; (with_reducible refine (types_Check.calls _ _ x8_1 t169 t170 _ ?side1 ?side2 A24.out).mono ?_); (case side1 => repeat (first | exact (Kd.S_reads' HO_8.out).2.2 | (with_reducible refine Kd.C_alloc ?_ _) | (with_reducible refine Kd.C_drewN ?_ _) | (with_reducible refine Kd.C_drew ?_))); (case side2 => exact (Kd.S_reads' HO_8.out).2.1); rintro e w29 ⟨rfl, hb⟩; refine ⟨_, rfl, ?_⟩; have n0_ := Aside0.mk (Kd.S_below (by (with_reducible repeat (first | apply Kd.S_alloc | apply Kd.S_drewN | apply Kd.S_drew)); exact HO_8.out) hb); have n1_ := Aside0.mk (below_step (by repeat (first | (with_reducible first | exact HB.out | apply below_alloc | apply pw_below_drewN | apply below_drew1) | exact HB.out)) hb); clear HO_8; clear HB; have HO_8 := n0_; have HB := n1_; clear n0_ n1_; (try clear hb); (try clear hb2); (try clear hk); (try clear hi)))
              go_ret3
              exact ⟨_, by first | rfl | (simp [errW_none, errW_some] <;> rfl) | (simp [*, errW_none, errW_some] <;> rfl), by first | exact Kd.S_nil _ _ _ _ _ | exact Kd.N_nil _ _ _ _ _ | exact Kd.V_nil _ _ _ _ _ | exact Kd.Q_nil _ _ _ _ _ | exact Kd.R_nil _ _ _ _ _, by repeat (first | (with_reducible first | exact HB.out | apply below_alloc | apply pw_below_drewN | apply below_drew1) | exact HB.out)⟩
  · rw [if_neg c3] at H
    have c3b0 : (t155 == 0) = false := beq_eq_false_iff_ne.mpr c3
    have c3b1 : (t155 != 0) = true := bne_iff_ne.mpr c3
    simp only [Option.some.injEq, Prod.mk.injEq] at H
    obtain ⟨rfl, rfl, rfl⟩ := H
    go_enter Try.func6, Try.ntmps6
    go_wp2_with (first | ((with_reducible refine gate_callee (f := 12) rfl ?_); refine goesL_ (some 16) rfl rfl Try.func12 (by kernel_rfl) rfl #[.slice A0 l0.length c0] rfl (by (try simp only [List.map_toArray, List.map_cons, List.map_nil]); first | done | rfl | (simp only [List.length_drop, List.length_take]; rfl)) ?_; (with_reducible refine (wire_TakeNumber.calls _ _ l0 t153 t154 t155 _ ?side1 ?side2 A2.out).mono ?_); (case side1 => repeat (first | exact HR0.out | (with_reducible refine Kd.C_alloc ?_ _) | (with_reducible refine Kd.C_drewN ?_ _) | (with_reducible refine Kd.C_drew ?_))); (case side2 => exact HC0.out); rintro e w' ⟨rfl, ⟨nd, rfl⟩⟩; refine ⟨_, rfl, ?_⟩))
    go_ret3
    exact ⟨_, by first | rfl | (simp [errW_none, errW_some] <;> rfl) | (simp [*, errW_none, errW_some] <;> rfl), by first | exact Kd.S_nil _ _ _ _ _ | exact Kd.N_nil _ _ _ _ _ | exact Kd.V_nil _ _ _ _ _ | exact Kd.Q_nil _ _ _ _ _ | exact Kd.R_nil _ _ _ _ _, by repeat (first | (with_reducible first | exact HB.out | apply below_alloc | apply pw_below_drewN | apply below_drew1) | exact HB.out)⟩

end Go.Proofs.Ytckijljnomojiaa.PTypesBack
