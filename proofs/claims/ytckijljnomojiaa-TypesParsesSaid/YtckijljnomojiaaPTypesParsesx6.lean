-- laid by wip/tools/mkprint.py, a turned copy of the print
import Derived.Test.YtckijljnomojiaaPTypesParsesx0
import Derived.Test.YtckijljnomojiaaPTypesParsesx2
import Derived.Test.YtckijljnomojiaaPTypesParsesx3
import Derived.Test.YtckijljnomojiaaPTypesParsesx4
import Derived.Test.YtckijljnomojiaaPTypesParsesx5
namespace Go.Proofs.Ytckijljnomojiaa.PTypesParses
open Go.RowKit Go.Proofs.YtckijljnomojiaaW.PrintWords Go.Proofs.YtckijljnomojiaaW.PrintLast Go.Proofs.YtckijljnomojiaaW.PrintMore
attribute [local go_sem] max2_int min2_int max_two min_two max_three min_three max_four min_four   -- for this text's walks alone
set_option linter.unusedVariables false
set_option linter.unusedSimpArgs false

/-! ### types_Parse: function 6 -/
def types_Parse.l0 : Nat → List Int → Int → List (S41) → Int → Int → Option ((List (S41)) × Int × Int)
  | 0, _, _, _, _, _ => none
  | k + 1, x0, x6, x8, x27, x28 => if x28 < x27 then (if 0 ≤ x6 then (if x6 ≤ (x0.length : Int) then ((types_one.f k (x0.drop (x6 : Int).toNat)).bind fun bt157 => (if bt157.2.2.2.2.2 = 0 then (if x8.length < 2932031007402 then (types_Parse.l0 k x0 (wrap64 (x6 + bt157.2.2.2.2.1)) (x8 ++ [(⟨bt157.1, bt157.2.1, bt157.2.2.1, bt157.2.2.2.1⟩ : S41)]) x27 (IntKind.u64.wrap (x28 + 1))) else (none)) else (some (([] : List (S41)), 0, bt157.2.2.2.2.2)))) else (none)) else (none)) else ((types_Check.f x8).bind fun bt169 => (if bt169.2 = 0 then (some (x8, x6, 0)) else (some (([] : List (S41)), 0, bt169.2))))
def types_Parse.f (k : Nat) (l0 : List Int) : Option ((List (S41)) × Int × Int) := (wire_TakeNumber.f l0).bind fun bt153 => (if bt153.2.2 = 0 then (if bt153.1 > 32 then (some (([] : List (S41)), 0, 11)) else (types_Parse.l0 k l0 bt153.2.1 ([] : List (S41)) bt153.1 0)) else (some (([] : List (S41)), 0, bt153.2.2)))
theorem types_Parse.mono_l : ∀ k, (∀ y0 y1 y2 y3 y4, LeO (types_Parse.l0 k y0 y1 y2 y3 y4) (types_Parse.l0 (k + 1) y0 y1 y2 y3 y4))
  | 0 => fun _ _ _ _ _ r h => by simp [types_Parse.l0] at h
  | k + 1 => by
    have ih0 := types_Parse.mono_l k
    · intro y0 y1 y2 y3 y4
      unfold types_Parse.l0
      repeat' first
      | (with_reducible exact ih0 _ _ _ _ _)
      | (with_reducible exact types_one.mono _ _)
      | (with_reducible exact LeO.refl _)
      | (with_reducible exact LeO.none _)
      | (with_reducible refine LeO.ite ?_ ?_)
      | (with_reducible refine LeO.bind ?_ (fun _ => ?_))
      | exact ih0 _ _ _ _ _
      | exact types_one.mono _ _
      | exact LeO.none _
      | refine LeO.ite ?_ ?_
      | refine LeO.bind ?_ (fun _ => ?_)
theorem types_Parse.mono : ∀ a0 k, LeO (types_Parse.f k a0) (types_Parse.f (k + 1) a0) := by
  intro a0 k
  have ih0 := types_Parse.mono_l k
  unfold types_Parse.f
  repeat' first
      | (with_reducible exact ih0 _ _ _ _ _)
      | (with_reducible exact types_one.mono _ _)
      | (with_reducible exact LeO.refl _)
      | (with_reducible exact LeO.none _)
      | (with_reducible refine LeO.ite ?_ ?_)
      | (with_reducible refine LeO.bind ?_ (fun _ => ?_))
      | exact ih0 _ _ _ _ _
      | exact types_one.mono _ _
      | exact LeO.none _
      | refine LeO.ite ?_ ?_
      | refine LeO.bind ?_ (fun _ => ?_)
set_option maxHeartbeats 8000000 in
set_option maxRecDepth 100000 in
theorem types_Parse.calls (k : Nat) (A0 : Option Addr) (c0 : Nat) (l0 : List Int) (r1 : List (S41)) (r2 : Int) (r3 : Int) (w : World) (hr0 : Kd.C (Kd.int .u8) w A0 l0.length l0) (hc0 : l0.length ≤ c0) (h : types_Parse.f k l0 = some (r1, r2, r3)) :
    Calls Try.prog 6 #[.slice A0 l0.length c0] w fun e w' => ∃ v0_ : Value, e = .returned (.tuple #[v0_, .int .i64 r2, .int .i64 r3]) ∧ Kd.S k41 41 w' w.heap.size (fun _ => True) v0_ r1 ∧ Below w.heap.size w w' := by
  have hu41 := Try.underlying41
  have HR0 := Aside0.mk hr0
  have HC0 := Aside0.mk hc0
  clear hr0 hc0
  have HB := Aside0.mk (Below.refl w.heap.size w)
  have H : ((wire_TakeNumber.f l0).bind fun bt153 => (if bt153.2.2 = 0 then (if bt153.1 > 32 then (some (([] : List (S41)), 0, 11)) else (types_Parse.l0 k l0 bt153.2.1 ([] : List (S41)) bt153.1 0)) else (some (([] : List (S41)), 0, bt153.2.2)))) = some (r1, r2, r3) := h
  clear h
  replace H := Option.bind_eq_some_iff.mp H
  obtain ⟨⟨t153, t154, t155⟩, A20, H⟩ := H
  replace H : (if t155 = 0 then (if t153 > 32 then (some (([] : List (S41)), 0, 11)) else (types_Parse.l0 k l0 t154 ([] : List (S41)) t153 0)) else (some (([] : List (S41)), 0, t155))) = some (r1, r2, r3) := H
  have A2 := Aside0.mk A20
  clear A20
  by_cases c3 : t155 = 0
  · rw [if_pos c3] at H
    have c3b0 : (t155 == 0) = true := beq_iff_eq.mpr c3
    have c3b1 : (t155 != 0) = false := bne_eq_false_iff_eq.mpr c3
    clear c3
    by_cases c4 : t153 > 32
    · rw [if_pos c4] at H
      have c4b0 : decide (32 < t153) = true := decide_eq_true c4
      clear c4
      simp only [Option.some.injEq, Prod.mk.injEq] at H
      obtain ⟨rfl, rfl, rfl⟩ := H
      go_enter Try.func6, Try.ntmps6
      go_wp2_with (first | ((with_reducible refine gate_callee (f := 12) rfl ?_); refine goesL_ (some 16) rfl rfl Try.func12 (by kernel_rfl) rfl #[.slice A0 l0.length c0] rfl (by (try simp only [List.map_toArray, List.map_cons, List.map_nil]); first | done | rfl | (simp only [List.length_drop, List.length_take]; rfl)) ?_; (with_reducible refine (wire_TakeNumber.calls _ _ l0 t153 t154 t155 _ ?side1 ?side2 A2.out).mono ?_); (case side1 => repeat (first | exact HR0.out | (with_reducible refine Kd.C_alloc ?_ _) | (with_reducible refine Kd.C_drewN ?_ _) | (with_reducible refine Kd.C_drew ?_))); (case side2 => exact HC0.out); rintro e w' ⟨rfl, ⟨nd, rfl⟩⟩; refine ⟨_, rfl, ?_⟩))
      go_ret3
      exact ⟨_, by first | rfl | (simp [errW_none, errW_some] <;> rfl) | (simp [*, errW_none, errW_some] <;> rfl), by first | exact Kd.S_nil _ _ _ _ _ | exact Kd.N_nil _ _ _ _ _ | exact Kd.V_nil _ _ _ _ _ | exact Kd.Q_nil _ _ _ _ _ | exact Kd.R_nil _ _ _ _ _, by repeat (first | (with_reducible first | exact HB.out | apply below_alloc | apply pw_below_drewN | apply below_drew1) | exact HB.out)⟩
    · rw [if_neg c4] at H
      have c4b0 : decide (32 < t153) = false := decide_eq_false c4
      clear c4
      have H' := Aside0.mk H
      clear H
      go_enter Try.func6, Try.ntmps6
      go_wp2_with (first | ((with_reducible refine gate_callee (f := 12) rfl ?_); refine goesL_ (some 16) rfl rfl Try.func12 (by kernel_rfl) rfl #[.slice A0 l0.length c0] rfl (by (try simp only [List.map_toArray, List.map_cons, List.map_nil]); first | done | rfl | (simp only [List.length_drop, List.length_take]; rfl)) ?_; (with_reducible refine (wire_TakeNumber.calls _ _ l0 t153 t154 t155 _ ?side1 ?side2 A2.out).mono ?_); (case side1 => repeat (first | exact HR0.out | (with_reducible refine Kd.C_alloc ?_ _) | (with_reducible refine Kd.C_drewN ?_ _) | (with_reducible refine Kd.C_drew ?_))); (case side2 => exact HC0.out); rintro e w' ⟨rfl, ⟨nd, rfl⟩⟩; refine ⟨_, rfl, ?_⟩))
      go_loopg [6, 8, 28] k (fun kq v6 v8 v28 w' => ∃ (x6_1 : Int) (x8_1 : List (S41)) (x28_1 : Int), v6 = .int .i64 x6_1 ∧ v28 = .int .u64 x28_1 ∧ Aside0 (types_Parse.l0 kq l0 x6_1 x8_1 t153 x28_1 = some (r1, r2, r3)) ∧ Aside0 (kq ≤ k) ∧ Aside0 (Kd.S k41 41 w' w.heap.size (fun _ => True) v8 x8_1) ∧ Aside0 (Below w.heap.size w w'))
      case atStart => exact ⟨(t154), (([] : List (S41))), (0), (by first | rfl | (simp; done) | (simp [*]; done)), (by first | rfl | (simp; done) | (simp [*]; done)), H', ⟨Nat.le_refl _⟩, ⟨by first | exact Kd.S_nil _ _ _ _ _ | exact Kd.N_nil _ _ _ _ _ | exact Kd.V_nil _ _ _ _ _ | exact Kd.Q_nil _ _ _ _ _ | exact Kd.R_nil _ _ _ _ _⟩, ⟨by repeat (first | (with_reducible first | exact HB.out | apply below_alloc | apply pw_below_drewN | apply below_drew1) | exact HB.out)⟩⟩
      case round =>
        clear H'
        try clear c1
        try clear p2
        try clear c3
        try clear c3b0
        try clear c3b1
        try clear c4
        try clear c4b0
        obtain ⟨x6_1, x8_1, x28_1, rfl, rfl, HA, HK1, HO_8, HB⟩ := hrel
        cases gk with
        | zero => exact absurd HA.out (by simp [types_Parse.l0])
        | succ k1 =>
          have H := HA.out
          clear HA
          simp only [types_Parse.l0] at H
          by_cases c5 : x28_1 < t153
          · rw [if_pos c5] at H
            have c5b0 : decide (x28_1 < t153) = true := decide_eq_true c5
            clear c5
            by_cases c6 : 0 ≤ x6_1
            · rw [if_pos c6] at H
              have c6b0 := eq_true c6
              have c6b1 : decide (0 ≤ x6_1) = true := decide_eq_true c6
              clear c6
              by_cases c7 : x6_1 ≤ (l0.length : Int)
              · rw [if_pos c7] at H
                have c7b0 := eq_true c7
                have c7b1 : decide (x6_1 ≤ (l0.length : Int)) = true := decide_eq_true c7
                clear c7
                replace H := Option.bind_eq_some_iff.mp H
                obtain ⟨⟨t157, t158, t159, t160, t163, t164⟩, A80, H⟩ := H
                replace H : (if t164 = 0 then (if x8_1.length < 2932031007402 then (types_Parse.l0 k1 l0 (wrap64 (x6_1 + t163)) (x8_1 ++ [(⟨t157, t158, t159, t160⟩ : S41)]) t153 (IntKind.u64.wrap (x28_1 + 1))) else (none)) else (some (([] : List (S41)), 0, t164))) = some (r1, r2, r3) := H
                have A8 := Aside0.mk A80
                clear A80
                by_cases c9 : t164 = 0
                · rw [if_pos c9] at H
                  have c9b0 : (t164 == 0) = true := beq_iff_eq.mpr c9
                  have c9b1 : (t164 != 0) = false := bne_eq_false_iff_eq.mpr c9
                  clear c9
                  by_cases c10 : x8_1.length < 2932031007402
                  · rw [if_pos c10] at H
                    have LMc10 := Aside0.mk c10
                    clear c10
                    obtain ⟨y166, hy166⟩ : ∃ y_ : List (S41), y_ = (x8_1 ++ [(⟨t157, t158, t159, t160⟩ : S41)]) := ⟨_, rfl⟩
                    replace H : (types_Parse.l0 k1 l0 (wrap64 (x6_1 + t163)) y166 t153 (IntKind.u64.wrap (x28_1 + 1))) = some (r1, r2, r3) := by first | (rw [hy166]; with_reducible exact H) | (have H2_ := (Option.bind_some _ _).symm.trans H; rw [hy166]; with_reducible exact H2_) | (have H2_ := (Option.bind_some _ _).symm.trans H; with_reducible exact H2_) | with_reducible exact H | (rw [hy166]; exact H) | exact H
                    have Ny166 := Aside0.mk hy166
                    clear hy166
                    have H' := Aside0.mk H
                    clear H
                    obtain ⟨i011, hi011, _, hsz11, _⟩ := info_parts info5
                    obtain ⟨A11, hcut11, hA11, hC11⟩ := print_drop_of (P := Try.prog) (Value.int .u8) 0 22 5 .i64 Try.underlying22 hi011 hsz11 A0 c0 l0 x6_1 (of_decide_eq_true (by first | (with_reducible assumption) | assumption)) (of_decide_eq_true (by first | (with_reducible assumption) | assumption)) HC0.out
                    have HR156 := Aside0.mk (Kd.C_of_reads (h1 := fun _ => rfl) (hA11 _ (Kd.reads_of_C HR0.out)))
                    have HC156 := Aside0.mk hC11
                    clear hA11 hC11 hi011 hsz11
                    go_wp2_with (first | ((with_reducible refine gate_callee (f := 13) rfl ?_); refine goesL_ (some 34) rfl rfl Try.func13 (by kernel_rfl) rfl #[.slice A11 (l0.drop (x6_1 : Int).toNat).length (c0 - x6_1.toNat)] rfl (by (try simp only [List.map_toArray, List.map_cons, List.map_nil]); first | done | (rw [show (l0.drop (x6_1 : Int).toNat).length = (l0.length - x6_1.toNat) from List.length_drop] <;> rfl) | rfl | (simp only [List.length_drop, List.length_take]; rfl)) ?_; (with_reducible refine (types_one.calls k1 _ _ (l0.drop (x6_1 : Int).toNat) t157 t158 t159 t160 t163 t164 _ ?side1 ?side2 A8.out).mono ?_); (case side1 => repeat (first | exact (Kd.C_below HR156.out HB.out) | (with_reducible refine Kd.C_alloc ?_ _) | (with_reducible refine Kd.C_drewN ?_ _) | (with_reducible refine Kd.C_drew ?_))); (case side2 => exact HC156.out); rintro e w12 ⟨v161, rfl, ho0, hb⟩; refine ⟨_, rfl, ?_⟩; have n0_ := Aside0.mk (Kd.S_elder' (by (with_reducible repeat (first | apply Kd.S_alloc | apply Kd.S_drewN | apply Kd.S_drew)); exact HO_8.out) (Kd.R_base ho0) hb); have n1_ := Aside0.mk (Kd.R_lower ho0 (below_size (by repeat (first | (with_reducible first | exact HB.out | apply below_alloc | apply pw_below_drewN | apply below_drew1) | exact HB.out)))); have n2_ := Aside0.mk (below_step (by repeat (first | (with_reducible first | exact HB.out | apply below_alloc | apply pw_below_drewN | apply below_drew1) | exact HB.out)) hb); clear HO_8; clear HB; have HO_8 := n0_; have HO162 := n1_; have HB := n2_; clear n0_ n1_ n2_; (try clear hb); (try clear hb2); (try clear hk); (try clear hi); (try clear ho0)) | ((with_reducible refine gate_dst (N := 9) rfl ?_); refine box_event ?hg (N := 9) ?hd (cs := #[.string (⟨#[]⟩ : ByteArray), .bool false, .bool false, .slice none 0 0]) (t := 41) ?hr ?_; (case hd => rfl); (case hg => rfl); (case hr => first | (go_simp; done) | (go_simp; rfl)); intro gb165 hg w13 hbox hb; have n0_ := Aside0.mk (Kd.S_below (Kd.S_elderB (by (with_reducible repeat (first | apply Kd.S_alloc | apply Kd.S_drewN | apply Kd.S_drew)); exact HO_8.out) gb165 (Nat.le_of_eq hg.symm)) hb); have n1_ := Aside0.mk (Kd.R_below (by (with_reducible repeat (first | apply Kd.R_alloc | apply Kd.R_drewN | apply Kd.R_drew)); exact HO162.out) hb); have n2_ := Aside0.mk (below_step (by repeat (first | (with_reducible first | exact HB.out | apply below_alloc | apply pw_below_drewN | apply below_drew1) | exact HB.out)) hb); have n3_ := Aside0.mk (hbox); have n4_ := Aside0.mk ((by rw [hg]; exact (below_size (by repeat (first | (with_reducible first | exact HB.out | apply below_alloc | apply pw_below_drewN | apply below_drew1) | exact HB.out))) : w.heap.size ≤ gb165)); have n5_ := Aside0.mk ((by rw [hg]; exact (below_size (by repeat (first | (with_reducible first | exact HB.out | apply below_alloc | apply pw_below_drewN | apply below_drew1) | exact HB.out))) : w.heap.size ≤ gb165)); clear HO_8; clear HO162; clear HB; have HO_8 := n0_; have HO162 := n1_; have HB := n2_; have BK165 := n3_; have GW165 := n4_; have GE165 := n5_; clear n0_ n1_ n2_ n3_ n4_ n5_; clear hb hbox hg; have hcz14_0 : w13.cell? ⟨gb165, 0, none⟩ = some (.string (⟨#[]⟩ : ByteArray)) := (blk_cell BK165.out 0).trans rfl; have hcz14_1 : w13.cell? ⟨gb165, 1, none⟩ = some (.bool false) := (blk_cell BK165.out 1).trans rfl; have hcz14_2 : w13.cell? ⟨gb165, 2, none⟩ = some (.bool false) := (blk_cell BK165.out 2).trans rfl; have hcz14_3 : w13.cell? ⟨gb165, 3, none⟩ = some (.slice none 0 0) := (blk_cell BK165.out 3).trans rfl; have hfz14_0 := blk_frozen BK165.out 0; have hfz14_1 := blk_frozen BK165.out 1; have hfz14_2 := blk_frozen BK165.out 2; have hfz14_3 := blk_frozen BK165.out 3; obtain ⟨Ao15, co15, eo15⟩ := Kd.R_slice HO162.out; subst eo15) | ((with_reducible refine gate_store (t := 41) (p := 9) rfl ?_); refine store_event (t := 41) (p := 9) (v := ?vo_w16) (w1 := ((((w13.setCell ⟨gb165, 0, none⟩ (.string t157)).setCell ⟨gb165, 1, none⟩ (.bool t158)).setCell ⟨gb165, 2, none⟩ (.bool t159)).setCell ⟨gb165, 3, none⟩ (.slice Ao15 t160.length co15))) ?hg ?ho ?hn ?hr ?_; (case ho => rfl); (case hg => rfl); (case hn => rfl); (case hr => first | (go_simp; done) | (go_simp; rfl)); intro w16 hw; have n0_ : Aside0 (Kd.S k41 41 w16 w.heap.size (fun k_ => some k_ ≠ (.slice Ao15 t160.length co15 : Value).ownBlock ∧ k_ ≠ gb165) u8 x8_1) := ⟨(by rw [hw]; exact (by (with_reducible repeat (first | apply Kd.S_alloc | apply Kd.S_drewN | apply Kd.S_drew)); exact Kd.S_mono (Kd.S_far (p := ⟨gb165, 3, none⟩) (Kd.S_far (p := ⟨gb165, 2, none⟩) (Kd.S_far (p := ⟨gb165, 1, none⟩) (Kd.S_far (p := ⟨gb165, 0, none⟩) (Kd.S_mono HO_8.out (fun k_ hk => (⟨hk, hk.2⟩ : _ ∧ k_ ≠ gb165))) (fun _ hk => hk.2) (.string t157)) (fun _ hk => hk.2) (.bool t158)) (fun _ hk => hk.2) (.bool t159)) (fun _ hk => hk.2) (.slice Ao15 t160.length co15)) (fun _ hk => ⟨hk.1.1.2, hk.1.2⟩)))⟩; have n1_ : Aside0 (Kd.R k38 38 w16 w.heap.size (fun _ => True) (.slice Ao15 t160.length co15) t160) := ⟨(by rw [hw]; exact (by (with_reducible repeat (first | apply Kd.R_alloc | apply Kd.R_drewN | apply Kd.R_drew)); exact Kd.R_mono (Kd.R_far (p := ⟨gb165, 3, none⟩) (Kd.R_far (p := ⟨gb165, 2, none⟩) (Kd.R_far (p := ⟨gb165, 1, none⟩) (Kd.R_far (p := ⟨gb165, 0, none⟩) (Kd.R_types HO162.out BK165.out (by decide)) (fun _ hk => hk.2) (.string t157)) (fun _ hk => hk.2) (.bool t158)) (fun _ hk => hk.2) (.bool t159)) (fun _ hk => hk.2) (.slice Ao15 t160.length co15)) (fun _ hk => trivial)))⟩; have n2_ : Aside0 (w16.heap[gb165]? = some (.cells #[.string t157, .bool t158, .bool t159, .slice Ao15 t160.length co15] 41 (0, 0))) := ⟨(by rw [hw]; exact (by (with_reducible repeat (first | refine blk_drewN ?_ _ | refine blk_drew ?_ | refine blk_alloc ?_ _)); refine blk_put (cs := #[.string t157, .bool t158, .bool t159, .slice none 0 0]) ?_ 3 _ rfl; (with_reducible repeat (first | refine blk_drewN ?_ _ | refine blk_drew ?_ | refine blk_alloc ?_ _)); refine blk_put (cs := #[.string t157, .bool t158, .bool false, .slice none 0 0]) ?_ 2 _ rfl; (with_reducible repeat (first | refine blk_drewN ?_ _ | refine blk_drew ?_ | refine blk_alloc ?_ _)); refine blk_put (cs := #[.string t157, .bool false, .bool false, .slice none 0 0]) ?_ 1 _ rfl; (with_reducible repeat (first | refine blk_drewN ?_ _ | refine blk_drew ?_ | refine blk_alloc ?_ _)); refine blk_put (cs := #[.string (⟨#[]⟩ : ByteArray), .bool false, .bool false, .slice none 0 0]) ?_ 0 _ rfl; (with_reducible repeat (first | refine blk_drewN ?_ _ | refine blk_drew ?_ | refine blk_alloc ?_ _)); exact BK165.out))⟩; have n3_ : Aside0 (Below w.heap.size w w16) := ⟨(by rw [hw]; exact (by repeat (first | (with_reducible first | exact HB.out | apply below_alloc | apply pw_below_drewN | apply below_drew1 | refine below_set ?_ GE165.out) | exact HB.out)))⟩; clear hw; clear HO_8; clear HO162; clear BK165; clear HB; have HO_8 := n0_; have HO162 := n1_; have BK165 := n2_; have HB := n3_; clear n0_ n1_ n2_ n3_; have hcz17_0 : w16.cell? ⟨gb165, 0, none⟩ = some (.string t157) := (blk_cell BK165.out 0).trans rfl; have hcz17_1 : w16.cell? ⟨gb165, 1, none⟩ = some (.bool t158) := (blk_cell BK165.out 1).trans rfl; have hcz17_2 : w16.cell? ⟨gb165, 2, none⟩ = some (.bool t159) := (blk_cell BK165.out 2).trans rfl; have hcz17_3 : w16.cell? ⟨gb165, 3, none⟩ = some (.slice Ao15 t160.length co15) := (blk_cell BK165.out 3).trans rfl; have hfz17_0 := blk_frozen BK165.out 0; have hfz17_1 := blk_frozen BK165.out 1; have hfz17_2 := blk_frozen BK165.out 2; have hfz17_3 := blk_frozen BK165.out 3) | ((with_reducible refine gate_builtin (b := .append) (xs := #[.tmp 41, .tmp 43]) rfl ?_); at_builtin; refine Kd.S_append k41 (w0 := w) w.heap.size rfl (.tmp 41) (.tmp 43) 24 41 (.agg #[(.string ⟨#[]⟩), (.bool false), (.bool false), (.slice none 0 0)]) 48 rfl Try.underlying24 info41 rfl (by decide) (by omega) u8 x8_1 (⟨t157, t158, t159, t160⟩ : S41) [.string t157, .bool t158, .bool t159, .slice Ao15 t160.length co15] (fun k_ => k_ ≠ gb165) (fun k_ => some k_ = (.slice Ao15 t160.length co15 : Value).ownBlock) rfl rfl ?aP (fun k_ hk_ => ((Kd.R_mono (ok' := fun k_ => ((fun k_ => k_ ≠ gb165)) k_ ∧ some k_ ≠ (u8 : Value).ownBlock) (Kd.R_types (Kd.R_apart' (HO162.out) (Kd.S_typed HO_8.out) (by decide)) BK165.out (by decide)) (fun k_ hk => ⟨hk.2, hk.1.2⟩))).1 k_ hk_.symm) ?aF ?aO ?aB ?aS ?aL ?_; (case aP => exact k41_mkM _ _ _ (⟨t157, t158, t159, t160⟩ : S41) (Kd.R_mono (Kd.R_tight rfl (Kd.R_mono (ok' := fun k_ => ((fun k_ => k_ ≠ gb165)) k_ ∧ some k_ ≠ (u8 : Value).ownBlock) (Kd.R_types (Kd.R_apart' (HO162.out) (Kd.S_typed HO_8.out) (by decide)) BK165.out (by decide)) (fun k_ hk => ⟨hk.2, hk.1.2⟩))) (fun _ h_ => h_))); (case aB => exact (by repeat (first | (with_reducible first | exact HB.out | apply below_alloc | apply pw_below_drewN | apply below_drew1 | refine below_set ?_ GE165.out) | exact HB.out))); (case aF => exact (fun k_ hk => Kd.freshB (g := gb165) (o := .cells #[.string t157, .bool t158, .bool t159, .slice Ao15 t160.length co15] 41 (0, 0)) (by (with_reducible repeat (first | refine blk_drewN ?_ _ | refine blk_drew ?_ | refine blk_alloc ?_ _)); exact BK165.out) k_ hk)); (case aO => exact (by (with_reducible repeat (first | apply Kd.S_alloc | apply Kd.S_drewN | apply Kd.S_drew)); exact Kd.S_mono HO_8.out (fun k_ hk => ⟨hk.2, fun e_ => hk.1 e_⟩))); (case aS => exact (below_size (by repeat (first | (with_reducible first | exact HB.out | apply below_alloc | apply pw_below_drewN | apply below_drew1 | refine below_set ?_ GE165.out) | exact HB.out)))); (case aL => have := LMc10.out; omega); intro v167 w18 ho hb hg hat; rw [← Ny166.out] at ho; have n0_ := Aside0.mk (blk_grown (g := gb165) (o := .cells #[.string t157, .bool t158, .bool t159, .slice Ao15 t160.length co15] 41 (0, 0)) (by (with_reducible repeat (first | refine blk_drewN ?_ _ | refine blk_drew ?_ | refine blk_alloc ?_ _)); exact BK165.out) hg (Kd.S_away HO_8.out (fun _ hk => hk.2))); have n1_ := Aside0.mk (hb); have n2_ := Aside0.mk (ho); clear BK165; clear HB; clear HO_8; clear HO162; have BK165 := n0_; have HB := n1_; have HO168 := n2_; clear n0_ n1_ n2_; clear ho hb hg hat))
                    go_roundg k1
                    case measure => have := HK1.out; omega
                    case rel => exact ⟨(wrap64 (x6_1 + t163)), (y166), (IntKind.u64.wrap (x28_1 + 1)), (by first | rfl | (simp; done) | (simp [*]; done)), (by first | rfl | (simp; done) | (simp [*]; done)), H', ⟨by have := HK1.out; omega⟩, ⟨by (with_reducible repeat (first | apply Kd.S_alloc | apply Kd.S_drewN | apply Kd.S_drew)); exact Kd.S_mono HO168.out (fun _ hk => trivial)⟩, ⟨by repeat (first | (with_reducible first | exact HB.out | apply below_alloc | apply pw_below_drewN | apply below_drew1 | refine below_set ?_ GE165.out) | exact HB.out)⟩⟩
                  · rw [if_neg c10] at H
                    exact absurd H (by simp)
                · rw [if_neg c9] at H
                  have c9b0 : (t164 == 0) = false := beq_eq_false_iff_ne.mpr c9
                  have c9b1 : (t164 != 0) = true := bne_iff_ne.mpr c9
                  simp only [Option.some.injEq, Prod.mk.injEq] at H
                  obtain ⟨rfl, rfl, rfl⟩ := H
                  obtain ⟨i019, hi019, _, hsz19, _⟩ := info_parts info5
                  obtain ⟨A19, hcut19, hA19, hC19⟩ := print_drop_of (P := Try.prog) (Value.int .u8) 0 22 5 .i64 Try.underlying22 hi019 hsz19 A0 c0 l0 x6_1 (of_decide_eq_true (by first | (with_reducible assumption) | assumption)) (of_decide_eq_true (by first | (with_reducible assumption) | assumption)) HC0.out
                  have HR156 := Aside0.mk (Kd.C_of_reads (h1 := fun _ => rfl) (hA19 _ (Kd.reads_of_C HR0.out)))
                  have HC156 := Aside0.mk hC19
                  clear hA19 hC19 hi019 hsz19
                  go_wp2_with (first | ((with_reducible refine gate_callee (f := 13) rfl ?_); refine goesL_ (some 34) rfl rfl Try.func13 (by kernel_rfl) rfl #[.slice A19 (l0.drop (x6_1 : Int).toNat).length (c0 - x6_1.toNat)] rfl (by (try simp only [List.map_toArray, List.map_cons, List.map_nil]); first | done | (rw [show (l0.drop (x6_1 : Int).toNat).length = (l0.length - x6_1.toNat) from List.length_drop] <;> rfl) | rfl | (simp only [List.length_drop, List.length_take]; rfl)) ?_; (with_reducible refine (types_one.calls k1 _ _ (l0.drop (x6_1 : Int).toNat) t157 t158 t159 t160 t163 t164 _ ?side1 ?side2 A8.out).mono ?_); (case side1 => repeat (first | exact (Kd.C_below HR156.out HB.out) | (with_reducible refine Kd.C_alloc ?_ _) | (with_reducible refine Kd.C_drewN ?_ _) | (with_reducible refine Kd.C_drew ?_))); (case side2 => exact HC156.out); rintro e w20 ⟨v161, rfl, ho0, hb⟩; refine ⟨_, rfl, ?_⟩; have n0_ := Aside0.mk (Kd.S_elder' (by (with_reducible repeat (first | apply Kd.S_alloc | apply Kd.S_drewN | apply Kd.S_drew)); exact HO_8.out) (Kd.R_base ho0) hb); have n1_ := Aside0.mk (Kd.R_lower ho0 (below_size (by repeat (first | (with_reducible first | exact HB.out | apply below_alloc | apply pw_below_drewN | apply below_drew1) | exact HB.out)))); have n2_ := Aside0.mk (below_step (by repeat (first | (with_reducible first | exact HB.out | apply below_alloc | apply pw_below_drewN | apply below_drew1) | exact HB.out)) hb); clear HO_8; clear HB; have HO_8 := n0_; have HO162 := n1_; have HB := n2_; clear n0_ n1_ n2_; (try clear hb); (try clear hb2); (try clear hk); (try clear hi); (try clear ho0)) | ((with_reducible refine gate_dst (N := 9) rfl ?_); refine box_event ?hg (N := 9) ?hd (cs := #[.string (⟨#[]⟩ : ByteArray), .bool false, .bool false, .slice none 0 0]) (t := 41) ?hr ?_; (case hd => rfl); (case hg => rfl); (case hr => first | (go_simp; done) | (go_simp; rfl)); intro gb165 hg w21 hbox hb; have n0_ := Aside0.mk (Kd.S_below (Kd.S_elderB (by (with_reducible repeat (first | apply Kd.S_alloc | apply Kd.S_drewN | apply Kd.S_drew)); exact HO_8.out) gb165 (Nat.le_of_eq hg.symm)) hb); have n1_ := Aside0.mk (Kd.R_below (by (with_reducible repeat (first | apply Kd.R_alloc | apply Kd.R_drewN | apply Kd.R_drew)); exact HO162.out) hb); have n2_ := Aside0.mk (below_step (by repeat (first | (with_reducible first | exact HB.out | apply below_alloc | apply pw_below_drewN | apply below_drew1) | exact HB.out)) hb); have n3_ := Aside0.mk (hbox); have n4_ := Aside0.mk ((by rw [hg]; exact (below_size (by repeat (first | (with_reducible first | exact HB.out | apply below_alloc | apply pw_below_drewN | apply below_drew1) | exact HB.out))) : w.heap.size ≤ gb165)); have n5_ := Aside0.mk ((by rw [hg]; exact (below_size (by repeat (first | (with_reducible first | exact HB.out | apply below_alloc | apply pw_below_drewN | apply below_drew1) | exact HB.out))) : w.heap.size ≤ gb165)); clear HO_8; clear HO162; clear HB; have HO_8 := n0_; have HO162 := n1_; have HB := n2_; have BK165 := n3_; have GW165 := n4_; have GE165 := n5_; clear n0_ n1_ n2_ n3_ n4_ n5_; clear hb hbox hg; have hcz22_0 : w21.cell? ⟨gb165, 0, none⟩ = some (.string (⟨#[]⟩ : ByteArray)) := (blk_cell BK165.out 0).trans rfl; have hcz22_1 : w21.cell? ⟨gb165, 1, none⟩ = some (.bool false) := (blk_cell BK165.out 1).trans rfl; have hcz22_2 : w21.cell? ⟨gb165, 2, none⟩ = some (.bool false) := (blk_cell BK165.out 2).trans rfl; have hcz22_3 : w21.cell? ⟨gb165, 3, none⟩ = some (.slice none 0 0) := (blk_cell BK165.out 3).trans rfl; have hfz22_0 := blk_frozen BK165.out 0; have hfz22_1 := blk_frozen BK165.out 1; have hfz22_2 := blk_frozen BK165.out 2; have hfz22_3 := blk_frozen BK165.out 3; obtain ⟨Ao23, co23, eo23⟩ := Kd.R_slice HO162.out; subst eo23))
                  go_ret3
                  exact ⟨_, by first | rfl | (simp [errW_none, errW_some] <;> rfl) | (simp [*, errW_none, errW_some] <;> rfl), by first | exact Kd.S_nil _ _ _ _ _ | exact Kd.N_nil _ _ _ _ _ | exact Kd.V_nil _ _ _ _ _ | exact Kd.Q_nil _ _ _ _ _ | exact Kd.R_nil _ _ _ _ _, by repeat (first | (with_reducible first | exact HB.out | apply below_alloc | apply pw_below_drewN | apply below_drew1 | refine below_set ?_ GE165.out) | exact HB.out)⟩
              · rw [if_neg c7] at H
                exact absurd H (by simp)
            · rw [if_neg c6] at H
              exact absurd H (by simp)
          · rw [if_neg c5] at H
            have c5b0 : decide (x28_1 < t153) = false := decide_eq_false c5
            clear c5
            replace H := Option.bind_eq_some_iff.mp H
            obtain ⟨⟨t169, t170⟩, A240, H⟩ := H
            replace H : (if t170 = 0 then (some (x8_1, x6_1, 0)) else (some (([] : List (S41)), 0, t170))) = some (r1, r2, r3) := H
            have A24 := Aside0.mk A240
            clear A240
            by_cases c25 : t170 = 0
            · rw [if_pos c25] at H
              have c25b0 : (t170 == 0) = true := beq_iff_eq.mpr c25
              have c25b1 : (t170 != 0) = false := bne_eq_false_iff_eq.mpr c25
              clear c25
              simp only [Option.some.injEq, Prod.mk.injEq] at H
              obtain ⟨rfl, rfl, rfl⟩ := H
              obtain ⟨Ao26, co26, eo26⟩ := Kd.S_slice HO_8.out
              subst eo26
              go_wp2_with (first | ((with_reducible refine gate_callee (f := 10) rfl ?_); refine goesL_ (some 51) rfl rfl Try.func10 (by kernel_rfl) rfl #[.slice Ao26 x8_1.length co26] rfl (by (try simp only [List.map_toArray, List.map_cons, List.map_nil]); first | done | rfl | (simp only [List.length_drop, List.length_take]; rfl)) ?_; (with_reducible refine (types_Check.calls _ _ x8_1 t169 t170 _ ?side1 ?side2 A24.out).mono ?_); (case side1 => repeat (first | exact (Kd.S_reads' HO_8.out).2.2 | (with_reducible refine Kd.C_alloc ?_ _) | (with_reducible refine Kd.C_drewN ?_ _) | (with_reducible refine Kd.C_drew ?_))); (case side2 => exact (Kd.S_reads' HO_8.out).2.1); rintro e w27 ⟨rfl, hb⟩; refine ⟨_, rfl, ?_⟩; have n0_ := Aside0.mk (Kd.S_below (by (with_reducible repeat (first | apply Kd.S_alloc | apply Kd.S_drewN | apply Kd.S_drew)); exact HO_8.out) hb); have n1_ := Aside0.mk (below_step (by repeat (first | (with_reducible first | exact HB.out | apply below_alloc | apply pw_below_drewN | apply below_drew1) | exact HB.out)) hb); clear HO_8; clear HB; have HO_8 := n0_; have HB := n1_; clear n0_ n1_; (try clear hb); (try clear hb2); (try clear hk); (try clear hi)))
              go_ret3
              exact ⟨_, by first | rfl | (simp [errW_none, errW_some] <;> rfl) | (simp [*, errW_none, errW_some] <;> rfl), by (with_reducible repeat (first | apply Kd.S_alloc | apply Kd.S_drewN | apply Kd.S_drew)); exact HO_8.out, by repeat (first | (with_reducible first | exact HB.out | apply below_alloc | apply pw_below_drewN | apply below_drew1) | exact HB.out)⟩
            · rw [if_neg c25] at H
              have c25b0 : (t170 == 0) = false := beq_eq_false_iff_ne.mpr c25
              have c25b1 : (t170 != 0) = true := bne_iff_ne.mpr c25
              simp only [Option.some.injEq, Prod.mk.injEq] at H
              obtain ⟨rfl, rfl, rfl⟩ := H
              obtain ⟨Ao28, co28, eo28⟩ := Kd.S_slice HO_8.out
              subst eo28
              go_wp2_with (first | ((with_reducible refine gate_callee (f := 10) rfl ?_); refine goesL_ (some 51) rfl rfl Try.func10 (by kernel_rfl) rfl #[.slice Ao28 x8_1.length co28] rfl (by (try simp only [List.map_toArray, List.map_cons, List.map_nil]); first | done | rfl | (simp only [List.length_drop, List.length_take]; rfl)) ?_; (with_reducible refine (types_Check.calls _ _ x8_1 t169 t170 _ ?side1 ?side2 A24.out).mono ?_); (case side1 => repeat (first | exact (Kd.S_reads' HO_8.out).2.2 | (with_reducible refine Kd.C_alloc ?_ _) | (with_reducible refine Kd.C_drewN ?_ _) | (with_reducible refine Kd.C_drew ?_))); (case side2 => exact (Kd.S_reads' HO_8.out).2.1); rintro e w29 ⟨rfl, hb⟩; refine ⟨_, rfl, ?_⟩; have n0_ := Aside0.mk (Kd.S_below (by (with_reducible repeat (first | apply Kd.S_alloc | apply Kd.S_drewN | apply Kd.S_drew)); exact HO_8.out) hb); have n1_ := Aside0.mk (below_step (by repeat (first | (with_reducible first | exact HB.out | apply below_alloc | apply pw_below_drewN | apply below_drew1) | exact HB.out)) hb); clear HO_8; clear HB; have HO_8 := n0_; have HB := n1_; clear n0_ n1_; (try clear hb); (try clear hb2); (try clear hk); (try clear hi)))
              go_ret3
              exact ⟨_, by first | rfl | (simp [errW_none, errW_some] <;> rfl) | (simp [*, errW_none, errW_some] <;> rfl), by first | exact Kd.S_nil _ _ _ _ _ | exact Kd.N_nil _ _ _ _ _ | exact Kd.V_nil _ _ _ _ _ | exact Kd.Q_nil _ _ _ _ _ | exact Kd.R_nil _ _ _ _ _, by repeat (first | (with_reducible first | exact HB.out | apply below_alloc | apply pw_below_drewN | apply below_drew1) | exact HB.out)⟩
  · rw [if_neg c3] at H
    have c3b0 : (t155 == 0) = false := beq_eq_false_iff_ne.mpr c3
    have c3b1 : (t155 != 0) = true := bne_iff_ne.mpr c3
    simp only [Option.some.injEq, Prod.mk.injEq] at H
    obtain ⟨rfl, rfl, rfl⟩ := H
    go_enter Try.func6, Try.ntmps6
    go_wp2_with (first | ((with_reducible refine gate_callee (f := 12) rfl ?_); refine goesL_ (some 16) rfl rfl Try.func12 (by kernel_rfl) rfl #[.slice A0 l0.length c0] rfl (by (try simp only [List.map_toArray, List.map_cons, List.map_nil]); first | done | rfl | (simp only [List.length_drop, List.length_take]; rfl)) ?_; (with_reducible refine (wire_TakeNumber.calls _ _ l0 t153 t154 t155 _ ?side1 ?side2 A2.out).mono ?_); (case side1 => repeat (first | exact HR0.out | (with_reducible refine Kd.C_alloc ?_ _) | (with_reducible refine Kd.C_drewN ?_ _) | (with_reducible refine Kd.C_drew ?_))); (case side2 => exact HC0.out); rintro e w' ⟨rfl, ⟨nd, rfl⟩⟩; refine ⟨_, rfl, ?_⟩))
    go_ret3
    exact ⟨_, by first | rfl | (simp [errW_none, errW_some] <;> rfl) | (simp [*, errW_none, errW_some] <;> rfl), by first | exact Kd.S_nil _ _ _ _ _ | exact Kd.N_nil _ _ _ _ _ | exact Kd.V_nil _ _ _ _ _ | exact Kd.Q_nil _ _ _ _ _ | exact Kd.R_nil _ _ _ _ _, by repeat (first | (with_reducible first | exact HB.out | apply below_alloc | apply pw_below_drewN | apply below_drew1) | exact HB.out)⟩

/-! ### turnbuckleref04_TakeNumber: function 14 -/
/-- the number out of the last d of the bytes up to k -/
def hiv (l : List Int) (k : Nat) : Nat → Int
  | 0 => 0
  | d + 1 => hiv l k d * 128 + l.getD (k - d) 0 % 128
theorem tnGo_up (l : List Int) (k : Nat) (hk : k ≤ l.length) (hk9 : k ≤ 9) (hb : ∀ j, j < k → 128 ≤ l.getD j 0) : ∀ d n, d ≤ k → ∃ m, tnGo (l.drop (k - d)) (k - d) n = tnGo (l.drop k) k m := by
  intro d
  induction d with
  | zero => intro n _; exact ⟨n, by simp⟩
  | succ d ih =>
    intro n hd
    rw [drop_at l (k - (d + 1)) (by omega)]
    have h1 := hb (k - (d + 1)) (by omega)
    simp only [tnGo]
    rw [if_neg (by omega), if_neg (by omega)]
    have e : k - (d + 1) + 1 = k - d := by omega
    rw [e]
    exact ih _ (by omega)
theorem tnGo_val (l : List Int) (k : Nat) (hk : k < l.length) (hk9 : k ≤ 9) (hb : ∀ j, j < k → 128 ≤ l.getD j 0 ∧ l.getD j 0 < 256) (h0 : 0 ≤ l.getD k 0) (hc : l.getD k 0 < 128) (hz : ¬ (l.getD k 0 = 0 ∧ 0 < k)) (h9 : k = 9 → l.getD k 0 ≤ 1) :
    ∀ d n, d ≤ k → tnGo (l.drop (k - d)) (k - d) n = (n + hiv l k (d + 1) * 128 ^ (k - d), (k : Int) + 1, 0) := by
  intro d
  induction d with
  | zero =>
    intro n _
    simp only [Nat.sub_zero]
    rw [drop_at l k hk]
    have e : l.getD k 0 % 128 = l.getD k 0 := by omega
    simp only [tnGo, hiv, Nat.sub_zero, e]
    by_cases h : k = 9
    · have := h9 h
      rw [if_pos h, if_neg (by omega), if_neg (by omega)]
      simp
    · rw [if_neg h, if_pos hc, if_neg hz]
      simp
  | succ d ih =>
    intro n hd
    rw [drop_at l (k - (d + 1)) (by omega)]
    obtain ⟨h1, h2⟩ := hb (k - (d + 1)) (by omega)
    have e : k - (d + 1) + 1 = k - d := by omega
    have ih' := ih (n + (l.getD (k - (d + 1)) 0 - 128) * 128 ^ (k - (d + 1))) (by omega)
    simp only [tnGo]
    rw [if_neg (by omega), if_neg (by omega), e, ih']
    have e2 : l.getD (k - (d + 1)) 0 % 128 = l.getD (k - (d + 1)) 0 - 128 := by omega
    have e3 : hiv l k (d + 1 + 1) = hiv l k (d + 1) * 128 + l.getD (k - (d + 1)) 0 % 128 := rfl
    rw [e3, e2, show k - d = (k - (d + 1)) + 1 by omega, Int.pow_succ]
    congr 1
    generalize (128 : Int) ^ (k - (d + 1)) = p
    generalize l.getD (k - (d + 1)) 0 - 128 = x
    generalize hiv l k (d + 1) = y
    rw [Int.add_mul, Int.add_assoc]
    congr 1
    rw [Int.add_comm]
    congr 1
    rw [Int.mul_assoc, Int.mul_comm 128 p]
theorem hiv_bd (l : List Int) (k : Nat) (hk9 : k ≤ 9) (h0 : 0 ≤ l.getD k 0) (hc : l.getD k 0 < 128) (h9 : k = 9 → l.getD k 0 ≤ 1) : ∀ d, d ≤ k → 0 ≤ hiv l k (d + 1) ∧ hiv l k (d + 1) < (if k = 9 then 2 * 128 ^ d else 128 ^ (d + 1)) := by
  intro d
  induction d with
  | zero =>
    intro _
    simp only [hiv, Nat.sub_zero]
    split
    · have := h9 (by assumption); rw [Int.pow_zero]; omega
    · rw [Nat.zero_add, show (128 : Int) ^ 1 = 128 from rfl]; omega
  | succ d ih =>
    intro hd
    obtain ⟨i0, i1⟩ := ih (by omega)
    have e3 : hiv l k (d + 1 + 1) = hiv l k (d + 1) * 128 + l.getD (k - (d + 1)) 0 % 128 := rfl
    rw [e3]
    have hm : 0 ≤ l.getD (k - (d + 1)) 0 % 128 ∧ l.getD (k - (d + 1)) 0 % 128 < 128 := by omega
    refine ⟨by omega, ?_⟩
    split at i1
    · rw [if_pos (by assumption)]; rw [Int.pow_succ]; omega
    · rw [if_neg (by assumption)]; rw [Int.pow_succ]; omega
theorem uwrap (x : Int) (h0 : 0 ≤ x) (h1 : x < 18446744073709551616) : IntKind.u64.wrap x = x := by
  simp only [IntKind.wrap, IntKind.bits, IntKind.signed]
  simp
  omega
theorem hiv_u64 (l : List Int) (k : Nat) (hk9 : k ≤ 9) (h0 : 0 ≤ l.getD k 0) (hc : l.getD k 0 < 128) (h9 : k = 9 → l.getD k 0 ≤ 1) (d : Nat) (hd : d ≤ k) : 0 ≤ hiv l k (d + 1) ∧ hiv l k (d + 1) < 18446744073709551616 := by
  obtain ⟨a, b⟩ := hiv_bd l k hk9 h0 hc h9 d hd
  refine ⟨a, Int.lt_of_lt_of_le b ?_⟩
  split
  · have : (128 : Int) ^ d ≤ 128 ^ 9 := by exact_mod_cast (Nat.pow_le_pow_right (n := 128) (by omega) (show d ≤ 9 by omega))
    have e : (128 : Int) ^ 9 = 9223372036854775808 := by decide
    omega
  · have : (128 : Int) ^ (d + 1) ≤ 128 ^ 9 := by exact_mod_cast (Nat.pow_le_pow_right (n := 128) (by omega) (show d + 1 ≤ 9 by omega))
    have e : (128 : Int) ^ 9 = 9223372036854775808 := by decide
    omega

set_option maxHeartbeats 2000000 in
set_option maxRecDepth 100000 in
/-- turnbuckleref04.TakeNumber -/
theorem rtake_any (l : List Int) (A0 : Option Addr) (c0 : Nat) (w : World) (hlen : l.length ≤ 9223372036854775807) (hr0 : Kd.C (Kd.int .u8) w A0 l.length l) (hok : bytesOk l) :
    Calls Try.prog 14 #[.slice A0 l.length c0] w fun e w' => e = .returned (.tuple #[.int .u64 (takeNum l).1, .int .i64 (takeNum l).2.1, .int .i64 (takeNum l).2.2]) ∧ w = w' := by
  generalize hz : takeNum l = z
  have HZ := Lib.hid hz
  have HR := Lib.hid hr0
  have HOK := Lib.hid hok
  clear hz hr0 hok
  obtain ⟨z1, z2, z3⟩ := z
  go_enter Try.func14, Try.ntmps14
  go_wp2
  go_loop [5] (fun v5 => ∃ k : Nat, v5 = .int .i64 k ∧ k ≤ l.length ∧ k ≤ 10 ∧ Hid (∀ j, j < k → 128 ≤ l.getD j 0)) (fun v5 => 10 - (intOf v5).toNat)
  case atStart => exact ⟨0, rfl, by omega, by omega, fun j hj => by omega⟩
  case round =>
    obtain ⟨k, rfl, hk, hk10, HK⟩ := hrel
    have hb : ∀ j, j < k → 128 ≤ l.getD j 0 ∧ l.getD j 0 < 256 := fun j hj => ⟨HK.out j hj, (HOK.out.at j (by omega)).2⟩
    have HB := Lib.hid hb
    clear hb
    by_cases hk9 : k = 10
    · have h := (tnGo_up l 9 (by omega) (by omega) (fun j hj => HK.out j (by omega)) 9 0 (by omega))
      obtain ⟨m, h⟩ := h
      have h9 := HK.out 9 (by omega)
      simp only [Nat.sub_self, List.drop_zero] at h
      rw [drop_at l 9 (by omega)] at h
      simp only [tnGo] at h
      rw [if_pos trivial, if_pos (.inl h9)] at h
      have hz := HZ.out
      unfold takeNum at hz
      rw [h] at hz
      cases hz
      have hb10 : ((k : Int) == 10) = true := by simp; omega
      have hn10 : ¬ k < 10 := by omega
      clear hk9 h9 h
      by_cases hlt : k < l.length
      · obtain ⟨ad, rfl, e0⟩ := at_num HR.out k hlt
        go_wp2
        go_ret3
        exact ⟨rfl, rfl⟩
      · go_wp2
        go_ret3
        exact ⟨rfl, rfl⟩
    · have hk9' : k < 10 := by omega
      have hb10 : ((k : Int) == 10) = false := by simp; omega
      clear hk9
      by_cases hlt : k < l.length
      · obtain ⟨ad, rfl, e0⟩ := at_num HR.out k hlt
        obtain ⟨b0, b1⟩ := HOK.out.at k hlt
        obtain ⟨c, hc⟩ : ∃ c, c = l.getD k 0 := ⟨_, rfl⟩
        rw [← hc] at e0 b0 b1
        have HC := Lib.hid hc
        clear hc
        by_cases h128 : 128 ≤ c
        · go_wp2
          go_round
          case rel => exact ⟨k + 1, by go_num, by omega, by omega, fun j hj => by
            by_cases hjk : j = k
            · subst hjk; rw [← HC.out]; exact h128
            · exact HK.out j (by omega)⟩
          case measure => simp [intOf]; omega
        · have hbl : ((k : Int) == (l.length : Int)) = false := by simp; omega
          by_cases hz : c = 0 ∧ 0 < k
          · obtain ⟨m, h⟩ := (tnGo_up l k (by omega) (by omega) (fun j hj => HK.out j (by omega)) k 0 (by omega))
            simp only [Nat.sub_self, List.drop_zero] at h
            rw [drop_at l k hlt, ← HC.out] at h
            simp only [tnGo] at h
            have hz2 := HZ.out
            unfold takeNum at hz2
            rw [hz2] at h
            have h3 : (z1, z2, z3) = (0, 0, 3) := by
              rw [h]
              by_cases h9 : k = 9
              · rw [if_pos h9, if_pos (.inr hz.1)]
              · rw [if_neg h9, if_pos (by omega), if_pos hz]
            cases h3
            obtain ⟨hc0, hk0⟩ := hz
            have hbc : (c == 0) = true := by simpa using hc0
            clear hc0 h hz2
            go_wp2
            go_ret3
            exact ⟨rfl, rfl⟩
          · have hcz : c = 0 → ¬ 0 < k := fun e h => hz ⟨e, h⟩
            by_cases h9 : k = 9 ∧ 1 < c
            · obtain ⟨h9k, hc1⟩ := h9
              obtain ⟨m, h⟩ := (tnGo_up l k (by omega) (by omega) (fun j hj => HK.out j (by omega)) k 0 (by omega))
              simp only [Nat.sub_self, List.drop_zero] at h
              rw [drop_at l k hlt, ← HC.out] at h
              simp only [tnGo] at h
              rw [if_pos h9k, if_neg (by omega), if_pos hc1] at h
              have hz2 := HZ.out
              unfold takeNum at hz2
              rw [hz2] at h
              cases h
              have hb9 : ((k : Int) == 9) = true := by simp; omega
              have hbc : (c == 0) = false := by simp; omega
              clear h9k hz2 hz hcz
              go_wp2
              go_ret3
              exact ⟨rfl, rfl⟩
            · have hval := tnGo_val l k hlt (by omega) HB.out (by rw [← HC.out]; exact b0) (by rw [← HC.out]; omega) (by rw [← HC.out]; exact hz) (by rw [← HC.out]; omega) k 0 (by omega)
              simp only [Nat.sub_self, List.drop_zero, Int.pow_zero, Int.mul_one, Int.zero_add] at hval
              have hz2 := HZ.out
              unfold takeNum at hz2
              rw [hval] at hz2
              cases hz2
              have hbd := hiv_u64 l k (by omega) (by rw [← HC.out]; exact b0) (by rw [← HC.out]; omega) (by rw [← HC.out]; omega)
              have HBD := Lib.hid hbd
              have hkk : (c == 0) = true ∧ k = 0 ∨ (c == 0) = false := by
                by_cases e : c = 0
                · left; exact ⟨by simpa using e, by have := hcz e; omega⟩
                · right; simpa using e
              have h99 : ((k : Int) == 9) = true ∧ ¬ 1 < c ∨ ((k : Int) == 9) = false := by
                by_cases e : k = 9
                · left; exact ⟨by simp; omega, by omega⟩
                · right; simp; omega
              clear hval hbd h9 hz hcz
              rcases hkk with ⟨q1, q2⟩ | q1
              · have hk0 : ¬ 0 < k := by omega
                clear q2
                rcases h99 with ⟨q3, q4⟩ | q3
                all_goals
                  go_wp2
                  go_loop [6, 7] (fun v6 v7 => ∃ (d : Nat) (i n : Int), v6 = .int .u64 n ∧ v7 = .int .i64 i ∧ d ≤ k + 1 ∧ -1 ≤ i ∧ i ≤ 9 ∧ 0 ≤ n ∧ Hid (i = (k : Int) - d ∧ n = hiv l k d)) (fun _ v7 => (intOf v7 + 1).toNat)
                  case atStart => exact ⟨0, k, 0, rfl, rfl, by omega, by omega, by omega, by omega, by omega, rfl⟩
                  case round =>
                    obtain ⟨d, i, n, rfl, rfl, hd, hi1, hi9, hn0, HD⟩ := hrel
                    by_cases hi0 : 0 ≤ i
                    · obtain ⟨j, rfl⟩ : ∃ j : Nat, i = j := ⟨i.toNat, by omega⟩
                      have hdk : d ≤ k ∧ j = k - d := by have := HD.out.1; omega
                      have hj : j < l.length := by omega
                      obtain ⟨ad2, had, e1⟩ := at_num HR.out j hj
                      cases had
                      obtain ⟨x0, x1⟩ := HOK.out.at j hj
                      have hup := HBD.out d hdk.1
                      have hst : hiv l k (d + 1) = n * 128 + l.getD j 0 % 128 := by rw [HD.out.2, hdk.2]; rfl
                      have HST := Lib.hid hst
                      have HUP := Lib.hid hup
                      have HDK := Lib.hid hdk
                      have HDD := Lib.hid HD.out.1
                      clear hst hup hdk
                      generalize l.getD j 0 = x at *
                      go_wp2
                      go_round
                      case rel =>
                        have h1 := HST.out
                        have h2 := HUP.out
                        have h3 := HDK.out
                        have h4 := HDD.out
                        refine ⟨d + 1, (j : Int) - 1, hiv l k (d + 1), ?_, rfl, by omega, by omega, by omega, by omega, by omega, rfl⟩
                        rw [h1, uwrap (n * 128) (by omega) (by omega), uwrap _ (by omega) (by omega)]
                      case measure => simp [intOf] <;> omega
                    · have hid : i = -1 := by omega
                      have hdd : d = k + 1 := by have := HD.out.1; omega
                      have hn : n = hiv l k (k + 1) := by rw [HD.out.2, hdd]
                      have HNN := Lib.hid hn
                      clear hid hdd hn
                      go_wp2
                      go_ret3
                      exact ⟨ret_take HNN.out rfl rfl, rfl⟩
              · rcases h99 with ⟨q3, q4⟩ | q3
                all_goals
                  go_wp2
                  go_loop [6, 7] (fun v6 v7 => ∃ (d : Nat) (i n : Int), v6 = .int .u64 n ∧ v7 = .int .i64 i ∧ d ≤ k + 1 ∧ -1 ≤ i ∧ i ≤ 9 ∧ 0 ≤ n ∧ Hid (i = (k : Int) - d ∧ n = hiv l k d)) (fun _ v7 => (intOf v7 + 1).toNat)
                  case atStart => exact ⟨0, k, 0, rfl, rfl, by omega, by omega, by omega, by omega, by omega, rfl⟩
                  case round =>
                    obtain ⟨d, i, n, rfl, rfl, hd, hi1, hi9, hn0, HD⟩ := hrel
                    by_cases hi0 : 0 ≤ i
                    · obtain ⟨j, rfl⟩ : ∃ j : Nat, i = j := ⟨i.toNat, by omega⟩
                      have hdk : d ≤ k ∧ j = k - d := by have := HD.out.1; omega
                      have hj : j < l.length := by omega
                      obtain ⟨ad2, had, e1⟩ := at_num HR.out j hj
                      cases had
                      obtain ⟨x0, x1⟩ := HOK.out.at j hj
                      have hup := HBD.out d hdk.1
                      have hst : hiv l k (d + 1) = n * 128 + l.getD j 0 % 128 := by rw [HD.out.2, hdk.2]; rfl
                      have HST := Lib.hid hst
                      have HUP := Lib.hid hup
                      have HDK := Lib.hid hdk
                      have HDD := Lib.hid HD.out.1
                      clear hst hup hdk
                      generalize l.getD j 0 = x at *
                      go_wp2
                      go_round
                      case rel =>
                        have h1 := HST.out
                        have h2 := HUP.out
                        have h3 := HDK.out
                        have h4 := HDD.out
                        refine ⟨d + 1, (j : Int) - 1, hiv l k (d + 1), ?_, rfl, by omega, by omega, by omega, by omega, by omega, rfl⟩
                        rw [h1, uwrap (n * 128) (by omega) (by omega), uwrap _ (by omega) (by omega)]
                      case measure => simp [intOf] <;> omega
                    · have hid : i = -1 := by omega
                      have hdd : d = k + 1 := by have := HD.out.1; omega
                      have hn : n = hiv l k (k + 1) := by rw [HD.out.2, hdd]
                      have HNN := Lib.hid hn
                      clear hid hdd hn
                      go_wp2
                      go_ret3
                      exact ⟨ret_take HNN.out rfl rfl, rfl⟩
      · obtain rfl : k = l.length := by omega
        obtain ⟨m, h⟩ := (tnGo_up l l.length (by omega) (by omega) (fun j hj => HK.out j (by omega)) l.length 0 (by omega))
        simp only [Nat.sub_self, List.drop_zero, List.drop_length] at h
        have hz2 := HZ.out
        unfold takeNum at hz2
        rw [hz2] at h
        simp only [tnGo] at h
        cases h
        have hbl : ((l.length : Int) == (l.length : Int)) = true := by simp
        clear hz2
        go_wp2
        go_ret3
        exact ⟨rfl, rfl⟩

def turnbuckleref04_TakeNumber.f (l0 : List Int) : Option (Int × Int × Int) := if l0.length ≤ 9223372036854775807 ∧ bytesOk l0 then some (takeNum l0) else none
theorem turnbuckleref04_TakeNumber.calls (A0 : Option Addr) (c0 : Nat) (l0 : List Int) (r1 : Int) (r2 : Int) (r3 : Int) (w : World) (hr0 : Kd.C (Kd.int .u8) w A0 l0.length l0) (hc0 : l0.length ≤ c0) (h : turnbuckleref04_TakeNumber.f l0 = some (r1, r2, r3)) :
    Calls Try.prog 14 #[.slice A0 l0.length c0] w fun e w' => e = .returned (.tuple #[.int .u64 r1, .int .i64 r2, .int .i64 r3]) ∧ Drawn0 w w' := by
  unfold turnbuckleref04_TakeNumber.f at h
  split at h
  · rename_i hc
    have h' := Option.some.inj h
    have h1 := rtake_any l0 A0 c0 w hc.1 hr0 hc.2
    rw [h'] at h1
    exact h1.mono fun e w' ⟨he, hw⟩ => ⟨he, by rw [← hw]; exact Drawn0.refl w⟩
  · cases h


/-! ### turnbuckleref04_Name: function 26 -/
set_option maxHeartbeats 1000000 in
set_option maxRecDepth 100000 in
/-- turnbuckleref04.Name -/
theorem rname_any (s : ByteArray) (w : World) (hs : s.size ≤ 9223372036854775807) :
    Calls Try.prog 26 #[.string s] w fun e w' => e = .returned (.bool (nameAll s)) ∧ w = w' := by
  generalize hz : nameAll s = z
  have HZ := Lib.hid hz
  clear hz
  go_enter Try.func26, Try.ntmps26
  go_wp2
  go_loop [2, 3] (fun v2 v3 => v2 = .bool false ∧ ∃ k : Nat, v3 = .int .i64 k ∧ k ≤ s.size ∧ Hid (∀ j, j < k → ∀ h : j < s.size, nameByte (s[j]'h).toNat = true)) (fun _ v3 => s.size - (intOf v3).toNat)
  case atStart => exact ⟨rfl, 0, rfl, by omega, fun j hj => by omega⟩
  case round =>
    obtain ⟨rfl, k, rfl, hk, HA⟩ := hrel
    by_cases hp : k < s.size
    · have HN := Lib.hid (nameOk_no s k hp)
      obtain ⟨c, hc⟩ : ∃ c, c = (s[k]'hp).toNat := ⟨_, rfl⟩
      have HC := Lib.hid hc
      have hlt : c < 256 := by rw [hc]; exact (s[k]'hp).toNat_lt
      have hi : (s[k]'hp).toNat = c := hc.symm
      clear hc
      go_wp2
      all_goals
        have hn := HN.out
        rw [hi] at hn
        first
          | (go_ret
             have hb : nameByte c = false := by
               simp only [Bool.and_eq_true, Bool.not_eq_true', decide_eq_false_iff_not, beq_eq_false_iff_ne, ne_eq, Bool.or_eq_true, decide_eq_true_eq, beq_iff_eq] at *
               simp [nameByte]
               omega
             refine ⟨?_, rfl⟩
             rw [← HZ.out, nameAll, hn hb]
             rfl)
          | (go_round
             case rel =>
               refine ⟨rfl, k + 1, by go_num, by omega, fun j hj h => ?_⟩
               by_cases hjp : j < k
               · exact HA.out j hjp h
               · obtain rfl : j = k := by omega
                 rw [hi]
                 simp only [Bool.and_eq_true, Bool.not_eq_true', decide_eq_false_iff_not, beq_eq_false_iff_ne, ne_eq, Bool.or_eq_true, decide_eq_true_eq, beq_iff_eq, Bool.and_eq_false_iff, Bool.not_eq_false'] at *
                 simp [nameByte]
                 omega
             case measure => simp [intOf]; omega)
    · have HF := Lib.hid (nameOk_yes s (fun j h => HA.out j (by omega) h))
      go_wp2
      all_goals go_ret
      all_goals refine ⟨?_, rfl⟩
      all_goals rw [← HZ.out, nameAll, HF.out]
      · have h1 : decide (0 < s.size) = true := decide_eq_true (by omega)
        rw [h1]
        have h2 : ((s.size : Int) ≤ 16) = (s.size ≤ 16) := by apply propext; constructor <;> intro h <;> omega
        simp [h2]
      · have h1 : decide (0 < s.size) = false := decide_eq_false (by omega)
        rw [h1]
        rfl
def turnbuckleref04_Name.f (a0 : ByteArray) : Option Bool := if a0.size ≤ 9223372036854775807 then some (nameAll a0) else none
theorem turnbuckleref04_Name.calls (a0 : ByteArray) (r : Bool) (w : World) (h : turnbuckleref04_Name.f a0 = some r) :
    Calls Try.prog 26 #[.string a0] w fun e w' => e = .returned (.bool r) ∧ Drawn0 w w' := by
  unfold turnbuckleref04_Name.f at h
  split at h
  · rename_i hs
    obtain rfl := Option.some.inj h
    exact (rname_any a0 w hs).mono fun e w' ⟨he, hw⟩ => ⟨he, by rw [← hw]; exact Drawn0.refl w⟩
  · cases h


/-! ### turnbuckleref04_TakeText: function 15 -/
theorem rtake_same (l : List Int) (A0 : Option Addr) (c0 : Nat) (n at_ e : Int) (w : World) (hlen : l.length ≤ 9223372036854775807) (hr0 : Kd.C (Kd.int .u8) w A0 l.length l) (hok : bytesOk l) (hz : takeNum l = (n, at_, e)) :
    Calls Try.prog 14 #[.slice A0 l.length c0] w fun e' w' => e' = .returned (.tuple #[.int .u64 n, .int .i64 at_, .int .i64 e]) ∧ w = w' := by
  have := rtake_any l A0 c0 w hlen hr0 hok
  rw [hz] at this
  exact this
theorem rname_r (s : ByteArray) (r : Bool) (w : World) (hs : s.size ≤ maxLen) (hr : nameAll s = r) : Calls Try.prog 26 #[.string s] w fun e w' => e = .returned (.bool r) ∧ w = w' := by
  rw [← hr]
  exact rname_any s w hs
set_option maxHeartbeats 2000000 in
set_option maxRecDepth 100000 in
/-- turnbuckleref04.TakeText -/
theorem rtakeText_any (l : List Int) (A0 : Option Addr) (c0 : Nat) (w : World) (hlen : l.length ≤ 140737488355328) (hc0 : l.length ≤ c0) (hr0 : Kd.C (Kd.int .u8) w A0 l.length l) (hok : bytesOk l) :
    Calls Try.prog 15 #[.slice A0 l.length c0] w fun e w' => e = .returned (.tuple #[.string (takeText l).1, .int .i64 (takeText l).2.1, .int .i64 (takeText l).2.2]) ∧ Below w.heap.size w w' := by
  obtain ⟨z, hz⟩ : ∃ z, z = takeText l := ⟨_, rfl⟩
  obtain ⟨y, hy⟩ : ∃ y, y = takeNum l := ⟨_, rfl⟩
  obtain ⟨n, a, e⟩ := y
  have hf := takeNum_facts l hok
  unfold takeText at hz
  rw [← hy] at hz hf
  simp only at hz hf
  rw [show takeText l = z from by unfold takeText; rw [← hy]; simp only; exact hz.symm]
  have HY := Lib.hid hy.symm
  have HR := Lib.hid hr0
  have HOK := Lib.hid hok
  clear hy hr0 hok
  by_cases he : e = 0
  · rw [if_neg (by omega)] at hz
    obtain ⟨n0, n1, a1, a2⟩ := hf he
    subst he
    by_cases hn : n < 1 ∨ 16 < n
    · rw [if_pos hn] at hz
      subst hz
      by_cases hn1 : n < 1
      · clear hn
        go_enter Try.func15, Try.ntmps15
        go_wp2_with (go_at_call 14; refine (rtake_same l A0 c0 n a 0 _ (by omega) HR.out HOK.out HY.out).mono ?_; rintro e w' ⟨rfl, rfl⟩)
        go_ret3
        exact ⟨rfl, Below.refl _ _⟩
      · have hn2 : 16 < n := by omega
        clear hn
        go_enter Try.func15, Try.ntmps15
        go_wp2_with (go_at_call 14; refine (rtake_same l A0 c0 n a 0 _ (by omega) HR.out HOK.out HY.out).mono ?_; rintro e w' ⟨rfl, rfl⟩)
        go_ret3
        exact ⟨rfl, Below.refl _ _⟩
    · rw [if_neg hn] at hz
      have hn1 : ¬ n < 1 := by omega
      have hn2 : ¬ 16 < n := by omega
      clear hn hf
      by_cases hs : (l.length : Int) - a < n
      · rw [if_pos hs] at hz
        subst hz
        go_enter Try.func15, Try.ntmps15
        go_wp2_with (go_at_call 14; refine (rtake_same l A0 c0 n a 0 _ (by omega) HR.out HOK.out HY.out).mono ?_; rintro e w' ⟨rfl, rfl⟩)
        go_ret3
        exact ⟨rfl, Below.refl _ _⟩
      · rw [if_neg hs] at hz
        obtain ⟨i5, hi5, _, hsz5, _⟩ := info_parts info5
        obtain ⟨A1, hcut, hA1, hC1⟩ := print_mid_of (P := Try.prog) (Value.int .u8) 0 22 5 .i64 .i64 Try.underlying22 hi5 hsz5 A0 c0 l a (a + n) (by omega) (by omega) (by omega) hc0
        have hr1 : Kd.C (Kd.int .u8) w A1 _ _ := Kd.C_of_reads (h1 := fun _ => rfl) (hA1 _ (Kd.reads_of_C HR.out))
        have hcv := Kd.C_string (P := Try.prog) (c := c0 - a.toNat) Try.underlying22 Try.underlying5 Try.underlying9 hr1
        have hsl : (strOfNums ((l.take (a + n).toNat).drop a.toNat)).size ≤ maxLen := by
          rw [strOfNums_size]
          have h1 : ((l.take (a + n).toNat).drop a.toNat).length ≤ l.length := by rw [List.length_drop, List.length_take]; omega
          unfold maxLen
          omega
        obtain ⟨s, hs2⟩ : ∃ s, s = strOfNums ((l.take (a + n).toNat).drop a.toNat) := ⟨_, rfl⟩
        rw [← hs2] at hz hcv hsl
        have hll : ((l.take (a + n).toNat).drop a.toNat).length ≤ c0 - a.toNat := hC1
        generalize ((l.take (a + n).toNat).drop a.toNat).length = nn at *
        clear hA1 hC1 hr1 hs2 hi5 hsz5
        have HSL := Lib.hid hsl
        clear hsl
        cases hna : nameAll s with
        | true =>
          rw [if_pos hna] at hz
          have HNA := Lib.hid hna
          clear hna
          subst hz
          go_enter Try.func15, Try.ntmps15
          go_wp2_with (first | (go_at_call 14; refine (rtake_same l A0 c0 n a 0 _ (by omega) HR.out HOK.out HY.out).mono ?_; rintro e w' ⟨rfl, rfl⟩) | (go_at_call 26; refine (rname_r s true _ HSL.out HNA.out).mono ?_; rintro e w' ⟨rfl, rfl⟩))
          go_ret3
          exact ⟨rfl, Below.refl _ _⟩
        | false =>
          rw [if_neg (by simp [hna])] at hz
          have HNA := Lib.hid hna
          clear hna
          subst hz
          go_enter Try.func15, Try.ntmps15
          go_wp2_with (first | (go_at_call 14; refine (rtake_same l A0 c0 n a 0 _ (by omega) HR.out HOK.out HY.out).mono ?_; rintro e w' ⟨rfl, rfl⟩) | (go_at_call 26; refine (rname_r s false _ HSL.out HNA.out).mono ?_; rintro e w' ⟨rfl, rfl⟩))
          go_ret3
          exact ⟨rfl, Below.refl _ _⟩
  · rw [if_pos he] at hz
    subst hz
    have he2 : (e != 0) = true := by simpa using he
    clear he hf
    go_enter Try.func15, Try.ntmps15
    go_wp2_with (go_at_call 14; refine (rtake_same l A0 c0 n a e _ (by omega) HR.out HOK.out HY.out).mono ?_; rintro e w' ⟨rfl, rfl⟩)
    go_ret3
    exact ⟨rfl, Below.refl _ _⟩
def turnbuckleref04_TakeText.f (l0 : List Int) : Option (ByteArray × Int × Int) := if l0.length ≤ 140737488355328 ∧ bytesOk l0 then some (takeText l0) else none
theorem turnbuckleref04_TakeText.calls (A0 : Option Addr) (c0 : Nat) (l0 : List Int) (r1 : ByteArray) (r2 : Int) (r3 : Int) (w : World) (hr0 : Kd.C (Kd.int .u8) w A0 l0.length l0) (hc0 : l0.length ≤ c0) (h : turnbuckleref04_TakeText.f l0 = some (r1, r2, r3)) :
    Calls Try.prog 15 #[.slice A0 l0.length c0] w fun e w' => e = .returned (.tuple #[.string r1, .int .i64 r2, .int .i64 r3]) ∧ Below w.heap.size w w' := by
  unfold turnbuckleref04_TakeText.f at h
  split at h
  · rename_i hs
    have h1 := rtakeText_any l0 A0 c0 w hs.1 hc0 hr0 hs.2
    rw [Option.some.inj h] at h1
    exact h1
  · cases h


/-! ### turnbuckleref04_TakeInts: function 16 -/
def turnbuckleref04_TakeInts.l0 : Nat → List Int → Int → Int → List Int → Int → Option (List Int × Int × Int)
  | 0, _, _, _, _, _ => none
  | k + 1, x0, x5, x6, x8, x9 => if x9 < (wrap64 (x5)) then (if 0 ≤ x6 then (if x6 ≤ (x0.length : Int) then ((turnbuckleref04_TakeNumber.f (x0.drop (x6 : Int).toNat)).bind fun bt175 => (if bt175.2.2 = 0 then (if bt175.1 > 2147483647 then (some (([] : List Int), 0, 4)) else (if x8.length < 17592186044416 then (turnbuckleref04_TakeInts.l0 k x0 x5 (wrap64 (x6 + bt175.2.1)) (x8 ++ [wrap64 (bt175.1)]) (wrap64 (x9 + 1))) else (none))) else (some (([] : List Int), 0, bt175.2.2)))) else (none)) else (none)) else (some (x8, x6, 0))
def turnbuckleref04_TakeInts.f (k : Nat) (l0 : List Int) : Option (List Int × Int × Int) := (turnbuckleref04_TakeNumber.f l0).bind fun bt171 => (if bt171.2.2 = 0 then (if bt171.1 > 1000 then (some (([] : List Int), 0, 11)) else (turnbuckleref04_TakeInts.l0 k l0 bt171.1 bt171.2.1 ([] : List Int) 0)) else (some (([] : List Int), 0, bt171.2.2)))
theorem turnbuckleref04_TakeInts.mono_l : ∀ k, (∀ y0 y1 y2 y3 y4, LeO (turnbuckleref04_TakeInts.l0 k y0 y1 y2 y3 y4) (turnbuckleref04_TakeInts.l0 (k + 1) y0 y1 y2 y3 y4))
  | 0 => fun _ _ _ _ _ r h => by simp [turnbuckleref04_TakeInts.l0] at h
  | k + 1 => by
    have ih0 := turnbuckleref04_TakeInts.mono_l k
    · intro y0 y1 y2 y3 y4
      unfold turnbuckleref04_TakeInts.l0
      repeat' first
      | (with_reducible exact ih0 _ _ _ _ _)
      | (with_reducible exact LeO.refl _)
      | (with_reducible exact LeO.none _)
      | (with_reducible refine LeO.ite ?_ ?_)
      | (with_reducible refine LeO.bind ?_ (fun _ => ?_))
      | exact ih0 _ _ _ _ _
      | exact LeO.none _
      | refine LeO.ite ?_ ?_
      | refine LeO.bind ?_ (fun _ => ?_)
theorem turnbuckleref04_TakeInts.mono : ∀ a0 k, LeO (turnbuckleref04_TakeInts.f k a0) (turnbuckleref04_TakeInts.f (k + 1) a0) := by
  intro a0 k
  have ih0 := turnbuckleref04_TakeInts.mono_l k
  unfold turnbuckleref04_TakeInts.f
  repeat' first
      | (with_reducible exact ih0 _ _ _ _ _)
      | (with_reducible exact LeO.refl _)
      | (with_reducible exact LeO.none _)
      | (with_reducible refine LeO.ite ?_ ?_)
      | (with_reducible refine LeO.bind ?_ (fun _ => ?_))
      | exact ih0 _ _ _ _ _
      | exact LeO.none _
      | refine LeO.ite ?_ ?_
      | refine LeO.bind ?_ (fun _ => ?_)
set_option maxHeartbeats 8000000 in
set_option maxRecDepth 100000 in
theorem turnbuckleref04_TakeInts.calls (k : Nat) (A0 : Option Addr) (c0 : Nat) (l0 : List Int) (r1 : List Int) (r2 : Int) (r3 : Int) (w : World) (hr0 : Kd.C (Kd.int .u8) w A0 l0.length l0) (hc0 : l0.length ≤ c0) (h : turnbuckleref04_TakeInts.f k l0 = some (r1, r2, r3)) :
    Calls Try.prog 16 #[.slice A0 l0.length c0] w fun e w' => ∃ v0_ : Value, e = .returned (.tuple #[v0_, .int .i64 r2, .int .i64 r3]) ∧ Kd.R (Kd.int .i64) 3 w' w.heap.size (fun _ => True) v0_ r1 ∧ Below w.heap.size w w' := by
  have HR0 := Aside0.mk hr0
  have HC0 := Aside0.mk hc0
  clear hr0 hc0
  have HB := Aside0.mk (Below.refl w.heap.size w)
  have H : ((turnbuckleref04_TakeNumber.f l0).bind fun bt171 => (if bt171.2.2 = 0 then (if bt171.1 > 1000 then (some (([] : List Int), 0, 11)) else (turnbuckleref04_TakeInts.l0 k l0 bt171.1 bt171.2.1 ([] : List Int) 0)) else (some (([] : List Int), 0, bt171.2.2)))) = some (r1, r2, r3) := h
  clear h
  replace H := Option.bind_eq_some_iff.mp H
  obtain ⟨⟨t171, t172, t173⟩, A20, H⟩ := H
  replace H : (if t173 = 0 then (if t171 > 1000 then (some (([] : List Int), 0, 11)) else (turnbuckleref04_TakeInts.l0 k l0 t171 t172 ([] : List Int) 0)) else (some (([] : List Int), 0, t173))) = some (r1, r2, r3) := H
  have A2 := Aside0.mk A20
  clear A20
  by_cases c3 : t173 = 0
  · rw [if_pos c3] at H
    have c3b0 : (t173 == 0) = true := beq_iff_eq.mpr c3
    have c3b1 : (t173 != 0) = false := bne_eq_false_iff_eq.mpr c3
    clear c3
    by_cases c4 : t171 > 1000
    · rw [if_pos c4] at H
      have c4b0 : decide (1000 < t171) = true := decide_eq_true c4
      clear c4
      simp only [Option.some.injEq, Prod.mk.injEq] at H
      obtain ⟨rfl, rfl, rfl⟩ := H
      go_enter Try.func16, Try.ntmps16
      go_wp2_with (first | ((with_reducible refine gate_callee (f := 14) rfl ?_); refine goesL_ (some 15) rfl rfl Try.func14 (by kernel_rfl) rfl #[.slice A0 l0.length c0] rfl (by (try simp only [List.map_toArray, List.map_cons, List.map_nil]); first | done | rfl | (simp only [List.length_drop, List.length_take]; rfl)) ?_; (with_reducible refine (turnbuckleref04_TakeNumber.calls _ _ l0 t171 t172 t173 _ ?side1 ?side2 A2.out).mono ?_); (case side1 => repeat (first | exact HR0.out | (with_reducible refine Kd.C_alloc ?_ _) | (with_reducible refine Kd.C_drewN ?_ _) | (with_reducible refine Kd.C_drew ?_))); (case side2 => exact HC0.out); rintro e w' ⟨rfl, ⟨nd, rfl⟩⟩; refine ⟨_, rfl, ?_⟩))
      go_ret3
      exact ⟨_, by first | rfl | (simp [errW_none, errW_some] <;> rfl) | (simp [*, errW_none, errW_some] <;> rfl), by first | exact Kd.R_nil _ _ _ _ _ | exact Kd.N_nil _ _ _ _ _ | exact Kd.V_nil _ _ _ _ _ | exact Kd.Q_nil _ _ _ _ _ | exact Kd.S_nil _ _ _ _ _, by repeat (first | (with_reducible first | exact HB.out | apply below_alloc | apply pw_below_drewN | apply below_drew1) | exact HB.out)⟩
    · rw [if_neg c4] at H
      have c4b0 : decide (1000 < t171) = false := decide_eq_false c4
      clear c4
      have H' := Aside0.mk H
      clear H
      go_enter Try.func16, Try.ntmps16
      go_wp2_with (first | ((with_reducible refine gate_callee (f := 14) rfl ?_); refine goesL_ (some 15) rfl rfl Try.func14 (by kernel_rfl) rfl #[.slice A0 l0.length c0] rfl (by (try simp only [List.map_toArray, List.map_cons, List.map_nil]); first | done | rfl | (simp only [List.length_drop, List.length_take]; rfl)) ?_; (with_reducible refine (turnbuckleref04_TakeNumber.calls _ _ l0 t171 t172 t173 _ ?side1 ?side2 A2.out).mono ?_); (case side1 => repeat (first | exact HR0.out | (with_reducible refine Kd.C_alloc ?_ _) | (with_reducible refine Kd.C_drewN ?_ _) | (with_reducible refine Kd.C_drew ?_))); (case side2 => exact HC0.out); rintro e w' ⟨rfl, ⟨nd, rfl⟩⟩; refine ⟨_, rfl, ?_⟩))
      go_loopg [6, 8, 9] k (fun kq v6 v8 v9 w' => ∃ (x6_1 : Int) (x8_1 : List Int) (x9_1 : Int), v6 = .int .i64 x6_1 ∧ v9 = .int .i64 x9_1 ∧ Aside0 (turnbuckleref04_TakeInts.l0 kq l0 t171 x6_1 x8_1 x9_1 = some (r1, r2, r3)) ∧ Aside0 (kq ≤ k) ∧ Aside0 (Kd.R (Kd.int .i64) 3 w' w.heap.size (fun _ => True) v8 x8_1) ∧ Aside0 (Below w.heap.size w w'))
      case atStart => exact ⟨(t172), (([] : List Int)), (0), (by first | rfl | (simp; done) | (simp [*]; done)), (by first | rfl | (simp; done) | (simp [*]; done)), H', ⟨Nat.le_refl _⟩, ⟨by first | exact Kd.R_nil _ _ _ _ _ | exact Kd.N_nil _ _ _ _ _ | exact Kd.V_nil _ _ _ _ _ | exact Kd.Q_nil _ _ _ _ _ | exact Kd.S_nil _ _ _ _ _⟩, ⟨by repeat (first | (with_reducible first | exact HB.out | apply below_alloc | apply pw_below_drewN | apply below_drew1) | exact HB.out)⟩⟩
      case round =>
        clear H'
        try clear c1
        try clear p2
        try clear c3
        try clear c3b0
        try clear c3b1
        try clear c4
        try clear c4b0
        obtain ⟨x6_1, x8_1, x9_1, rfl, rfl, HA, HK1, HO_8, HB⟩ := hrel
        cases gk with
        | zero => exact absurd HA.out (by simp [turnbuckleref04_TakeInts.l0])
        | succ k1 =>
          have H := HA.out
          clear HA
          simp only [turnbuckleref04_TakeInts.l0] at H
          by_cases c5 : x9_1 < (wrap64 (t171))
          · rw [if_pos c5] at H
            have c5b0 : decide (x9_1 < (wrap64 (t171))) = true := decide_eq_true c5
            clear c5
            by_cases c6 : 0 ≤ x6_1
            · rw [if_pos c6] at H
              have c6b0 := eq_true c6
              have c6b1 : decide (0 ≤ x6_1) = true := decide_eq_true c6
              clear c6
              by_cases c7 : x6_1 ≤ (l0.length : Int)
              · rw [if_pos c7] at H
                have c7b0 := eq_true c7
                have c7b1 : decide (x6_1 ≤ (l0.length : Int)) = true := decide_eq_true c7
                clear c7
                replace H := Option.bind_eq_some_iff.mp H
                obtain ⟨⟨t175, t176, t177⟩, A80, H⟩ := H
                replace H : (if t177 = 0 then (if t175 > 2147483647 then (some (([] : List Int), 0, 4)) else (if x8_1.length < 17592186044416 then (turnbuckleref04_TakeInts.l0 k1 l0 t171 (wrap64 (x6_1 + t176)) (x8_1 ++ [wrap64 (t175)]) (wrap64 (x9_1 + 1))) else (none))) else (some (([] : List Int), 0, t177))) = some (r1, r2, r3) := H
                have A8 := Aside0.mk A80
                clear A80
                by_cases c9 : t177 = 0
                · rw [if_pos c9] at H
                  have c9b0 : (t177 == 0) = true := beq_iff_eq.mpr c9
                  have c9b1 : (t177 != 0) = false := bne_eq_false_iff_eq.mpr c9
                  clear c9
                  by_cases c10 : t175 > 2147483647
                  · rw [if_pos c10] at H
                    have c10b0 : decide (2147483647 < t175) = true := decide_eq_true c10
                    clear c10
                    simp only [Option.some.injEq, Prod.mk.injEq] at H
                    obtain ⟨rfl, rfl, rfl⟩ := H
                    obtain ⟨i011, hi011, _, hsz11, _⟩ := info_parts info5
                    obtain ⟨A11, hcut11, hA11, hC11⟩ := print_drop_of (P := Try.prog) (Value.int .u8) 0 22 5 .i64 Try.underlying22 hi011 hsz11 A0 c0 l0 x6_1 (of_decide_eq_true (by first | (with_reducible assumption) | assumption)) (of_decide_eq_true (by first | (with_reducible assumption) | assumption)) HC0.out
                    have HR174 := Aside0.mk (Kd.C_of_reads (h1 := fun _ => rfl) (hA11 _ (Kd.reads_of_C HR0.out)))
                    have HC174 := Aside0.mk hC11
                    clear hA11 hC11 hi011 hsz11
                    go_wp2_with (first | ((with_reducible refine gate_callee (f := 14) rfl ?_); refine goesL_ (some 34) rfl rfl Try.func14 (by kernel_rfl) rfl #[.slice A11 (l0.drop (x6_1 : Int).toNat).length (c0 - x6_1.toNat)] rfl (by (try simp only [List.map_toArray, List.map_cons, List.map_nil]); first | done | (rw [show (l0.drop (x6_1 : Int).toNat).length = (l0.length - x6_1.toNat) from List.length_drop] <;> rfl) | rfl | (simp only [List.length_drop, List.length_take]; rfl)) ?_; (with_reducible refine (turnbuckleref04_TakeNumber.calls _ _ (l0.drop (x6_1 : Int).toNat) t175 t176 t177 _ ?side1 ?side2 A8.out).mono ?_); (case side1 => repeat (first | exact (Kd.C_below HR174.out HB.out) | (with_reducible refine Kd.C_alloc ?_ _) | (with_reducible refine Kd.C_drewN ?_ _) | (with_reducible refine Kd.C_drew ?_))); (case side2 => exact HC174.out); rintro e w' ⟨rfl, ⟨nd, rfl⟩⟩; refine ⟨_, rfl, ?_⟩))
                    go_ret3
                    exact ⟨_, by first | rfl | (simp [errW_none, errW_some] <;> rfl) | (simp [*, errW_none, errW_some] <;> rfl), by first | exact Kd.R_nil _ _ _ _ _ | exact Kd.N_nil _ _ _ _ _ | exact Kd.V_nil _ _ _ _ _ | exact Kd.Q_nil _ _ _ _ _ | exact Kd.S_nil _ _ _ _ _, by repeat (first | (with_reducible first | exact HB.out | apply below_alloc | apply pw_below_drewN | apply below_drew1) | exact HB.out)⟩
                  · rw [if_neg c10] at H
                    have c10b0 : decide (2147483647 < t175) = false := decide_eq_false c10
                    clear c10
                    by_cases c12 : x8_1.length < 17592186044416
                    · rw [if_pos c12] at H
                      have LMc12 := Aside0.mk c12
                      clear c12
                      obtain ⟨y178, hy178⟩ : ∃ y_ : List Int, y_ = (x8_1 ++ [wrap64 (t175)]) := ⟨_, rfl⟩
                      replace H : (turnbuckleref04_TakeInts.l0 k1 l0 t171 (wrap64 (x6_1 + t176)) y178 (wrap64 (x9_1 + 1))) = some (r1, r2, r3) := by first | (rw [hy178]; with_reducible exact H) | (have H2_ := (Option.bind_some _ _).symm.trans H; rw [hy178]; with_reducible exact H2_) | (have H2_ := (Option.bind_some _ _).symm.trans H; with_reducible exact H2_) | with_reducible exact H | (rw [hy178]; exact H) | exact H
                      have Ny178 := Aside0.mk hy178
                      clear hy178
                      have H' := Aside0.mk H
                      clear H
                      obtain ⟨i013, hi013, _, hsz13, _⟩ := info_parts info5
                      obtain ⟨A13, hcut13, hA13, hC13⟩ := print_drop_of (P := Try.prog) (Value.int .u8) 0 22 5 .i64 Try.underlying22 hi013 hsz13 A0 c0 l0 x6_1 (of_decide_eq_true (by first | (with_reducible assumption) | assumption)) (of_decide_eq_true (by first | (with_reducible assumption) | assumption)) HC0.out
                      have HR174 := Aside0.mk (Kd.C_of_reads (h1 := fun _ => rfl) (hA13 _ (Kd.reads_of_C HR0.out)))
                      have HC174 := Aside0.mk hC13
                      clear hA13 hC13 hi013 hsz13
                      go_wp2_with (first | ((with_reducible refine gate_callee (f := 14) rfl ?_); refine goesL_ (some 34) rfl rfl Try.func14 (by kernel_rfl) rfl #[.slice A13 (l0.drop (x6_1 : Int).toNat).length (c0 - x6_1.toNat)] rfl (by (try simp only [List.map_toArray, List.map_cons, List.map_nil]); first | done | (rw [show (l0.drop (x6_1 : Int).toNat).length = (l0.length - x6_1.toNat) from List.length_drop] <;> rfl) | rfl | (simp only [List.length_drop, List.length_take]; rfl)) ?_; (with_reducible refine (turnbuckleref04_TakeNumber.calls _ _ (l0.drop (x6_1 : Int).toNat) t175 t176 t177 _ ?side1 ?side2 A8.out).mono ?_); (case side1 => repeat (first | exact (Kd.C_below HR174.out HB.out) | (with_reducible refine Kd.C_alloc ?_ _) | (with_reducible refine Kd.C_drewN ?_ _) | (with_reducible refine Kd.C_drew ?_))); (case side2 => exact HC174.out); rintro e w' ⟨rfl, ⟨nd, rfl⟩⟩; refine ⟨_, rfl, ?_⟩) | ((with_reducible refine gate_builtin (b := .append) (xs := #[.tmp 43, .tmp 46]) rfl ?_); at_builtin; refine Kd.R_append (Kd.int .i64) (w0 := w) w.heap.size rfl (.tmp 43) (.tmp 46) 42 3 (.int .i64 0) 8 rfl Try.underlying42 info3 rfl (by decide) (by omega) u8 x8_1 (wrap64 (t175)) [.int .i64 (wrap64 (t175))] (fun _ => True) (fun _ => False) rfl rfl ?aP (fun _ hk => hk.elim) ?aF ?aO ?aB ?aS ?aL ?_; (case aP => exact rfl); (case aB => exact (by repeat (first | (with_reducible first | exact HB.out | apply below_alloc | apply pw_below_drewN | apply below_drew1) | exact HB.out))); (case aF => exact (fun _ _ => trivial)); (case aO => exact (by (with_reducible repeat (first | apply Kd.R_alloc | apply Kd.R_drewN | apply Kd.R_drew)); exact HO_8.out)); (case aS => exact (below_size (by repeat (first | (with_reducible first | exact HB.out | apply below_alloc | apply pw_below_drewN | apply below_drew1) | exact HB.out)))); (case aL => have := LMc12.out; omega); intro v179 w14 ho hb hg hat; rw [← Ny178.out] at ho; have n0_ := Aside0.mk (hb); have n1_ := Aside0.mk (ho); clear HB; clear HO_8; have HB := n0_; have HO180 := n1_; clear n0_ n1_; clear ho hb hg hat))
                      go_roundg k1
                      case measure => have := HK1.out; omega
                      case rel => exact ⟨(wrap64 (x6_1 + t176)), (y178), (wrap64 (x9_1 + 1)), (by first | rfl | (simp; done) | (simp [*]; done)), (by first | rfl | (simp; done) | (simp [*]; done)), H', ⟨by have := HK1.out; omega⟩, ⟨by (with_reducible repeat (first | apply Kd.R_alloc | apply Kd.R_drewN | apply Kd.R_drew)); exact HO180.out⟩, ⟨by repeat (first | (with_reducible first | exact HB.out | apply below_alloc | apply pw_below_drewN | apply below_drew1) | exact HB.out)⟩⟩
                    · rw [if_neg c12] at H
                      exact absurd H (by simp)
                · rw [if_neg c9] at H
                  have c9b0 : (t177 == 0) = false := beq_eq_false_iff_ne.mpr c9
                  have c9b1 : (t177 != 0) = true := bne_iff_ne.mpr c9
                  simp only [Option.some.injEq, Prod.mk.injEq] at H
                  obtain ⟨rfl, rfl, rfl⟩ := H
                  obtain ⟨i015, hi015, _, hsz15, _⟩ := info_parts info5
                  obtain ⟨A15, hcut15, hA15, hC15⟩ := print_drop_of (P := Try.prog) (Value.int .u8) 0 22 5 .i64 Try.underlying22 hi015 hsz15 A0 c0 l0 x6_1 (of_decide_eq_true (by first | (with_reducible assumption) | assumption)) (of_decide_eq_true (by first | (with_reducible assumption) | assumption)) HC0.out
                  have HR174 := Aside0.mk (Kd.C_of_reads (h1 := fun _ => rfl) (hA15 _ (Kd.reads_of_C HR0.out)))
                  have HC174 := Aside0.mk hC15
                  clear hA15 hC15 hi015 hsz15
                  go_wp2_with (first | ((with_reducible refine gate_callee (f := 14) rfl ?_); refine goesL_ (some 34) rfl rfl Try.func14 (by kernel_rfl) rfl #[.slice A15 (l0.drop (x6_1 : Int).toNat).length (c0 - x6_1.toNat)] rfl (by (try simp only [List.map_toArray, List.map_cons, List.map_nil]); first | done | (rw [show (l0.drop (x6_1 : Int).toNat).length = (l0.length - x6_1.toNat) from List.length_drop] <;> rfl) | rfl | (simp only [List.length_drop, List.length_take]; rfl)) ?_; (with_reducible refine (turnbuckleref04_TakeNumber.calls _ _ (l0.drop (x6_1 : Int).toNat) t175 t176 t177 _ ?side1 ?side2 A8.out).mono ?_); (case side1 => repeat (first | exact (Kd.C_below HR174.out HB.out) | (with_reducible refine Kd.C_alloc ?_ _) | (with_reducible refine Kd.C_drewN ?_ _) | (with_reducible refine Kd.C_drew ?_))); (case side2 => exact HC174.out); rintro e w' ⟨rfl, ⟨nd, rfl⟩⟩; refine ⟨_, rfl, ?_⟩))
                  go_ret3
                  exact ⟨_, by first | rfl | (simp [errW_none, errW_some] <;> rfl) | (simp [*, errW_none, errW_some] <;> rfl), by first | exact Kd.R_nil _ _ _ _ _ | exact Kd.N_nil _ _ _ _ _ | exact Kd.V_nil _ _ _ _ _ | exact Kd.Q_nil _ _ _ _ _ | exact Kd.S_nil _ _ _ _ _, by repeat (first | (with_reducible first | exact HB.out | apply below_alloc | apply pw_below_drewN | apply below_drew1) | exact HB.out)⟩
              · rw [if_neg c7] at H
                exact absurd H (by simp)
            · rw [if_neg c6] at H
              exact absurd H (by simp)
          · rw [if_neg c5] at H
            have c5b0 : decide (x9_1 < (wrap64 (t171))) = false := decide_eq_false c5
            clear c5
            simp only [Option.some.injEq, Prod.mk.injEq] at H
            obtain ⟨rfl, rfl, rfl⟩ := H
            go_wp2
            go_ret3
            exact ⟨_, by first | rfl | (simp [errW_none, errW_some] <;> rfl) | (simp [*, errW_none, errW_some] <;> rfl), by (with_reducible repeat (first | apply Kd.R_alloc | apply Kd.R_drewN | apply Kd.R_drew)); exact HO_8.out, by repeat (first | (with_reducible first | exact HB.out | apply below_alloc | apply pw_below_drewN | apply below_drew1) | exact HB.out)⟩
  · rw [if_neg c3] at H
    have c3b0 : (t173 == 0) = false := beq_eq_false_iff_ne.mpr c3
    have c3b1 : (t173 != 0) = true := bne_iff_ne.mpr c3
    simp only [Option.some.injEq, Prod.mk.injEq] at H
    obtain ⟨rfl, rfl, rfl⟩ := H
    go_enter Try.func16, Try.ntmps16
    go_wp2_with (first | ((with_reducible refine gate_callee (f := 14) rfl ?_); refine goesL_ (some 15) rfl rfl Try.func14 (by kernel_rfl) rfl #[.slice A0 l0.length c0] rfl (by (try simp only [List.map_toArray, List.map_cons, List.map_nil]); first | done | rfl | (simp only [List.length_drop, List.length_take]; rfl)) ?_; (with_reducible refine (turnbuckleref04_TakeNumber.calls _ _ l0 t171 t172 t173 _ ?side1 ?side2 A2.out).mono ?_); (case side1 => repeat (first | exact HR0.out | (with_reducible refine Kd.C_alloc ?_ _) | (with_reducible refine Kd.C_drewN ?_ _) | (with_reducible refine Kd.C_drew ?_))); (case side2 => exact HC0.out); rintro e w' ⟨rfl, ⟨nd, rfl⟩⟩; refine ⟨_, rfl, ?_⟩))
    go_ret3
    exact ⟨_, by first | rfl | (simp [errW_none, errW_some] <;> rfl) | (simp [*, errW_none, errW_some] <;> rfl), by first | exact Kd.R_nil _ _ _ _ _ | exact Kd.N_nil _ _ _ _ _ | exact Kd.V_nil _ _ _ _ _ | exact Kd.Q_nil _ _ _ _ _ | exact Kd.S_nil _ _ _ _ _, by repeat (first | (with_reducible first | exact HB.out | apply below_alloc | apply pw_below_drewN | apply below_drew1) | exact HB.out)⟩

-- NOT PRINTED: function 32 (turnbuckleref05_Size)

-- NOT PRINTED: function 37 (turnbuckleref05_Kind)

-- NOT PRINTED: function 31 (turnbuckleref05_Field)

-- NOT PRINTED: function 27 (turnbuckleref05_Type)

end Go.Proofs.Ytckijljnomojiaa.PTypesParses
