-- laid by wip/tools/mkprint.py, a turned copy of the print
import Derived.Test.YtckijljnomojiaaPTypesBackx0
import Derived.Test.YtckijljnomojiaaPTypesBackx4
namespace Go.Proofs.Ytckijljnomojiaa.PTypesBack
open Go.RowKit Go.Proofs.YtckijljnomojiaaW.PrintWords Go.Proofs.YtckijljnomojiaaW.PrintLast Go.Proofs.YtckijljnomojiaaW.PrintMore
attribute [local go_sem] max2_int min2_int max_two min_two max_three min_three max_four min_four   -- for this text's walks alone
set_option linter.unusedVariables false
set_option linter.unusedSimpArgs false

/-! ### types_one: function 13 -/
def types_one.l0 : Nat → Int → List Int → Int → ByteArray → Bool → Bool → List (S38) → Option (ByteArray × Bool × Bool × (List (S38)) × Int × Int)
  | 0, _, _, _, _, _, _, _ => none
  | k + 1, x6, x8, x9, x139000, x139001, x139002, x139003 => if (x8.length : Int) > 0 then (if 0 < (x8.length : Int) then (if 1 < (x8.length : Int) then (if 2 < (x8.length : Int) then (if 3 < (x8.length : Int) then (if 4 < (x8.length : Int) then (if x139003.length < 3518437208883 then (if 5 ≤ (x8.length : Int) then (types_one.l0 k x6 (x8.drop (5 : Int).toNat) x9 x139000 x139001 x139002 (x139003 ++ [(⟨rd x8 0, rd x8 1, rd x8 2, rd x8 3, rd x8 4⟩ : S38)])) else (none)) else (none)) else (none)) else (none)) else (none)) else (none)) else (none)) else (some (x139000, x139001, x139002, x139003, wrap64 (x6 + x9), 0))
def types_one.f (k : Nat) (l0 : List Int) : Option (ByteArray × Bool × Bool × (List (S38)) × Int × Int) := (wire_TakeText.f l0).bind fun bt126 => (if bt126.2.2 = 0 then (if 0 ≤ bt126.2.1 then (if bt126.2.1 ≤ (l0.length : Int) then ((wire_TakeInts.f k (l0.drop (bt126.2.1 : Int).toNat)).bind fun bt130 => (if bt130.2.2 = 0 then (if ((bt130.1.length : Int) % 5) = 1 then (if 0 < (bt130.1.length : Int) then (if (rd bt130.1 0) > 3 then (some ((⟨#[]⟩ : ByteArray), false, false, ([] : List (S38)), 0, 3)) else (if 1 ≤ (bt130.1.length : Int) then (types_one.l0 k bt126.2.1 (bt130.1.drop (1 : Int).toNat) bt130.2.1 bt126.1 ((Go.bits .and .i64 (rd bt130.1 0) 1) != 0) ((Go.bits .and .i64 (rd bt130.1 0) 2) != 0) ([] : List (S38))) else (none))) else (none)) else (some ((⟨#[]⟩ : ByteArray), false, false, ([] : List (S38)), 0, 3))) else (some ((⟨#[]⟩ : ByteArray), false, false, ([] : List (S38)), 0, bt130.2.2)))) else (none)) else (none)) else (some ((⟨#[]⟩ : ByteArray), false, false, ([] : List (S38)), 0, bt126.2.2)))
theorem types_one.mono_l : ∀ k, (∀ y0 y1 y2 y3 y4 y5 y6, LeO (types_one.l0 k y0 y1 y2 y3 y4 y5 y6) (types_one.l0 (k + 1) y0 y1 y2 y3 y4 y5 y6))
  | 0 => fun _ _ _ _ _ _ _ r h => by simp [types_one.l0] at h
  | k + 1 => by
    have ih0 := types_one.mono_l k
    · intro y0 y1 y2 y3 y4 y5 y6
      unfold types_one.l0
      repeat' first
      | (with_reducible exact ih0 _ _ _ _ _ _ _)
      | (with_reducible exact wire_TakeInts.mono _ _)
      | (with_reducible exact LeO.refl _)
      | (with_reducible exact LeO.none _)
      | (with_reducible refine LeO.ite ?_ ?_)
      | (with_reducible refine LeO.bind ?_ (fun _ => ?_))
      | exact ih0 _ _ _ _ _ _ _
      | exact wire_TakeInts.mono _ _
      | exact LeO.none _
      | refine LeO.ite ?_ ?_
      | refine LeO.bind ?_ (fun _ => ?_)
theorem types_one.mono : ∀ a0 k, LeO (types_one.f k a0) (types_one.f (k + 1) a0) := by
  intro a0 k
  have ih0 := types_one.mono_l k
  unfold types_one.f
  repeat' first
      | (with_reducible exact ih0 _ _ _ _ _ _ _)
      | (with_reducible exact wire_TakeInts.mono _ _)
      | (with_reducible exact LeO.refl _)
      | (with_reducible exact LeO.none _)
      | (with_reducible refine LeO.ite ?_ ?_)
      | (with_reducible refine LeO.bind ?_ (fun _ => ?_))
      | exact ih0 _ _ _ _ _ _ _
      | exact wire_TakeInts.mono _ _
      | exact LeO.none _
      | refine LeO.ite ?_ ?_
      | refine LeO.bind ?_ (fun _ => ?_)
def types_one.T9 : Bool × List (List Nat × List Nat) := (true, [([], []), ([], []), ([1], [1]), ([2], [2]), ([3], [3]), ([4], [4]), ([], []), ([6], [6]), ([7], [7]), ([8], [8]), ([9], [9]), ([0, 5, 10], [0, 5, 10]), ([], []), ([12, 11, 0, 1, 2, 3, 4, 5, 6, 7, 8, 9, 10, 11, 12], [11, 12])])
def types_one.B9 : List Nat := [0, 0, 2, 6, 14, 30, 0, 64, 192, 448, 960, 2047, 0, 8191]
theorem types_one.tab9 : rtab .any (opsOf Try.f13 9) = types_one.T9 := by kernel_rfl
theorem types_one.bits9 : waitsOk types_one.T9.2 types_one.B9 = true := by kernel_rfl
def types_one.T13 : Bool × List (List Nat × List Nat) := (true, [([], []), ([0], [0]), ([], []), ([2], [2]), ([3], [3]), ([], []), ([5], [5]), ([6], [6]), ([], []), ([8], [8]), ([9], [9]), ([], []), ([11], [11]), ([12], [12]), ([], []), ([14], [14]), ([15], [15]), ([4, 7, 10, 13, 16], [4, 7, 10, 13, 16]), ([17], [17]), ([1, 18], [1, 18]), ([0, 1, 2, 3, 4, 5, 6, 7, 8, 9, 10, 11, 12, 13, 14, 15, 16, 17, 18, 19], []), ([20, 19, 19, 0, 1, 2, 3, 4, 5, 6, 7, 8, 9, 10, 11, 12, 13, 14, 15, 16, 17, 18, 19], [19, 20])])
def types_one.B13 : List Nat := [0, 1, 0, 4, 12, 0, 32, 96, 0, 256, 768, 0, 2048, 6144, 0, 16384, 49152, 131068, 262140, 524287, 1048575, 2097151]
theorem types_one.tab13 : rtab .any (opsOf Try.f13 13) = types_one.T13 := by kernel_rfl
theorem types_one.bits13 : waitsOk types_one.T13.2 types_one.B13 = true := by kernel_rfl
set_option maxHeartbeats 8000000 in
set_option maxRecDepth 100000 in
theorem types_one.calls (k : Nat) (A0 : Option Addr) (c0 : Nat) (l0 : List Int) (r1 : ByteArray) (r2 : Bool) (r3 : Bool) (r4 : List (S38)) (r5 : Int) (r6 : Int) (w : World) (hr0 : Kd.C (Kd.int .u8) w A0 l0.length l0) (hc0 : l0.length ≤ c0) (h : types_one.f k l0 = some (r1, r2, r3, r4, r5, r6)) :
    Calls Try.prog 13 #[.slice A0 l0.length c0] w fun e w' => ∃ v3_ : Value, e = .returned (.tuple #[.agg #[.string r1, .bool r2, .bool r3, v3_], .int .i64 r5, .int .i64 r6]) ∧ Kd.R k38 38 w' w.heap.size (fun _ => True) v3_ r4 ∧ Below w.heap.size w w' := by
  have hu41 := Try.underlying41
  have hu38 := Try.underlying38
  have HR0 := Aside0.mk hr0
  have HC0 := Aside0.mk hc0
  clear hr0 hc0
  have HB := Aside0.mk (Below.refl w.heap.size w)
  have H : ((wire_TakeText.f l0).bind fun bt126 => (if bt126.2.2 = 0 then (if 0 ≤ bt126.2.1 then (if bt126.2.1 ≤ (l0.length : Int) then ((wire_TakeInts.f k (l0.drop (bt126.2.1 : Int).toNat)).bind fun bt130 => (if bt130.2.2 = 0 then (if ((bt130.1.length : Int) % 5) = 1 then (if 0 < (bt130.1.length : Int) then (if (rd bt130.1 0) > 3 then (some ((⟨#[]⟩ : ByteArray), false, false, ([] : List (S38)), 0, 3)) else (if 1 ≤ (bt130.1.length : Int) then (types_one.l0 k bt126.2.1 (bt130.1.drop (1 : Int).toNat) bt130.2.1 bt126.1 ((Go.bits .and .i64 (rd bt130.1 0) 1) != 0) ((Go.bits .and .i64 (rd bt130.1 0) 2) != 0) ([] : List (S38))) else (none))) else (none)) else (some ((⟨#[]⟩ : ByteArray), false, false, ([] : List (S38)), 0, 3))) else (some ((⟨#[]⟩ : ByteArray), false, false, ([] : List (S38)), 0, bt130.2.2)))) else (none)) else (none)) else (some ((⟨#[]⟩ : ByteArray), false, false, ([] : List (S38)), 0, bt126.2.2)))) = some (r1, r2, r3, r4, r5, r6) := h
  clear h
  replace H := Option.bind_eq_some_iff.mp H
  obtain ⟨⟨t126, t127, t128⟩, A20, H⟩ := H
  replace H : (if t128 = 0 then (if 0 ≤ t127 then (if t127 ≤ (l0.length : Int) then ((wire_TakeInts.f k (l0.drop (t127 : Int).toNat)).bind fun bt130 => (if bt130.2.2 = 0 then (if ((bt130.1.length : Int) % 5) = 1 then (if 0 < (bt130.1.length : Int) then (if (rd bt130.1 0) > 3 then (some ((⟨#[]⟩ : ByteArray), false, false, ([] : List (S38)), 0, 3)) else (if 1 ≤ (bt130.1.length : Int) then (types_one.l0 k t127 (bt130.1.drop (1 : Int).toNat) bt130.2.1 t126 ((Go.bits .and .i64 (rd bt130.1 0) 1) != 0) ((Go.bits .and .i64 (rd bt130.1 0) 2) != 0) ([] : List (S38))) else (none))) else (none)) else (some ((⟨#[]⟩ : ByteArray), false, false, ([] : List (S38)), 0, 3))) else (some ((⟨#[]⟩ : ByteArray), false, false, ([] : List (S38)), 0, bt130.2.2)))) else (none)) else (none)) else (some ((⟨#[]⟩ : ByteArray), false, false, ([] : List (S38)), 0, t128))) = some (r1, r2, r3, r4, r5, r6) := H
  have A2 := Aside0.mk A20
  clear A20
  by_cases c3 : t128 = 0
  · rw [if_pos c3] at H
    have c3b0 : (t128 == 0) = true := beq_iff_eq.mpr c3
    have c3b1 : (t128 != 0) = false := bne_eq_false_iff_eq.mpr c3
    clear c3
    by_cases c4 : 0 ≤ t127
    · rw [if_pos c4] at H
      have c4b0 := eq_true c4
      have c4b1 : decide (0 ≤ t127) = true := decide_eq_true c4
      clear c4
      by_cases c5 : t127 ≤ (l0.length : Int)
      · rw [if_pos c5] at H
        have c5b0 := eq_true c5
        have c5b1 : decide (t127 ≤ (l0.length : Int)) = true := decide_eq_true c5
        clear c5
        replace H := Option.bind_eq_some_iff.mp H
        obtain ⟨⟨t130, t131, t132⟩, A60, H⟩ := H
        replace H : (if t132 = 0 then (if ((t130.length : Int) % 5) = 1 then (if 0 < (t130.length : Int) then (if (rd t130 0) > 3 then (some ((⟨#[]⟩ : ByteArray), false, false, ([] : List (S38)), 0, 3)) else (if 1 ≤ (t130.length : Int) then (types_one.l0 k t127 (t130.drop (1 : Int).toNat) t131 t126 ((Go.bits .and .i64 (rd t130 0) 1) != 0) ((Go.bits .and .i64 (rd t130 0) 2) != 0) ([] : List (S38))) else (none))) else (none)) else (some ((⟨#[]⟩ : ByteArray), false, false, ([] : List (S38)), 0, 3))) else (some ((⟨#[]⟩ : ByteArray), false, false, ([] : List (S38)), 0, t132))) = some (r1, r2, r3, r4, r5, r6) := H
        have A6 := Aside0.mk A60
        clear A60
        by_cases c7 : t132 = 0
        · rw [if_pos c7] at H
          have c7b0 : (t132 == 0) = true := beq_iff_eq.mpr c7
          have c7b1 : (t132 != 0) = false := bne_eq_false_iff_eq.mpr c7
          clear c7
          by_cases c8 : ((t130.length : Int) % 5) = 1
          · rw [if_pos c8] at H
            have c8b0 : (((t130.length : Int) % 5) == 1) = true := beq_iff_eq.mpr c8
            have c8b1 : (((t130.length : Int) % 5) != 1) = false := bne_eq_false_iff_eq.mpr c8
            clear c8
            by_cases c9 : 0 < (t130.length : Int)
            · rw [if_pos c9] at H
              have c9b0 : decide (0 < (t130.length : Int)) = true := decide_eq_true c9
              have c9b1 : decide (0 < t130.length) = true := decide_eq_true (by omega)
              clear c9
              by_cases c10 : (rd t130 0) > 3
              · rw [if_pos c10] at H
                have c10b0 : decide (3 < (rd t130 0)) = true := decide_eq_true c10
                clear c10
                simp only [Option.some.injEq, Prod.mk.injEq] at H
                obtain ⟨rfl, rfl, rfl, rfl, rfl, rfl⟩ := H
                go_enter Try.func13, Try.ntmps13
                go_wp2_with (first | ((with_reducible refine gate_dst (N := 2) rfl ?_); refine box_event ?hg (N := 2) ?hd (cs := #[.string (⟨#[]⟩ : ByteArray), .bool false, .bool false, .slice none 0 0]) (t := 41) ?hr ?_; (case hd => rfl); (case hg => rfl); (case hr => first | (go_simp; done) | (go_simp; rfl)); intro gb125 hg w11 hbox hb; have n0_ := Aside0.mk (below_step (by repeat (first | (with_reducible first | exact HB.out | apply below_alloc | apply pw_below_drewN | apply below_drew1) | exact HB.out)) hb); have n1_ := Aside0.mk (hbox); have n2_ := Aside0.mk ((by rw [hg]; exact (below_size (by repeat (first | (with_reducible first | exact HB.out | apply below_alloc | apply pw_below_drewN | apply below_drew1) | exact HB.out))) : w.heap.size ≤ gb125)); have n3_ := Aside0.mk ((by rw [hg]; exact (below_size (by repeat (first | (with_reducible first | exact HB.out | apply below_alloc | apply pw_below_drewN | apply below_drew1) | exact HB.out))) : w.heap.size ≤ gb125)); clear HB; have HB := n0_; have BK125 := n1_; have GW125 := n2_; have GE125 := n3_; clear n0_ n1_ n2_ n3_; clear hb hbox hg) | ((with_reducible refine gate_callee (f := 24) rfl ?_); refine goesL_ (some 13) rfl rfl Try.func24 (by kernel_rfl) rfl #[.slice A0 l0.length c0] rfl (by (try simp only [List.map_toArray, List.map_cons, List.map_nil]); first | done | rfl | (simp only [List.length_drop, List.length_take]; rfl)) ?_; (with_reducible refine (wire_TakeText.calls _ _ l0 t126 t127 t128 _ ?side1 ?side2 A2.out).mono ?_); (case side1 => repeat (first | exact (Kd.C_below HR0.out HB.out) | (with_reducible refine Kd.C_alloc ?_ _) | (with_reducible refine Kd.C_drewN ?_ _) | (with_reducible refine Kd.C_drew ?_))); (case side2 => exact HC0.out); rintro e w12 ⟨rfl, hb⟩; refine ⟨_, rfl, ?_⟩; have n0_ := Aside0.mk (blk_below (g := gb125) (o := .cells #[.string (⟨#[]⟩ : ByteArray), .bool false, .bool false, .slice none 0 0] 41 (0, 0)) (by (with_reducible repeat (first | refine blk_drewN ?_ _ | refine blk_drew ?_ | refine blk_alloc ?_ _)); exact BK125.out) hb); have n1_ := Aside0.mk (below_step (by repeat (first | (with_reducible first | exact HB.out | apply below_alloc | apply pw_below_drewN | apply below_drew1 | refine below_set ?_ GE125.out) | exact HB.out)) hb); clear BK125; clear HB; have BK125 := n0_; have HB := n1_; clear n0_ n1_; (try clear hb); (try clear hb2); (try clear hk); (try clear hi); obtain ⟨i013, hi013, _, hsz13, _⟩ := info_parts info5; obtain ⟨A13, hcut13, hA13, hC13⟩ := print_drop_of (P := Try.prog) (Value.int .u8) 0 22 5 .i64 Try.underlying22 hi013 hsz13 A0 c0 l0 t127 (of_decide_eq_true (by first | (with_reducible assumption) | assumption)) (of_decide_eq_true (by first | (with_reducible assumption) | assumption)) HC0.out; have HR129 := Aside0.mk (Kd.C_of_reads (h1 := fun _ => rfl) (hA13 _ (Kd.reads_of_C HR0.out))); have HC129 := Aside0.mk hC13; clear hA13 hC13 hi013 hsz13) | ((with_reducible refine gate_callee (f := 25) rfl ?_); refine goesL_ (some 25) rfl rfl Try.func25 (by kernel_rfl) rfl #[.slice A13 (l0.drop (t127 : Int).toNat).length (c0 - t127.toNat)] rfl (by (try simp only [List.map_toArray, List.map_cons, List.map_nil]); first | done | (rw [show (l0.drop (t127 : Int).toNat).length = (l0.length - t127.toNat) from List.length_drop] <;> rfl) | rfl | (simp only [List.length_drop, List.length_take]; rfl)) ?_; (with_reducible refine (wire_TakeInts.calls k _ _ (l0.drop (t127 : Int).toNat) t130 t131 t132 _ ?side1 ?side2 A6.out).mono ?_); (case side1 => repeat (first | exact (Kd.C_below HR129.out HB.out) | (with_reducible refine Kd.C_alloc ?_ _) | (with_reducible refine Kd.C_drewN ?_ _) | (with_reducible refine Kd.C_drew ?_))); (case side2 => exact HC129.out); rintro e w14 ⟨v133, rfl, ho0, hb⟩; refine ⟨_, rfl, ?_⟩; have n0_ := Aside0.mk (Kd.R_lower ho0 (below_size (by repeat (first | (with_reducible first | exact HB.out | apply below_alloc | apply pw_below_drewN | apply below_drew1 | refine below_set ?_ GE125.out) | exact HB.out)))); have n1_ := Aside0.mk (blk_below (g := gb125) (o := .cells #[.string (⟨#[]⟩ : ByteArray), .bool false, .bool false, .slice none 0 0] 41 (0, 0)) (by (with_reducible repeat (first | refine blk_drewN ?_ _ | refine blk_drew ?_ | refine blk_alloc ?_ _)); exact BK125.out) hb); have n2_ := Aside0.mk (below_step (by repeat (first | (with_reducible first | exact HB.out | apply below_alloc | apply pw_below_drewN | apply below_drew1 | refine below_set ?_ GE125.out) | exact HB.out)) hb); clear BK125; clear HB; have HO134 := n0_; have BK125 := n1_; have HB := n2_; clear n0_ n1_ n2_; (try clear hb); (try clear hb2); (try clear hk); (try clear hi); (try clear ho0); obtain ⟨Ao15, co15, eo15⟩ := Kd.R_slice HO134.out; subst eo15; have p135 : 0 ≤ (0 : Int) := (by omega); have q135 : 0 < (t130.length : Int) := of_decide_eq_true (by first | (with_reducible assumption) | assumption); obtain ⟨ad135, e135, hx135_0⟩ := Kd.at_int (Kd.R_reads' HO134.out).2.2 0 p135 q135; cases e135; have qi135 : (0 < t130.length) = True := eq_true (by omega); (try rw [show ((0 : Int)).toNat = 0 from rfl] at hx135_0); (try rw [Addr.add_zero'] at hx135_0); replace p135 := eq_true p135; replace q135 := eq_true q135; have hcz16_0 : w14.cell? ⟨gb125, 0, none⟩ = some (.string (⟨#[]⟩ : ByteArray)) := (blk_cell BK125.out 0).trans rfl; have hcz16_1 : w14.cell? ⟨gb125, 1, none⟩ = some (.bool false) := (blk_cell BK125.out 1).trans rfl; have hcz16_2 : w14.cell? ⟨gb125, 2, none⟩ = some (.bool false) := (blk_cell BK125.out 2).trans rfl; have hcz16_3 : w14.cell? ⟨gb125, 3, none⟩ = some (.slice none 0 0) := (blk_cell BK125.out 3).trans rfl; have hfz16_0 := blk_frozen BK125.out 0; have hfz16_1 := blk_frozen BK125.out 1; have hfz16_2 := blk_frozen BK125.out 2; have hfz16_3 := blk_frozen BK125.out 3))
                refine bodyPost_ret (results_ctt rfl _ _ gb125 41 #[.string (⟨#[]⟩ : ByteArray), .bool false, .bool false, .slice none 0 0] (0, 0) _ rfl (by (with_reducible repeat (first | refine blk_drewN ?_ _ | refine blk_drew ?_ | refine blk_alloc ?_ _)); refine blk_put (cs := #[.string (⟨#[]⟩ : ByteArray), .bool false, .bool false, .slice none 0 0]) ?_ 3 _ rfl; (with_reducible repeat (first | refine blk_drewN ?_ _ | refine blk_drew ?_ | refine blk_alloc ?_ _)); refine blk_put (cs := #[.string (⟨#[]⟩ : ByteArray), .bool false, .bool false, .slice none 0 0]) ?_ 2 _ rfl; (with_reducible repeat (first | refine blk_drewN ?_ _ | refine blk_drew ?_ | refine blk_alloc ?_ _)); refine blk_put (cs := #[.string (⟨#[]⟩ : ByteArray), .bool false, .bool false, .slice none 0 0]) ?_ 1 _ rfl; (with_reducible repeat (first | refine blk_drewN ?_ _ | refine blk_drew ?_ | refine blk_alloc ?_ _)); refine blk_put (cs := #[.string (⟨#[]⟩ : ByteArray), .bool false, .bool false, .slice none 0 0]) ?_ 0 _ rfl; (with_reducible repeat (first | refine blk_drewN ?_ _ | refine blk_drew ?_ | refine blk_alloc ?_ _)); exact BK125.out) Try.underlying41 rfl (by kernel_rfl)) rfl ?_
                exact ⟨_, by first | rfl | (simp [errW_none, errW_some] <;> rfl) | (simp [*, errW_none, errW_some] <;> rfl), by first | exact Kd.R_nil _ _ _ _ _ | exact Kd.N_nil _ _ _ _ _ | exact Kd.V_nil _ _ _ _ _ | exact Kd.Q_nil _ _ _ _ _ | exact Kd.S_nil _ _ _ _ _, by repeat (first | (with_reducible first | exact HB.out | apply below_alloc | apply pw_below_drewN | apply below_drew1 | refine below_set ?_ GE125.out) | exact HB.out)⟩
              · rw [if_neg c10] at H
                have c10b0 : decide (3 < (rd t130 0)) = false := decide_eq_false c10
                clear c10
                by_cases c17 : 1 ≤ (t130.length : Int)
                · rw [if_pos c17] at H
                  have c17b0 := eq_true c17
                  have c17b1 : decide (1 ≤ (t130.length : Int)) = true := decide_eq_true c17
                  clear c17
                  obtain ⟨y139, hy139⟩ : ∃ y_ : List Int, y_ = (t130.drop (1 : Int).toNat) := ⟨_, rfl⟩
                  replace H : (types_one.l0 k t127 y139 t131 t126 ((Go.bits .and .i64 (rd t130 0) 1) != 0) ((Go.bits .and .i64 (rd t130 0) 2) != 0) ([] : List (S38))) = some (r1, r2, r3, r4, r5, r6) := by first | (rw [hy139]; with_reducible exact H) | (have H2_ := (Option.bind_some _ _).symm.trans H; rw [hy139]; with_reducible exact H2_) | (have H2_ := (Option.bind_some _ _).symm.trans H; with_reducible exact H2_) | with_reducible exact H | (rw [hy139]; exact H) | exact H
                  have Ny139 := Aside0.mk hy139
                  clear hy139
                  have H' := Aside0.mk H
                  clear H
                  go_enter Try.func13, Try.ntmps13
                  try go_wp2_with (first | ((with_reducible refine gate_dst (N := 2) rfl ?_); refine box_event ?hg (N := 2) ?hd (cs := #[.string (⟨#[]⟩ : ByteArray), .bool false, .bool false, .slice none 0 0]) (t := 41) ?hr ?_; (case hd => rfl); (case hg => rfl); (case hr => first | (go_simp; done) | (go_simp; rfl)); intro gb125 hg w18 hbox hb; have n0_ := Aside0.mk (below_step (by repeat (first | (with_reducible first | exact HB.out | apply below_alloc | apply pw_below_drewN | apply below_drew1) | exact HB.out)) hb); have n1_ := Aside0.mk (hbox); have n2_ := Aside0.mk ((by rw [hg]; exact (below_size (by repeat (first | (with_reducible first | exact HB.out | apply below_alloc | apply pw_below_drewN | apply below_drew1) | exact HB.out))) : w.heap.size ≤ gb125)); have n3_ := Aside0.mk ((by rw [hg]; exact (below_size (by repeat (first | (with_reducible first | exact HB.out | apply below_alloc | apply pw_below_drewN | apply below_drew1) | exact HB.out))) : w.heap.size ≤ gb125)); clear HB; have HB := n0_; have BK125 := n1_; have GW125 := n2_; have GE125 := n3_; clear n0_ n1_ n2_ n3_; clear hb hbox hg) | ((with_reducible refine gate_callee (f := 24) rfl ?_); refine goesL_ (some 13) rfl rfl Try.func24 (by kernel_rfl) rfl #[.slice A0 l0.length c0] rfl (by (try simp only [List.map_toArray, List.map_cons, List.map_nil]); first | done | rfl | (simp only [List.length_drop, List.length_take]; rfl)) ?_; (with_reducible refine (wire_TakeText.calls _ _ l0 t126 t127 t128 _ ?side1 ?side2 A2.out).mono ?_); (case side1 => repeat (first | exact (Kd.C_below HR0.out HB.out) | (with_reducible refine Kd.C_alloc ?_ _) | (with_reducible refine Kd.C_drewN ?_ _) | (with_reducible refine Kd.C_drew ?_))); (case side2 => exact HC0.out); rintro e w19 ⟨rfl, hb⟩; refine ⟨_, rfl, ?_⟩; have n0_ := Aside0.mk (blk_below (g := gb125) (o := .cells #[.string (⟨#[]⟩ : ByteArray), .bool false, .bool false, .slice none 0 0] 41 (0, 0)) (by (with_reducible repeat (first | refine blk_drewN ?_ _ | refine blk_drew ?_ | refine blk_alloc ?_ _)); exact BK125.out) hb); have n1_ := Aside0.mk (below_step (by repeat (first | (with_reducible first | exact HB.out | apply below_alloc | apply pw_below_drewN | apply below_drew1 | refine below_set ?_ GE125.out) | exact HB.out)) hb); clear BK125; clear HB; have BK125 := n0_; have HB := n1_; clear n0_ n1_; (try clear hb); (try clear hb2); (try clear hk); (try clear hi); obtain ⟨i020, hi020, _, hsz20, _⟩ := info_parts info5; obtain ⟨A20, hcut20, hA20, hC20⟩ := print_drop_of (P := Try.prog) (Value.int .u8) 0 22 5 .i64 Try.underlying22 hi020 hsz20 A0 c0 l0 t127 (of_decide_eq_true (by first | (with_reducible assumption) | assumption)) (of_decide_eq_true (by first | (with_reducible assumption) | assumption)) HC0.out; have HR129 := Aside0.mk (Kd.C_of_reads (h1 := fun _ => rfl) (hA20 _ (Kd.reads_of_C HR0.out))); have HC129 := Aside0.mk hC20; clear hA20 hC20 hi020 hsz20) | ((with_reducible refine gate_callee (f := 25) rfl ?_); refine goesL_ (some 25) rfl rfl Try.func25 (by kernel_rfl) rfl #[.slice A20 (l0.drop (t127 : Int).toNat).length (c0 - t127.toNat)] rfl (by (try simp only [List.map_toArray, List.map_cons, List.map_nil]); first | done | (rw [show (l0.drop (t127 : Int).toNat).length = (l0.length - t127.toNat) from List.length_drop] <;> rfl) | rfl | (simp only [List.length_drop, List.length_take]; rfl)) ?_; (with_reducible refine (wire_TakeInts.calls k _ _ (l0.drop (t127 : Int).toNat) t130 t131 t132 _ ?side1 ?side2 A6.out).mono ?_); (case side1 => repeat (first | exact (Kd.C_below HR129.out HB.out) | (with_reducible refine Kd.C_alloc ?_ _) | (with_reducible refine Kd.C_drewN ?_ _) | (with_reducible refine Kd.C_drew ?_))); (case side2 => exact HC129.out); rintro e w21 ⟨v133, rfl, ho0, hb⟩; refine ⟨_, rfl, ?_⟩; have n0_ := Aside0.mk (Kd.R_lower ho0 (below_size (by repeat (first | (with_reducible first | exact HB.out | apply below_alloc | apply pw_below_drewN | apply below_drew1 | refine below_set ?_ GE125.out) | exact HB.out)))); have n1_ := Aside0.mk (blk_below (g := gb125) (o := .cells #[.string (⟨#[]⟩ : ByteArray), .bool false, .bool false, .slice none 0 0] 41 (0, 0)) (by (with_reducible repeat (first | refine blk_drewN ?_ _ | refine blk_drew ?_ | refine blk_alloc ?_ _)); exact BK125.out) hb); have n2_ := Aside0.mk (below_step (by repeat (first | (with_reducible first | exact HB.out | apply below_alloc | apply pw_below_drewN | apply below_drew1 | refine below_set ?_ GE125.out) | exact HB.out)) hb); clear BK125; clear HB; have HO134 := n0_; have BK125 := n1_; have HB := n2_; clear n0_ n1_ n2_; (try clear hb); (try clear hb2); (try clear hk); (try clear hi); (try clear ho0); obtain ⟨Ao22, co22, eo22⟩ := Kd.R_slice HO134.out; subst eo22; have p135 : 0 ≤ (0 : Int) := (by omega); have q135 : 0 < (t130.length : Int) := of_decide_eq_true (by first | (with_reducible assumption) | assumption); obtain ⟨ad135, e135, hx135_0⟩ := Kd.at_int (Kd.R_reads' HO134.out).2.2 0 p135 q135; cases e135; have qi135 : (0 < t130.length) = True := eq_true (by omega); (try rw [show ((0 : Int)).toNat = 0 from rfl] at hx135_0); (try rw [Addr.add_zero'] at hx135_0); replace p135 := eq_true p135; replace q135 := eq_true q135))
                  have n0_ := Aside0.mk (Kd.R_drew HO134.out)
                  have n1_ := Aside0.mk (blk_drew BK125.out)
                  have n2_ := Aside0.mk (below_drew1 HB.out)
                  clear HO134
                  clear BK125
                  clear HB
                  have HO134 := n0_
                  have BK125 := n1_
                  have HB := n2_
                  clear n0_ n1_ n2_
                  have p136 : 0 ≤ (0 : Int) := (by omega)
                  have q136 : 0 < (t130.length : Int) := of_decide_eq_true (by first | (with_reducible assumption) | assumption)
                  obtain ⟨ad136, e136, hx136_0⟩ := Kd.at_int (Kd.R_reads' HO134.out).2.2 0 p136 q136
                  obtain rfl : ad135 = ad136 := (by injection e136)
                  have qi136 : (0 < t130.length) = True := eq_true (by omega)
                  (try rw [show ((0 : Int)).toNat = 0 from rfl] at hx136_0)
                  (try rw [Addr.add_zero'] at hx136_0)
                  replace p136 := eq_true p136
                  replace q136 := eq_true q136
                  have p137 : 0 ≤ (0 : Int) := (by omega)
                  have q137 : 0 < (t130.length : Int) := of_decide_eq_true (by first | (with_reducible assumption) | assumption)
                  obtain ⟨ad137, e137, hx137_0⟩ := Kd.at_int (Kd.R_reads' HO134.out).2.2 0 p137 q137
                  obtain rfl : ad135 = ad137 := (by injection e137)
                  have qi137 : (0 < t130.length) = True := eq_true (by omega)
                  (try rw [show ((0 : Int)).toNat = 0 from rfl] at hx137_0)
                  (try rw [Addr.add_zero'] at hx137_0)
                  replace p137 := eq_true p137
                  replace q137 := eq_true q137
                  refine start_ (n := 14) (S := fun w' => w'.cell? ad135 = some (.int .i64 (rd t130 0)) ∧ w'.cell? ad135 = some (.int .i64 (rd t130 0))) (ds := []) #[false, false, false, false, false, false, false, false, false, false, false, false, false, false] (by kernel_rfl) rfl rfl ⟨hx136_0, hx137_0⟩ (fun hHeld => ?_); refine with_tabW types_one.tab9 types_one.bits9 (fun HT_ HW_ => ?_)
                  generalize w21.drew = w23 at HO134 BK125 HB hx136_0 hx137_0 hHeld ⊢
                  refine pure_ (i := 0) (N := some 46) (v := ?_) (a' := ?_) #[true, false, false, false, false, false, false, false, false, false, false, false, false, false] rfl rfl (any_of HT_.out (by kernel_rfl)) (fun _ _ _ h => h) (Or.inl ⟨by rfl, ?_⟩) ?_ ?_
                  rotate_left
                  · intro w'
                    go_simp
                    with_reducible rfl
                  rotate_left
                  · simp only [Act.put, List.setIfInBounds_toArray, List.set_cons_zero, List.set_cons_succ, i64_w, i32_w]
                    rfl
                  refine pure_ (i := 1) (N := some 47) (v := ?_) (a' := ?_) #[true, true, false, false, false, false, false, false, false, false, false, false, false, false] rfl rfl (any_of HT_.out (by kernel_rfl)) (fun _ _ _ h => h) (Or.inl ⟨by rfl, ?_⟩) ?_ ?_
                  rotate_left
                  · intro w'
                    go_simp
                    with_reducible rfl
                  rotate_left
                  · simp only [Act.put, List.setIfInBounds_toArray, List.set_cons_zero, List.set_cons_succ, i64_w, i32_w]
                    rfl
                  refine pure_ (i := 2) (N := some 48) (v := ?_) (a' := ?_) #[true, true, true, false, false, false, false, false, false, false, false, false, false, false] rfl rfl (any_of HT_.out (by kernel_rfl)) (fun _ _ _ h => h) (Or.inl ⟨by rfl, ?_⟩) ?_ ?_
                  rotate_left
                  · intro w'
                    go_simp
                    with_reducible rfl
                  rotate_left
                  · simp only [Act.put, List.setIfInBounds_toArray, List.set_cons_zero, List.set_cons_succ, i64_w, i32_w]
                    rfl
                  refine pure_ (i := 6) (N := some 52) (v := ?_) (a' := ?_) #[true, true, true, false, false, false, true, false, false, false, false, false, false, false] rfl rfl (any_of HT_.out (by kernel_rfl)) (fun _ _ _ h => h) (Or.inl ⟨by rfl, ?_⟩) ?_ ?_
                  rotate_left
                  · intro w'
                    go_simp
                    with_reducible rfl
                  rotate_left
                  · simp only [Act.put, List.setIfInBounds_toArray, List.set_cons_zero, List.set_cons_succ, i64_w, i32_w]
                    rfl
                  refine pure_ (i := 7) (N := some 53) (v := ?_) (a' := ?_) #[true, true, true, false, false, false, true, true, false, false, false, false, false, false] rfl rfl (any_of HT_.out (by kernel_rfl)) (fun _ _ _ h => h) (Or.inl ⟨by rfl, ?_⟩) ?_ ?_
                  rotate_left
                  · intro w'
                    go_simp
                    with_reducible rfl
                  rotate_left
                  · simp only [Act.put, List.setIfInBounds_toArray, List.set_cons_zero, List.set_cons_succ, i64_w, i32_w]
                    rfl
                  refine take_ (i := 3) (N := some 49) (v := ?_) (a' := ?_) #[true, true, true, true, false, false, true, true, false, false, false, false, false, false] rfl rfl (take_ofW HT_.out HW_.out (by kernel_rfl)) (fun _ _ _ h => h) (Or.inl ⟨by rfl, ?_⟩) hHeld ?_ ?_
                  rotate_left
                  · rintro w' ⟨s0, s1⟩
                    go_simp
                    with_reducible rfl
                  rotate_left
                  · simp only [Act.put, List.setIfInBounds_toArray, List.set_cons_zero, List.set_cons_succ, i64_w, i32_w]
                    rfl
                  refine pure_ (i := 4) (N := some 50) (v := ?_) (a' := ?_) #[true, true, true, true, true, false, true, true, false, false, false, false, false, false] rfl rfl (any_of HT_.out (by kernel_rfl)) (fun _ _ _ h => h) (Or.inl ⟨by rfl, ?_⟩) ?_ ?_
                  rotate_left
                  · intro w'
                    go_simp
                    with_reducible rfl
                  rotate_left
                  · simp only [Act.put, List.setIfInBounds_toArray, List.set_cons_zero, List.set_cons_succ, i64_w, i32_w]
                    rfl
                  refine pure_ (i := 5) (N := some 51) (v := ?_) (a' := ?_) #[true, true, true, true, true, true, true, true, false, false, false, false, false, false] rfl rfl (any_of HT_.out (by kernel_rfl)) (fun _ _ _ h => h) (Or.inl ⟨by rfl, ?_⟩) ?_ ?_
                  rotate_left
                  · intro w'
                    go_simp
                    with_reducible rfl
                  rotate_left
                  · simp only [Act.put, List.setIfInBounds_toArray, List.set_cons_zero, List.set_cons_succ, i64_w, i32_w]
                    rfl
                  refine take_ (i := 8) (N := some 54) (v := ?_) (a' := ?_) #[true, true, true, true, true, true, true, true, true, false, false, false, false, false] rfl rfl (take_ofW HT_.out HW_.out (by kernel_rfl)) (fun _ _ _ h => h) (Or.inl ⟨by rfl, ?_⟩) hHeld ?_ ?_
                  rotate_left
                  · rintro w' ⟨s0, s1⟩
                    go_simp
                    with_reducible rfl
                  rotate_left
                  · simp only [Act.put, List.setIfInBounds_toArray, List.set_cons_zero, List.set_cons_succ, i64_w, i32_w]
                    rfl
                  refine pure_ (i := 9) (N := some 55) (v := ?_) (a' := ?_) #[true, true, true, true, true, true, true, true, true, true, false, false, false, false] rfl rfl (any_of HT_.out (by kernel_rfl)) (fun _ _ _ h => h) (Or.inl ⟨by rfl, ?_⟩) ?_ ?_
                  rotate_left
                  · intro w'
                    go_simp
                    with_reducible rfl
                  rotate_left
                  · simp only [Act.put, List.setIfInBounds_toArray, List.set_cons_zero, List.set_cons_succ, i64_w, i32_w]
                    rfl
                  refine pure_ (i := 10) (N := some 56) (v := ?_) (a' := ?_) #[true, true, true, true, true, true, true, true, true, true, true, false, false, false] rfl rfl (any_of HT_.out (by kernel_rfl)) (fun _ _ _ h => h) (Or.inl ⟨by rfl, ?_⟩) ?_ ?_
                  rotate_left
                  · intro w'
                    go_simp
                    with_reducible rfl
                  rotate_left
                  · simp only [Act.put, List.setIfInBounds_toArray, List.set_cons_zero, List.set_cons_succ, i64_w, i32_w]
                    rfl
                  refine pure_ (i := 11) (N := some 57) (v := ?_) (a' := ?_) #[true, true, true, true, true, true, true, true, true, true, true, true, false, false] rfl rfl (any_of HT_.out (by kernel_rfl)) (fun _ _ _ h => h) (Or.inl ⟨by rfl, ?_⟩) ?_ ?_
                  rotate_left
                  · intro w'
                    go_simp
                    with_reducible rfl
                  rotate_left
                  · simp only [Act.put, List.setIfInBounds_toArray, List.set_cons_zero, List.set_cons_succ, i64_w, i32_w]
                    rfl
                  refine one_ (i := 12) (N := some 10) #[true, true, true, true, true, true, true, true, true, true, true, true, true, false] rfl rfl (one_of HT_.out (by kernel_rfl)) (by decide) (fun K hK => ?_)
                  refine box_step ?hg (N := 10) ?hd (cs := #[.string (⟨#[]⟩ : ByteArray), .bool false, .bool false, .slice none 0 0]) (t := 41) ?hr ?_; (case hd => rfl); (case hg => rfl); (case hr => first | (go_simp; done) | (go_simp; rfl))
                  intro gb138 hg w24 hbox hb
                  have HS0_ := (hb.cell (World.block_lt_of_cell? _ _ (hHeld.1))).trans (hHeld.1)
                  have HS1_ := (hb.cell (World.block_lt_of_cell? _ _ (hHeld.2))).trans (hHeld.2)
                  have n0_ := Aside0.mk (Kd.R_below (by (with_reducible repeat (first | apply Kd.R_alloc | apply Kd.R_drewN | apply Kd.R_drew)); exact HO134.out) hb)
                  have n1_ := Aside0.mk (blk_below (g := gb125) (o := .cells #[.string (⟨#[]⟩ : ByteArray), .bool false, .bool false, .slice none 0 0] 41 (0, 0)) (by (with_reducible repeat (first | refine blk_drewN ?_ _ | refine blk_drew ?_ | refine blk_alloc ?_ _)); exact BK125.out) hb)
                  have n2_ := Aside0.mk (below_step (by repeat (first | (with_reducible first | exact HB.out | apply below_alloc | apply pw_below_drewN | apply below_drew1 | refine below_set ?_ GE125.out) | exact HB.out)) hb)
                  have n3_ := Aside0.mk (hbox)
                  have n4_ := Aside0.mk ((by rw [hg]; exact (below_size (by repeat (first | (with_reducible first | exact HB.out | apply below_alloc | apply pw_below_drewN | apply below_drew1 | refine below_set ?_ GE125.out) | exact HB.out))) : w.heap.size ≤ gb138))
                  have n5_ := Aside0.mk ((by rw [hg]; exact (below_size (by repeat (first | (with_reducible first | exact HB.out | apply below_alloc | apply pw_below_drewN | apply below_drew1 | refine below_set ?_ GE125.out) | exact HB.out))) : w.heap.size ≤ gb138))
                  have n6_ := Aside0.mk ((by rw [hg]; exact Nat.ne_of_lt (blk_lt (g := gb125) (o := .cells #[.string (⟨#[]⟩ : ByteArray), .bool false, .bool false, .slice none 0 0] 41 (0, 0)) (by (with_reducible repeat (first | refine blk_drewN ?_ _ | refine blk_drew ?_ | refine blk_alloc ?_ _)); exact BK125.out)) : gb125 ≠ gb138))
                  have n7_ := Aside0.mk ((by rw [hg]; exact Nat.ne_of_gt (blk_lt (g := gb125) (o := .cells #[.string (⟨#[]⟩ : ByteArray), .bool false, .bool false, .slice none 0 0] 41 (0, 0)) (by (with_reducible repeat (first | refine blk_drewN ?_ _ | refine blk_drew ?_ | refine blk_alloc ?_ _)); exact BK125.out)) : gb138 ≠ gb125))
                  clear HO134
                  clear BK125
                  clear HB
                  have HO134 := n0_
                  have BK125 := n1_
                  have HB := n2_
                  have BK138 := n3_
                  have GW138 := n4_
                  have GE138 := n5_
                  have NB125_138 := n6_
                  have NB138_125 := n7_
                  clear n0_ n1_ n2_ n3_ n4_ n5_ n6_ n7_
                  clear hb hbox hg
                  refine hK.out _ _ ⟨HS0_, HS1_⟩ (fun hHeld => ?_)
                  clear hK K
                  refine norm_ (a' := ?_) ?_ ?_
                  rotate_left
                  · show Act.put _ (some 10) _ = _
                    simp only [Act.put, List.setIfInBounds_toArray, List.set_cons_zero, List.set_cons_succ, i64_w, i32_w]
                    rfl
                  refine one_ (i := 13) (N := none) #[true, true, true, true, true, true, true, true, true, true, true, true, true, true] rfl rfl (one_of HT_.out (by kernel_rfl)) (by decide) (fun K hK => ?_)
                  have hs25 : w24.cell? ⟨gb138, 0, none⟩ = some (.string (⟨#[]⟩ : ByteArray)) := (blk_cell BK138.out 0).trans rfl
                  have hfs25 := blk_frozen BK138.out 0
                  have hns25_0 := NB125_138.out
                  have hms25_0 := NB138_125.out
                  have hs26 : w24.cell? ⟨gb138, 1, none⟩ = some (.bool false) := (blk_cell BK138.out 1).trans rfl
                  have hfs26 := blk_frozen BK138.out 1
                  have hns26_0 := NB125_138.out
                  have hms26_0 := NB138_125.out
                  have hs27 : w24.cell? ⟨gb138, 2, none⟩ = some (.bool false) := (blk_cell BK138.out 2).trans rfl
                  have hfs27 := blk_frozen BK138.out 2
                  have hns27_0 := NB125_138.out
                  have hms27_0 := NB138_125.out
                  have hs28 : w24.cell? ⟨gb138, 3, none⟩ = some (.slice none 0 0) := (blk_cell BK138.out 3).trans rfl
                  have hfs28 := blk_frozen BK138.out 3
                  have hns28_0 := NB125_138.out
                  have hms28_0 := NB138_125.out
                  refine skip_ (w1 := ?_) (by rfl) rfl ?_ ?_
                  rotate_left
                  · go_simp
                    rfl
                  refine hK.out _ _ ⟨((cell_far (p := ⟨gb138, _, none⟩) (by first | exact Kd.own_blk (Kd.R_ne HO134.out BK138.out (by decide)) | (rw [add_block]; exact Kd.own_blk (Kd.R_ne HO134.out BK138.out (by decide))) | (show (Addr.add _ _).block ≠ _; rw [add_block]; exact Kd.own_blk (Kd.R_ne HO134.out BK138.out (by decide))) | (dsimp only; exact Kd.own_blk (Kd.R_ne HO134.out BK138.out (by decide)))) _).trans (((cell_far (p := ⟨gb138, _, none⟩) (by first | exact Kd.own_blk (Kd.R_ne HO134.out BK138.out (by decide)) | (rw [add_block]; exact Kd.own_blk (Kd.R_ne HO134.out BK138.out (by decide))) | (show (Addr.add _ _).block ≠ _; rw [add_block]; exact Kd.own_blk (Kd.R_ne HO134.out BK138.out (by decide))) | (dsimp only; exact Kd.own_blk (Kd.R_ne HO134.out BK138.out (by decide)))) _).trans (((cell_far (p := ⟨gb138, _, none⟩) (by first | exact Kd.own_blk (Kd.R_ne HO134.out BK138.out (by decide)) | (rw [add_block]; exact Kd.own_blk (Kd.R_ne HO134.out BK138.out (by decide))) | (show (Addr.add _ _).block ≠ _; rw [add_block]; exact Kd.own_blk (Kd.R_ne HO134.out BK138.out (by decide))) | (dsimp only; exact Kd.own_blk (Kd.R_ne HO134.out BK138.out (by decide)))) _).trans (((cell_far (p := ⟨gb138, _, none⟩) (by first | exact Kd.own_blk (Kd.R_ne HO134.out BK138.out (by decide)) | (rw [add_block]; exact Kd.own_blk (Kd.R_ne HO134.out BK138.out (by decide))) | (show (Addr.add _ _).block ≠ _; rw [add_block]; exact Kd.own_blk (Kd.R_ne HO134.out BK138.out (by decide))) | (dsimp only; exact Kd.own_blk (Kd.R_ne HO134.out BK138.out (by decide)))) _).trans (hHeld.1)))))))), ((cell_far (p := ⟨gb138, _, none⟩) (by first | exact Kd.own_blk (Kd.R_ne HO134.out BK138.out (by decide)) | (rw [add_block]; exact Kd.own_blk (Kd.R_ne HO134.out BK138.out (by decide))) | (show (Addr.add _ _).block ≠ _; rw [add_block]; exact Kd.own_blk (Kd.R_ne HO134.out BK138.out (by decide))) | (dsimp only; exact Kd.own_blk (Kd.R_ne HO134.out BK138.out (by decide)))) _).trans (((cell_far (p := ⟨gb138, _, none⟩) (by first | exact Kd.own_blk (Kd.R_ne HO134.out BK138.out (by decide)) | (rw [add_block]; exact Kd.own_blk (Kd.R_ne HO134.out BK138.out (by decide))) | (show (Addr.add _ _).block ≠ _; rw [add_block]; exact Kd.own_blk (Kd.R_ne HO134.out BK138.out (by decide))) | (dsimp only; exact Kd.own_blk (Kd.R_ne HO134.out BK138.out (by decide)))) _).trans (((cell_far (p := ⟨gb138, _, none⟩) (by first | exact Kd.own_blk (Kd.R_ne HO134.out BK138.out (by decide)) | (rw [add_block]; exact Kd.own_blk (Kd.R_ne HO134.out BK138.out (by decide))) | (show (Addr.add _ _).block ≠ _; rw [add_block]; exact Kd.own_blk (Kd.R_ne HO134.out BK138.out (by decide))) | (dsimp only; exact Kd.own_blk (Kd.R_ne HO134.out BK138.out (by decide)))) _).trans (((cell_far (p := ⟨gb138, _, none⟩) (by first | exact Kd.own_blk (Kd.R_ne HO134.out BK138.out (by decide)) | (rw [add_block]; exact Kd.own_blk (Kd.R_ne HO134.out BK138.out (by decide))) | (show (Addr.add _ _).block ≠ _; rw [add_block]; exact Kd.own_blk (Kd.R_ne HO134.out BK138.out (by decide))) | (dsimp only; exact Kd.own_blk (Kd.R_ne HO134.out BK138.out (by decide)))) _).trans (hHeld.2))))))))⟩ (fun hHeld => ?_)
                  clear hK K
                  refine done_ (done_of HT_.out (by kernel_rfl)) ?_
                  have n0_ : Aside0 (Kd.R (Kd.int .i64) 3 ((((w24.setCell ⟨gb138, 0, none⟩ (.string t126)).setCell ⟨gb138, 1, none⟩ (.bool ((Go.bits .and .i64 (rd t130 0) 1) != 0))).setCell ⟨gb138, 2, none⟩ (.bool ((Go.bits .and .i64 (rd t130 0) 2) != 0))).setCell ⟨gb138, 3, none⟩ (.slice none 0 0)) w.heap.size (fun _ => True) (.slice (some ad135) t130.length co22) t130) := ⟨by (with_reducible repeat (first | apply Kd.R_alloc | apply Kd.R_drewN | apply Kd.R_drew)); exact Kd.R_mono (Kd.R_far (p := ⟨gb138, 3, none⟩) (Kd.R_far (p := ⟨gb138, 2, none⟩) (Kd.R_far (p := ⟨gb138, 1, none⟩) (Kd.R_far (p := ⟨gb138, 0, none⟩) (Kd.R_types HO134.out BK138.out (by decide)) (fun _ hk => hk.2) (.string t126)) (fun _ hk => hk.2) (.bool ((Go.bits .and .i64 (rd t130 0) 1) != 0))) (fun _ hk => hk.2) (.bool ((Go.bits .and .i64 (rd t130 0) 2) != 0))) (fun _ hk => hk.2) (.slice none 0 0)) (fun _ hk => trivial)⟩
                  have n1_ : Aside0 (((((w24.setCell ⟨gb138, 0, none⟩ (.string t126)).setCell ⟨gb138, 1, none⟩ (.bool ((Go.bits .and .i64 (rd t130 0) 1) != 0))).setCell ⟨gb138, 2, none⟩ (.bool ((Go.bits .and .i64 (rd t130 0) 2) != 0))).setCell ⟨gb138, 3, none⟩ (.slice none 0 0)).heap[gb125]? = some (.cells #[.string (⟨#[]⟩ : ByteArray), .bool false, .bool false, .slice none 0 0] 41 (0, 0))) := ⟨by (with_reducible repeat (first | refine blk_drewN ?_ _ | refine blk_drew ?_ | refine blk_alloc ?_ _)); refine blk_far ?_ NB125_138.out _; (with_reducible repeat (first | refine blk_drewN ?_ _ | refine blk_drew ?_ | refine blk_alloc ?_ _)); refine blk_far ?_ NB125_138.out _; (with_reducible repeat (first | refine blk_drewN ?_ _ | refine blk_drew ?_ | refine blk_alloc ?_ _)); refine blk_far ?_ NB125_138.out _; (with_reducible repeat (first | refine blk_drewN ?_ _ | refine blk_drew ?_ | refine blk_alloc ?_ _)); refine blk_far ?_ NB125_138.out _; (with_reducible repeat (first | refine blk_drewN ?_ _ | refine blk_drew ?_ | refine blk_alloc ?_ _)); exact BK125.out⟩
                  have n2_ : Aside0 (((((w24.setCell ⟨gb138, 0, none⟩ (.string t126)).setCell ⟨gb138, 1, none⟩ (.bool ((Go.bits .and .i64 (rd t130 0) 1) != 0))).setCell ⟨gb138, 2, none⟩ (.bool ((Go.bits .and .i64 (rd t130 0) 2) != 0))).setCell ⟨gb138, 3, none⟩ (.slice none 0 0)).heap[gb138]? = some (.cells #[.string t126, .bool ((Go.bits .and .i64 (rd t130 0) 1) != 0), .bool ((Go.bits .and .i64 (rd t130 0) 2) != 0), .slice none 0 0] 41 (0, 0))) := ⟨by (with_reducible repeat (first | refine blk_drewN ?_ _ | refine blk_drew ?_ | refine blk_alloc ?_ _)); refine blk_put (cs := #[.string t126, .bool ((Go.bits .and .i64 (rd t130 0) 1) != 0), .bool ((Go.bits .and .i64 (rd t130 0) 2) != 0), .slice none 0 0]) ?_ 3 _ rfl; (with_reducible repeat (first | refine blk_drewN ?_ _ | refine blk_drew ?_ | refine blk_alloc ?_ _)); refine blk_put (cs := #[.string t126, .bool ((Go.bits .and .i64 (rd t130 0) 1) != 0), .bool false, .slice none 0 0]) ?_ 2 _ rfl; (with_reducible repeat (first | refine blk_drewN ?_ _ | refine blk_drew ?_ | refine blk_alloc ?_ _)); refine blk_put (cs := #[.string t126, .bool false, .bool false, .slice none 0 0]) ?_ 1 _ rfl; (with_reducible repeat (first | refine blk_drewN ?_ _ | refine blk_drew ?_ | refine blk_alloc ?_ _)); refine blk_put (cs := #[.string (⟨#[]⟩ : ByteArray), .bool false, .bool false, .slice none 0 0]) ?_ 0 _ rfl; (with_reducible repeat (first | refine blk_drewN ?_ _ | refine blk_drew ?_ | refine blk_alloc ?_ _)); exact BK138.out⟩
                  have n3_ : Aside0 (Below w.heap.size w ((((w24.setCell ⟨gb138, 0, none⟩ (.string t126)).setCell ⟨gb138, 1, none⟩ (.bool ((Go.bits .and .i64 (rd t130 0) 1) != 0))).setCell ⟨gb138, 2, none⟩ (.bool ((Go.bits .and .i64 (rd t130 0) 2) != 0))).setCell ⟨gb138, 3, none⟩ (.slice none 0 0))) := ⟨by repeat (first | (with_reducible first | exact HB.out | apply below_alloc | apply pw_below_drewN | apply below_drew1 | refine below_set ?_ GE125.out | refine below_set ?_ GE138.out) | exact HB.out)⟩
                  (try clear HO134)
                  (try clear BK125)
                  (try clear BK138)
                  (try clear HB)
                  generalize ((((w24.setCell ⟨gb138, 0, none⟩ (.string t126)).setCell ⟨gb138, 1, none⟩ (.bool ((Go.bits .and .i64 (rd t130 0) 1) != 0))).setCell ⟨gb138, 2, none⟩ (.bool ((Go.bits .and .i64 (rd t130 0) 2) != 0))).setCell ⟨gb138, 3, none⟩ (.slice none 0 0)) = w29 at n0_ n1_ n2_ n3_ ⊢
                  have HO134 := n0_
                  have BK125 := n1_
                  have BK138 := n2_
                  have HB := n3_
                  clear n0_ n1_ n2_ n3_
                  have q30 : (1 : Int) ≤ ((t130.length : Int) : Int) := of_decide_eq_true (by first | (with_reducible assumption) | assumption)
                  obtain ⟨i030, hi030, _, hsz30, _⟩ := info_parts info3
                  have hcut30 := cut_from (P := Try.prog) 42 3 .i64 Try.underlying42 hi030 1 hsz30 (some ad135) t130.length co22 1 (by omega) q30
                  have hr30 := Kd.Q_drop (k := (1 : Int).toNat) (Kd.Q_of_R HO134.out) (by omega)
                  obtain ⟨A30, hA30⟩ : ∃ A1, A1 = (if co22 = (1 : Int).toNat then (some ad135) else ((some ad135) : Option Addr).map (·.add ((1 : Int).toNat * 1))) := ⟨_, rfl⟩
                  obtain ⟨c30, hc30⟩ : ∃ c1, c1 = co22 - (1 : Int).toNat := ⟨_, rfl⟩
                  have hy30 : y139.length = t130.length - (1 : Int).toNat := (by rw [Ny139.out, List.length_drop])
                  rw [← Ny139.out] at hr30
                  rw [← hy30, ← hA30, ← hc30] at hcut30
                  replace hr30 : Kd.Q (Kd.int .i64) 3 w29 w.heap.size (fun _ => True) (.slice A30 y139.length c30) y139 := (by rw [hA30, hc30, hy30]; exact hr30)
                  have HE30 : Aside0 ((Value.slice A30 y139.length c30).ownBlock = (.slice (some ad135) t130.length co22 : Value).ownBlock) := ⟨by rw [hA30]; split <;> (cases ((some ad135) : Option Addr) <;> rfl)⟩
                  clear hy30 hi030 hsz30 HO134 hA30 hc30
                  have HO141 := Aside0.mk hr30
                  clear hr30
                  replace q30 := eq_true q30
                  try go_wp2
                  go_loopg [8] k (fun kq v8 w' => ∃ (x8_1 : List Int) (x139003_1 : List (S38)) (u139003 : Value), Aside0 (types_one.l0 kq t127 x8_1 t131 t126 ((Go.bits .and .i64 (rd t130 0) 1) != 0) ((Go.bits .and .i64 (rd t130 0) 2) != 0) x139003_1 = some (r1, r2, r3, r4, r5, r6)) ∧ Aside0 (kq ≤ k) ∧ Aside0 (Kd.Q (Kd.int .i64) 3 w' w.heap.size (fun _ => True) v8 x8_1) ∧ Aside0 (Kd.R k38 38 w' w.heap.size (fun _ => True) u139003 x139003_1) ∧ Aside0 (w'.heap[gb125]? = some (.cells #[.string (⟨#[]⟩ : ByteArray), .bool false, .bool false, (.slice none 0 0)] 41 (0, 0))) ∧ Aside0 (w'.heap[gb138]? = some (.cells #[.string t126, .bool ((Go.bits .and .i64 (rd t130 0) 1) != 0), .bool ((Go.bits .and .i64 (rd t130 0) 2) != 0), u139003] 41 (0, 0))) ∧ Aside0 (Below w.heap.size w w'))
                  case atStart => exact ⟨(y139), (([] : List (S38))), (.slice none 0 0), H', ⟨Nat.le_refl _⟩, ⟨by (with_reducible repeat (first | apply Kd.Q_alloc | apply Kd.Q_drewN | apply Kd.Q_drew)); exact HO141.out⟩, ⟨by first | exact Kd.R_nil _ _ _ _ _ | exact Kd.N_nil _ _ _ _ _ | exact Kd.V_nil _ _ _ _ _ | exact Kd.Q_nil _ _ _ _ _ | exact Kd.S_nil _ _ _ _ _⟩, ⟨by (with_reducible repeat (first | refine blk_drewN ?_ _ | refine blk_drew ?_ | refine blk_alloc ?_ _)); exact BK125.out⟩, ⟨by (with_reducible repeat (first | refine blk_drewN ?_ _ | refine blk_drew ?_ | refine blk_alloc ?_ _)); exact BK138.out⟩, ⟨by repeat (first | (with_reducible first | exact HB.out | apply below_alloc | apply pw_below_drewN | apply below_drew1 | refine below_set ?_ GE125.out | refine below_set ?_ GE138.out) | exact HB.out)⟩⟩
                  case round =>
                    clear H'
                    try clear c1
                    try clear p1
                    try clear q1
                    try clear hx1
                    try clear qi1
                    try clear c2
                    try clear p2
                    try clear c3
                    try clear c3b0
                    try clear c3b1
                    try clear q3
                    try clear c4
                    try clear c4b0
                    try clear c4b1
                    try clear c5
                    try clear c5b0
                    try clear c5b1
                    try clear c7
                    try clear c7b0
                    try clear c7b1
                    try clear c8
                    try clear c8b0
                    try clear c8b1
                    try clear c9
                    try clear c9b0
                    try clear c9b1
                    try clear c10
                    try clear c10b0
                    try clear c13
                    try clear p13
                    try clear q13
                    try clear hx13
                    try clear qi13
                    try clear c17
                    try clear c17b0
                    try clear c17b1
                    try clear c24
                    try clear c25
                    try clear c30
                    try clear q30
                    try clear hcz16_0
                    try clear hcz16_1
                    try clear hcz16_2
                    try clear hcz16_3
                    try clear hfz16_0
                    try clear hfz16_1
                    try clear hfz16_2
                    try clear hfz16_3
                    try clear hx135_0
                    try clear hx136_0
                    try clear hx137_0
                    try clear p135
                    try clear p136
                    try clear p137
                    try clear q135
                    try clear q136
                    try clear q137
                    try clear q30
                    obtain ⟨x8_1, x139003_1, u139003, HA, HK1, HO_8, HO_139003, BK125, BK138, HB⟩ := hrel
                    cases gk with
                    | zero => exact absurd HA.out (by simp [types_one.l0])
                    | succ k1 =>
                      have H := HA.out
                      clear HA
                      simp only [types_one.l0] at H
                      by_cases c31 : (x8_1.length : Int) > 0
                      · rw [if_pos c31] at H
                        have c31b0 : decide (0 < (x8_1.length : Int)) = true := decide_eq_true c31
                        have c31b1 : decide (0 < x8_1.length) = true := decide_eq_true (by omega)
                        clear c31
                        by_cases c32 : 0 < (x8_1.length : Int)
                        · rw [if_pos c32] at H
                          have c32b0 : decide (0 < (x8_1.length : Int)) = true := decide_eq_true c32
                          have c32b1 : decide (0 < x8_1.length) = true := decide_eq_true (by omega)
                          clear c32
                          by_cases c33 : 1 < (x8_1.length : Int)
                          · rw [if_pos c33] at H
                            have c33b0 : decide (1 < (x8_1.length : Int)) = true := decide_eq_true c33
                            have c33b1 : decide (1 < x8_1.length) = true := decide_eq_true (by omega)
                            clear c33
                            by_cases c34 : 2 < (x8_1.length : Int)
                            · rw [if_pos c34] at H
                              have c34b0 : decide (2 < (x8_1.length : Int)) = true := decide_eq_true c34
                              have c34b1 : decide (2 < x8_1.length) = true := decide_eq_true (by omega)
                              clear c34
                              by_cases c35 : 3 < (x8_1.length : Int)
                              · rw [if_pos c35] at H
                                have c35b0 : decide (3 < (x8_1.length : Int)) = true := decide_eq_true c35
                                have c35b1 : decide (3 < x8_1.length) = true := decide_eq_true (by omega)
                                clear c35
                                by_cases c36 : 4 < (x8_1.length : Int)
                                · rw [if_pos c36] at H
                                  have c36b0 : decide (4 < (x8_1.length : Int)) = true := decide_eq_true c36
                                  have c36b1 : decide (4 < x8_1.length) = true := decide_eq_true (by omega)
                                  clear c36
                                  by_cases c37 : x139003_1.length < 3518437208883
                                  · rw [if_pos c37] at H
                                    have LMc37 := Aside0.mk c37
                                    clear c37
                                    obtain ⟨y147, hy147⟩ : ∃ y_ : List (S38), y_ = (x139003_1 ++ [(⟨rd x8_1 0, rd x8_1 1, rd x8_1 2, rd x8_1 3, rd x8_1 4⟩ : S38)]) := ⟨_, rfl⟩
                                    replace H : (if 5 ≤ (x8_1.length : Int) then (types_one.l0 k1 t127 (x8_1.drop (5 : Int).toNat) t131 t126 ((Go.bits .and .i64 (rd t130 0) 1) != 0) ((Go.bits .and .i64 (rd t130 0) 2) != 0) y147) else (none)) = some (r1, r2, r3, r4, r5, r6) := by first | (rw [hy147]; with_reducible exact H) | (have H2_ := (Option.bind_some _ _).symm.trans H; rw [hy147]; with_reducible exact H2_) | (have H2_ := (Option.bind_some _ _).symm.trans H; with_reducible exact H2_) | with_reducible exact H | (rw [hy147]; exact H) | exact H
                                    have Ny147 := Aside0.mk hy147
                                    clear hy147
                                    by_cases c38 : 5 ≤ (x8_1.length : Int)
                                    · rw [if_pos c38] at H
                                      have c38b0 := eq_true c38
                                      have c38b1 : decide (5 ≤ (x8_1.length : Int)) = true := decide_eq_true c38
                                      clear c38
                                      obtain ⟨y150, hy150⟩ : ∃ y_ : List Int, y_ = (x8_1.drop (5 : Int).toNat) := ⟨_, rfl⟩
                                      replace H : (types_one.l0 k1 t127 y150 t131 t126 ((Go.bits .and .i64 (rd t130 0) 1) != 0) ((Go.bits .and .i64 (rd t130 0) 2) != 0) y147) = some (r1, r2, r3, r4, r5, r6) := by first | (rw [hy150]; with_reducible exact H) | (have H2_ := (Option.bind_some _ _).symm.trans H; rw [hy150]; with_reducible exact H2_) | (have H2_ := (Option.bind_some _ _).symm.trans H; with_reducible exact H2_) | with_reducible exact H | (rw [hy150]; exact H) | exact H
                                      have Ny150 := Aside0.mk hy150
                                      clear hy150
                                      have H' := Aside0.mk H
                                      clear H
                                      obtain ⟨Ao39, co39, eo39, _⟩ := Kd.Q_slice HO_8.out
                                      subst eo39
                                      try go_wp2
                                      have n0_ := Aside0.mk (Kd.Q_drew HO_8.out)
                                      have n1_ := Aside0.mk (Kd.R_drew HO_139003.out)
                                      have n2_ := Aside0.mk (blk_drew BK125.out)
                                      have n3_ := Aside0.mk (blk_drew BK138.out)
                                      have n4_ := Aside0.mk (below_drew1 HB.out)
                                      clear HO_8
                                      clear HO_139003
                                      clear BK125
                                      clear BK138
                                      clear HB
                                      have HO_8 := n0_
                                      have HO_139003 := n1_
                                      have BK125 := n2_
                                      have BK138 := n3_
                                      have HB := n4_
                                      clear n0_ n1_ n2_ n3_ n4_
                                      have p142 : 0 ≤ (0 : Int) := (by omega)
                                      have q142 : 0 < (x8_1.length : Int) := of_decide_eq_true (by first | (with_reducible assumption) | assumption)
                                      obtain ⟨ad142, e142, hx142_0⟩ := Kd.at_int (Kd.Q_reads' HO_8.out).2.2 0 p142 q142
                                      cases e142
                                      have qi142 : (0 < x8_1.length) = True := eq_true (by omega)
                                      (try rw [show ((0 : Int)).toNat = 0 from rfl] at hx142_0)
                                      (try rw [Addr.add_zero'] at hx142_0)
                                      replace p142 := eq_true p142
                                      replace q142 := eq_true q142
                                      have p143 : 0 ≤ (1 : Int) := (by omega)
                                      have q143 : 1 < (x8_1.length : Int) := of_decide_eq_true (by first | (with_reducible assumption) | assumption)
                                      obtain ⟨ad143, e143, hx143_0⟩ := Kd.at_int (Kd.Q_reads' HO_8.out).2.2 1 p143 q143
                                      obtain rfl : ad142 = ad143 := (by injection e143)
                                      (try simp only [show (1 : Int).toNat = 1 from rfl, Nat.reduceMul, Nat.reduceEqDiff, Go.Addr.add, ↓reduceIte] at hx143_0)
                                      have qi143 : (1 < x8_1.length) = True := eq_true (by omega)
                                      (try rw [show ((1 : Int)).toNat = 1 from rfl] at hx143_0)
                                      replace p143 := eq_true p143
                                      replace q143 := eq_true q143
                                      have p144 : 0 ≤ (2 : Int) := (by omega)
                                      have q144 : 2 < (x8_1.length : Int) := of_decide_eq_true (by first | (with_reducible assumption) | assumption)
                                      obtain ⟨ad144, e144, hx144_0⟩ := Kd.at_int (Kd.Q_reads' HO_8.out).2.2 2 p144 q144
                                      obtain rfl : ad142 = ad144 := (by injection e144)
                                      (try simp only [show (2 : Int).toNat = 2 from rfl, Nat.reduceMul, Nat.reduceEqDiff, Go.Addr.add, ↓reduceIte] at hx144_0)
                                      have qi144 : (2 < x8_1.length) = True := eq_true (by omega)
                                      (try rw [show ((2 : Int)).toNat = 2 from rfl] at hx144_0)
                                      replace p144 := eq_true p144
                                      replace q144 := eq_true q144
                                      have p145 : 0 ≤ (3 : Int) := (by omega)
                                      have q145 : 3 < (x8_1.length : Int) := of_decide_eq_true (by first | (with_reducible assumption) | assumption)
                                      obtain ⟨ad145, e145, hx145_0⟩ := Kd.at_int (Kd.Q_reads' HO_8.out).2.2 3 p145 q145
                                      obtain rfl : ad142 = ad145 := (by injection e145)
                                      (try simp only [show (3 : Int).toNat = 3 from rfl, Nat.reduceMul, Nat.reduceEqDiff, Go.Addr.add, ↓reduceIte] at hx145_0)
                                      have qi145 : (3 < x8_1.length) = True := eq_true (by omega)
                                      (try rw [show ((3 : Int)).toNat = 3 from rfl] at hx145_0)
                                      replace p145 := eq_true p145
                                      replace q145 := eq_true q145
                                      have p146 : 0 ≤ (4 : Int) := (by omega)
                                      have q146 : 4 < (x8_1.length : Int) := of_decide_eq_true (by first | (with_reducible assumption) | assumption)
                                      obtain ⟨ad146, e146, hx146_0⟩ := Kd.at_int (Kd.Q_reads' HO_8.out).2.2 4 p146 q146
                                      obtain rfl : ad142 = ad146 := (by injection e146)
                                      (try simp only [show (4 : Int).toNat = 4 from rfl, Nat.reduceMul, Nat.reduceEqDiff, Go.Addr.add, ↓reduceIte] at hx146_0)
                                      have qi146 : (4 < x8_1.length) = True := eq_true (by omega)
                                      (try rw [show ((4 : Int)).toNat = 4 from rfl] at hx146_0)
                                      replace p146 := eq_true p146
                                      replace q146 := eq_true q146
                                      refine start_ (n := 22) (S := fun w' => w'.cell? ⟨gb138, 0, none⟩ = some (.string t126) ∧ w'.cell? ⟨gb138, 1, none⟩ = some (.bool ((Go.bits .and .i64 (rd t130 0) 1) != 0)) ∧ w'.cell? ⟨gb138, 2, none⟩ = some (.bool ((Go.bits .and .i64 (rd t130 0) 2) != 0)) ∧ w'.cell? ⟨gb138, 3, none⟩ = some (u139003) ∧ w'.cell? ad142 = some (.int .i64 (rd x8_1 0)) ∧ w'.cell? ⟨ad142.block, ad142.off + 1, none⟩ = some (.int .i64 (rd x8_1 1)) ∧ w'.cell? ⟨ad142.block, ad142.off + 2, none⟩ = some (.int .i64 (rd x8_1 2)) ∧ w'.cell? ⟨ad142.block, ad142.off + 3, none⟩ = some (.int .i64 (rd x8_1 3)) ∧ w'.cell? ⟨ad142.block, ad142.off + 4, none⟩ = some (.int .i64 (rd x8_1 4))) (ds := [19, 21]) #[false, false, false, false, false, false, false, false, false, false, false, false, false, false, false, false, false, false, false, false, false, false] (by kernel_rfl) rfl rfl ⟨(blk_cell BK138.out 0).trans rfl, (blk_cell BK138.out 1).trans rfl, (blk_cell BK138.out 2).trans rfl, (blk_cell BK138.out 3).trans rfl, hx142_0, hx143_0, hx144_0, hx145_0, hx146_0⟩ (fun hHeld => ?_); refine with_tabW types_one.tab13 types_one.bits13 (fun HT_ HW_ => ?_)
                                      generalize wr.drew = w40 at HO_8 HO_139003 BK125 BK138 HB hx142_0 hx143_0 hx144_0 hx145_0 hx146_0 hHeld ⊢
                                      refine pure_ (i := 0) (N := some 65) (v := ?_) (a' := ?_) #[true, false, false, false, false, false, false, false, false, false, false, false, false, false, false, false, false, false, false, false, false, false] rfl rfl (any_of HT_.out (by kernel_rfl)) (fun _ _ _ h => h) (Or.inl ⟨by rfl, ?_⟩) ?_ ?_
                                      rotate_left
                                      · intro w'
                                        go_simp
                                        with_reducible rfl
                                      rotate_left
                                      · simp only [Act.put, List.setIfInBounds_toArray, List.set_cons_zero, List.set_cons_succ, i64_w, i32_w]
                                        rfl
                                      refine pure_ (i := 2) (N := some 67) (v := ?_) (a' := ?_) #[true, false, true, false, false, false, false, false, false, false, false, false, false, false, false, false, false, false, false, false, false, false] rfl rfl (any_of HT_.out (by kernel_rfl)) (fun _ _ _ h => h) (Or.inl ⟨by rfl, ?_⟩) ?_ ?_
                                      rotate_left
                                      · intro w'
                                        go_simp
                                        with_reducible rfl
                                      rotate_left
                                      · simp only [Act.put, List.setIfInBounds_toArray, List.set_cons_zero, List.set_cons_succ, i64_w, i32_w]
                                        rfl
                                      refine pure_ (i := 3) (N := some 68) (v := ?_) (a' := ?_) #[true, false, true, true, false, false, false, false, false, false, false, false, false, false, false, false, false, false, false, false, false, false] rfl rfl (any_of HT_.out (by kernel_rfl)) (fun _ _ _ h => h) (Or.inl ⟨by rfl, ?_⟩) ?_ ?_
                                      rotate_left
                                      · intro w'
                                        go_simp
                                        with_reducible rfl
                                      rotate_left
                                      · simp only [Act.put, List.setIfInBounds_toArray, List.set_cons_zero, List.set_cons_succ, i64_w, i32_w]
                                        rfl
                                      refine pure_ (i := 5) (N := some 70) (v := ?_) (a' := ?_) #[true, false, true, true, false, true, false, false, false, false, false, false, false, false, false, false, false, false, false, false, false, false] rfl rfl (any_of HT_.out (by kernel_rfl)) (fun _ _ _ h => h) (Or.inl ⟨by rfl, ?_⟩) ?_ ?_
                                      rotate_left
                                      · intro w'
                                        go_simp
                                        with_reducible rfl
                                      rotate_left
                                      · simp only [Act.put, List.setIfInBounds_toArray, List.set_cons_zero, List.set_cons_succ, i64_w, i32_w]
                                        rfl
                                      refine pure_ (i := 6) (N := some 71) (v := ?_) (a' := ?_) #[true, false, true, true, false, true, true, false, false, false, false, false, false, false, false, false, false, false, false, false, false, false] rfl rfl (any_of HT_.out (by kernel_rfl)) (fun _ _ _ h => h) (Or.inl ⟨by rfl, ?_⟩) ?_ ?_
                                      rotate_left
                                      · intro w'
                                        go_simp
                                        with_reducible rfl
                                      rotate_left
                                      · simp only [Act.put, List.setIfInBounds_toArray, List.set_cons_zero, List.set_cons_succ, i64_w, i32_w]
                                        rfl
                                      refine pure_ (i := 8) (N := some 73) (v := ?_) (a' := ?_) #[true, false, true, true, false, true, true, false, true, false, false, false, false, false, false, false, false, false, false, false, false, false] rfl rfl (any_of HT_.out (by kernel_rfl)) (fun _ _ _ h => h) (Or.inl ⟨by rfl, ?_⟩) ?_ ?_
                                      rotate_left
                                      · intro w'
                                        go_simp
                                        with_reducible rfl
                                      rotate_left
                                      · simp only [Act.put, List.setIfInBounds_toArray, List.set_cons_zero, List.set_cons_succ, i64_w, i32_w]
                                        rfl
                                      refine pure_ (i := 9) (N := some 74) (v := ?_) (a' := ?_) #[true, false, true, true, false, true, true, false, true, true, false, false, false, false, false, false, false, false, false, false, false, false] rfl rfl (any_of HT_.out (by kernel_rfl)) (fun _ _ _ h => h) (Or.inl ⟨by rfl, ?_⟩) ?_ ?_
                                      rotate_left
                                      · intro w'
                                        go_simp
                                        with_reducible rfl
                                      rotate_left
                                      · simp only [Act.put, List.setIfInBounds_toArray, List.set_cons_zero, List.set_cons_succ, i64_w, i32_w]
                                        rfl
                                      refine pure_ (i := 11) (N := some 76) (v := ?_) (a' := ?_) #[true, false, true, true, false, true, true, false, true, true, false, true, false, false, false, false, false, false, false, false, false, false] rfl rfl (any_of HT_.out (by kernel_rfl)) (fun _ _ _ h => h) (Or.inl ⟨by rfl, ?_⟩) ?_ ?_
                                      rotate_left
                                      · intro w'
                                        go_simp
                                        with_reducible rfl
                                      rotate_left
                                      · simp only [Act.put, List.setIfInBounds_toArray, List.set_cons_zero, List.set_cons_succ, i64_w, i32_w]
                                        rfl
                                      refine pure_ (i := 12) (N := some 77) (v := ?_) (a' := ?_) #[true, false, true, true, false, true, true, false, true, true, false, true, true, false, false, false, false, false, false, false, false, false] rfl rfl (any_of HT_.out (by kernel_rfl)) (fun _ _ _ h => h) (Or.inl ⟨by rfl, ?_⟩) ?_ ?_
                                      rotate_left
                                      · intro w'
                                        go_simp
                                        with_reducible rfl
                                      rotate_left
                                      · simp only [Act.put, List.setIfInBounds_toArray, List.set_cons_zero, List.set_cons_succ, i64_w, i32_w]
                                        rfl
                                      refine pure_ (i := 14) (N := some 79) (v := ?_) (a' := ?_) #[true, false, true, true, false, true, true, false, true, true, false, true, true, false, true, false, false, false, false, false, false, false] rfl rfl (any_of HT_.out (by kernel_rfl)) (fun _ _ _ h => h) (Or.inl ⟨by rfl, ?_⟩) ?_ ?_
                                      rotate_left
                                      · intro w'
                                        go_simp
                                        with_reducible rfl
                                      rotate_left
                                      · simp only [Act.put, List.setIfInBounds_toArray, List.set_cons_zero, List.set_cons_succ, i64_w, i32_w]
                                        rfl
                                      refine pure_ (i := 15) (N := some 80) (v := ?_) (a' := ?_) #[true, false, true, true, false, true, true, false, true, true, false, true, true, false, true, true, false, false, false, false, false, false] rfl rfl (any_of HT_.out (by kernel_rfl)) (fun _ _ _ h => h) (Or.inl ⟨by rfl, ?_⟩) ?_ ?_
                                      rotate_left
                                      · intro w'
                                        go_simp
                                        with_reducible rfl
                                      rotate_left
                                      · simp only [Act.put, List.setIfInBounds_toArray, List.set_cons_zero, List.set_cons_succ, i64_w, i32_w]
                                        rfl
                                      refine take_ (i := 1) (N := some 66) (v := ?_) (a' := ?_) #[true, true, true, true, false, true, true, false, true, true, false, true, true, false, true, true, false, false, false, false, false, false] rfl rfl (take_ofW HT_.out HW_.out (by kernel_rfl)) (fun _ _ _ h => h) (Or.inl ⟨by rfl, ?_⟩) hHeld ?_ ?_
                                      rotate_left
                                      · rintro w' ⟨s0, s1, s2, s3, s4, s5, s6, s7, s8⟩
                                        go_simp
                                        with_reducible rfl
                                      rotate_left
                                      · simp only [Act.put, List.setIfInBounds_toArray, List.set_cons_zero, List.set_cons_succ, i64_w, i32_w]
                                        rfl
                                      refine take_ (i := 4) (N := some 69) (v := ?_) (a' := ?_) #[true, true, true, true, true, true, true, false, true, true, false, true, true, false, true, true, false, false, false, false, false, false] rfl rfl (take_ofW HT_.out HW_.out (by kernel_rfl)) (fun _ _ _ h => h) (Or.inl ⟨by rfl, ?_⟩) hHeld ?_ ?_
                                      rotate_left
                                      · rintro w' ⟨s0, s1, s2, s3, s4, s5, s6, s7, s8⟩
                                        go_simp
                                        with_reducible rfl
                                      rotate_left
                                      · simp only [Act.put, List.setIfInBounds_toArray, List.set_cons_zero, List.set_cons_succ, i64_w, i32_w]
                                        rfl
                                      refine take_ (i := 7) (N := some 72) (v := ?_) (a' := ?_) #[true, true, true, true, true, true, true, true, true, true, false, true, true, false, true, true, false, false, false, false, false, false] rfl rfl (take_ofW HT_.out HW_.out (by kernel_rfl)) (fun _ _ _ h => h) (Or.inl ⟨by rfl, ?_⟩) hHeld ?_ ?_
                                      rotate_left
                                      · rintro w' ⟨s0, s1, s2, s3, s4, s5, s6, s7, s8⟩
                                        go_simp
                                        with_reducible rfl
                                      rotate_left
                                      · simp only [Act.put, List.setIfInBounds_toArray, List.set_cons_zero, List.set_cons_succ, i64_w, i32_w]
                                        rfl
                                      refine take_ (i := 10) (N := some 75) (v := ?_) (a' := ?_) #[true, true, true, true, true, true, true, true, true, true, true, true, true, false, true, true, false, false, false, false, false, false] rfl rfl (take_ofW HT_.out HW_.out (by kernel_rfl)) (fun _ _ _ h => h) (Or.inl ⟨by rfl, ?_⟩) hHeld ?_ ?_
                                      rotate_left
                                      · rintro w' ⟨s0, s1, s2, s3, s4, s5, s6, s7, s8⟩
                                        go_simp
                                        with_reducible rfl
                                      rotate_left
                                      · simp only [Act.put, List.setIfInBounds_toArray, List.set_cons_zero, List.set_cons_succ, i64_w, i32_w]
                                        rfl
                                      refine take_ (i := 13) (N := some 78) (v := ?_) (a' := ?_) #[true, true, true, true, true, true, true, true, true, true, true, true, true, true, true, true, false, false, false, false, false, false] rfl rfl (take_ofW HT_.out HW_.out (by kernel_rfl)) (fun _ _ _ h => h) (Or.inl ⟨by rfl, ?_⟩) hHeld ?_ ?_
                                      rotate_left
                                      · rintro w' ⟨s0, s1, s2, s3, s4, s5, s6, s7, s8⟩
                                        go_simp
                                        with_reducible rfl
                                      rotate_left
                                      · simp only [Act.put, List.setIfInBounds_toArray, List.set_cons_zero, List.set_cons_succ, i64_w, i32_w]
                                        rfl
                                      refine take_ (i := 16) (N := some 81) (v := ?_) (a' := ?_) #[true, true, true, true, true, true, true, true, true, true, true, true, true, true, true, true, true, false, false, false, false, false] rfl rfl (take_ofW HT_.out HW_.out (by kernel_rfl)) (fun _ _ _ h => h) (Or.inl ⟨by rfl, ?_⟩) hHeld ?_ ?_
                                      rotate_left
                                      · rintro w' ⟨s0, s1, s2, s3, s4, s5, s6, s7, s8⟩
                                        go_simp
                                        with_reducible rfl
                                      rotate_left
                                      · simp only [Act.put, List.setIfInBounds_toArray, List.set_cons_zero, List.set_cons_succ, i64_w, i32_w]
                                        rfl
                                      refine pure_ (i := 17) (N := some 82) (v := ?_) (a' := ?_) #[true, true, true, true, true, true, true, true, true, true, true, true, true, true, true, true, true, true, false, false, false, false] rfl rfl (any_of HT_.out (by kernel_rfl)) (fun _ _ _ h => h) (Or.inl ⟨by rfl, ?_⟩) ?_ ?_
                                      rotate_left
                                      · intro w'
                                        go_simp
                                        with_reducible rfl
                                      rotate_left
                                      · simp only [Act.put, List.setIfInBounds_toArray, List.set_cons_zero, List.set_cons_succ, i64_w, i32_w]
                                        rfl
                                      refine one_ (i := 18) (N := some 83) #[true, true, true, true, true, true, true, true, true, true, true, true, true, true, true, true, true, true, true, false, false, false] rfl rfl (one_of HT_.out (by kernel_rfl)) (by decide) (fun K hK => ?_)
                                      refine value_ (w1 := ?_) (v := ?_) (by rfl) rfl ?_ ?_
                                      rotate_left 2
                                      · go_simp
                                        constructor
                                        · rfl
                                        · rfl
                                      refine hK.out _ _ ⟨(blk_cell (blk_alloc BK138.out _) 0).trans rfl, (blk_cell (blk_alloc BK138.out _) 1).trans rfl, (blk_cell (blk_alloc BK138.out _) 2).trans rfl, (blk_cell (blk_alloc BK138.out _) 3).trans rfl, (World.cell?_alloc_lt _ _ _ (World.block_lt_of_cell? _ _ (hHeld.2.2.2.2.1))).trans (hHeld.2.2.2.2.1), (World.cell?_alloc_lt _ _ _ (World.block_lt_of_cell? _ _ (hHeld.2.2.2.2.2.1))).trans (hHeld.2.2.2.2.2.1), (World.cell?_alloc_lt _ _ _ (World.block_lt_of_cell? _ _ (hHeld.2.2.2.2.2.2.1))).trans (hHeld.2.2.2.2.2.2.1), (World.cell?_alloc_lt _ _ _ (World.block_lt_of_cell? _ _ (hHeld.2.2.2.2.2.2.2.1))).trans (hHeld.2.2.2.2.2.2.2.1), (World.cell?_alloc_lt _ _ _ (World.block_lt_of_cell? _ _ (hHeld.2.2.2.2.2.2.2.2))).trans (hHeld.2.2.2.2.2.2.2.2)⟩ (fun hHeld => ?_)
                                      clear hK K
                                      refine norm_ (a' := ?_) ?_ ?_
                                      rotate_left
                                      · show Act.put _ (some 83) _ = _
                                        simp only [Act.put, List.setIfInBounds_toArray, List.set_cons_zero, List.set_cons_succ, i64_w, i32_w]
                                        rfl
                                      refine last_ (i := 19) (N := some 84) #[true, true, true, true, true, true, true, true, true, true, true, true, true, true, true, true, true, true, true, true, false, false] rfl rfl (one_of HT_.out (by kernel_rfl)) (by decide) (fun K hK => ?_)
                                      refine Kd.R_append_step k38 (w0 := w) w.heap.size (by rfl) (.tmp 66) (.tmp 83) 39 38 (.agg #[(.int .i64 0), (.int .i64 0), (.int .i64 0), (.int .i64 0), (.int .i64 0)]) 40 rfl Try.underlying39 info38 rfl (by decide) (by omega) u139003 x139003_1 (⟨rd x8_1 0, rd x8_1 1, rd x8_1 2, rd x8_1 3, rd x8_1 4⟩ : S38) [.int .i64 (rd x8_1 0), .int .i64 (rd x8_1 1), .int .i64 (rd x8_1 2), .int .i64 (rd x8_1 3), .int .i64 (rd x8_1 4)] (fun _ => True) (fun _ => False) rfl rfl ?aP (fun _ hk => hk.elim) ?aF ?aO ?aB ?aS ?aL ?_
                                      (case aP => exact k38_mkM _ _ _ (⟨rd x8_1 0, rd x8_1 1, rd x8_1 2, rd x8_1 3, rd x8_1 4⟩ : S38))
                                      (case aB => exact (by repeat (first | (with_reducible first | exact HB.out | apply below_alloc | apply pw_below_drewN | apply below_drew1 | refine below_set ?_ GE125.out | refine below_set ?_ GE138.out) | exact HB.out)))
                                      (case aF => exact (fun _ _ => trivial))
                                      (case aO => exact (by (with_reducible repeat (first | apply Kd.R_alloc | apply Kd.R_drewN | apply Kd.R_drew)); exact HO_139003.out))
                                      (case aS => exact (below_size (by repeat (first | (with_reducible first | exact HB.out | apply below_alloc | apply pw_below_drewN | apply below_drew1 | refine below_set ?_ GE125.out | refine below_set ?_ GE138.out) | exact HB.out))))
                                      (case aL => have := LMc37.out; omega)
                                      intro v148 w41 ho hb hg hat
                                      rw [← Ny147.out] at ho
                                      have n0_ := Aside0.mk (Kd.Q_over' (by (with_reducible repeat (first | apply Kd.Q_alloc | apply Kd.Q_drewN | apply Kd.Q_drew)); exact HO_8.out) (Kd.R_typed (by (with_reducible repeat (first | apply Kd.R_alloc | apply Kd.R_drewN | apply Kd.R_drew)); exact HO_139003.out)) (by decide) hg)
                                      have n1_ := Aside0.mk (blk_grown (g := gb125) (o := .cells #[.string (⟨#[]⟩ : ByteArray), .bool false, .bool false, .slice none 0 0] 41 (0, 0)) (by (with_reducible repeat (first | refine blk_drewN ?_ _ | refine blk_drew ?_ | refine blk_alloc ?_ _)); exact BK125.out) hg (Kd.R_ne HO_139003.out BK125.out (by decide)))
                                      have n2_ := Aside0.mk (blk_grown (g := gb138) (o := .cells #[.string t126, .bool ((Go.bits .and .i64 (rd t130 0) 1) != 0), .bool ((Go.bits .and .i64 (rd t130 0) 2) != 0), u139003] 41 (0, 0)) (by (with_reducible repeat (first | refine blk_drewN ?_ _ | refine blk_drew ?_ | refine blk_alloc ?_ _)); exact BK138.out) hg (Kd.R_ne HO_139003.out BK138.out (by decide)))
                                      have n3_ := Aside0.mk (hb)
                                      have n4_ := Aside0.mk (ho)
                                      clear HO_8
                                      clear BK125
                                      clear BK138
                                      clear HB
                                      clear HO_139003
                                      have HO_8 := n0_
                                      have BK125 := n1_
                                      have BK138 := n2_
                                      have HB := n3_
                                      have HO149 := n4_
                                      clear n0_ n1_ n2_ n3_ n4_
                                      clear ho hb hg hat
                                      obtain ⟨Ao42, co42, eo42⟩ := Kd.R_slice HO149.out
                                      (first | subst eo42 | (injection eo42 with f1_ f2_ f3_; have f4_ := f1_.symm; have f5_ := f3_.symm; clear f1_ f2_ f3_; subst f4_; subst f5_))
                                      refine hK.out _ _ ?_
                                      clear hK K
                                      refine norm_ (a' := ?_) ?_ ?_
                                      rotate_left
                                      · show Act.put _ (some 84) _ = _
                                        simp only [Act.put, List.setIfInBounds_toArray, List.set_cons_zero, List.set_cons_succ, i64_w, i32_w]
                                        rfl
                                      refine pure_ (i := 20) (N := some 85) (v := ?_) (a' := ?_) #[true, true, true, true, true, true, true, true, true, true, true, true, true, true, true, true, true, true, true, true, true, false] rfl rfl (any_of HT_.out (by kernel_rfl)) (fun _ _ _ h => h) (Or.inl ⟨by rfl, ?_⟩) ?_ ?_
                                      rotate_left
                                      · intro w'
                                        go_simp
                                        with_reducible rfl
                                      rotate_left
                                      · simp only [Act.put, List.setIfInBounds_toArray, List.set_cons_zero, List.set_cons_succ, i64_w, i32_w]
                                        rfl
                                      refine last_ (i := 21) (N := none) #[true, true, true, true, true, true, true, true, true, true, true, true, true, true, true, true, true, true, true, true, true, true] rfl rfl (one_of HT_.out (by kernel_rfl)) (by decide) (fun K hK => ?_)
                                      have hs43 : w41.cell? ⟨gb138, 3, none⟩ = some (u139003) := (blk_cell BK138.out 3).trans rfl
                                      have hfs43 := blk_frozen BK138.out 3
                                      have hns43_0 := NB125_138.out
                                      have hms43_0 := NB138_125.out
                                      refine skip_ (w1 := ?_) (by rfl) rfl ?_ ?_
                                      rotate_left
                                      · go_simp
                                        rfl
                                      refine hK.out _ _ ?_
                                      clear hK K
                                      refine done_ (done_of HT_.out (by kernel_rfl)) ?_
                                      have n0_ : Aside0 (Kd.Q (Kd.int .i64) 3 (w41.setCell ⟨gb138, 3, none⟩ (.slice Ao42 y147.length co42)) w.heap.size (fun _ => True) (.slice (some ad142) x8_1.length co39) x8_1) := ⟨by (with_reducible repeat (first | apply Kd.Q_alloc | apply Kd.Q_drewN | apply Kd.Q_drew)); exact Kd.Q_mono (Kd.Q_far (p := ⟨gb138, 3, none⟩) (Kd.Q_types HO_8.out BK138.out (by decide)) (fun _ hk => hk.2) (.slice Ao42 y147.length co42)) (fun _ hk => trivial)⟩
                                      have n1_ : Aside0 (Kd.R k38 38 (w41.setCell ⟨gb138, 3, none⟩ (.slice Ao42 y147.length co42)) w.heap.size (fun _ => True) (.slice Ao42 y147.length co42) y147) := ⟨by (with_reducible repeat (first | apply Kd.R_alloc | apply Kd.R_drewN | apply Kd.R_drew)); exact Kd.R_mono (Kd.R_far (p := ⟨gb138, 3, none⟩) (Kd.R_types HO149.out BK138.out (by decide)) (fun _ hk => hk.2) (.slice Ao42 y147.length co42)) (fun _ hk => trivial)⟩
                                      have n2_ : Aside0 ((w41.setCell ⟨gb138, 3, none⟩ (.slice Ao42 y147.length co42)).heap[gb125]? = some (.cells #[.string (⟨#[]⟩ : ByteArray), .bool false, .bool false, .slice none 0 0] 41 (0, 0))) := ⟨by (with_reducible repeat (first | refine blk_drewN ?_ _ | refine blk_drew ?_ | refine blk_alloc ?_ _)); refine blk_far ?_ NB125_138.out _; (with_reducible repeat (first | refine blk_drewN ?_ _ | refine blk_drew ?_ | refine blk_alloc ?_ _)); exact BK125.out⟩
                                      have n3_ : Aside0 ((w41.setCell ⟨gb138, 3, none⟩ (.slice Ao42 y147.length co42)).heap[gb138]? = some (.cells #[.string t126, .bool ((Go.bits .and .i64 (rd t130 0) 1) != 0), .bool ((Go.bits .and .i64 (rd t130 0) 2) != 0), .slice Ao42 y147.length co42] 41 (0, 0))) := ⟨by (with_reducible repeat (first | refine blk_drewN ?_ _ | refine blk_drew ?_ | refine blk_alloc ?_ _)); refine blk_put (cs := #[.string t126, .bool ((Go.bits .and .i64 (rd t130 0) 1) != 0), .bool ((Go.bits .and .i64 (rd t130 0) 2) != 0), u139003]) ?_ 3 _ rfl; (with_reducible repeat (first | refine blk_drewN ?_ _ | refine blk_drew ?_ | refine blk_alloc ?_ _)); exact BK138.out⟩
                                      have n4_ : Aside0 (Below w.heap.size w (w41.setCell ⟨gb138, 3, none⟩ (.slice Ao42 y147.length co42))) := ⟨by repeat (first | (with_reducible first | exact HB.out | apply below_alloc | apply pw_below_drewN | apply below_drew1 | refine below_set ?_ GE125.out | refine below_set ?_ GE138.out) | exact HB.out)⟩
                                      (try clear HO_8)
                                      (try clear HO149)
                                      (try clear BK125)
                                      (try clear BK138)
                                      (try clear HB)
                                      generalize (w41.setCell ⟨gb138, 3, none⟩ (.slice Ao42 y147.length co42)) = w44 at n0_ n1_ n2_ n3_ n4_ ⊢
                                      have HO_8 := n0_
                                      have HO149 := n1_
                                      have BK125 := n2_
                                      have BK138 := n3_
                                      have HB := n4_
                                      clear n0_ n1_ n2_ n3_ n4_
                                      have q45 : (5 : Int) ≤ ((x8_1.length : Int) : Int) := of_decide_eq_true (by first | (with_reducible assumption) | assumption)
                                      obtain ⟨i045, hi045, _, hsz45, _⟩ := info_parts info3
                                      have hcut45 := cut_from (P := Try.prog) 42 3 .i64 Try.underlying42 hi045 1 hsz45 (some ad142) x8_1.length co39 5 (by omega) q45
                                      have hr45 := Kd.Q_drop (k := (5 : Int).toNat) HO_8.out (by omega)
                                      obtain ⟨A45, hA45⟩ : ∃ A1, A1 = (if co39 = (5 : Int).toNat then (some ad142) else ((some ad142) : Option Addr).map (·.add ((5 : Int).toNat * 1))) := ⟨_, rfl⟩
                                      obtain ⟨c45, hc45⟩ : ∃ c1, c1 = co39 - (5 : Int).toNat := ⟨_, rfl⟩
                                      have hy45 : y150.length = x8_1.length - (5 : Int).toNat := (by rw [Ny150.out, List.length_drop])
                                      rw [← Ny150.out] at hr45
                                      rw [← hy45, ← hA45, ← hc45] at hcut45
                                      replace hr45 : Kd.Q (Kd.int .i64) 3 w44 w.heap.size (fun _ => True) (.slice A45 y150.length c45) y150 := (by rw [hA45, hc45, hy45]; exact hr45)
                                      have HE45 : Aside0 ((Value.slice A45 y150.length c45).ownBlock = (.slice (some ad142) x8_1.length co39 : Value).ownBlock) := ⟨by rw [hA45]; split <;> (cases ((some ad142) : Option Addr) <;> rfl)⟩
                                      clear hy45 hi045 hsz45 HO_8 hA45 hc45
                                      have HO152 := Aside0.mk hr45
                                      clear hr45
                                      replace q45 := eq_true q45
                                      try go_wp2
                                      go_roundg k1
                                      case measure => have := HK1.out; omega
                                      case rel => exact ⟨(y150), (y147), (.slice Ao42 y147.length co42), H', ⟨by have := HK1.out; omega⟩, ⟨by (with_reducible repeat (first | apply Kd.Q_alloc | apply Kd.Q_drewN | apply Kd.Q_drew)); exact HO152.out⟩, ⟨by (with_reducible repeat (first | apply Kd.R_alloc | apply Kd.R_drewN | apply Kd.R_drew)); exact HO149.out⟩, ⟨by (with_reducible repeat (first | refine blk_drewN ?_ _ | refine blk_drew ?_ | refine blk_alloc ?_ _)); exact BK125.out⟩, ⟨by (with_reducible repeat (first | refine blk_drewN ?_ _ | refine blk_drew ?_ | refine blk_alloc ?_ _)); exact BK138.out⟩, ⟨by repeat (first | (with_reducible first | exact HB.out | apply below_alloc | apply pw_below_drewN | apply below_drew1 | refine below_set ?_ GE125.out | refine below_set ?_ GE138.out) | exact HB.out)⟩⟩
                                    · rw [if_neg c38] at H
                                      exact absurd H (by simp)
                                  · rw [if_neg c37] at H
                                    exact absurd H (by simp)
                                · rw [if_neg c36] at H
                                  exact absurd H (by simp)
                              · rw [if_neg c35] at H
                                exact absurd H (by simp)
                            · rw [if_neg c34] at H
                              exact absurd H (by simp)
                          · rw [if_neg c33] at H
                            exact absurd H (by simp)
                        · rw [if_neg c32] at H
                          exact absurd H (by simp)
                      · rw [if_neg c31] at H
                        have c31b0 : decide (0 < (x8_1.length : Int)) = false := decide_eq_false c31
                        have c31b1 : decide (0 < x8_1.length) = false := decide_eq_false (by omega)
                        clear c31
                        simp only [Option.some.injEq, Prod.mk.injEq] at H
                        obtain ⟨rfl, rfl, rfl, rfl, rfl, rfl⟩ := H
                        obtain ⟨Ao46, co46, eo46, _⟩ := Kd.Q_slice HO_8.out
                        subst eo46
                        have hnb47 := NB138_125.out
                        have hnc47 := NB125_138.out
                        have hcz48_0 : wr.cell? ⟨gb138, 0, none⟩ = some (.string t126) := (blk_cell BK138.out 0).trans rfl
                        have hcz48_1 : wr.cell? ⟨gb138, 1, none⟩ = some (.bool ((Go.bits .and .i64 (rd t130 0) 1) != 0)) := (blk_cell BK138.out 1).trans rfl
                        have hcz48_2 : wr.cell? ⟨gb138, 2, none⟩ = some (.bool ((Go.bits .and .i64 (rd t130 0) 2) != 0)) := (blk_cell BK138.out 2).trans rfl
                        have hcz48_3 : wr.cell? ⟨gb138, 3, none⟩ = some (u139003) := (blk_cell BK138.out 3).trans rfl
                        have hfz48_0 := blk_frozen BK138.out 0
                        have hfz48_1 := blk_frozen BK138.out 1
                        have hfz48_2 := blk_frozen BK138.out 2
                        have hfz48_3 := blk_frozen BK138.out 3
                        have hcz49_0 : wr.cell? ⟨gb125, 0, none⟩ = some (.string (⟨#[]⟩ : ByteArray)) := (blk_cell BK125.out 0).trans rfl
                        have hcz49_1 : wr.cell? ⟨gb125, 1, none⟩ = some (.bool false) := (blk_cell BK125.out 1).trans rfl
                        have hcz49_2 : wr.cell? ⟨gb125, 2, none⟩ = some (.bool false) := (blk_cell BK125.out 2).trans rfl
                        have hcz49_3 : wr.cell? ⟨gb125, 3, none⟩ = some (.slice none 0 0) := (blk_cell BK125.out 3).trans rfl
                        have hfz49_0 := blk_frozen BK125.out 0
                        have hfz49_1 := blk_frozen BK125.out 1
                        have hfz49_2 := blk_frozen BK125.out 2
                        have hfz49_3 := blk_frozen BK125.out 3
                        obtain ⟨Ao50, co50, eo50⟩ := Kd.R_slice HO_139003.out
                        subst eo50
                        go_wp2
                        refine bodyPost_ret (results_ctt rfl _ _ gb125 41 #[.string t126, .bool ((Go.bits .and .i64 (rd t130 0) 1) != 0), .bool ((Go.bits .and .i64 (rd t130 0) 2) != 0), .slice Ao50 x139003_1.length co50] (0, 0) _ rfl (by (with_reducible repeat (first | refine blk_drewN ?_ _ | refine blk_drew ?_ | refine blk_alloc ?_ _)); refine blk_put (cs := #[.string t126, .bool ((Go.bits .and .i64 (rd t130 0) 1) != 0), .bool ((Go.bits .and .i64 (rd t130 0) 2) != 0), .slice none 0 0]) ?_ 3 _ rfl; (with_reducible repeat (first | refine blk_drewN ?_ _ | refine blk_drew ?_ | refine blk_alloc ?_ _)); refine blk_put (cs := #[.string t126, .bool ((Go.bits .and .i64 (rd t130 0) 1) != 0), .bool false, .slice none 0 0]) ?_ 2 _ rfl; (with_reducible repeat (first | refine blk_drewN ?_ _ | refine blk_drew ?_ | refine blk_alloc ?_ _)); refine blk_put (cs := #[.string t126, .bool false, .bool false, .slice none 0 0]) ?_ 1 _ rfl; (with_reducible repeat (first | refine blk_drewN ?_ _ | refine blk_drew ?_ | refine blk_alloc ?_ _)); refine blk_put (cs := #[.string (⟨#[]⟩ : ByteArray), .bool false, .bool false, .slice none 0 0]) ?_ 0 _ rfl; (with_reducible repeat (first | refine blk_drewN ?_ _ | refine blk_drew ?_ | refine blk_alloc ?_ _)); exact BK125.out) Try.underlying41 rfl (by kernel_rfl)) rfl ?_
                        exact ⟨_, by first | rfl | (simp [errW_none, errW_some] <;> rfl) | (simp [*, errW_none, errW_some] <;> rfl), by (with_reducible repeat (first | apply Kd.R_alloc | apply Kd.R_drewN | apply Kd.R_drew)); exact Kd.R_mono (Kd.R_far (p := ⟨gb125, 3, none⟩) (Kd.R_far (p := ⟨gb125, 2, none⟩) (Kd.R_far (p := ⟨gb125, 1, none⟩) (Kd.R_far (p := ⟨gb125, 0, none⟩) (Kd.R_types HO_139003.out BK125.out (by decide)) (fun _ hk => hk.2) (.string t126)) (fun _ hk => hk.2) (.bool ((Go.bits .and .i64 (rd t130 0) 1) != 0))) (fun _ hk => hk.2) (.bool ((Go.bits .and .i64 (rd t130 0) 2) != 0))) (fun _ hk => hk.2) (.slice Ao50 x139003_1.length co50)) (fun _ hk => trivial), by repeat (first | (with_reducible first | exact HB.out | apply below_alloc | apply pw_below_drewN | apply below_drew1 | refine below_set ?_ GE125.out | refine below_set ?_ GE138.out) | exact HB.out)⟩
                · rw [if_neg c17] at H
                  exact absurd H (by simp)
            · rw [if_neg c9] at H
              exact absurd H (by simp)
          · rw [if_neg c8] at H
            have c8b0 : (((t130.length : Int) % 5) == 1) = false := beq_eq_false_iff_ne.mpr c8
            have c8b1 : (((t130.length : Int) % 5) != 1) = true := bne_iff_ne.mpr c8
            simp only [Option.some.injEq, Prod.mk.injEq] at H
            obtain ⟨rfl, rfl, rfl, rfl, rfl, rfl⟩ := H
            go_enter Try.func13, Try.ntmps13
            go_wp2_with (first | ((with_reducible refine gate_dst (N := 2) rfl ?_); refine box_event ?hg (N := 2) ?hd (cs := #[.string (⟨#[]⟩ : ByteArray), .bool false, .bool false, .slice none 0 0]) (t := 41) ?hr ?_; (case hd => rfl); (case hg => rfl); (case hr => first | (go_simp; done) | (go_simp; rfl)); intro gb125 hg w51 hbox hb; have n0_ := Aside0.mk (below_step (by repeat (first | (with_reducible first | exact HB.out | apply below_alloc | apply pw_below_drewN | apply below_drew1) | exact HB.out)) hb); have n1_ := Aside0.mk (hbox); have n2_ := Aside0.mk ((by rw [hg]; exact (below_size (by repeat (first | (with_reducible first | exact HB.out | apply below_alloc | apply pw_below_drewN | apply below_drew1) | exact HB.out))) : w.heap.size ≤ gb125)); have n3_ := Aside0.mk ((by rw [hg]; exact (below_size (by repeat (first | (with_reducible first | exact HB.out | apply below_alloc | apply pw_below_drewN | apply below_drew1) | exact HB.out))) : w.heap.size ≤ gb125)); clear HB; have HB := n0_; have BK125 := n1_; have GW125 := n2_; have GE125 := n3_; clear n0_ n1_ n2_ n3_; clear hb hbox hg) | ((with_reducible refine gate_callee (f := 24) rfl ?_); refine goesL_ (some 13) rfl rfl Try.func24 (by kernel_rfl) rfl #[.slice A0 l0.length c0] rfl (by (try simp only [List.map_toArray, List.map_cons, List.map_nil]); first | done | rfl | (simp only [List.length_drop, List.length_take]; rfl)) ?_; (with_reducible refine (wire_TakeText.calls _ _ l0 t126 t127 t128 _ ?side1 ?side2 A2.out).mono ?_); (case side1 => repeat (first | exact (Kd.C_below HR0.out HB.out) | (with_reducible refine Kd.C_alloc ?_ _) | (with_reducible refine Kd.C_drewN ?_ _) | (with_reducible refine Kd.C_drew ?_))); (case side2 => exact HC0.out); rintro e w52 ⟨rfl, hb⟩; refine ⟨_, rfl, ?_⟩; have n0_ := Aside0.mk (blk_below (g := gb125) (o := .cells #[.string (⟨#[]⟩ : ByteArray), .bool false, .bool false, .slice none 0 0] 41 (0, 0)) (by (with_reducible repeat (first | refine blk_drewN ?_ _ | refine blk_drew ?_ | refine blk_alloc ?_ _)); exact BK125.out) hb); have n1_ := Aside0.mk (below_step (by repeat (first | (with_reducible first | exact HB.out | apply below_alloc | apply pw_below_drewN | apply below_drew1 | refine below_set ?_ GE125.out) | exact HB.out)) hb); clear BK125; clear HB; have BK125 := n0_; have HB := n1_; clear n0_ n1_; (try clear hb); (try clear hb2); (try clear hk); (try clear hi); obtain ⟨i053, hi053, _, hsz53, _⟩ := info_parts info5; obtain ⟨A53, hcut53, hA53, hC53⟩ := print_drop_of (P := Try.prog) (Value.int .u8) 0 22 5 .i64 Try.underlying22 hi053 hsz53 A0 c0 l0 t127 (of_decide_eq_true (by first | (with_reducible assumption) | assumption)) (of_decide_eq_true (by first | (with_reducible assumption) | assumption)) HC0.out; have HR129 := Aside0.mk (Kd.C_of_reads (h1 := fun _ => rfl) (hA53 _ (Kd.reads_of_C HR0.out))); have HC129 := Aside0.mk hC53; clear hA53 hC53 hi053 hsz53) | ((with_reducible refine gate_callee (f := 25) rfl ?_); refine goesL_ (some 25) rfl rfl Try.func25 (by kernel_rfl) rfl #[.slice A53 (l0.drop (t127 : Int).toNat).length (c0 - t127.toNat)] rfl (by (try simp only [List.map_toArray, List.map_cons, List.map_nil]); first | done | (rw [show (l0.drop (t127 : Int).toNat).length = (l0.length - t127.toNat) from List.length_drop] <;> rfl) | rfl | (simp only [List.length_drop, List.length_take]; rfl)) ?_; (with_reducible refine (wire_TakeInts.calls k _ _ (l0.drop (t127 : Int).toNat) t130 t131 t132 _ ?side1 ?side2 A6.out).mono ?_); (case side1 => repeat (first | exact (Kd.C_below HR129.out HB.out) | (with_reducible refine Kd.C_alloc ?_ _) | (with_reducible refine Kd.C_drewN ?_ _) | (with_reducible refine Kd.C_drew ?_))); (case side2 => exact HC129.out); rintro e w54 ⟨v133, rfl, ho0, hb⟩; refine ⟨_, rfl, ?_⟩; have n0_ := Aside0.mk (Kd.R_lower ho0 (below_size (by repeat (first | (with_reducible first | exact HB.out | apply below_alloc | apply pw_below_drewN | apply below_drew1 | refine below_set ?_ GE125.out) | exact HB.out)))); have n1_ := Aside0.mk (blk_below (g := gb125) (o := .cells #[.string (⟨#[]⟩ : ByteArray), .bool false, .bool false, .slice none 0 0] 41 (0, 0)) (by (with_reducible repeat (first | refine blk_drewN ?_ _ | refine blk_drew ?_ | refine blk_alloc ?_ _)); exact BK125.out) hb); have n2_ := Aside0.mk (below_step (by repeat (first | (with_reducible first | exact HB.out | apply below_alloc | apply pw_below_drewN | apply below_drew1 | refine below_set ?_ GE125.out) | exact HB.out)) hb); clear BK125; clear HB; have HO134 := n0_; have BK125 := n1_; have HB := n2_; clear n0_ n1_ n2_; (try clear hb); (try clear hb2); (try clear hk); (try clear hi); (try clear ho0); obtain ⟨Ao55, co55, eo55⟩ := Kd.R_slice HO134.out; subst eo55; have hcz56_0 : w54.cell? ⟨gb125, 0, none⟩ = some (.string (⟨#[]⟩ : ByteArray)) := (blk_cell BK125.out 0).trans rfl; have hcz56_1 : w54.cell? ⟨gb125, 1, none⟩ = some (.bool false) := (blk_cell BK125.out 1).trans rfl; have hcz56_2 : w54.cell? ⟨gb125, 2, none⟩ = some (.bool false) := (blk_cell BK125.out 2).trans rfl; have hcz56_3 : w54.cell? ⟨gb125, 3, none⟩ = some (.slice none 0 0) := (blk_cell BK125.out 3).trans rfl; have hfz56_0 := blk_frozen BK125.out 0; have hfz56_1 := blk_frozen BK125.out 1; have hfz56_2 := blk_frozen BK125.out 2; have hfz56_3 := blk_frozen BK125.out 3))
            refine bodyPost_ret (results_ctt rfl _ _ gb125 41 #[.string (⟨#[]⟩ : ByteArray), .bool false, .bool false, .slice none 0 0] (0, 0) _ rfl (by (with_reducible repeat (first | refine blk_drewN ?_ _ | refine blk_drew ?_ | refine blk_alloc ?_ _)); refine blk_put (cs := #[.string (⟨#[]⟩ : ByteArray), .bool false, .bool false, .slice none 0 0]) ?_ 3 _ rfl; (with_reducible repeat (first | refine blk_drewN ?_ _ | refine blk_drew ?_ | refine blk_alloc ?_ _)); refine blk_put (cs := #[.string (⟨#[]⟩ : ByteArray), .bool false, .bool false, .slice none 0 0]) ?_ 2 _ rfl; (with_reducible repeat (first | refine blk_drewN ?_ _ | refine blk_drew ?_ | refine blk_alloc ?_ _)); refine blk_put (cs := #[.string (⟨#[]⟩ : ByteArray), .bool false, .bool false, .slice none 0 0]) ?_ 1 _ rfl; (with_reducible repeat (first | refine blk_drewN ?_ _ | refine blk_drew ?_ | refine blk_alloc ?_ _)); refine blk_put (cs := #[.string (⟨#[]⟩ : ByteArray), .bool false, .bool false, .slice none 0 0]) ?_ 0 _ rfl; (with_reducible repeat (first | refine blk_drewN ?_ _ | refine blk_drew ?_ | refine blk_alloc ?_ _)); exact BK125.out) Try.underlying41 rfl (by kernel_rfl)) rfl ?_
            exact ⟨_, by first | rfl | (simp [errW_none, errW_some] <;> rfl) | (simp [*, errW_none, errW_some] <;> rfl), by first | exact Kd.R_nil _ _ _ _ _ | exact Kd.N_nil _ _ _ _ _ | exact Kd.V_nil _ _ _ _ _ | exact Kd.Q_nil _ _ _ _ _ | exact Kd.S_nil _ _ _ _ _, by repeat (first | (with_reducible first | exact HB.out | apply below_alloc | apply pw_below_drewN | apply below_drew1 | refine below_set ?_ GE125.out) | exact HB.out)⟩
        · rw [if_neg c7] at H
          have c7b0 : (t132 == 0) = false := beq_eq_false_iff_ne.mpr c7
          have c7b1 : (t132 != 0) = true := bne_iff_ne.mpr c7
          simp only [Option.some.injEq, Prod.mk.injEq] at H
          obtain ⟨rfl, rfl, rfl, rfl, rfl, rfl⟩ := H
          go_enter Try.func13, Try.ntmps13
          go_wp2_with (first | ((with_reducible refine gate_dst (N := 2) rfl ?_); refine box_event ?hg (N := 2) ?hd (cs := #[.string (⟨#[]⟩ : ByteArray), .bool false, .bool false, .slice none 0 0]) (t := 41) ?hr ?_; (case hd => rfl); (case hg => rfl); (case hr => first | (go_simp; done) | (go_simp; rfl)); intro gb125 hg w57 hbox hb; have n0_ := Aside0.mk (below_step (by repeat (first | (with_reducible first | exact HB.out | apply below_alloc | apply pw_below_drewN | apply below_drew1) | exact HB.out)) hb); have n1_ := Aside0.mk (hbox); have n2_ := Aside0.mk ((by rw [hg]; exact (below_size (by repeat (first | (with_reducible first | exact HB.out | apply below_alloc | apply pw_below_drewN | apply below_drew1) | exact HB.out))) : w.heap.size ≤ gb125)); have n3_ := Aside0.mk ((by rw [hg]; exact (below_size (by repeat (first | (with_reducible first | exact HB.out | apply below_alloc | apply pw_below_drewN | apply below_drew1) | exact HB.out))) : w.heap.size ≤ gb125)); clear HB; have HB := n0_; have BK125 := n1_; have GW125 := n2_; have GE125 := n3_; clear n0_ n1_ n2_ n3_; clear hb hbox hg) | ((with_reducible refine gate_callee (f := 24) rfl ?_); refine goesL_ (some 13) rfl rfl Try.func24 (by kernel_rfl) rfl #[.slice A0 l0.length c0] rfl (by (try simp only [List.map_toArray, List.map_cons, List.map_nil]); first | done | rfl | (simp only [List.length_drop, List.length_take]; rfl)) ?_; (with_reducible refine (wire_TakeText.calls _ _ l0 t126 t127 t128 _ ?side1 ?side2 A2.out).mono ?_); (case side1 => repeat (first | exact (Kd.C_below HR0.out HB.out) | (with_reducible refine Kd.C_alloc ?_ _) | (with_reducible refine Kd.C_drewN ?_ _) | (with_reducible refine Kd.C_drew ?_))); (case side2 => exact HC0.out); rintro e w58 ⟨rfl, hb⟩; refine ⟨_, rfl, ?_⟩; have n0_ := Aside0.mk (blk_below (g := gb125) (o := .cells #[.string (⟨#[]⟩ : ByteArray), .bool false, .bool false, .slice none 0 0] 41 (0, 0)) (by (with_reducible repeat (first | refine blk_drewN ?_ _ | refine blk_drew ?_ | refine blk_alloc ?_ _)); exact BK125.out) hb); have n1_ := Aside0.mk (below_step (by repeat (first | (with_reducible first | exact HB.out | apply below_alloc | apply pw_below_drewN | apply below_drew1 | refine below_set ?_ GE125.out) | exact HB.out)) hb); clear BK125; clear HB; have BK125 := n0_; have HB := n1_; clear n0_ n1_; (try clear hb); (try clear hb2); (try clear hk); (try clear hi); obtain ⟨i059, hi059, _, hsz59, _⟩ := info_parts info5; obtain ⟨A59, hcut59, hA59, hC59⟩ := print_drop_of (P := Try.prog) (Value.int .u8) 0 22 5 .i64 Try.underlying22 hi059 hsz59 A0 c0 l0 t127 (of_decide_eq_true (by first | (with_reducible assumption) | assumption)) (of_decide_eq_true (by first | (with_reducible assumption) | assumption)) HC0.out; have HR129 := Aside0.mk (Kd.C_of_reads (h1 := fun _ => rfl) (hA59 _ (Kd.reads_of_C HR0.out))); have HC129 := Aside0.mk hC59; clear hA59 hC59 hi059 hsz59) | ((with_reducible refine gate_callee (f := 25) rfl ?_); refine goesL_ (some 25) rfl rfl Try.func25 (by kernel_rfl) rfl #[.slice A59 (l0.drop (t127 : Int).toNat).length (c0 - t127.toNat)] rfl (by (try simp only [List.map_toArray, List.map_cons, List.map_nil]); first | done | (rw [show (l0.drop (t127 : Int).toNat).length = (l0.length - t127.toNat) from List.length_drop] <;> rfl) | rfl | (simp only [List.length_drop, List.length_take]; rfl)) ?_; (with_reducible refine (wire_TakeInts.calls k _ _ (l0.drop (t127 : Int).toNat) t130 t131 t132 _ ?side1 ?side2 A6.out).mono ?_); (case side1 => repeat (first | exact (Kd.C_below HR129.out HB.out) | (with_reducible refine Kd.C_alloc ?_ _) | (with_reducible refine Kd.C_drewN ?_ _) | (with_reducible refine Kd.C_drew ?_))); (case side2 => exact HC129.out); rintro e w60 ⟨v133, rfl, ho0, hb⟩; refine ⟨_, rfl, ?_⟩; have n0_ := Aside0.mk (Kd.R_lower ho0 (below_size (by repeat (first | (with_reducible first | exact HB.out | apply below_alloc | apply pw_below_drewN | apply below_drew1 | refine below_set ?_ GE125.out) | exact HB.out)))); have n1_ := Aside0.mk (blk_below (g := gb125) (o := .cells #[.string (⟨#[]⟩ : ByteArray), .bool false, .bool false, .slice none 0 0] 41 (0, 0)) (by (with_reducible repeat (first | refine blk_drewN ?_ _ | refine blk_drew ?_ | refine blk_alloc ?_ _)); exact BK125.out) hb); have n2_ := Aside0.mk (below_step (by repeat (first | (with_reducible first | exact HB.out | apply below_alloc | apply pw_below_drewN | apply below_drew1 | refine below_set ?_ GE125.out) | exact HB.out)) hb); clear BK125; clear HB; have HO134 := n0_; have BK125 := n1_; have HB := n2_; clear n0_ n1_ n2_; (try clear hb); (try clear hb2); (try clear hk); (try clear hi); (try clear ho0); have hcz61_0 : w60.cell? ⟨gb125, 0, none⟩ = some (.string (⟨#[]⟩ : ByteArray)) := (blk_cell BK125.out 0).trans rfl; have hcz61_1 : w60.cell? ⟨gb125, 1, none⟩ = some (.bool false) := (blk_cell BK125.out 1).trans rfl; have hcz61_2 : w60.cell? ⟨gb125, 2, none⟩ = some (.bool false) := (blk_cell BK125.out 2).trans rfl; have hcz61_3 : w60.cell? ⟨gb125, 3, none⟩ = some (.slice none 0 0) := (blk_cell BK125.out 3).trans rfl; have hfz61_0 := blk_frozen BK125.out 0; have hfz61_1 := blk_frozen BK125.out 1; have hfz61_2 := blk_frozen BK125.out 2; have hfz61_3 := blk_frozen BK125.out 3))
          refine bodyPost_ret (results_ctt rfl _ _ gb125 41 #[.string (⟨#[]⟩ : ByteArray), .bool false, .bool false, .slice none 0 0] (0, 0) _ rfl (by (with_reducible repeat (first | refine blk_drewN ?_ _ | refine blk_drew ?_ | refine blk_alloc ?_ _)); refine blk_put (cs := #[.string (⟨#[]⟩ : ByteArray), .bool false, .bool false, .slice none 0 0]) ?_ 3 _ rfl; (with_reducible repeat (first | refine blk_drewN ?_ _ | refine blk_drew ?_ | refine blk_alloc ?_ _)); refine blk_put (cs := #[.string (⟨#[]⟩ : ByteArray), .bool false, .bool false, .slice none 0 0]) ?_ 2 _ rfl; (with_reducible repeat (first | refine blk_drewN ?_ _ | refine blk_drew ?_ | refine blk_alloc ?_ _)); refine blk_put (cs := #[.string (⟨#[]⟩ : ByteArray), .bool false, .bool false, .slice none 0 0]) ?_ 1 _ rfl; (with_reducible repeat (first | refine blk_drewN ?_ _ | refine blk_drew ?_ | refine blk_alloc ?_ _)); refine blk_put (cs := #[.string (⟨#[]⟩ : ByteArray), .bool false, .bool false, .slice none 0 0]) ?_ 0 _ rfl; (with_reducible repeat (first | refine blk_drewN ?_ _ | refine blk_drew ?_ | refine blk_alloc ?_ _)); exact BK125.out) Try.underlying41 rfl (by kernel_rfl)) rfl ?_
          exact ⟨_, by first | rfl | (simp [errW_none, errW_some] <;> rfl) | (simp [*, errW_none, errW_some] <;> rfl), by first | exact Kd.R_nil _ _ _ _ _ | exact Kd.N_nil _ _ _ _ _ | exact Kd.V_nil _ _ _ _ _ | exact Kd.Q_nil _ _ _ _ _ | exact Kd.S_nil _ _ _ _ _, by repeat (first | (with_reducible first | exact HB.out | apply below_alloc | apply pw_below_drewN | apply below_drew1 | refine below_set ?_ GE125.out) | exact HB.out)⟩
      · rw [if_neg c5] at H
        exact absurd H (by simp)
    · rw [if_neg c4] at H
      exact absurd H (by simp)
  · rw [if_neg c3] at H
    have c3b0 : (t128 == 0) = false := beq_eq_false_iff_ne.mpr c3
    have c3b1 : (t128 != 0) = true := bne_iff_ne.mpr c3
    simp only [Option.some.injEq, Prod.mk.injEq] at H
    obtain ⟨rfl, rfl, rfl, rfl, rfl, rfl⟩ := H
    go_enter Try.func13, Try.ntmps13
    go_wp2_with (first | ((with_reducible refine gate_dst (N := 2) rfl ?_); refine box_event ?hg (N := 2) ?hd (cs := #[.string (⟨#[]⟩ : ByteArray), .bool false, .bool false, .slice none 0 0]) (t := 41) ?hr ?_; (case hd => rfl); (case hg => rfl); (case hr => first | (go_simp; done) | (go_simp; rfl)); intro gb125 hg w62 hbox hb; have n0_ := Aside0.mk (below_step (by repeat (first | (with_reducible first | exact HB.out | apply below_alloc | apply pw_below_drewN | apply below_drew1) | exact HB.out)) hb); have n1_ := Aside0.mk (hbox); have n2_ := Aside0.mk ((by rw [hg]; exact (below_size (by repeat (first | (with_reducible first | exact HB.out | apply below_alloc | apply pw_below_drewN | apply below_drew1) | exact HB.out))) : w.heap.size ≤ gb125)); have n3_ := Aside0.mk ((by rw [hg]; exact (below_size (by repeat (first | (with_reducible first | exact HB.out | apply below_alloc | apply pw_below_drewN | apply below_drew1) | exact HB.out))) : w.heap.size ≤ gb125)); clear HB; have HB := n0_; have BK125 := n1_; have GW125 := n2_; have GE125 := n3_; clear n0_ n1_ n2_ n3_; clear hb hbox hg) | ((with_reducible refine gate_callee (f := 24) rfl ?_); refine goesL_ (some 13) rfl rfl Try.func24 (by kernel_rfl) rfl #[.slice A0 l0.length c0] rfl (by (try simp only [List.map_toArray, List.map_cons, List.map_nil]); first | done | rfl | (simp only [List.length_drop, List.length_take]; rfl)) ?_; (with_reducible refine (wire_TakeText.calls _ _ l0 t126 t127 t128 _ ?side1 ?side2 A2.out).mono ?_); (case side1 => repeat (first | exact (Kd.C_below HR0.out HB.out) | (with_reducible refine Kd.C_alloc ?_ _) | (with_reducible refine Kd.C_drewN ?_ _) | (with_reducible refine Kd.C_drew ?_))); (case side2 => exact HC0.out); rintro e w63 ⟨rfl, hb⟩; refine ⟨_, rfl, ?_⟩; have n0_ := Aside0.mk (blk_below (g := gb125) (o := .cells #[.string (⟨#[]⟩ : ByteArray), .bool false, .bool false, .slice none 0 0] 41 (0, 0)) (by (with_reducible repeat (first | refine blk_drewN ?_ _ | refine blk_drew ?_ | refine blk_alloc ?_ _)); exact BK125.out) hb); have n1_ := Aside0.mk (below_step (by repeat (first | (with_reducible first | exact HB.out | apply below_alloc | apply pw_below_drewN | apply below_drew1 | refine below_set ?_ GE125.out) | exact HB.out)) hb); clear BK125; clear HB; have BK125 := n0_; have HB := n1_; clear n0_ n1_; (try clear hb); (try clear hb2); (try clear hk); (try clear hi); have hcz64_0 : w63.cell? ⟨gb125, 0, none⟩ = some (.string (⟨#[]⟩ : ByteArray)) := (blk_cell BK125.out 0).trans rfl; have hcz64_1 : w63.cell? ⟨gb125, 1, none⟩ = some (.bool false) := (blk_cell BK125.out 1).trans rfl; have hcz64_2 : w63.cell? ⟨gb125, 2, none⟩ = some (.bool false) := (blk_cell BK125.out 2).trans rfl; have hcz64_3 : w63.cell? ⟨gb125, 3, none⟩ = some (.slice none 0 0) := (blk_cell BK125.out 3).trans rfl; have hfz64_0 := blk_frozen BK125.out 0; have hfz64_1 := blk_frozen BK125.out 1; have hfz64_2 := blk_frozen BK125.out 2; have hfz64_3 := blk_frozen BK125.out 3))
    refine bodyPost_ret (results_ctt rfl _ _ gb125 41 #[.string (⟨#[]⟩ : ByteArray), .bool false, .bool false, .slice none 0 0] (0, 0) _ rfl (by (with_reducible repeat (first | refine blk_drewN ?_ _ | refine blk_drew ?_ | refine blk_alloc ?_ _)); refine blk_put (cs := #[.string (⟨#[]⟩ : ByteArray), .bool false, .bool false, .slice none 0 0]) ?_ 3 _ rfl; (with_reducible repeat (first | refine blk_drewN ?_ _ | refine blk_drew ?_ | refine blk_alloc ?_ _)); refine blk_put (cs := #[.string (⟨#[]⟩ : ByteArray), .bool false, .bool false, .slice none 0 0]) ?_ 2 _ rfl; (with_reducible repeat (first | refine blk_drewN ?_ _ | refine blk_drew ?_ | refine blk_alloc ?_ _)); refine blk_put (cs := #[.string (⟨#[]⟩ : ByteArray), .bool false, .bool false, .slice none 0 0]) ?_ 1 _ rfl; (with_reducible repeat (first | refine blk_drewN ?_ _ | refine blk_drew ?_ | refine blk_alloc ?_ _)); refine blk_put (cs := #[.string (⟨#[]⟩ : ByteArray), .bool false, .bool false, .slice none 0 0]) ?_ 0 _ rfl; (with_reducible repeat (first | refine blk_drewN ?_ _ | refine blk_drew ?_ | refine blk_alloc ?_ _)); exact BK125.out) Try.underlying41 rfl (by kernel_rfl)) rfl ?_
    exact ⟨_, by first | rfl | (simp [errW_none, errW_some] <;> rfl) | (simp [*, errW_none, errW_some] <;> rfl), by first | exact Kd.R_nil _ _ _ _ _ | exact Kd.N_nil _ _ _ _ _ | exact Kd.V_nil _ _ _ _ _ | exact Kd.Q_nil _ _ _ _ _ | exact Kd.S_nil _ _ _ _ _, by repeat (first | (with_reducible first | exact HB.out | apply below_alloc | apply pw_below_drewN | apply below_drew1 | refine below_set ?_ GE125.out) | exact HB.out)⟩

end Go.Proofs.Ytckijljnomojiaa.PTypesBack
