-- laid by wip/tools/mkprint.py, a turned copy of the print
import Derived.Test.YtckijljnomojiaaPTypesParsesx0
import Derived.Test.YtckijljnomojiaaPTypesParsesx6
import Derived.Test.YtckijljnomojiaaPTypesParsesx8
namespace Go.Proofs.Ytckijljnomojiaa.PTypesParses
open Go.RowKit Go.Proofs.YtckijljnomojiaaW.PrintWords Go.Proofs.YtckijljnomojiaaW.PrintLast Go.Proofs.YtckijljnomojiaaW.PrintMore
attribute [local go_sem] max2_int min2_int max_two min_two max_three min_three max_four min_four   -- for this text's walks alone
set_option linter.unusedVariables false
set_option linter.unusedSimpArgs false

/-! ### turnbuckleref05_Parse: function 7 -/
mutual
def turnbuckleref05_Parse.l0 : Nat → List Int → Int → Int → List (S41) → Int → Option ((List (S41)) × Int × Int)
  | 0, _, _, _, _, _ => none
  | k + 1, x0, x5, x6, x8, x9 => if x9 < (wrap64 (x5)) then (if 0 ≤ x6 then (if x6 ≤ (x0.length : Int) then ((turnbuckleref04_TakeText.f (x0.drop (x6 : Int).toNat)).bind fun bt212 => (if bt212.2.2 = 0 then (if 0 ≤ (wrap64 (x6 + bt212.2.1)) then (if (wrap64 (x6 + bt212.2.1)) ≤ (x0.length : Int) then ((turnbuckleref04_TakeInts.f k (x0.drop ((wrap64 (x6 + bt212.2.1)) : Int).toNat)).bind fun bt216 => (if bt216.2.2 = 0 then (if ((bt216.1.length : Int) % 5) = 1 then (if 0 < (bt216.1.length : Int) then (turnbuckleref05_Parse.j1 k x0 x5 (wrap64 ((wrap64 (x6 + bt212.2.1)) + bt216.2.1)) x8 x9 bt212.1 bt216.1 (decide ((rd bt216.1 0) > 3))) else (none)) else (turnbuckleref05_Parse.j1 k x0 x5 (wrap64 ((wrap64 (x6 + bt212.2.1)) + bt216.2.1)) x8 x9 bt212.1 bt216.1 true)) else (some (([] : List (S41)), 0, bt216.2.2)))) else (none)) else (none)) else (some (([] : List (S41)), 0, bt212.2.2)))) else (none)) else (none)) else ((turnbuckleref05_Check.f x8).bind fun bt209 => (if bt209.2 = 0 then (some (x8, x6, 0)) else (some (([] : List (S41)), 0, bt209.2))))
def turnbuckleref05_Parse.j1 : Nat → List Int → Int → Int → List (S41) → Int → ByteArray → List Int → Bool → Option ((List (S41)) × Int × Int)
  | 0, _, _, _, _, _, _, _, _ => none
  | k + 1, x0, x5, x6, x8, x9, x10, x13, x72 => if x72 = true then (some (([] : List (S41)), 0, 3)) else (if 0 < (x13.length : Int) then (turnbuckleref05_Parse.l1 k x0 x5 x6 x8 x9 x13 1 x10 ((Int.tmod (rd x13 0) 2) == 1) (decide ((rd x13 0) > 1)) ([] : List (S38))) else (none))
def turnbuckleref05_Parse.l1 : Nat → List Int → Int → Int → List (S41) → Int → List Int → Int → ByteArray → Bool → Bool → List (S38) → Option ((List (S41)) × Int × Int)
  | 0, _, _, _, _, _, _, _, _, _, _, _ => none
  | k + 1, x0, x5, x6, x8, x9, x13, x17, x225000, x225001, x225002, x225003 => if x17 < (x13.length : Int) then (if 0 ≤ x17 then (if 0 ≤ (wrap64 (x17 + 1)) then (if (wrap64 (x17 + 1)) < (x13.length : Int) then (if 0 ≤ (wrap64 (x17 + 2)) then (if (wrap64 (x17 + 2)) < (x13.length : Int) then (if 0 ≤ (wrap64 (x17 + 3)) then (if (wrap64 (x17 + 3)) < (x13.length : Int) then (if 0 ≤ (wrap64 (x17 + 4)) then (if (wrap64 (x17 + 4)) < (x13.length : Int) then (if x225003.length < 3518437208883 then (turnbuckleref05_Parse.l1 k x0 x5 x6 x8 x9 x13 (wrap64 (x17 + 5)) x225000 x225001 x225002 (x225003 ++ [(⟨rd x13 x17, rd x13 (wrap64 (x17 + 1)), rd x13 (wrap64 (x17 + 2)), rd x13 (wrap64 (x17 + 3)), rd x13 (wrap64 (x17 + 4))⟩ : S38)])) else (none)) else (none)) else (none)) else (none)) else (none)) else (none)) else (none)) else (none)) else (none)) else (none)) else (if x8.length < 2932031007402 then (turnbuckleref05_Parse.l0 k x0 x5 x6 (x8 ++ [(⟨x225000, x225001, x225002, x225003⟩ : S41)]) (wrap64 (x9 + 1))) else (none))
end
def turnbuckleref05_Parse.f (k : Nat) (l0 : List Int) : Option ((List (S41)) × Int × Int) := (turnbuckleref04_TakeNumber.f l0).bind fun bt206 => (if bt206.2.2 = 0 then (if bt206.1 > 32 then (some (([] : List (S41)), 0, 11)) else (turnbuckleref05_Parse.l0 k l0 bt206.1 bt206.2.1 ([] : List (S41)) 0)) else (some (([] : List (S41)), 0, bt206.2.2)))
theorem turnbuckleref05_Parse.mono_l : ∀ k, (∀ y0 y1 y2 y3 y4, LeO (turnbuckleref05_Parse.l0 k y0 y1 y2 y3 y4) (turnbuckleref05_Parse.l0 (k + 1) y0 y1 y2 y3 y4)) ∧ (∀ y0 y1 y2 y3 y4 y5 y6 y7, LeO (turnbuckleref05_Parse.j1 k y0 y1 y2 y3 y4 y5 y6 y7) (turnbuckleref05_Parse.j1 (k + 1) y0 y1 y2 y3 y4 y5 y6 y7)) ∧ (∀ y0 y1 y2 y3 y4 y5 y6 y7 y8 y9 y10, LeO (turnbuckleref05_Parse.l1 k y0 y1 y2 y3 y4 y5 y6 y7 y8 y9 y10) (turnbuckleref05_Parse.l1 (k + 1) y0 y1 y2 y3 y4 y5 y6 y7 y8 y9 y10))
  | 0 => ⟨fun _ _ _ _ _ r h => by simp [turnbuckleref05_Parse.l0] at h, fun _ _ _ _ _ _ _ _ r h => by simp [turnbuckleref05_Parse.j1] at h, fun _ _ _ _ _ _ _ _ _ _ _ r h => by simp [turnbuckleref05_Parse.l1] at h⟩
  | k + 1 => by
    obtain ⟨ih0, ih1, ih2⟩ := turnbuckleref05_Parse.mono_l k
    refine ⟨?_, ?_, ?_⟩
    · intro y0 y1 y2 y3 y4
      unfold turnbuckleref05_Parse.l0
      repeat' first
      | (with_reducible exact ih0 _ _ _ _ _)
      | (with_reducible exact ih1 _ _ _ _ _ _ _ _)
      | (with_reducible exact ih2 _ _ _ _ _ _ _ _ _ _ _)
      | (with_reducible exact turnbuckleref04_TakeInts.mono _ _)
      | (with_reducible exact LeO.refl _)
      | (with_reducible exact LeO.none _)
      | (with_reducible refine LeO.ite ?_ ?_)
      | (with_reducible refine LeO.bind ?_ (fun _ => ?_))
      | exact ih0 _ _ _ _ _
      | exact ih1 _ _ _ _ _ _ _ _
      | exact ih2 _ _ _ _ _ _ _ _ _ _ _
      | exact turnbuckleref04_TakeInts.mono _ _
      | exact LeO.none _
      | refine LeO.ite ?_ ?_
      | refine LeO.bind ?_ (fun _ => ?_)
    · intro y0 y1 y2 y3 y4 y5 y6 y7
      unfold turnbuckleref05_Parse.j1
      repeat' first
      | (with_reducible exact ih0 _ _ _ _ _)
      | (with_reducible exact ih1 _ _ _ _ _ _ _ _)
      | (with_reducible exact ih2 _ _ _ _ _ _ _ _ _ _ _)
      | (with_reducible exact turnbuckleref04_TakeInts.mono _ _)
      | (with_reducible exact LeO.refl _)
      | (with_reducible exact LeO.none _)
      | (with_reducible refine LeO.ite ?_ ?_)
      | (with_reducible refine LeO.bind ?_ (fun _ => ?_))
      | exact ih0 _ _ _ _ _
      | exact ih1 _ _ _ _ _ _ _ _
      | exact ih2 _ _ _ _ _ _ _ _ _ _ _
      | exact turnbuckleref04_TakeInts.mono _ _
      | exact LeO.none _
      | refine LeO.ite ?_ ?_
      | refine LeO.bind ?_ (fun _ => ?_)
    · intro y0 y1 y2 y3 y4 y5 y6 y7 y8 y9 y10
      unfold turnbuckleref05_Parse.l1
      repeat' first
      | (with_reducible exact ih0 _ _ _ _ _)
      | (with_reducible exact ih1 _ _ _ _ _ _ _ _)
      | (with_reducible exact ih2 _ _ _ _ _ _ _ _ _ _ _)
      | (with_reducible exact turnbuckleref04_TakeInts.mono _ _)
      | (with_reducible exact LeO.refl _)
      | (with_reducible exact LeO.none _)
      | (with_reducible refine LeO.ite ?_ ?_)
      | (with_reducible refine LeO.bind ?_ (fun _ => ?_))
      | exact ih0 _ _ _ _ _
      | exact ih1 _ _ _ _ _ _ _ _
      | exact ih2 _ _ _ _ _ _ _ _ _ _ _
      | exact turnbuckleref04_TakeInts.mono _ _
      | exact LeO.none _
      | refine LeO.ite ?_ ?_
      | refine LeO.bind ?_ (fun _ => ?_)
theorem turnbuckleref05_Parse.mono : ∀ a0 k, LeO (turnbuckleref05_Parse.f k a0) (turnbuckleref05_Parse.f (k + 1) a0) := by
  intro a0 k
  obtain ⟨ih0, ih1, ih2⟩ := turnbuckleref05_Parse.mono_l k
  unfold turnbuckleref05_Parse.f
  repeat' first
      | (with_reducible exact ih0 _ _ _ _ _)
      | (with_reducible exact ih1 _ _ _ _ _ _ _ _)
      | (with_reducible exact ih2 _ _ _ _ _ _ _ _ _ _ _)
      | (with_reducible exact turnbuckleref04_TakeInts.mono _ _)
      | (with_reducible exact LeO.refl _)
      | (with_reducible exact LeO.none _)
      | (with_reducible refine LeO.ite ?_ ?_)
      | (with_reducible refine LeO.bind ?_ (fun _ => ?_))
      | exact ih0 _ _ _ _ _
      | exact ih1 _ _ _ _ _ _ _ _
      | exact ih2 _ _ _ _ _ _ _ _ _ _ _
      | exact turnbuckleref04_TakeInts.mono _ _
      | exact LeO.none _
      | refine LeO.ite ?_ ?_
      | refine LeO.bind ?_ (fun _ => ?_)
def turnbuckleref05_Parse.T20 : Bool × List (List Nat × List Nat) := (true, [([], []), ([], []), ([1], [1]), ([2], [2]), ([3], [3]), ([4], [4]), ([], []), ([6], [6]), ([7], [7]), ([8], [8]), ([0, 5, 9], [0, 5, 9]), ([], []), ([11, 10, 0, 1, 2, 3, 4, 5, 6, 7, 8, 9, 10, 11], [10, 11])])
def turnbuckleref05_Parse.B20 : List Nat := [0, 0, 2, 6, 14, 30, 0, 64, 192, 448, 1023, 0, 4095]
theorem turnbuckleref05_Parse.tab20 : rtab .any (opsOf Try.f7 20) = turnbuckleref05_Parse.T20 := by kernel_rfl
theorem turnbuckleref05_Parse.bits20 : waitsOk turnbuckleref05_Parse.T20.2 turnbuckleref05_Parse.B20 = true := by kernel_rfl
def turnbuckleref05_Parse.T24 : Bool × List (List Nat × List Nat) := (true, [([], []), ([0], [0]), ([], []), ([], []), ([2, 3], [2, 3]), ([4], [4]), ([], []), ([], []), ([7], [7]), ([6, 8], [6, 8]), ([9], [9]), ([], []), ([], []), ([12], [12]), ([11, 13], [11, 13]), ([14], [14]), ([], []), ([], []), ([17], [17]), ([16, 18], [16, 18]), ([19], [19]), ([], []), ([], []), ([22], [22]), ([21, 23], [21, 23]), ([24], [24]), ([5, 10, 15, 20, 25], [5, 10, 15, 20, 25]), ([26], [26]), ([1, 27], [1, 27]), ([0, 1, 2, 3, 4, 5, 6, 7, 8, 9, 10, 11, 12, 13, 14, 15, 16, 17, 18, 19, 20, 21, 22, 23, 24, 25, 26, 27, 28], []), ([29, 28, 28, 0, 1, 2, 3, 4, 5, 6, 7, 8, 9, 10, 11, 12, 13, 14, 15, 16, 17, 18, 19, 20, 21, 22, 23, 24, 25, 26, 27, 28], [28, 29])])
def turnbuckleref05_Parse.B24 : List Nat := [0, 1, 0, 0, 12, 28, 0, 0, 128, 448, 960, 0, 0, 4096, 14336, 30720, 0, 0, 131072, 458752, 983040, 0, 0, 4194304, 14680064, 31457280, 67108860, 134217724, 268435455, 536870911, 1073741823]
theorem turnbuckleref05_Parse.tab24 : rtab .any (opsOf Try.f7 24) = turnbuckleref05_Parse.T24 := by kernel_rfl
theorem turnbuckleref05_Parse.bits24 : waitsOk turnbuckleref05_Parse.T24.2 turnbuckleref05_Parse.B24 = true := by kernel_rfl
set_option maxHeartbeats 8000000 in
set_option maxRecDepth 100000 in
theorem turnbuckleref05_Parse.calls (k : Nat) (A0 : Option Addr) (c0 : Nat) (l0 : List Int) (r1 : List (S41)) (r2 : Int) (r3 : Int) (w : World) (hr0 : Kd.C (Kd.int .u8) w A0 l0.length l0) (hc0 : l0.length ≤ c0) (h : turnbuckleref05_Parse.f k l0 = some (r1, r2, r3)) :
    Calls Try.prog 7 #[.slice A0 l0.length c0] w fun e w' => ∃ v0_ : Value, e = .returned (.tuple #[v0_, .int .i64 r2, .int .i64 r3]) ∧ Kd.S k41 41 w' w.heap.size (fun _ => True) v0_ r1 ∧ Below w.heap.size w w' := by
  have hu41 := Try.underlying41
  have hu38 := Try.underlying38
  have HR0 := Aside0.mk hr0
  have HC0 := Aside0.mk hc0
  clear hr0 hc0
  have HB := Aside0.mk (Below.refl w.heap.size w)
  have H : ((turnbuckleref04_TakeNumber.f l0).bind fun bt206 => (if bt206.2.2 = 0 then (if bt206.1 > 32 then (some (([] : List (S41)), 0, 11)) else (turnbuckleref05_Parse.l0 k l0 bt206.1 bt206.2.1 ([] : List (S41)) 0)) else (some (([] : List (S41)), 0, bt206.2.2)))) = some (r1, r2, r3) := h
  clear h
  replace H := Option.bind_eq_some_iff.mp H
  obtain ⟨⟨t206, t207, t208⟩, A20, H⟩ := H
  replace H : (if t208 = 0 then (if t206 > 32 then (some (([] : List (S41)), 0, 11)) else (turnbuckleref05_Parse.l0 k l0 t206 t207 ([] : List (S41)) 0)) else (some (([] : List (S41)), 0, t208))) = some (r1, r2, r3) := H
  have A2 := Aside0.mk A20
  clear A20
  by_cases c3 : t208 = 0
  · rw [if_pos c3] at H
    have c3b0 : (t208 == 0) = true := beq_iff_eq.mpr c3
    have c3b1 : (t208 != 0) = false := bne_eq_false_iff_eq.mpr c3
    clear c3
    by_cases c4 : t206 > 32
    · rw [if_pos c4] at H
      have c4b0 : decide (32 < t206) = true := decide_eq_true c4
      clear c4
      simp only [Option.some.injEq, Prod.mk.injEq] at H
      obtain ⟨rfl, rfl, rfl⟩ := H
      go_enter Try.func7, Try.ntmps7
      go_wp2_with (first | ((with_reducible refine gate_callee (f := 14) rfl ?_); refine goesL_ (some 20) rfl rfl Try.func14 (by kernel_rfl) rfl #[.slice A0 l0.length c0] rfl (by (try simp only [List.map_toArray, List.map_cons, List.map_nil]); first | done | rfl | (simp only [List.length_drop, List.length_take]; rfl)) ?_; (with_reducible refine (turnbuckleref04_TakeNumber.calls _ _ l0 t206 t207 t208 _ ?side1 ?side2 A2.out).mono ?_); (case side1 => repeat (first | exact HR0.out | (with_reducible refine Kd.C_alloc ?_ _) | (with_reducible refine Kd.C_drewN ?_ _) | (with_reducible refine Kd.C_drew ?_))); (case side2 => exact HC0.out); rintro e w' ⟨rfl, ⟨nd, rfl⟩⟩; refine ⟨_, rfl, ?_⟩))
      go_ret3
      exact ⟨_, by first | rfl | (simp [errW_none, errW_some] <;> rfl) | (simp [*, errW_none, errW_some] <;> rfl), by first | exact Kd.S_nil _ _ _ _ _ | exact Kd.N_nil _ _ _ _ _ | exact Kd.V_nil _ _ _ _ _ | exact Kd.Q_nil _ _ _ _ _ | exact Kd.R_nil _ _ _ _ _, by repeat (first | (with_reducible first | exact HB.out | apply below_alloc | apply pw_below_drewN | apply below_drew1) | exact HB.out)⟩
    · rw [if_neg c4] at H
      have c4b0 : decide (32 < t206) = false := decide_eq_false c4
      clear c4
      have H' := Aside0.mk H
      clear H
      go_enter Try.func7, Try.ntmps7
      go_wp2_with (first | ((with_reducible refine gate_callee (f := 14) rfl ?_); refine goesL_ (some 20) rfl rfl Try.func14 (by kernel_rfl) rfl #[.slice A0 l0.length c0] rfl (by (try simp only [List.map_toArray, List.map_cons, List.map_nil]); first | done | rfl | (simp only [List.length_drop, List.length_take]; rfl)) ?_; (with_reducible refine (turnbuckleref04_TakeNumber.calls _ _ l0 t206 t207 t208 _ ?side1 ?side2 A2.out).mono ?_); (case side1 => repeat (first | exact HR0.out | (with_reducible refine Kd.C_alloc ?_ _) | (with_reducible refine Kd.C_drewN ?_ _) | (with_reducible refine Kd.C_drew ?_))); (case side2 => exact HC0.out); rintro e w' ⟨rfl, ⟨nd, rfl⟩⟩; refine ⟨_, rfl, ?_⟩))
      go_loopg [6, 8, 9] k (fun kq v6 v8 v9 w' => ∃ (x6_1 : Int) (x8_1 : List (S41)) (x9_1 : Int), v6 = .int .i64 x6_1 ∧ v9 = .int .i64 x9_1 ∧ Aside0 (turnbuckleref05_Parse.l0 kq l0 t206 x6_1 x8_1 x9_1 = some (r1, r2, r3)) ∧ Aside0 (kq ≤ k) ∧ Aside0 (Kd.S k41 41 w' w.heap.size (fun _ => True) v8 x8_1) ∧ Aside0 (Below w.heap.size w w'))
      case atStart => exact ⟨(t207), (([] : List (S41))), (0), (by first | rfl | (simp; done) | (simp [*]; done)), (by first | rfl | (simp; done) | (simp [*]; done)), H', ⟨Nat.le_refl _⟩, ⟨by first | exact Kd.S_nil _ _ _ _ _ | exact Kd.N_nil _ _ _ _ _ | exact Kd.V_nil _ _ _ _ _ | exact Kd.Q_nil _ _ _ _ _ | exact Kd.R_nil _ _ _ _ _⟩, ⟨by repeat (first | (with_reducible first | exact HB.out | apply below_alloc | apply pw_below_drewN | apply below_drew1) | exact HB.out)⟩⟩
      case round =>
        clear H'
        try clear c1
        try clear p2
        try clear c3
        try clear c3b0
        try clear c3b1
        try clear c4
        try clear c4b0
        obtain ⟨x6_1, x8_1, x9_1, rfl, rfl, HA, HK1, HO_8, HB⟩ := hrel
        cases gk with
        | zero => exact absurd HA.out (by simp [turnbuckleref05_Parse.l0])
        | succ k1 =>
          have H := HA.out
          clear HA
          simp only [turnbuckleref05_Parse.l0] at H
          by_cases c5 : x9_1 < (wrap64 (t206))
          · rw [if_pos c5] at H
            have c5b0 : decide (x9_1 < (wrap64 (t206))) = true := decide_eq_true c5
            clear c5
            by_cases c6 : 0 ≤ x6_1
            · rw [if_pos c6] at H
              have c6b0 := eq_true c6
              have c6b1 : decide (0 ≤ x6_1) = true := decide_eq_true c6
              clear c6
              by_cases c7 : x6_1 ≤ (l0.length : Int)
              · rw [if_pos c7] at H
                have c7b0 := eq_true c7
                have c7b1 : decide (x6_1 ≤ (l0.length : Int)) = true := decide_eq_true c7
                clear c7
                replace H := Option.bind_eq_some_iff.mp H
                obtain ⟨⟨t212, t213, t214⟩, A80, H⟩ := H
                replace H : (if t214 = 0 then (if 0 ≤ (wrap64 (x6_1 + t213)) then (if (wrap64 (x6_1 + t213)) ≤ (l0.length : Int) then ((turnbuckleref04_TakeInts.f k1 (l0.drop ((wrap64 (x6_1 + t213)) : Int).toNat)).bind fun bt216 => (if bt216.2.2 = 0 then (if ((bt216.1.length : Int) % 5) = 1 then (if 0 < (bt216.1.length : Int) then (turnbuckleref05_Parse.j1 k1 l0 t206 (wrap64 ((wrap64 (x6_1 + t213)) + bt216.2.1)) x8_1 x9_1 t212 bt216.1 (decide ((rd bt216.1 0) > 3))) else (none)) else (turnbuckleref05_Parse.j1 k1 l0 t206 (wrap64 ((wrap64 (x6_1 + t213)) + bt216.2.1)) x8_1 x9_1 t212 bt216.1 true)) else (some (([] : List (S41)), 0, bt216.2.2)))) else (none)) else (none)) else (some (([] : List (S41)), 0, t214))) = some (r1, r2, r3) := H
                have A8 := Aside0.mk A80
                clear A80
                by_cases c9 : t214 = 0
                · rw [if_pos c9] at H
                  have c9b0 : (t214 == 0) = true := beq_iff_eq.mpr c9
                  have c9b1 : (t214 != 0) = false := bne_eq_false_iff_eq.mpr c9
                  clear c9
                  obtain ⟨ji10, hji10⟩ : ∃ j_ : Int, (wrap64 (x6_1 + t213)) = j_ := ⟨_, rfl⟩
                  replace H : (if 0 ≤ (ji10) then (if (ji10) ≤ (l0.length : Int) then ((turnbuckleref04_TakeInts.f k1 (l0.drop ((ji10) : Int).toNat)).bind fun bt216 => (if bt216.2.2 = 0 then (if ((bt216.1.length : Int) % 5) = 1 then (if 0 < (bt216.1.length : Int) then (turnbuckleref05_Parse.j1 k1 l0 t206 (wrap64 ((ji10) + bt216.2.1)) x8_1 x9_1 t212 bt216.1 (decide ((rd bt216.1 0) > 3))) else (none)) else (turnbuckleref05_Parse.j1 k1 l0 t206 (wrap64 ((ji10) + bt216.2.1)) x8_1 x9_1 t212 bt216.1 true)) else (some (([] : List (S41)), 0, bt216.2.2)))) else (none)) else (none)) = some (r1, r2, r3) := by first | (rw [hji10] at H; exact H) | (simp only [hji10] at H ⊢; exact H)
                  (try rw [hji10] at A8)
                  have hji10w : (IntKind.i64.wrap (x6_1 + t213)) = ji10 := (i64_w _).trans hji10
                  by_cases c11 : 0 ≤ (ji10)
                  · rw [if_pos c11] at H
                    have c11b0 := eq_true c11
                    have c11b1 : decide (0 ≤ (ji10)) = true := decide_eq_true c11
                    clear c11
                    by_cases c12 : (ji10) ≤ (l0.length : Int)
                    · rw [if_pos c12] at H
                      have c12b0 := eq_true c12
                      have c12b1 : decide ((ji10) ≤ (l0.length : Int)) = true := decide_eq_true c12
                      clear c12
                      replace H := Option.bind_eq_some_iff.mp H
                      obtain ⟨⟨t216, t217, t218⟩, A130, H⟩ := H
                      replace H : (if t218 = 0 then (if ((t216.length : Int) % 5) = 1 then (if 0 < (t216.length : Int) then (turnbuckleref05_Parse.j1 k1 l0 t206 (wrap64 ((ji10) + t217)) x8_1 x9_1 t212 t216 (decide ((rd t216 0) > 3))) else (none)) else (turnbuckleref05_Parse.j1 k1 l0 t206 (wrap64 ((ji10) + t217)) x8_1 x9_1 t212 t216 true)) else (some (([] : List (S41)), 0, t218))) = some (r1, r2, r3) := H
                      have A13 := Aside0.mk A130
                      clear A130
                      by_cases c14 : t218 = 0
                      · rw [if_pos c14] at H
                        have c14b0 : (t218 == 0) = true := beq_iff_eq.mpr c14
                        have c14b1 : (t218 != 0) = false := bne_eq_false_iff_eq.mpr c14
                        clear c14
                        have HC15 := Aside0.mk H
                        clear H
                        obtain ⟨i016, hi016, _, hsz16, _⟩ := info_parts info5
                        obtain ⟨A16, hcut16, hA16, hC16⟩ := print_drop_of (P := Try.prog) (Value.int .u8) 0 22 5 .i64 Try.underlying22 hi016 hsz16 A0 c0 l0 x6_1 (of_decide_eq_true (by first | (with_reducible assumption) | assumption)) (of_decide_eq_true (by first | (with_reducible assumption) | assumption)) HC0.out
                        have HR211 := Aside0.mk (Kd.C_of_reads (h1 := fun _ => rfl) (hA16 _ (Kd.reads_of_C HR0.out)))
                        have HC211 := Aside0.mk hC16
                        clear hA16 hC16 hi016 hsz16
                        go_upto_region 18 with (first | ((with_reducible refine gate_callee (f := 15) rfl ?_); refine goesL_ (some 39) rfl rfl Try.func15 (by kernel_rfl) rfl #[.slice A16 (l0.drop (x6_1 : Int).toNat).length (c0 - x6_1.toNat)] rfl (by (try simp only [List.map_toArray, List.map_cons, List.map_nil]); first | done | (rw [show (l0.drop (x6_1 : Int).toNat).length = (l0.length - x6_1.toNat) from List.length_drop] <;> rfl) | rfl | (simp only [List.length_drop, List.length_take]; rfl)) ?_; (with_reducible refine (turnbuckleref04_TakeText.calls _ _ (l0.drop (x6_1 : Int).toNat) t212 t213 t214 _ ?side1 ?side2 A8.out).mono ?_); (case side1 => repeat (first | exact (Kd.C_below HR211.out HB.out) | (with_reducible refine Kd.C_alloc ?_ _) | (with_reducible refine Kd.C_drewN ?_ _) | (with_reducible refine Kd.C_drew ?_))); (case side2 => exact HC211.out); rintro e w17 ⟨rfl, hb⟩; refine ⟨_, rfl, ?_⟩; have n0_ := Aside0.mk (Kd.S_below (by (with_reducible repeat (first | apply Kd.S_alloc | apply Kd.S_drewN | apply Kd.S_drew)); exact HO_8.out) hb); have n1_ := Aside0.mk (below_step (by repeat (first | (with_reducible first | exact HB.out | apply below_alloc | apply pw_below_drewN | apply below_drew1) | exact HB.out)) hb); clear HO_8; clear HB; have HO_8 := n0_; have HB := n1_; clear n0_ n1_; (try clear hb); (try clear hb2); (try clear hk); (try clear hi); obtain ⟨i018, hi018, _, hsz18, _⟩ := info_parts info5; obtain ⟨A18, hcut18, hA18, hC18⟩ := print_drop_of (P := Try.prog) (Value.int .u8) 0 22 5 .i64 Try.underlying22 hi018 hsz18 A0 c0 l0 (ji10) (of_decide_eq_true (by first | (with_reducible assumption) | assumption)) (of_decide_eq_true (by first | (with_reducible assumption) | assumption)) HC0.out; have HR215 := Aside0.mk (Kd.C_of_reads (h1 := fun _ => rfl) (hA18 _ (Kd.reads_of_C HR0.out))); have HC215 := Aside0.mk hC18; clear hA18 hC18 hi018 hsz18) | ((with_reducible refine gate_callee (f := 16) rfl ?_); refine goesL_ (some 53) rfl rfl Try.func16 (by kernel_rfl) rfl #[.slice A18 (l0.drop ((ji10) : Int).toNat).length (c0 - (ji10).toNat)] rfl (by (try simp only [List.map_toArray, List.map_cons, List.map_nil]); first | done | (rw [show (l0.drop ((ji10) : Int).toNat).length = (l0.length - (ji10).toNat) from List.length_drop] <;> rfl) | (simp only [hji10]; rfl) | rfl | (simp only [List.length_drop, List.length_take]; rfl)) ?_; (with_reducible refine (turnbuckleref04_TakeInts.calls k1 _ _ (l0.drop ((ji10) : Int).toNat) t216 t217 t218 _ ?side1 ?side2 A13.out).mono ?_); (case side1 => repeat (first | exact (Kd.C_below HR215.out HB.out) | (with_reducible refine Kd.C_alloc ?_ _) | (with_reducible refine Kd.C_drewN ?_ _) | (with_reducible refine Kd.C_drew ?_))); (case side2 => exact HC215.out); rintro e w19 ⟨v219, rfl, ho0, hb⟩; refine ⟨_, rfl, ?_⟩; have n0_ := Aside0.mk (Kd.S_below (by (with_reducible repeat (first | apply Kd.S_alloc | apply Kd.S_drewN | apply Kd.S_drew)); exact HO_8.out) hb); have n1_ := Aside0.mk (Kd.R_lower ho0 (below_size (by repeat (first | (with_reducible first | exact HB.out | apply below_alloc | apply pw_below_drewN | apply below_drew1) | exact HB.out)))); have n2_ := Aside0.mk (below_step (by repeat (first | (with_reducible first | exact HB.out | apply below_alloc | apply pw_below_drewN | apply below_drew1) | exact HB.out)) hb); clear HO_8; clear HB; have HO_8 := n0_; have HO220 := n1_; have HB := n2_; clear n0_ n1_ n2_; (try clear hb); (try clear hb2); (try clear hk); (try clear hi); (try clear ho0)))
                        (try simp only [Act.put, List.setIfInBounds_toArray, List.set_cons_zero, List.set_cons_succ])
                        go_cut [72] (fun v72 wc => ∃ (kq : Nat) (x72_14 : Bool), v72 = .bool x72_14 ∧ Aside0 (turnbuckleref05_Parse.j1 kq l0 t206 (wrap64 ((ji10) + t217)) x8_1 x9_1 t212 t216 x72_14 = some (r1, r2, r3)) ∧ Aside0 (kq ≤ k1) ∧ Aside0 (Kd.S k41 41 wc w.heap.size (fun _ => True) u8 x8_1) ∧ Aside0 (Kd.R (Kd.int .i64) 3 wc w.heap.size (fun _ => True) v219 t216) ∧ Aside0 (Below w.heap.size w wc))
                        case first =>
                          have H := HC15.out
                          clear HC15
                          by_cases c20 : ((t216.length : Int) % 5) = 1
                          · rw [if_pos c20] at H
                            have c20b0 : (((t216.length : Int) % 5) == 1) = true := beq_iff_eq.mpr c20
                            have c20b1 : (((t216.length : Int) % 5) != 1) = false := bne_eq_false_iff_eq.mpr c20
                            clear c20
                            (first | rw [c20b0] | (simp only [i64_w, i32_w]; rw [c20b0]) | skip)
                            by_cases c21 : 0 < (t216.length : Int)
                            · rw [if_pos c21] at H
                              have c21b0 : decide (0 < (t216.length : Int)) = true := decide_eq_true c21
                              have c21b1 : decide (0 < t216.length) = true := decide_eq_true (by omega)
                              clear c21
                              have H' := Aside0.mk H
                              clear H
                              obtain ⟨Ao22, co22, eo22⟩ := Kd.R_slice HO220.out
                              subst eo22
                              have p221 : 0 ≤ (0 : Int) := (by omega)
                              have q221 : 0 < (t216.length : Int) := of_decide_eq_true (by first | (with_reducible assumption) | assumption)
                              obtain ⟨ad221, e221, hx221_0⟩ := Kd.at_int (Kd.R_reads' HO220.out).2.2 0 p221 q221
                              cases e221
                              have qi221 : (0 < t216.length) = True := eq_true (by omega)
                              (try rw [show ((0 : Int)).toNat = 0 from rfl] at hx221_0)
                              (try rw [Addr.add_zero'] at hx221_0)
                              replace p221 := eq_true p221
                              replace q221 := eq_true q221
                              go_wp2
                              go_meet
                              case rel => exact ⟨_, (decide ((rd t216 0) > 3)), (by first | rfl | (simp; done) | (simp [*]; done)), H', ⟨by have := HK1.out; first | omega | exact Nat.le_refl _⟩, ⟨by (with_reducible repeat (first | apply Kd.S_alloc | apply Kd.S_drewN | apply Kd.S_drew)); exact HO_8.out⟩, ⟨by (with_reducible repeat (first | apply Kd.R_alloc | apply Kd.R_drewN | apply Kd.R_drew)); exact HO220.out⟩, ⟨by repeat (first | (with_reducible first | exact HB.out | apply below_alloc | apply pw_below_drewN | apply below_drew1) | exact HB.out)⟩⟩
                            · rw [if_neg c21] at H
                              exact absurd H (by simp)
                          · rw [if_neg c20] at H
                            have c20b0 : (((t216.length : Int) % 5) == 1) = false := beq_eq_false_iff_ne.mpr c20
                            have c20b1 : (((t216.length : Int) % 5) != 1) = true := bne_iff_ne.mpr c20
                            (first | rw [c20b0] | (simp only [i64_w, i32_w]; rw [c20b0]) | skip)
                            have H' := Aside0.mk H
                            clear H
                            obtain ⟨Ao23, co23, eo23⟩ := Kd.R_slice HO220.out
                            subst eo23
                            go_wp2
                            go_meet
                            case rel => exact ⟨_, (true), (by first | rfl | (simp; done) | (simp [*]; done)), H', ⟨by have := HK1.out; first | omega | exact Nat.le_refl _⟩, ⟨by (with_reducible repeat (first | apply Kd.S_alloc | apply Kd.S_drewN | apply Kd.S_drew)); exact HO_8.out⟩, ⟨by (with_reducible repeat (first | apply Kd.R_alloc | apply Kd.R_drewN | apply Kd.R_drew)); exact HO220.out⟩, ⟨by repeat (first | (with_reducible first | exact HB.out | apply below_alloc | apply pw_below_drewN | apply below_drew1) | exact HB.out)⟩⟩
                        case rest =>
                          clear HC15
                          try clear c1
                          try clear c2
                          try clear p2
                          try clear q2
                          try clear hx2
                          try clear qi2
                          try clear c3
                          try clear c3b0
                          try clear c3b1
                          try clear c4
                          try clear c4b0
                          try clear c5
                          try clear c5b0
                          try clear c6
                          try clear c6b0
                          try clear c6b1
                          try clear p6
                          try clear c7
                          try clear c7b0
                          try clear c7b1
                          try clear c9
                          try clear c9b0
                          try clear c9b1
                          try clear c11
                          try clear c11b0
                          try clear c11b1
                          try clear c12
                          try clear c12b0
                          try clear c12b1
                          try clear c14
                          try clear c14b0
                          try clear c14b1
                          try clear c15
                          try clear c16
                          try clear c20
                          try clear c20b0
                          try clear c20b1
                          try clear c21
                          try clear c21b0
                          try clear c21b1
                          try clear p22
                          try clear q22
                          try clear hx22
                          try clear qi22
                          try clear hx221_0
                          try clear p2
                          try clear p221
                          try clear q221
                          obtain ⟨kq, x72_14, rfl, HA, HJ14, HO_8, HO_13, HB⟩ := hcut
                          cases kq with
                          | zero => exact absurd HA.out (by simp [turnbuckleref05_Parse.j1])
                          | succ kj14 =>
                            have H := HA.out
                            clear HA
                            simp only [turnbuckleref05_Parse.j1] at H
                            by_cases c24 : x72_14 = true
                            · subst c24
                              have H1 : (some (([] : List (S41)), 0, 3)) = some (r1, r2, r3) := by rw [if_pos rfl] at H; exact H
                              clear H
                              have H := H1
                              clear H1
                              simp only [Option.some.injEq, Prod.mk.injEq] at H
                              obtain ⟨rfl, rfl, rfl⟩ := H
                              go_wp2
                              go_ret3
                              exact ⟨_, by first | rfl | (simp [errW_none, errW_some] <;> rfl) | (simp only [← hji10]; first | rfl | (simp [errW_none, errW_some] <;> rfl)) | (simp [*, errW_none, errW_some] <;> rfl), by first | exact Kd.S_nil _ _ _ _ _ | exact Kd.N_nil _ _ _ _ _ | exact Kd.V_nil _ _ _ _ _ | exact Kd.Q_nil _ _ _ _ _ | exact Kd.R_nil _ _ _ _ _, by repeat (first | (with_reducible first | exact HB.out | apply below_alloc | apply pw_below_drewN | apply below_drew1) | exact HB.out)⟩
                            · replace c24 := Bool.eq_false_iff.mpr c24
                              subst c24
                              have H1 : (if 0 < (t216.length : Int) then (turnbuckleref05_Parse.l1 kj14 l0 t206 (wrap64 ((ji10) + t217)) x8_1 x9_1 t216 1 t212 ((Int.tmod (rd t216 0) 2) == 1) (decide ((rd t216 0) > 1)) ([] : List (S38))) else (none)) = some (r1, r2, r3) := by rw [if_neg (show ¬ (false = true) by decide)] at H; exact H
                              clear H
                              have H := H1
                              clear H1
                              by_cases c25 : 0 < (t216.length : Int)
                              · rw [if_pos c25] at H
                                have c25b0 : decide (0 < (t216.length : Int)) = true := decide_eq_true c25
                                have c25b1 : decide (0 < t216.length) = true := decide_eq_true (by omega)
                                clear c25
                                have H' := Aside0.mk H
                                clear H
                                try go_wp2
                                have n0_ := Aside0.mk (Kd.S_drew HO_8.out)
                                have n1_ := Aside0.mk (Kd.R_drew HO_13.out)
                                have n2_ := Aside0.mk (below_drew1 HB.out)
                                clear HO_8
                                clear HO_13
                                clear HB
                                have HO_8 := n0_
                                have HO_13 := n1_
                                have HB := n2_
                                clear n0_ n1_ n2_
                                obtain ⟨Ao27, co27, eo27⟩ := Kd.R_slice HO_13.out
                                (first | subst eo27 | (injection eo27 with f1_ f2_ f3_; have f4_ := f1_.symm; have f5_ := f3_.symm; clear f1_ f2_ f3_; subst f4_; subst f5_))
                                have p222 : 0 ≤ (0 : Int) := (by omega)
                                have q222 : 0 < (t216.length : Int) := of_decide_eq_true (by first | (with_reducible assumption) | assumption)
                                obtain ⟨ad222, e222, hx222_0⟩ := Kd.at_int (Kd.R_reads' HO_13.out).2.2 0 p222 q222
                                cases e222
                                have qi222 : (0 < t216.length) = True := eq_true (by omega)
                                (try rw [show ((0 : Int)).toNat = 0 from rfl] at hx222_0)
                                (try rw [Addr.add_zero'] at hx222_0)
                                replace p222 := eq_true p222
                                replace q222 := eq_true q222
                                have p223 : 0 ≤ (0 : Int) := (by omega)
                                have q223 : 0 < (t216.length : Int) := of_decide_eq_true (by first | (with_reducible assumption) | assumption)
                                obtain ⟨ad223, e223, hx223_0⟩ := Kd.at_int (Kd.R_reads' HO_13.out).2.2 0 p223 q223
                                obtain rfl : ad222 = ad223 := (by injection e223)
                                have qi223 : (0 < t216.length) = True := eq_true (by omega)
                                (try rw [show ((0 : Int)).toNat = 0 from rfl] at hx223_0)
                                (try rw [Addr.add_zero'] at hx223_0)
                                replace p223 := eq_true p223
                                replace q223 := eq_true q223
                                refine start_ (n := 13) (S := fun w' => w'.cell? ad222 = some (.int .i64 (rd t216 0)) ∧ w'.cell? ad222 = some (.int .i64 (rd t216 0))) (ds := []) #[false, false, false, false, false, false, false, false, false, false, false, false, false] (by kernel_rfl) rfl rfl ⟨hx222_0, hx223_0⟩ (fun hHeld => ?_); refine with_tabW turnbuckleref05_Parse.tab20 turnbuckleref05_Parse.bits20 (fun HT_ HW_ => ?_)
                                generalize wc.drew = w26 at HO_8 HO_13 HB hx222_0 hx223_0 hHeld ⊢
                                refine pure_ (i := 0) (N := some 73) (v := ?_) (a' := ?_) #[true, false, false, false, false, false, false, false, false, false, false, false, false] rfl rfl (any_of HT_.out (by kernel_rfl)) (fun _ _ _ h => h) (Or.inl ⟨by rfl, ?_⟩) ?_ ?_
                                rotate_left
                                · intro w'
                                  go_simp
                                  with_reducible rfl
                                rotate_left
                                · simp only [Act.put, List.setIfInBounds_toArray, List.set_cons_zero, List.set_cons_succ, i64_w, i32_w]
                                  rfl
                                refine pure_ (i := 1) (N := some 74) (v := ?_) (a' := ?_) #[true, true, false, false, false, false, false, false, false, false, false, false, false] rfl rfl (any_of HT_.out (by kernel_rfl)) (fun _ _ _ h => h) (Or.inl ⟨by rfl, ?_⟩) ?_ ?_
                                rotate_left
                                · intro w'
                                  go_simp
                                  with_reducible rfl
                                rotate_left
                                · simp only [Act.put, List.setIfInBounds_toArray, List.set_cons_zero, List.set_cons_succ, i64_w, i32_w]
                                  rfl
                                refine pure_ (i := 2) (N := some 75) (v := ?_) (a' := ?_) #[true, true, true, false, false, false, false, false, false, false, false, false, false] rfl rfl (any_of HT_.out (by kernel_rfl)) (fun _ _ _ h => h) (Or.inl ⟨by rfl, ?_⟩) ?_ ?_
                                rotate_left
                                · intro w'
                                  go_simp
                                  with_reducible rfl
                                rotate_left
                                · simp only [Act.put, List.setIfInBounds_toArray, List.set_cons_zero, List.set_cons_succ, i64_w, i32_w]
                                  rfl
                                refine pure_ (i := 6) (N := some 79) (v := ?_) (a' := ?_) #[true, true, true, false, false, false, true, false, false, false, false, false, false] rfl rfl (any_of HT_.out (by kernel_rfl)) (fun _ _ _ h => h) (Or.inl ⟨by rfl, ?_⟩) ?_ ?_
                                rotate_left
                                · intro w'
                                  go_simp
                                  with_reducible rfl
                                rotate_left
                                · simp only [Act.put, List.setIfInBounds_toArray, List.set_cons_zero, List.set_cons_succ, i64_w, i32_w]
                                  rfl
                                refine pure_ (i := 7) (N := some 80) (v := ?_) (a' := ?_) #[true, true, true, false, false, false, true, true, false, false, false, false, false] rfl rfl (any_of HT_.out (by kernel_rfl)) (fun _ _ _ h => h) (Or.inl ⟨by rfl, ?_⟩) ?_ ?_
                                rotate_left
                                · intro w'
                                  go_simp
                                  with_reducible rfl
                                rotate_left
                                · simp only [Act.put, List.setIfInBounds_toArray, List.set_cons_zero, List.set_cons_succ, i64_w, i32_w]
                                  rfl
                                refine take_ (i := 3) (N := some 76) (v := ?_) (a' := ?_) #[true, true, true, true, false, false, true, true, false, false, false, false, false] rfl rfl (take_ofW HT_.out HW_.out (by kernel_rfl)) (fun _ _ _ h => h) (Or.inl ⟨by rfl, ?_⟩) hHeld ?_ ?_
                                rotate_left
                                · rintro w' ⟨s0, s1⟩
                                  go_simp
                                  with_reducible rfl
                                rotate_left
                                · simp only [Act.put, List.setIfInBounds_toArray, List.set_cons_zero, List.set_cons_succ, i64_w, i32_w]
                                  rfl
                                refine pure_ (i := 4) (N := some 77) (v := ?_) (a' := ?_) #[true, true, true, true, true, false, true, true, false, false, false, false, false] rfl rfl (any_of HT_.out (by kernel_rfl)) (fun _ _ _ h => h) (Or.inl ⟨by rfl, ?_⟩) ?_ ?_
                                rotate_left
                                · intro w'
                                  go_simp
                                  with_reducible rfl
                                rotate_left
                                · simp only [Act.put, List.setIfInBounds_toArray, List.set_cons_zero, List.set_cons_succ, i64_w, i32_w]
                                  rfl
                                refine pure_ (i := 5) (N := some 78) (v := ?_) (a' := ?_) #[true, true, true, true, true, true, true, true, false, false, false, false, false] rfl rfl (any_of HT_.out (by kernel_rfl)) (fun _ _ _ h => h) (Or.inl ⟨by rfl, ?_⟩) ?_ ?_
                                rotate_left
                                · intro w'
                                  go_simp
                                  with_reducible rfl
                                rotate_left
                                · simp only [Act.put, List.setIfInBounds_toArray, List.set_cons_zero, List.set_cons_succ, i64_w, i32_w]
                                  rfl
                                refine take_ (i := 8) (N := some 81) (v := ?_) (a' := ?_) #[true, true, true, true, true, true, true, true, true, false, false, false, false] rfl rfl (take_ofW HT_.out HW_.out (by kernel_rfl)) (fun _ _ _ h => h) (Or.inl ⟨by rfl, ?_⟩) hHeld ?_ ?_
                                rotate_left
                                · rintro w' ⟨s0, s1⟩
                                  go_simp
                                  with_reducible rfl
                                rotate_left
                                · simp only [Act.put, List.setIfInBounds_toArray, List.set_cons_zero, List.set_cons_succ, i64_w, i32_w]
                                  rfl
                                refine pure_ (i := 9) (N := some 82) (v := ?_) (a' := ?_) #[true, true, true, true, true, true, true, true, true, true, false, false, false] rfl rfl (any_of HT_.out (by kernel_rfl)) (fun _ _ _ h => h) (Or.inl ⟨by rfl, ?_⟩) ?_ ?_
                                rotate_left
                                · intro w'
                                  go_simp
                                  with_reducible rfl
                                rotate_left
                                · simp only [Act.put, List.setIfInBounds_toArray, List.set_cons_zero, List.set_cons_succ, i64_w, i32_w]
                                  rfl
                                refine pure_ (i := 10) (N := some 83) (v := ?_) (a' := ?_) #[true, true, true, true, true, true, true, true, true, true, true, false, false] rfl rfl (any_of HT_.out (by kernel_rfl)) (fun _ _ _ h => h) (Or.inl ⟨by rfl, ?_⟩) ?_ ?_
                                rotate_left
                                · intro w'
                                  go_simp
                                  with_reducible rfl
                                rotate_left
                                · simp only [Act.put, List.setIfInBounds_toArray, List.set_cons_zero, List.set_cons_succ, i64_w, i32_w]
                                  rfl
                                refine one_ (i := 11) (N := some 16) #[true, true, true, true, true, true, true, true, true, true, true, true, false] rfl rfl (one_of HT_.out (by kernel_rfl)) (by decide) (fun K hK => ?_)
                                refine box_step ?hg (N := 16) ?hd (cs := #[.string (⟨#[]⟩ : ByteArray), .bool false, .bool false, .slice none 0 0]) (t := 41) ?hr ?_; (case hd => rfl); (case hg => rfl); (case hr => first | (go_simp; done) | (go_simp; rfl))
                                intro gb224 hg w28 hbox hb
                                have HS0_ := (hb.cell (World.block_lt_of_cell? _ _ (hHeld.1))).trans (hHeld.1)
                                have HS1_ := (hb.cell (World.block_lt_of_cell? _ _ (hHeld.2))).trans (hHeld.2)
                                have n0_ := Aside0.mk (Kd.S_below (Kd.S_elderB (by (with_reducible repeat (first | apply Kd.S_alloc | apply Kd.S_drewN | apply Kd.S_drew)); exact HO_8.out) gb224 (Nat.le_of_eq hg.symm)) hb)
                                have n1_ := Aside0.mk (Kd.R_below (by (with_reducible repeat (first | apply Kd.R_alloc | apply Kd.R_drewN | apply Kd.R_drew)); exact HO_13.out) hb)
                                have n2_ := Aside0.mk (below_step (by repeat (first | (with_reducible first | exact HB.out | apply below_alloc | apply pw_below_drewN | apply below_drew1) | exact HB.out)) hb)
                                have n3_ := Aside0.mk (hbox)
                                have n4_ := Aside0.mk ((by rw [hg]; exact (below_size (by repeat (first | (with_reducible first | exact HB.out | apply below_alloc | apply pw_below_drewN | apply below_drew1) | exact HB.out))) : w.heap.size ≤ gb224))
                                have n5_ := Aside0.mk ((by rw [hg]; exact (below_size (by repeat (first | (with_reducible first | exact HB.out | apply below_alloc | apply pw_below_drewN | apply below_drew1) | exact HB.out))) : w.heap.size ≤ gb224))
                                clear HO_8
                                clear HO_13
                                clear HB
                                have HO_8 := n0_
                                have HO_13 := n1_
                                have HB := n2_
                                have BK224 := n3_
                                have GW224 := n4_
                                have GE224 := n5_
                                clear n0_ n1_ n2_ n3_ n4_ n5_
                                clear hb hbox hg
                                refine hK.out _ _ ⟨HS0_, HS1_⟩ (fun hHeld => ?_)
                                clear hK K
                                refine norm_ (a' := ?_) ?_ ?_
                                rotate_left
                                · show Act.put _ (some 16) _ = _
                                  simp only [Act.put, List.setIfInBounds_toArray, List.set_cons_zero, List.set_cons_succ, i64_w, i32_w]
                                  rfl
                                refine one_ (i := 12) (N := none) #[true, true, true, true, true, true, true, true, true, true, true, true, true] rfl rfl (one_of HT_.out (by kernel_rfl)) (by decide) (fun K hK => ?_)
                                have hs29 : w28.cell? ⟨gb224, 0, none⟩ = some (.string (⟨#[]⟩ : ByteArray)) := (blk_cell BK224.out 0).trans rfl
                                have hfs29 := blk_frozen BK224.out 0
                                have hs30 : w28.cell? ⟨gb224, 1, none⟩ = some (.bool false) := (blk_cell BK224.out 1).trans rfl
                                have hfs30 := blk_frozen BK224.out 1
                                have hs31 : w28.cell? ⟨gb224, 2, none⟩ = some (.bool false) := (blk_cell BK224.out 2).trans rfl
                                have hfs31 := blk_frozen BK224.out 2
                                have hs32 : w28.cell? ⟨gb224, 3, none⟩ = some (.slice none 0 0) := (blk_cell BK224.out 3).trans rfl
                                have hfs32 := blk_frozen BK224.out 3
                                refine skip_ (w1 := ?_) (by rfl) rfl ?_ ?_
                                rotate_left
                                · go_simp
                                  rfl
                                refine hK.out _ _ ⟨((cell_far (p := ⟨gb224, _, none⟩) (by first | exact Kd.own_blk (Kd.R_ne HO_13.out BK224.out (by decide)) | (rw [add_block]; exact Kd.own_blk (Kd.R_ne HO_13.out BK224.out (by decide))) | (show (Addr.add _ _).block ≠ _; rw [add_block]; exact Kd.own_blk (Kd.R_ne HO_13.out BK224.out (by decide))) | (dsimp only; exact Kd.own_blk (Kd.R_ne HO_13.out BK224.out (by decide)))) _).trans (((cell_far (p := ⟨gb224, _, none⟩) (by first | exact Kd.own_blk (Kd.R_ne HO_13.out BK224.out (by decide)) | (rw [add_block]; exact Kd.own_blk (Kd.R_ne HO_13.out BK224.out (by decide))) | (show (Addr.add _ _).block ≠ _; rw [add_block]; exact Kd.own_blk (Kd.R_ne HO_13.out BK224.out (by decide))) | (dsimp only; exact Kd.own_blk (Kd.R_ne HO_13.out BK224.out (by decide)))) _).trans (((cell_far (p := ⟨gb224, _, none⟩) (by first | exact Kd.own_blk (Kd.R_ne HO_13.out BK224.out (by decide)) | (rw [add_block]; exact Kd.own_blk (Kd.R_ne HO_13.out BK224.out (by decide))) | (show (Addr.add _ _).block ≠ _; rw [add_block]; exact Kd.own_blk (Kd.R_ne HO_13.out BK224.out (by decide))) | (dsimp only; exact Kd.own_blk (Kd.R_ne HO_13.out BK224.out (by decide)))) _).trans (((cell_far (p := ⟨gb224, _, none⟩) (by first | exact Kd.own_blk (Kd.R_ne HO_13.out BK224.out (by decide)) | (rw [add_block]; exact Kd.own_blk (Kd.R_ne HO_13.out BK224.out (by decide))) | (show (Addr.add _ _).block ≠ _; rw [add_block]; exact Kd.own_blk (Kd.R_ne HO_13.out BK224.out (by decide))) | (dsimp only; exact Kd.own_blk (Kd.R_ne HO_13.out BK224.out (by decide)))) _).trans (hHeld.1)))))))), ((cell_far (p := ⟨gb224, _, none⟩) (by first | exact Kd.own_blk (Kd.R_ne HO_13.out BK224.out (by decide)) | (rw [add_block]; exact Kd.own_blk (Kd.R_ne HO_13.out BK224.out (by decide))) | (show (Addr.add _ _).block ≠ _; rw [add_block]; exact Kd.own_blk (Kd.R_ne HO_13.out BK224.out (by decide))) | (dsimp only; exact Kd.own_blk (Kd.R_ne HO_13.out BK224.out (by decide)))) _).trans (((cell_far (p := ⟨gb224, _, none⟩) (by first | exact Kd.own_blk (Kd.R_ne HO_13.out BK224.out (by decide)) | (rw [add_block]; exact Kd.own_blk (Kd.R_ne HO_13.out BK224.out (by decide))) | (show (Addr.add _ _).block ≠ _; rw [add_block]; exact Kd.own_blk (Kd.R_ne HO_13.out BK224.out (by decide))) | (dsimp only; exact Kd.own_blk (Kd.R_ne HO_13.out BK224.out (by decide)))) _).trans (((cell_far (p := ⟨gb224, _, none⟩) (by first | exact Kd.own_blk (Kd.R_ne HO_13.out BK224.out (by decide)) | (rw [add_block]; exact Kd.own_blk (Kd.R_ne HO_13.out BK224.out (by decide))) | (show (Addr.add _ _).block ≠ _; rw [add_block]; exact Kd.own_blk (Kd.R_ne HO_13.out BK224.out (by decide))) | (dsimp only; exact Kd.own_blk (Kd.R_ne HO_13.out BK224.out (by decide)))) _).trans (((cell_far (p := ⟨gb224, _, none⟩) (by first | exact Kd.own_blk (Kd.R_ne HO_13.out BK224.out (by decide)) | (rw [add_block]; exact Kd.own_blk (Kd.R_ne HO_13.out BK224.out (by decide))) | (show (Addr.add _ _).block ≠ _; rw [add_block]; exact Kd.own_blk (Kd.R_ne HO_13.out BK224.out (by decide))) | (dsimp only; exact Kd.own_blk (Kd.R_ne HO_13.out BK224.out (by decide)))) _).trans (hHeld.2))))))))⟩ (fun hHeld => ?_)
                                clear hK K
                                refine done_ (done_of HT_.out (by kernel_rfl)) ?_
                                try go_wp2
                                go_loopg [17] kj14 (fun kq v17 w' => ∃ (x17_3 : Int) (x225003_3 : List (S38)) (u225003 : Value), v17 = .int .i64 x17_3 ∧ Aside0 (turnbuckleref05_Parse.l1 kq l0 t206 (wrap64 ((ji10) + t217)) x8_1 x9_1 t216 x17_3 t212 ((Int.tmod (rd t216 0) 2) == 1) (decide ((rd t216 0) > 1)) x225003_3 = some (r1, r2, r3)) ∧ Aside0 (kq ≤ kj14) ∧ Aside0 (Kd.S k41 41 w' w.heap.size (fun k_ => some k_ ≠ (u225003 : Value).ownBlock ∧ k_ ≠ gb224) u8 x8_1) ∧ Aside0 (Kd.R (Kd.int .i64) 3 w' w.heap.size (fun _ => True) (.slice (some ad222) t216.length co27) t216) ∧ Aside0 (Kd.R k38 38 w' w.heap.size (fun _ => True) u225003 x225003_3) ∧ Aside0 (w'.heap[gb224]? = some (.cells #[.string t212, .bool ((Int.tmod (rd t216 0) 2) == 1), .bool (decide ((rd t216 0) > 1)), u225003] 41 (0, 0))) ∧ Aside0 (Below w.heap.size w w'))
                                case atStart => exact ⟨(1), (([] : List (S38))), (.slice none 0 0), (by first | rfl | (simp; done) | (simp [*]; done)), H', ⟨Nat.le_refl _⟩, ⟨by (with_reducible repeat (first | apply Kd.S_alloc | apply Kd.S_drewN | apply Kd.S_drew)); exact Kd.S_mono (Kd.S_far (p := ⟨gb224, 3, none⟩) (Kd.S_far (p := ⟨gb224, 2, none⟩) (Kd.S_far (p := ⟨gb224, 1, none⟩) (Kd.S_far (p := ⟨gb224, 0, none⟩) (Kd.S_mono HO_8.out (fun k_ hk => (⟨hk, hk.2⟩ : _ ∧ k_ ≠ gb224))) (fun _ hk => hk.2) (.string t212)) (fun _ hk => hk.2) (.bool ((Int.tmod (rd t216 0) 2) == 1))) (fun _ hk => hk.2) (.bool (decide ((rd t216 0) > 1)))) (fun _ hk => hk.2) (.slice none 0 0)) (fun _ hk => ⟨(by simp [Value.ownBlock]), hk.1.2⟩)⟩, ⟨by (with_reducible repeat (first | apply Kd.R_alloc | apply Kd.R_drewN | apply Kd.R_drew)); exact Kd.R_mono (Kd.R_far (p := ⟨gb224, 3, none⟩) (Kd.R_far (p := ⟨gb224, 2, none⟩) (Kd.R_far (p := ⟨gb224, 1, none⟩) (Kd.R_far (p := ⟨gb224, 0, none⟩) (Kd.R_types HO_13.out BK224.out (by decide)) (fun _ hk => hk.2) (.string t212)) (fun _ hk => hk.2) (.bool ((Int.tmod (rd t216 0) 2) == 1))) (fun _ hk => hk.2) (.bool (decide ((rd t216 0) > 1)))) (fun _ hk => hk.2) (.slice none 0 0)) (fun _ hk => trivial)⟩, ⟨by first | exact Kd.R_nil _ _ _ _ _ | exact Kd.N_nil _ _ _ _ _ | exact Kd.V_nil _ _ _ _ _ | exact Kd.Q_nil _ _ _ _ _ | exact Kd.S_nil _ _ _ _ _⟩, ⟨by (with_reducible repeat (first | refine blk_drewN ?_ _ | refine blk_drew ?_ | refine blk_alloc ?_ _)); refine blk_put (cs := #[.string t212, .bool ((Int.tmod (rd t216 0) 2) == 1), .bool (decide ((rd t216 0) > 1)), .slice none 0 0]) ?_ 3 _ rfl; (with_reducible repeat (first | refine blk_drewN ?_ _ | refine blk_drew ?_ | refine blk_alloc ?_ _)); refine blk_put (cs := #[.string t212, .bool ((Int.tmod (rd t216 0) 2) == 1), .bool false, .slice none 0 0]) ?_ 2 _ rfl; (with_reducible repeat (first | refine blk_drewN ?_ _ | refine blk_drew ?_ | refine blk_alloc ?_ _)); refine blk_put (cs := #[.string t212, .bool false, .bool false, .slice none 0 0]) ?_ 1 _ rfl; (with_reducible repeat (first | refine blk_drewN ?_ _ | refine blk_drew ?_ | refine blk_alloc ?_ _)); refine blk_put (cs := #[.string (⟨#[]⟩ : ByteArray), .bool false, .bool false, .slice none 0 0]) ?_ 0 _ rfl; (with_reducible repeat (first | refine blk_drewN ?_ _ | refine blk_drew ?_ | refine blk_alloc ?_ _)); exact BK224.out⟩, ⟨by repeat (first | (with_reducible first | exact HB.out | apply below_alloc | apply pw_below_drewN | apply below_drew1 | refine below_set ?_ GE224.out) | exact HB.out)⟩⟩
                                case round =>
                                  clear H'
                                  try clear c1
                                  try clear c2
                                  try clear p2
                                  try clear q2
                                  try clear hx2
                                  try clear qi2
                                  try clear c3
                                  try clear c3b0
                                  try clear c3b1
                                  try clear c4
                                  try clear c4b0
                                  try clear c5
                                  try clear c5b0
                                  try clear c6
                                  try clear c6b0
                                  try clear c6b1
                                  try clear p6
                                  try clear c7
                                  try clear c7b0
                                  try clear c7b1
                                  try clear c9
                                  try clear c9b0
                                  try clear c9b1
                                  try clear c11
                                  try clear c11b0
                                  try clear c11b1
                                  try clear c12
                                  try clear c12b0
                                  try clear c12b1
                                  try clear c14
                                  try clear c14b0
                                  try clear c14b1
                                  try clear c15
                                  try clear c16
                                  try clear c20
                                  try clear c20b0
                                  try clear c20b1
                                  try clear c21
                                  try clear c21b0
                                  try clear c21b1
                                  try clear p22
                                  try clear q22
                                  try clear hx22
                                  try clear qi22
                                  try clear c24
                                  try clear c25
                                  try clear c25b0
                                  try clear c25b1
                                  try clear hx221_0
                                  try clear hx222_0
                                  try clear hx223_0
                                  try clear p2
                                  try clear p22
                                  try clear p221
                                  try clear p222
                                  try clear p223
                                  try clear p6
                                  try clear q2
                                  try clear q22
                                  try clear q221
                                  try clear q222
                                  try clear q223
                                  obtain ⟨x17_3, x225003_3, u225003, rfl, HA, HK3, HO_8, HO_13, HO_225003, BK224, HB⟩ := hrel
                                  cases gk with
                                  | zero => exact absurd HA.out (by simp [turnbuckleref05_Parse.l1])
                                  | succ k3 =>
                                    have H := HA.out
                                    clear HA
                                    simp only [turnbuckleref05_Parse.l1] at H
                                    by_cases c33 : x17_3 < (t216.length : Int)
                                    · rw [if_pos c33] at H
                                      have c33b0 : decide (x17_3 < (t216.length : Int)) = true := decide_eq_true c33
                                      clear c33
                                      by_cases c34 : 0 ≤ x17_3
                                      · rw [if_pos c34] at H
                                        have c34b0 : decide (0 ≤ x17_3) = true := decide_eq_true c34
                                        clear c34
                                        obtain ⟨ji35, hji35⟩ : ∃ j_ : Int, (wrap64 (x17_3 + 1)) = j_ := ⟨_, rfl⟩
                                        replace H : (if 0 ≤ (ji35) then (if (ji35) < (t216.length : Int) then (if 0 ≤ (wrap64 (x17_3 + 2)) then (if (wrap64 (x17_3 + 2)) < (t216.length : Int) then (if 0 ≤ (wrap64 (x17_3 + 3)) then (if (wrap64 (x17_3 + 3)) < (t216.length : Int) then (if 0 ≤ (wrap64 (x17_3 + 4)) then (if (wrap64 (x17_3 + 4)) < (t216.length : Int) then (if x225003_3.length < 3518437208883 then (turnbuckleref05_Parse.l1 k3 l0 t206 (wrap64 ((ji10) + t217)) x8_1 x9_1 t216 (wrap64 (x17_3 + 5)) t212 ((Int.tmod (rd t216 0) 2) == 1) (decide ((rd t216 0) > 1)) (x225003_3 ++ [(⟨rd t216 x17_3, rd t216 (ji35), rd t216 (wrap64 (x17_3 + 2)), rd t216 (wrap64 (x17_3 + 3)), rd t216 (wrap64 (x17_3 + 4))⟩ : S38)])) else (none)) else (none)) else (none)) else (none)) else (none)) else (none)) else (none)) else (none)) else (none)) = some (r1, r2, r3) := by first | (rw [hji35] at H; exact H) | (simp only [hji35] at H ⊢; exact H)
                                        have hji35w : (IntKind.i64.wrap (x17_3 + 1)) = ji35 := (i64_w _).trans hji35
                                        by_cases c36 : 0 ≤ (ji35)
                                        · rw [if_pos c36] at H
                                          have c36b0 : decide (0 ≤ (ji35)) = true := decide_eq_true c36
                                          clear c36
                                          by_cases c37 : (ji35) < (t216.length : Int)
                                          · rw [if_pos c37] at H
                                            have c37b0 : decide ((ji35) < (t216.length : Int)) = true := decide_eq_true c37
                                            clear c37
                                            obtain ⟨ji38, hji38⟩ : ∃ j_ : Int, (wrap64 (x17_3 + 2)) = j_ := ⟨_, rfl⟩
                                            replace H : (if 0 ≤ (ji38) then (if (ji38) < (t216.length : Int) then (if 0 ≤ (wrap64 (x17_3 + 3)) then (if (wrap64 (x17_3 + 3)) < (t216.length : Int) then (if 0 ≤ (wrap64 (x17_3 + 4)) then (if (wrap64 (x17_3 + 4)) < (t216.length : Int) then (if x225003_3.length < 3518437208883 then (turnbuckleref05_Parse.l1 k3 l0 t206 (wrap64 ((ji10) + t217)) x8_1 x9_1 t216 (wrap64 (x17_3 + 5)) t212 ((Int.tmod (rd t216 0) 2) == 1) (decide ((rd t216 0) > 1)) (x225003_3 ++ [(⟨rd t216 x17_3, rd t216 (ji35), rd t216 (ji38), rd t216 (wrap64 (x17_3 + 3)), rd t216 (wrap64 (x17_3 + 4))⟩ : S38)])) else (none)) else (none)) else (none)) else (none)) else (none)) else (none)) else (none)) = some (r1, r2, r3) := by first | (rw [hji38] at H; exact H) | (simp only [hji38] at H ⊢; exact H)
                                            have hji38w : (IntKind.i64.wrap (x17_3 + 2)) = ji38 := (i64_w _).trans hji38
                                            by_cases c39 : 0 ≤ (ji38)
                                            · rw [if_pos c39] at H
                                              have c39b0 : decide (0 ≤ (ji38)) = true := decide_eq_true c39
                                              clear c39
                                              by_cases c40 : (ji38) < (t216.length : Int)
                                              · rw [if_pos c40] at H
                                                have c40b0 : decide ((ji38) < (t216.length : Int)) = true := decide_eq_true c40
                                                clear c40
                                                obtain ⟨ji41, hji41⟩ : ∃ j_ : Int, (wrap64 (x17_3 + 3)) = j_ := ⟨_, rfl⟩
                                                replace H : (if 0 ≤ (ji41) then (if (ji41) < (t216.length : Int) then (if 0 ≤ (wrap64 (x17_3 + 4)) then (if (wrap64 (x17_3 + 4)) < (t216.length : Int) then (if x225003_3.length < 3518437208883 then (turnbuckleref05_Parse.l1 k3 l0 t206 (wrap64 ((ji10) + t217)) x8_1 x9_1 t216 (wrap64 (x17_3 + 5)) t212 ((Int.tmod (rd t216 0) 2) == 1) (decide ((rd t216 0) > 1)) (x225003_3 ++ [(⟨rd t216 x17_3, rd t216 (ji35), rd t216 (ji38), rd t216 (ji41), rd t216 (wrap64 (x17_3 + 4))⟩ : S38)])) else (none)) else (none)) else (none)) else (none)) else (none)) = some (r1, r2, r3) := by first | (rw [hji41] at H; exact H) | (simp only [hji41] at H ⊢; exact H)
                                                have hji41w : (IntKind.i64.wrap (x17_3 + 3)) = ji41 := (i64_w _).trans hji41
                                                by_cases c42 : 0 ≤ (ji41)
                                                · rw [if_pos c42] at H
                                                  have c42b0 : decide (0 ≤ (ji41)) = true := decide_eq_true c42
                                                  clear c42
                                                  by_cases c43 : (ji41) < (t216.length : Int)
                                                  · rw [if_pos c43] at H
                                                    have c43b0 : decide ((ji41) < (t216.length : Int)) = true := decide_eq_true c43
                                                    clear c43
                                                    obtain ⟨ji44, hji44⟩ : ∃ j_ : Int, (wrap64 (x17_3 + 4)) = j_ := ⟨_, rfl⟩
                                                    replace H : (if 0 ≤ (ji44) then (if (ji44) < (t216.length : Int) then (if x225003_3.length < 3518437208883 then (turnbuckleref05_Parse.l1 k3 l0 t206 (wrap64 ((ji10) + t217)) x8_1 x9_1 t216 (wrap64 (x17_3 + 5)) t212 ((Int.tmod (rd t216 0) 2) == 1) (decide ((rd t216 0) > 1)) (x225003_3 ++ [(⟨rd t216 x17_3, rd t216 (ji35), rd t216 (ji38), rd t216 (ji41), rd t216 (ji44)⟩ : S38)])) else (none)) else (none)) else (none)) = some (r1, r2, r3) := by first | (rw [hji44] at H; exact H) | (simp only [hji44] at H ⊢; exact H)
                                                    have hji44w : (IntKind.i64.wrap (x17_3 + 4)) = ji44 := (i64_w _).trans hji44
                                                    by_cases c45 : 0 ≤ (ji44)
                                                    · rw [if_pos c45] at H
                                                      have c45b0 : decide (0 ≤ (ji44)) = true := decide_eq_true c45
                                                      clear c45
                                                      by_cases c46 : (ji44) < (t216.length : Int)
                                                      · rw [if_pos c46] at H
                                                        have c46b0 : decide ((ji44) < (t216.length : Int)) = true := decide_eq_true c46
                                                        clear c46
                                                        by_cases c47 : x225003_3.length < 3518437208883
                                                        · rw [if_pos c47] at H
                                                          have LMc47 := Aside0.mk c47
                                                          clear c47
                                                          obtain ⟨y230, hy230⟩ : ∃ y_ : List (S38), y_ = (x225003_3 ++ [(⟨rd t216 x17_3, rd t216 (ji35), rd t216 (ji38), rd t216 (ji41), rd t216 (ji44)⟩ : S38)]) := ⟨_, rfl⟩
                                                          replace H : (turnbuckleref05_Parse.l1 k3 l0 t206 (wrap64 ((ji10) + t217)) x8_1 x9_1 t216 (wrap64 (x17_3 + 5)) t212 ((Int.tmod (rd t216 0) 2) == 1) (decide ((rd t216 0) > 1)) y230) = some (r1, r2, r3) := by first | (rw [hy230]; with_reducible exact H) | (have H2_ := (Option.bind_some _ _).symm.trans H; rw [hy230]; with_reducible exact H2_) | (have H2_ := (Option.bind_some _ _).symm.trans H; with_reducible exact H2_) | with_reducible exact H | (rw [hy230]; exact H) | exact H
                                                          have Ny230 := Aside0.mk hy230
                                                          clear hy230
                                                          have H' := Aside0.mk H
                                                          clear H
                                                          try go_wp2
                                                          have n0_ := Aside0.mk (Kd.S_drew HO_8.out)
                                                          have n1_ := Aside0.mk (Kd.R_drew HO_13.out)
                                                          have n2_ := Aside0.mk (Kd.R_drew HO_225003.out)
                                                          have n3_ := Aside0.mk (blk_drew BK224.out)
                                                          have n4_ := Aside0.mk (below_drew1 HB.out)
                                                          clear HO_8
                                                          clear HO_13
                                                          clear HO_225003
                                                          clear BK224
                                                          clear HB
                                                          have HO_8 := n0_
                                                          have HO_13 := n1_
                                                          have HO_225003 := n2_
                                                          have BK224 := n3_
                                                          have HB := n4_
                                                          clear n0_ n1_ n2_ n3_ n4_
                                                          have p225 : 0 ≤ (x17_3 : Int) := of_decide_eq_true (by first | (with_reducible assumption) | assumption)
                                                          have q225 : x17_3 < (t216.length : Int) := of_decide_eq_true (by first | (with_reducible assumption) | assumption)
                                                          obtain ⟨ad225, e225, hx225_0⟩ := Kd.at_int (Kd.R_reads' HO_13.out).2.2 x17_3 p225 q225
                                                          obtain rfl : ad222 = ad225 := (by injection e225)
                                                          replace p225 := eq_true p225
                                                          replace q225 := eq_true q225
                                                          have p226 : 0 ≤ ((ji35) : Int) := of_decide_eq_true (by first | (with_reducible assumption) | assumption)
                                                          have q226 : (ji35) < (t216.length : Int) := of_decide_eq_true (by first | (with_reducible assumption) | assumption)
                                                          obtain ⟨ad226, e226, hx226_0⟩ := Kd.at_int (Kd.R_reads' HO_13.out).2.2 (ji35) p226 q226
                                                          obtain rfl : ad222 = ad226 := (by injection e226)
                                                          replace p226 := eq_true p226
                                                          replace q226 := eq_true q226
                                                          have p227 : 0 ≤ ((ji38) : Int) := of_decide_eq_true (by first | (with_reducible assumption) | assumption)
                                                          have q227 : (ji38) < (t216.length : Int) := of_decide_eq_true (by first | (with_reducible assumption) | assumption)
                                                          obtain ⟨ad227, e227, hx227_0⟩ := Kd.at_int (Kd.R_reads' HO_13.out).2.2 (ji38) p227 q227
                                                          obtain rfl : ad222 = ad227 := (by injection e227)
                                                          replace p227 := eq_true p227
                                                          replace q227 := eq_true q227
                                                          have p228 : 0 ≤ ((ji41) : Int) := of_decide_eq_true (by first | (with_reducible assumption) | assumption)
                                                          have q228 : (ji41) < (t216.length : Int) := of_decide_eq_true (by first | (with_reducible assumption) | assumption)
                                                          obtain ⟨ad228, e228, hx228_0⟩ := Kd.at_int (Kd.R_reads' HO_13.out).2.2 (ji41) p228 q228
                                                          obtain rfl : ad222 = ad228 := (by injection e228)
                                                          replace p228 := eq_true p228
                                                          replace q228 := eq_true q228
                                                          have p229 : 0 ≤ ((ji44) : Int) := of_decide_eq_true (by first | (with_reducible assumption) | assumption)
                                                          have q229 : (ji44) < (t216.length : Int) := of_decide_eq_true (by first | (with_reducible assumption) | assumption)
                                                          obtain ⟨ad229, e229, hx229_0⟩ := Kd.at_int (Kd.R_reads' HO_13.out).2.2 (ji44) p229 q229
                                                          obtain rfl : ad222 = ad229 := (by injection e229)
                                                          replace p229 := eq_true p229
                                                          replace q229 := eq_true q229
                                                          refine start_ (n := 31) (S := fun w' => w'.cell? ⟨gb224, 0, none⟩ = some (.string t212) ∧ w'.cell? ⟨gb224, 1, none⟩ = some (.bool ((Int.tmod (rd t216 0) 2) == 1)) ∧ w'.cell? ⟨gb224, 2, none⟩ = some (.bool (decide ((rd t216 0) > 1))) ∧ w'.cell? ⟨gb224, 3, none⟩ = some (u225003) ∧ w'.cell? (ad222.add (x17_3).toNat) = some (.int .i64 (rd t216 x17_3)) ∧ w'.cell? (ad222.add ((ji35)).toNat) = some (.int .i64 (rd t216 (ji35))) ∧ w'.cell? (ad222.add ((ji38)).toNat) = some (.int .i64 (rd t216 (ji38))) ∧ w'.cell? (ad222.add ((ji41)).toNat) = some (.int .i64 (rd t216 (ji41))) ∧ w'.cell? (ad222.add ((ji44)).toNat) = some (.int .i64 (rd t216 (ji44)))) (ds := [28, 30]) #[false, false, false, false, false, false, false, false, false, false, false, false, false, false, false, false, false, false, false, false, false, false, false, false, false, false, false, false, false, false, false] (by kernel_rfl) rfl rfl ⟨(blk_cell BK224.out 0).trans rfl, (blk_cell BK224.out 1).trans rfl, (blk_cell BK224.out 2).trans rfl, (blk_cell BK224.out 3).trans rfl, hx225_0, hx226_0, hx227_0, hx228_0, hx229_0⟩ (fun hHeld => ?_); refine with_tabW turnbuckleref05_Parse.tab24 turnbuckleref05_Parse.bits24 (fun HT_ HW_ => ?_)
                                                          generalize wr.drew = w48 at HO_8 HO_13 HO_225003 BK224 HB hx225_0 hx226_0 hx227_0 hx228_0 hx229_0 hHeld ⊢
                                                          refine pure_ (i := 0) (N := some 90) (v := ?_) (a' := ?_) #[true, false, false, false, false, false, false, false, false, false, false, false, false, false, false, false, false, false, false, false, false, false, false, false, false, false, false, false, false, false, false] rfl rfl (any_of HT_.out (by kernel_rfl)) (fun _ _ _ h => h) (Or.inl ⟨by rfl, ?_⟩) ?_ ?_
                                                          rotate_left
                                                          · intro w'
                                                            go_simp
                                                            with_reducible rfl
                                                          rotate_left
                                                          · simp only [Act.put, List.setIfInBounds_toArray, List.set_cons_zero, List.set_cons_succ, i64_w, i32_w]
                                                            rfl
                                                          refine pure_ (i := 2) (N := some 92) (v := ?_) (a' := ?_) #[true, false, true, false, false, false, false, false, false, false, false, false, false, false, false, false, false, false, false, false, false, false, false, false, false, false, false, false, false, false, false] rfl rfl (any_of HT_.out (by kernel_rfl)) (fun _ _ _ h => h) (Or.inl ⟨by rfl, ?_⟩) ?_ ?_
                                                          rotate_left
                                                          · intro w'
                                                            go_simp
                                                            with_reducible rfl
                                                          rotate_left
                                                          · simp only [Act.put, List.setIfInBounds_toArray, List.set_cons_zero, List.set_cons_succ, i64_w, i32_w]
                                                            rfl
                                                          refine pure_ (i := 3) (N := some 93) (v := ?_) (a' := ?_) #[true, false, true, true, false, false, false, false, false, false, false, false, false, false, false, false, false, false, false, false, false, false, false, false, false, false, false, false, false, false, false] rfl rfl (any_of HT_.out (by kernel_rfl)) (fun _ _ _ h => h) (Or.inl ⟨by rfl, ?_⟩) ?_ ?_
                                                          rotate_left
                                                          · intro w'
                                                            go_simp
                                                            with_reducible rfl
                                                          rotate_left
                                                          · simp only [Act.put, List.setIfInBounds_toArray, List.set_cons_zero, List.set_cons_succ, i64_w, i32_w]
                                                            rfl
                                                          refine pure_ (i := 4) (N := some 94) (v := ?_) (a' := ?_) #[true, false, true, true, true, false, false, false, false, false, false, false, false, false, false, false, false, false, false, false, false, false, false, false, false, false, false, false, false, false, false] rfl rfl (any_of HT_.out (by kernel_rfl)) (fun _ _ _ h => h) (Or.inl ⟨by rfl, ?_⟩) ?_ ?_
                                                          rotate_left
                                                          · intro w'
                                                            go_simp
                                                            with_reducible rfl
                                                          rotate_left
                                                          · simp only [Act.put, List.setIfInBounds_toArray, List.set_cons_zero, List.set_cons_succ, i64_w, i32_w]
                                                            rfl
                                                          refine pure_ (i := 6) (N := some 96) (v := ?_) (a' := ?_) #[true, false, true, true, true, false, true, false, false, false, false, false, false, false, false, false, false, false, false, false, false, false, false, false, false, false, false, false, false, false, false] rfl rfl (any_of HT_.out (by kernel_rfl)) (fun _ _ _ h => h) (Or.inl ⟨by rfl, ?_⟩) ?_ ?_
                                                          rotate_left
                                                          · intro w'
                                                            go_simp
                                                            with_reducible rfl
                                                          rotate_left
                                                          · simp only [Act.put, List.setIfInBounds_toArray, List.set_cons_zero, List.set_cons_succ, i64_w, i32_w]
                                                            rfl
                                                          refine pure_ (i := 7) (N := some 97) (v := ?_) (a' := ?_) #[true, false, true, true, true, false, true, true, false, false, false, false, false, false, false, false, false, false, false, false, false, false, false, false, false, false, false, false, false, false, false] rfl rfl (any_of HT_.out (by kernel_rfl)) (fun _ _ _ h => h) (Or.inl ⟨by rfl, ?_⟩) ?_ ?_
                                                          rotate_left
                                                          · intro w'
                                                            go_simp
                                                            with_reducible rfl
                                                          rotate_left
                                                          · simp only [Act.put, List.setIfInBounds_toArray, List.set_cons_zero, List.set_cons_succ, i64_w, i32_w]
                                                            rfl
                                                          refine pure_ (i := 8) (N := some 98) (v := ?_) (a' := ?_) #[true, false, true, true, true, false, true, true, true, false, false, false, false, false, false, false, false, false, false, false, false, false, false, false, false, false, false, false, false, false, false] rfl rfl (any_of HT_.out (by kernel_rfl)) (fun _ _ _ h => h) (Or.inl ⟨by rfl, ?_⟩) ?_ ?_
                                                          rotate_left
                                                          · intro w'
                                                            go_simp
                                                            with_reducible rfl
                                                          rotate_left
                                                          · simp only [Act.put, List.setIfInBounds_toArray, List.set_cons_zero, List.set_cons_succ, i64_w, i32_w]
                                                            rfl
                                                          refine pure_ (i := 9) (N := some 99) (v := ?_) (a' := ?_) #[true, false, true, true, true, false, true, true, true, true, false, false, false, false, false, false, false, false, false, false, false, false, false, false, false, false, false, false, false, false, false] rfl rfl (any_of HT_.out (by kernel_rfl)) (fun _ _ _ h => h) (Or.inl ⟨by rfl, ?_⟩) ?_ ?_
                                                          rotate_left
                                                          · intro w'
                                                            go_simp
                                                            with_reducible rfl
                                                          rotate_left
                                                          · simp only [Act.put, List.setIfInBounds_toArray, List.set_cons_zero, List.set_cons_succ, i64_w, i32_w]
                                                            rfl
                                                          refine pure_ (i := 11) (N := some 101) (v := ?_) (a' := ?_) #[true, false, true, true, true, false, true, true, true, true, false, true, false, false, false, false, false, false, false, false, false, false, false, false, false, false, false, false, false, false, false] rfl rfl (any_of HT_.out (by kernel_rfl)) (fun _ _ _ h => h) (Or.inl ⟨by rfl, ?_⟩) ?_ ?_
                                                          rotate_left
                                                          · intro w'
                                                            go_simp
                                                            with_reducible rfl
                                                          rotate_left
                                                          · simp only [Act.put, List.setIfInBounds_toArray, List.set_cons_zero, List.set_cons_succ, i64_w, i32_w]
                                                            rfl
                                                          refine pure_ (i := 12) (N := some 102) (v := ?_) (a' := ?_) #[true, false, true, true, true, false, true, true, true, true, false, true, true, false, false, false, false, false, false, false, false, false, false, false, false, false, false, false, false, false, false] rfl rfl (any_of HT_.out (by kernel_rfl)) (fun _ _ _ h => h) (Or.inl ⟨by rfl, ?_⟩) ?_ ?_
                                                          rotate_left
                                                          · intro w'
                                                            go_simp
                                                            with_reducible rfl
                                                          rotate_left
                                                          · simp only [Act.put, List.setIfInBounds_toArray, List.set_cons_zero, List.set_cons_succ, i64_w, i32_w]
                                                            rfl
                                                          refine pure_ (i := 13) (N := some 103) (v := ?_) (a' := ?_) #[true, false, true, true, true, false, true, true, true, true, false, true, true, true, false, false, false, false, false, false, false, false, false, false, false, false, false, false, false, false, false] rfl rfl (any_of HT_.out (by kernel_rfl)) (fun _ _ _ h => h) (Or.inl ⟨by rfl, ?_⟩) ?_ ?_
                                                          rotate_left
                                                          · intro w'
                                                            go_simp
                                                            with_reducible rfl
                                                          rotate_left
                                                          · simp only [Act.put, List.setIfInBounds_toArray, List.set_cons_zero, List.set_cons_succ, i64_w, i32_w]
                                                            rfl
                                                          refine pure_ (i := 14) (N := some 104) (v := ?_) (a' := ?_) #[true, false, true, true, true, false, true, true, true, true, false, true, true, true, true, false, false, false, false, false, false, false, false, false, false, false, false, false, false, false, false] rfl rfl (any_of HT_.out (by kernel_rfl)) (fun _ _ _ h => h) (Or.inl ⟨by rfl, ?_⟩) ?_ ?_
                                                          rotate_left
                                                          · intro w'
                                                            go_simp
                                                            with_reducible rfl
                                                          rotate_left
                                                          · simp only [Act.put, List.setIfInBounds_toArray, List.set_cons_zero, List.set_cons_succ, i64_w, i32_w]
                                                            rfl
                                                          refine pure_ (i := 16) (N := some 106) (v := ?_) (a' := ?_) #[true, false, true, true, true, false, true, true, true, true, false, true, true, true, true, false, true, false, false, false, false, false, false, false, false, false, false, false, false, false, false] rfl rfl (any_of HT_.out (by kernel_rfl)) (fun _ _ _ h => h) (Or.inl ⟨by rfl, ?_⟩) ?_ ?_
                                                          rotate_left
                                                          · intro w'
                                                            go_simp
                                                            with_reducible rfl
                                                          rotate_left
                                                          · simp only [Act.put, List.setIfInBounds_toArray, List.set_cons_zero, List.set_cons_succ, i64_w, i32_w]
                                                            rfl
                                                          refine pure_ (i := 17) (N := some 107) (v := ?_) (a' := ?_) #[true, false, true, true, true, false, true, true, true, true, false, true, true, true, true, false, true, true, false, false, false, false, false, false, false, false, false, false, false, false, false] rfl rfl (any_of HT_.out (by kernel_rfl)) (fun _ _ _ h => h) (Or.inl ⟨by rfl, ?_⟩) ?_ ?_
                                                          rotate_left
                                                          · intro w'
                                                            go_simp
                                                            with_reducible rfl
                                                          rotate_left
                                                          · simp only [Act.put, List.setIfInBounds_toArray, List.set_cons_zero, List.set_cons_succ, i64_w, i32_w]
                                                            rfl
                                                          refine pure_ (i := 18) (N := some 108) (v := ?_) (a' := ?_) #[true, false, true, true, true, false, true, true, true, true, false, true, true, true, true, false, true, true, true, false, false, false, false, false, false, false, false, false, false, false, false] rfl rfl (any_of HT_.out (by kernel_rfl)) (fun _ _ _ h => h) (Or.inl ⟨by rfl, ?_⟩) ?_ ?_
                                                          rotate_left
                                                          · intro w'
                                                            go_simp
                                                            with_reducible rfl
                                                          rotate_left
                                                          · simp only [Act.put, List.setIfInBounds_toArray, List.set_cons_zero, List.set_cons_succ, i64_w, i32_w]
                                                            rfl
                                                          refine pure_ (i := 19) (N := some 109) (v := ?_) (a' := ?_) #[true, false, true, true, true, false, true, true, true, true, false, true, true, true, true, false, true, true, true, true, false, false, false, false, false, false, false, false, false, false, false] rfl rfl (any_of HT_.out (by kernel_rfl)) (fun _ _ _ h => h) (Or.inl ⟨by rfl, ?_⟩) ?_ ?_
                                                          rotate_left
                                                          · intro w'
                                                            go_simp
                                                            with_reducible rfl
                                                          rotate_left
                                                          · simp only [Act.put, List.setIfInBounds_toArray, List.set_cons_zero, List.set_cons_succ, i64_w, i32_w]
                                                            rfl
                                                          refine pure_ (i := 21) (N := some 111) (v := ?_) (a' := ?_) #[true, false, true, true, true, false, true, true, true, true, false, true, true, true, true, false, true, true, true, true, false, true, false, false, false, false, false, false, false, false, false] rfl rfl (any_of HT_.out (by kernel_rfl)) (fun _ _ _ h => h) (Or.inl ⟨by rfl, ?_⟩) ?_ ?_
                                                          rotate_left
                                                          · intro w'
                                                            go_simp
                                                            with_reducible rfl
                                                          rotate_left
                                                          · simp only [Act.put, List.setIfInBounds_toArray, List.set_cons_zero, List.set_cons_succ, i64_w, i32_w]
                                                            rfl
                                                          refine pure_ (i := 22) (N := some 112) (v := ?_) (a' := ?_) #[true, false, true, true, true, false, true, true, true, true, false, true, true, true, true, false, true, true, true, true, false, true, true, false, false, false, false, false, false, false, false] rfl rfl (any_of HT_.out (by kernel_rfl)) (fun _ _ _ h => h) (Or.inl ⟨by rfl, ?_⟩) ?_ ?_
                                                          rotate_left
                                                          · intro w'
                                                            go_simp
                                                            with_reducible rfl
                                                          rotate_left
                                                          · simp only [Act.put, List.setIfInBounds_toArray, List.set_cons_zero, List.set_cons_succ, i64_w, i32_w]
                                                            rfl
                                                          refine pure_ (i := 23) (N := some 113) (v := ?_) (a' := ?_) #[true, false, true, true, true, false, true, true, true, true, false, true, true, true, true, false, true, true, true, true, false, true, true, true, false, false, false, false, false, false, false] rfl rfl (any_of HT_.out (by kernel_rfl)) (fun _ _ _ h => h) (Or.inl ⟨by rfl, ?_⟩) ?_ ?_
                                                          rotate_left
                                                          · intro w'
                                                            go_simp
                                                            with_reducible rfl
                                                          rotate_left
                                                          · simp only [Act.put, List.setIfInBounds_toArray, List.set_cons_zero, List.set_cons_succ, i64_w, i32_w]
                                                            rfl
                                                          refine pure_ (i := 24) (N := some 114) (v := ?_) (a' := ?_) #[true, false, true, true, true, false, true, true, true, true, false, true, true, true, true, false, true, true, true, true, false, true, true, true, true, false, false, false, false, false, false] rfl rfl (any_of HT_.out (by kernel_rfl)) (fun _ _ _ h => h) (Or.inl ⟨by rfl, ?_⟩) ?_ ?_
                                                          rotate_left
                                                          · intro w'
                                                            go_simp
                                                            with_reducible rfl
                                                          rotate_left
                                                          · simp only [Act.put, List.setIfInBounds_toArray, List.set_cons_zero, List.set_cons_succ, i64_w, i32_w]
                                                            rfl
                                                          refine take_ (i := 1) (N := some 91) (v := ?_) (a' := ?_) #[true, true, true, true, true, false, true, true, true, true, false, true, true, true, true, false, true, true, true, true, false, true, true, true, true, false, false, false, false, false, false] rfl rfl (take_ofW HT_.out HW_.out (by kernel_rfl)) (fun _ _ _ h => h) (Or.inl ⟨by rfl, ?_⟩) hHeld ?_ ?_
                                                          rotate_left
                                                          · rintro w' ⟨s0, s1, s2, s3, s4, s5, s6, s7, s8⟩
                                                            go_simp
                                                            with_reducible rfl
                                                          rotate_left
                                                          · simp only [Act.put, List.setIfInBounds_toArray, List.set_cons_zero, List.set_cons_succ, i64_w, i32_w]
                                                            rfl
                                                          refine take_ (i := 5) (N := some 95) (v := ?_) (a' := ?_) #[true, true, true, true, true, true, true, true, true, true, false, true, true, true, true, false, true, true, true, true, false, true, true, true, true, false, false, false, false, false, false] rfl rfl (take_ofW HT_.out HW_.out (by kernel_rfl)) (fun _ _ _ h => h) (Or.inl ⟨by rfl, ?_⟩) hHeld ?_ ?_
                                                          rotate_left
                                                          · rintro w' ⟨s0, s1, s2, s3, s4, s5, s6, s7, s8⟩
                                                            go_simp
                                                            with_reducible rfl
                                                          rotate_left
                                                          · simp only [Act.put, List.setIfInBounds_toArray, List.set_cons_zero, List.set_cons_succ, i64_w, i32_w]
                                                            rfl
                                                          refine take_ (i := 10) (N := some 100) (v := ?_) (a' := ?_) #[true, true, true, true, true, true, true, true, true, true, true, true, true, true, true, false, true, true, true, true, false, true, true, true, true, false, false, false, false, false, false] rfl rfl (take_ofW HT_.out HW_.out (by kernel_rfl)) (fun _ _ _ h => h) (Or.inl ⟨by rfl, ?_⟩) hHeld ?_ ?_
                                                          rotate_left
                                                          · rintro w' ⟨s0, s1, s2, s3, s4, s5, s6, s7, s8⟩
                                                            go_simp
                                                            with_reducible rfl
                                                          rotate_left
                                                          · simp only [Act.put, List.setIfInBounds_toArray, List.set_cons_zero, List.set_cons_succ, i64_w, i32_w]
                                                            rfl
                                                          refine take_ (i := 15) (N := some 105) (v := ?_) (a' := ?_) #[true, true, true, true, true, true, true, true, true, true, true, true, true, true, true, true, true, true, true, true, false, true, true, true, true, false, false, false, false, false, false] rfl rfl (take_ofW HT_.out HW_.out (by kernel_rfl)) (fun _ _ _ h => h) (Or.inl ⟨by rfl, ?_⟩) hHeld ?_ ?_
                                                          rotate_left
                                                          · rintro w' ⟨s0, s1, s2, s3, s4, s5, s6, s7, s8⟩
                                                            go_simp
                                                            with_reducible rfl
                                                          rotate_left
                                                          · simp only [Act.put, List.setIfInBounds_toArray, List.set_cons_zero, List.set_cons_succ, i64_w, i32_w]
                                                            rfl
                                                          refine take_ (i := 20) (N := some 110) (v := ?_) (a' := ?_) #[true, true, true, true, true, true, true, true, true, true, true, true, true, true, true, true, true, true, true, true, true, true, true, true, true, false, false, false, false, false, false] rfl rfl (take_ofW HT_.out HW_.out (by kernel_rfl)) (fun _ _ _ h => h) (Or.inl ⟨by rfl, ?_⟩) hHeld ?_ ?_
                                                          rotate_left
                                                          · rintro w' ⟨s0, s1, s2, s3, s4, s5, s6, s7, s8⟩
                                                            go_simp
                                                            with_reducible rfl
                                                          rotate_left
                                                          · simp only [Act.put, List.setIfInBounds_toArray, List.set_cons_zero, List.set_cons_succ, i64_w, i32_w]
                                                            rfl
                                                          refine take_ (i := 25) (N := some 115) (v := ?_) (a' := ?_) #[true, true, true, true, true, true, true, true, true, true, true, true, true, true, true, true, true, true, true, true, true, true, true, true, true, true, false, false, false, false, false] rfl rfl (take_ofW HT_.out HW_.out (by kernel_rfl)) (fun _ _ _ h => h) (Or.inl ⟨by rfl, ?_⟩) hHeld ?_ ?_
                                                          rotate_left
                                                          · rintro w' ⟨s0, s1, s2, s3, s4, s5, s6, s7, s8⟩
                                                            go_simp
                                                            with_reducible rfl
                                                          rotate_left
                                                          · simp only [Act.put, List.setIfInBounds_toArray, List.set_cons_zero, List.set_cons_succ, i64_w, i32_w]
                                                            rfl
                                                          refine pure_ (i := 26) (N := some 116) (v := ?_) (a' := ?_) #[true, true, true, true, true, true, true, true, true, true, true, true, true, true, true, true, true, true, true, true, true, true, true, true, true, true, true, false, false, false, false] rfl rfl (any_of HT_.out (by kernel_rfl)) (fun _ _ _ h => h) (Or.inl ⟨by rfl, ?_⟩) ?_ ?_
                                                          rotate_left
                                                          · intro w'
                                                            go_simp
                                                            with_reducible rfl
                                                          rotate_left
                                                          · simp only [Act.put, List.setIfInBounds_toArray, List.set_cons_zero, List.set_cons_succ, i64_w, i32_w]
                                                            rfl
                                                          refine one_ (i := 27) (N := some 117) #[true, true, true, true, true, true, true, true, true, true, true, true, true, true, true, true, true, true, true, true, true, true, true, true, true, true, true, true, false, false, false] rfl rfl (one_of HT_.out (by kernel_rfl)) (by decide) (fun K hK => ?_)
                                                          refine value_ (w1 := ?_) (v := ?_) (by rfl) rfl ?_ ?_
                                                          rotate_left 2
                                                          · go_simp
                                                            constructor
                                                            · rfl
                                                            · rfl
                                                          refine hK.out _ _ ⟨(blk_cell (blk_alloc BK224.out _) 0).trans rfl, (blk_cell (blk_alloc BK224.out _) 1).trans rfl, (blk_cell (blk_alloc BK224.out _) 2).trans rfl, (blk_cell (blk_alloc BK224.out _) 3).trans rfl, (World.cell?_alloc_lt _ _ _ (World.block_lt_of_cell? _ _ (hHeld.2.2.2.2.1))).trans (hHeld.2.2.2.2.1), (World.cell?_alloc_lt _ _ _ (World.block_lt_of_cell? _ _ (hHeld.2.2.2.2.2.1))).trans (hHeld.2.2.2.2.2.1), (World.cell?_alloc_lt _ _ _ (World.block_lt_of_cell? _ _ (hHeld.2.2.2.2.2.2.1))).trans (hHeld.2.2.2.2.2.2.1), (World.cell?_alloc_lt _ _ _ (World.block_lt_of_cell? _ _ (hHeld.2.2.2.2.2.2.2.1))).trans (hHeld.2.2.2.2.2.2.2.1), (World.cell?_alloc_lt _ _ _ (World.block_lt_of_cell? _ _ (hHeld.2.2.2.2.2.2.2.2))).trans (hHeld.2.2.2.2.2.2.2.2)⟩ (fun hHeld => ?_)
                                                          clear hK K
                                                          refine norm_ (a' := ?_) ?_ ?_
                                                          rotate_left
                                                          · show Act.put _ (some 117) _ = _
                                                            simp only [Act.put, List.setIfInBounds_toArray, List.set_cons_zero, List.set_cons_succ, i64_w, i32_w]
                                                            rfl
                                                          refine last_ (i := 28) (N := some 118) #[true, true, true, true, true, true, true, true, true, true, true, true, true, true, true, true, true, true, true, true, true, true, true, true, true, true, true, true, true, false, false] rfl rfl (one_of HT_.out (by kernel_rfl)) (by decide) (fun K hK => ?_)
                                                          refine Kd.R_append_step k38 (w0 := w) w.heap.size (by rfl) (.tmp 91) (.tmp 117) 39 38 (.agg #[(.int .i64 0), (.int .i64 0), (.int .i64 0), (.int .i64 0), (.int .i64 0)]) 40 rfl Try.underlying39 info38 rfl (by decide) (by omega) u225003 x225003_3 (⟨rd t216 x17_3, rd t216 (ji35), rd t216 (ji38), rd t216 (ji41), rd t216 (ji44)⟩ : S38) [.int .i64 (rd t216 x17_3), .int .i64 (rd t216 (ji35)), .int .i64 (rd t216 (ji38)), .int .i64 (rd t216 (ji41)), .int .i64 (rd t216 (ji44))] (fun _ => True) (fun _ => False) rfl rfl ?aP (fun _ hk => hk.elim) ?aF ?aO ?aB ?aS ?aL ?_
                                                          (case aP => exact k38_mkM _ _ _ (⟨rd t216 x17_3, rd t216 (ji35), rd t216 (ji38), rd t216 (ji41), rd t216 (ji44)⟩ : S38))
                                                          (case aB => exact (by repeat (first | (with_reducible first | exact HB.out | apply below_alloc | apply pw_below_drewN | apply below_drew1 | refine below_set ?_ GE224.out) | exact HB.out)))
                                                          (case aF => exact (fun _ _ => trivial))
                                                          (case aO => exact (by (with_reducible repeat (first | apply Kd.R_alloc | apply Kd.R_drewN | apply Kd.R_drew)); exact HO_225003.out))
                                                          (case aS => exact (below_size (by repeat (first | (with_reducible first | exact HB.out | apply below_alloc | apply pw_below_drewN | apply below_drew1 | refine below_set ?_ GE224.out) | exact HB.out))))
                                                          (case aL => have := LMc47.out; omega)
                                                          intro v231 w49 ho hb hg hat
                                                          rw [← Ny230.out] at ho
                                                          have n0_ := Aside0.mk (Kd.S_after (ok := (fun k_ => k_ ≠ gb224)) (by (with_reducible repeat (first | apply Kd.S_alloc | apply Kd.S_drewN | apply Kd.S_drew)); exact Kd.S_mono HO_8.out (fun _ hk => ⟨hk.2, hk.1⟩)) hg hat)
                                                          have n1_ := Aside0.mk (Kd.R_over' (by (with_reducible repeat (first | apply Kd.R_alloc | apply Kd.R_drewN | apply Kd.R_drew)); exact HO_13.out) (Kd.R_typed (by (with_reducible repeat (first | apply Kd.R_alloc | apply Kd.R_drewN | apply Kd.R_drew)); exact HO_225003.out)) (by decide) hg)
                                                          have n2_ := Aside0.mk (blk_grown (g := gb224) (o := .cells #[.string t212, .bool ((Int.tmod (rd t216 0) 2) == 1), .bool (decide ((rd t216 0) > 1)), u225003] 41 (0, 0)) (by (with_reducible repeat (first | refine blk_drewN ?_ _ | refine blk_drew ?_ | refine blk_alloc ?_ _)); exact BK224.out) hg (Kd.R_ne HO_225003.out BK224.out (by decide)))
                                                          have n3_ := Aside0.mk (hb)
                                                          have n4_ := Aside0.mk (ho)
                                                          clear HO_8
                                                          clear HO_13
                                                          clear BK224
                                                          clear HB
                                                          clear HO_225003
                                                          have HO_8 := n0_
                                                          have HO_13 := n1_
                                                          have BK224 := n2_
                                                          have HB := n3_
                                                          have HO232 := n4_
                                                          clear n0_ n1_ n2_ n3_ n4_
                                                          clear ho hb hg hat
                                                          obtain ⟨Ao50, co50, eo50⟩ := Kd.R_slice HO232.out
                                                          (first | subst eo50 | (injection eo50 with f1_ f2_ f3_; have f4_ := f1_.symm; have f5_ := f3_.symm; clear f1_ f2_ f3_; subst f4_; subst f5_))
                                                          refine hK.out _ _ ?_
                                                          clear hK K
                                                          refine norm_ (a' := ?_) ?_ ?_
                                                          rotate_left
                                                          · show Act.put _ (some 118) _ = _
                                                            simp only [Act.put, List.setIfInBounds_toArray, List.set_cons_zero, List.set_cons_succ, i64_w, i32_w]
                                                            rfl
                                                          refine pure_ (i := 29) (N := some 119) (v := ?_) (a' := ?_) #[true, true, true, true, true, true, true, true, true, true, true, true, true, true, true, true, true, true, true, true, true, true, true, true, true, true, true, true, true, true, false] rfl rfl (any_of HT_.out (by kernel_rfl)) (fun _ _ _ h => h) (Or.inl ⟨by rfl, ?_⟩) ?_ ?_
                                                          rotate_left
                                                          · intro w'
                                                            go_simp
                                                            with_reducible rfl
                                                          rotate_left
                                                          · simp only [Act.put, List.setIfInBounds_toArray, List.set_cons_zero, List.set_cons_succ, i64_w, i32_w]
                                                            rfl
                                                          refine last_ (i := 30) (N := none) #[true, true, true, true, true, true, true, true, true, true, true, true, true, true, true, true, true, true, true, true, true, true, true, true, true, true, true, true, true, true, true] rfl rfl (one_of HT_.out (by kernel_rfl)) (by decide) (fun K hK => ?_)
                                                          have hs51 : w49.cell? ⟨gb224, 3, none⟩ = some (u225003) := (blk_cell BK224.out 3).trans rfl
                                                          have hfs51 := blk_frozen BK224.out 3
                                                          refine skip_ (w1 := ?_) (by rfl) rfl ?_ ?_
                                                          rotate_left
                                                          · go_simp
                                                            rfl
                                                          refine hK.out _ _ ?_
                                                          clear hK K
                                                          refine done_ (done_of HT_.out (by kernel_rfl)) ?_
                                                          try go_wp2
                                                          go_roundg k3
                                                          case measure => have := HK1.out; have := HJ14.out; have := HK3.out; omega
                                                          case rel => exact ⟨(wrap64 (x17_3 + 5)), (y230), (.slice Ao50 y230.length co50), (by first | rfl | (simp; done) | (simp [*]; done)), H', ⟨by have := HK1.out; have := HJ14.out; have := HK3.out; omega⟩, ⟨by (with_reducible repeat (first | apply Kd.S_alloc | apply Kd.S_drewN | apply Kd.S_drew)); exact Kd.S_mono (Kd.S_far (p := ⟨gb224, 3, none⟩) (Kd.S_mono HO_8.out (fun k_ hk => (⟨hk, hk.1⟩ : _ ∧ k_ ≠ gb224))) (fun _ hk => hk.2) (.slice Ao50 y230.length co50)) (fun _ hk => ⟨hk.1.2, hk.1.1⟩)⟩, ⟨by (with_reducible repeat (first | apply Kd.R_alloc | apply Kd.R_drewN | apply Kd.R_drew)); exact Kd.R_mono (Kd.R_far (p := ⟨gb224, 3, none⟩) (Kd.R_types HO_13.out BK224.out (by decide)) (fun _ hk => hk.2) (.slice Ao50 y230.length co50)) (fun _ hk => trivial)⟩, ⟨by (with_reducible repeat (first | apply Kd.R_alloc | apply Kd.R_drewN | apply Kd.R_drew)); exact Kd.R_mono (Kd.R_far (p := ⟨gb224, 3, none⟩) (Kd.R_types HO232.out BK224.out (by decide)) (fun _ hk => hk.2) (.slice Ao50 y230.length co50)) (fun _ hk => trivial)⟩, ⟨by (with_reducible repeat (first | refine blk_drewN ?_ _ | refine blk_drew ?_ | refine blk_alloc ?_ _)); refine blk_put (cs := #[.string t212, .bool ((Int.tmod (rd t216 0) 2) == 1), .bool (decide ((rd t216 0) > 1)), u225003]) ?_ 3 _ rfl; (with_reducible repeat (first | refine blk_drewN ?_ _ | refine blk_drew ?_ | refine blk_alloc ?_ _)); exact BK224.out⟩, ⟨by repeat (first | (with_reducible first | exact HB.out | apply below_alloc | apply pw_below_drewN | apply below_drew1 | refine below_set ?_ GE224.out) | exact HB.out)⟩⟩
                                                        · rw [if_neg c47] at H
                                                          exact absurd H (by simp)
                                                      · rw [if_neg c46] at H
                                                        exact absurd H (by simp)
                                                    · rw [if_neg c45] at H
                                                      exact absurd H (by simp)
                                                  · rw [if_neg c43] at H
                                                    exact absurd H (by simp)
                                                · rw [if_neg c42] at H
                                                  exact absurd H (by simp)
                                              · rw [if_neg c40] at H
                                                exact absurd H (by simp)
                                            · rw [if_neg c39] at H
                                              exact absurd H (by simp)
                                          · rw [if_neg c37] at H
                                            exact absurd H (by simp)
                                        · rw [if_neg c36] at H
                                          exact absurd H (by simp)
                                      · rw [if_neg c34] at H
                                        exact absurd H (by simp)
                                    · rw [if_neg c33] at H
                                      have c33b0 : decide (x17_3 < (t216.length : Int)) = false := decide_eq_false c33
                                      clear c33
                                      by_cases c52 : x8_1.length < 2932031007402
                                      · rw [if_pos c52] at H
                                        have LMc52 := Aside0.mk c52
                                        clear c52
                                        obtain ⟨y233, hy233⟩ : ∃ y_ : List (S41), y_ = (x8_1 ++ [(⟨t212, ((Int.tmod (rd t216 0) 2) == 1), (decide ((rd t216 0) > 1)), x225003_3⟩ : S41)]) := ⟨_, rfl⟩
                                        replace H : (turnbuckleref05_Parse.l0 k3 l0 t206 (wrap64 ((ji10) + t217)) y233 (wrap64 (x9_1 + 1))) = some (r1, r2, r3) := by first | (rw [hy233]; with_reducible exact H) | (have H2_ := (Option.bind_some _ _).symm.trans H; rw [hy233]; with_reducible exact H2_) | (have H2_ := (Option.bind_some _ _).symm.trans H; with_reducible exact H2_) | with_reducible exact H | (rw [hy233]; exact H) | exact H
                                        have Ny233 := Aside0.mk hy233
                                        clear hy233
                                        have H' := Aside0.mk H
                                        clear H
                                        have hcz53_0 : wr.cell? ⟨gb224, 0, none⟩ = some (.string t212) := (blk_cell BK224.out 0).trans rfl
                                        have hcz53_1 : wr.cell? ⟨gb224, 1, none⟩ = some (.bool ((Int.tmod (rd t216 0) 2) == 1)) := (blk_cell BK224.out 1).trans rfl
                                        have hcz53_2 : wr.cell? ⟨gb224, 2, none⟩ = some (.bool (decide ((rd t216 0) > 1))) := (blk_cell BK224.out 2).trans rfl
                                        have hcz53_3 : wr.cell? ⟨gb224, 3, none⟩ = some (u225003) := (blk_cell BK224.out 3).trans rfl
                                        have hfz53_0 := blk_frozen BK224.out 0
                                        have hfz53_1 := blk_frozen BK224.out 1
                                        have hfz53_2 := blk_frozen BK224.out 2
                                        have hfz53_3 := blk_frozen BK224.out 3
                                        obtain ⟨Ao55, co55, eo55⟩ := Kd.R_slice HO_225003.out
                                        subst eo55
                                        go_wp2_with (first | ((with_reducible refine gate_builtin (b := .append) (xs := #[.tmp 120, .tmp 122]) rfl ?_); at_builtin; refine Kd.S_append k41 (w0 := w) w.heap.size rfl (.tmp 120) (.tmp 122) 24 41 (.agg #[(.string ⟨#[]⟩), (.bool false), (.bool false), (.slice none 0 0)]) 48 rfl Try.underlying24 info41 rfl (by decide) (by omega) u8 x8_1 (⟨t212, ((Int.tmod (rd t216 0) 2) == 1), (decide ((rd t216 0) > 1)), x225003_3⟩ : S41) [.string t212, .bool ((Int.tmod (rd t216 0) 2) == 1), .bool (decide ((rd t216 0) > 1)), .slice Ao55 x225003_3.length co55] (fun k_ => k_ ≠ gb224) (fun k_ => some k_ = (.slice Ao55 x225003_3.length co55 : Value).ownBlock) rfl rfl ?aP (fun k_ hk_ => ((Kd.R_mono (ok' := fun k_ => ((fun k_ => k_ ≠ gb224)) k_ ∧ some k_ ≠ (u8 : Value).ownBlock) (Kd.R_types (Kd.R_apart' (HO_225003.out) (Kd.S_typed HO_8.out) (by decide)) BK224.out (by decide)) (fun k_ hk => ⟨hk.2, hk.1.2⟩))).1 k_ hk_.symm) ?aF ?aO ?aB ?aS ?aL ?_; (case aP => exact k41_mkM _ _ _ (⟨t212, ((Int.tmod (rd t216 0) 2) == 1), (decide ((rd t216 0) > 1)), x225003_3⟩ : S41) (Kd.R_mono (Kd.R_tight rfl (Kd.R_mono (ok' := fun k_ => ((fun k_ => k_ ≠ gb224)) k_ ∧ some k_ ≠ (u8 : Value).ownBlock) (Kd.R_types (Kd.R_apart' (HO_225003.out) (Kd.S_typed HO_8.out) (by decide)) BK224.out (by decide)) (fun k_ hk => ⟨hk.2, hk.1.2⟩))) (fun _ h_ => h_))); (case aB => exact (by repeat (first | (with_reducible first | exact HB.out | apply below_alloc | apply pw_below_drewN | apply below_drew1 | refine below_set ?_ GE224.out) | exact HB.out))); (case aF => exact (fun k_ hk => Kd.freshB (g := gb224) (o := .cells #[.string t212, .bool ((Int.tmod (rd t216 0) 2) == 1), .bool (decide ((rd t216 0) > 1)), .slice Ao55 x225003_3.length co55] 41 (0, 0)) (by (with_reducible repeat (first | refine blk_drewN ?_ _ | refine blk_drew ?_ | refine blk_alloc ?_ _)); exact BK224.out) k_ hk)); (case aO => exact (by (with_reducible repeat (first | apply Kd.S_alloc | apply Kd.S_drewN | apply Kd.S_drew)); exact Kd.S_mono HO_8.out (fun k_ hk => ⟨hk.2, fun e_ => hk.1 e_⟩))); (case aS => exact (below_size (by repeat (first | (with_reducible first | exact HB.out | apply below_alloc | apply pw_below_drewN | apply below_drew1 | refine below_set ?_ GE224.out) | exact HB.out)))); (case aL => have := LMc52.out; omega); intro v234 w54 ho hb hg hat; rw [← Ny233.out] at ho; have n0_ := Aside0.mk (Kd.R_over' (by (with_reducible repeat (first | apply Kd.R_alloc | apply Kd.R_drewN | apply Kd.R_drew)); exact HO_13.out) (Kd.S_typed (by (with_reducible repeat (first | apply Kd.S_alloc | apply Kd.S_drewN | apply Kd.S_drew)); exact HO_8.out)) (by decide) hg); have n1_ := Aside0.mk (blk_grown (g := gb224) (o := .cells #[.string t212, .bool ((Int.tmod (rd t216 0) 2) == 1), .bool (decide ((rd t216 0) > 1)), .slice Ao55 x225003_3.length co55] 41 (0, 0)) (by (with_reducible repeat (first | refine blk_drewN ?_ _ | refine blk_drew ?_ | refine blk_alloc ?_ _)); exact BK224.out) hg (Kd.S_away HO_8.out (fun _ hk => hk.2))); have n2_ := Aside0.mk (hb); have n3_ := Aside0.mk (ho); clear HO_13; clear BK224; clear HB; clear HO_8; clear HO_225003; have HO_13 := n0_; have BK224 := n1_; have HB := n2_; have HO235 := n3_; clear n0_ n1_ n2_ n3_; clear ho hb hg hat))
                                        go_roundg k3
                                        case measure => have := HK1.out; have := HJ14.out; have := HK3.out; omega
                                        case rel => exact ⟨((wrap64 ((ji10) + t217))), (y233), (wrap64 (x9_1 + 1)), (by first | rfl | (simp; done) | (simp only [← hji10] <;> (first | rfl | simp)) | (simp [*]; done)), (by first | rfl | (simp; done) | (simp [*]; done)), H', ⟨by have := HK1.out; have := HJ14.out; have := HK3.out; omega⟩, ⟨by (with_reducible repeat (first | apply Kd.S_alloc | apply Kd.S_drewN | apply Kd.S_drew)); exact Kd.S_mono HO235.out (fun _ hk => trivial)⟩, ⟨by repeat (first | (with_reducible first | exact HB.out | apply below_alloc | apply pw_below_drewN | apply below_drew1 | refine below_set ?_ GE224.out) | exact HB.out)⟩⟩
                                      · rw [if_neg c52] at H
                                        exact absurd H (by simp)
                              · rw [if_neg c25] at H
                                exact absurd H (by simp)
                      · rw [if_neg c14] at H
                        have c14b0 : (t218 == 0) = false := beq_eq_false_iff_ne.mpr c14
                        have c14b1 : (t218 != 0) = true := bne_iff_ne.mpr c14
                        simp only [Option.some.injEq, Prod.mk.injEq] at H
                        obtain ⟨rfl, rfl, rfl⟩ := H
                        obtain ⟨i056, hi056, _, hsz56, _⟩ := info_parts info5
                        obtain ⟨A56, hcut56, hA56, hC56⟩ := print_drop_of (P := Try.prog) (Value.int .u8) 0 22 5 .i64 Try.underlying22 hi056 hsz56 A0 c0 l0 x6_1 (of_decide_eq_true (by first | (with_reducible assumption) | assumption)) (of_decide_eq_true (by first | (with_reducible assumption) | assumption)) HC0.out
                        have HR211 := Aside0.mk (Kd.C_of_reads (h1 := fun _ => rfl) (hA56 _ (Kd.reads_of_C HR0.out)))
                        have HC211 := Aside0.mk hC56
                        clear hA56 hC56 hi056 hsz56
                        go_wp2_with (first | ((with_reducible refine gate_callee (f := 15) rfl ?_); refine goesL_ (some 39) rfl rfl Try.func15 (by kernel_rfl) rfl #[.slice A56 (l0.drop (x6_1 : Int).toNat).length (c0 - x6_1.toNat)] rfl (by (try simp only [List.map_toArray, List.map_cons, List.map_nil]); first | done | (rw [show (l0.drop (x6_1 : Int).toNat).length = (l0.length - x6_1.toNat) from List.length_drop] <;> rfl) | rfl | (simp only [List.length_drop, List.length_take]; rfl)) ?_; (with_reducible refine (turnbuckleref04_TakeText.calls _ _ (l0.drop (x6_1 : Int).toNat) t212 t213 t214 _ ?side1 ?side2 A8.out).mono ?_); (case side1 => repeat (first | exact (Kd.C_below HR211.out HB.out) | (with_reducible refine Kd.C_alloc ?_ _) | (with_reducible refine Kd.C_drewN ?_ _) | (with_reducible refine Kd.C_drew ?_))); (case side2 => exact HC211.out); rintro e w57 ⟨rfl, hb⟩; refine ⟨_, rfl, ?_⟩; have n0_ := Aside0.mk (Kd.S_below (by (with_reducible repeat (first | apply Kd.S_alloc | apply Kd.S_drewN | apply Kd.S_drew)); exact HO_8.out) hb); have n1_ := Aside0.mk (below_step (by repeat (first | (with_reducible first | exact HB.out | apply below_alloc | apply pw_below_drewN | apply below_drew1) | exact HB.out)) hb); clear HO_8; clear HB; have HO_8 := n0_; have HB := n1_; clear n0_ n1_; (try clear hb); (try clear hb2); (try clear hk); (try clear hi); obtain ⟨i058, hi058, _, hsz58, _⟩ := info_parts info5; obtain ⟨A58, hcut58, hA58, hC58⟩ := print_drop_of (P := Try.prog) (Value.int .u8) 0 22 5 .i64 Try.underlying22 hi058 hsz58 A0 c0 l0 (ji10) (of_decide_eq_true (by first | (with_reducible assumption) | assumption)) (of_decide_eq_true (by first | (with_reducible assumption) | assumption)) HC0.out; have HR215 := Aside0.mk (Kd.C_of_reads (h1 := fun _ => rfl) (hA58 _ (Kd.reads_of_C HR0.out))); have HC215 := Aside0.mk hC58; clear hA58 hC58 hi058 hsz58) | ((with_reducible refine gate_callee (f := 16) rfl ?_); refine goesL_ (some 53) rfl rfl Try.func16 (by kernel_rfl) rfl #[.slice A58 (l0.drop ((ji10) : Int).toNat).length (c0 - (ji10).toNat)] rfl (by (try simp only [List.map_toArray, List.map_cons, List.map_nil]); first | done | (rw [show (l0.drop ((ji10) : Int).toNat).length = (l0.length - (ji10).toNat) from List.length_drop] <;> rfl) | (simp only [hji10]; rfl) | rfl | (simp only [List.length_drop, List.length_take]; rfl)) ?_; (with_reducible refine (turnbuckleref04_TakeInts.calls k1 _ _ (l0.drop ((ji10) : Int).toNat) t216 t217 t218 _ ?side1 ?side2 A13.out).mono ?_); (case side1 => repeat (first | exact (Kd.C_below HR215.out HB.out) | (with_reducible refine Kd.C_alloc ?_ _) | (with_reducible refine Kd.C_drewN ?_ _) | (with_reducible refine Kd.C_drew ?_))); (case side2 => exact HC215.out); rintro e w59 ⟨v219, rfl, ho0, hb⟩; refine ⟨_, rfl, ?_⟩; have n0_ := Aside0.mk (Kd.S_below (by (with_reducible repeat (first | apply Kd.S_alloc | apply Kd.S_drewN | apply Kd.S_drew)); exact HO_8.out) hb); have n1_ := Aside0.mk (Kd.R_lower ho0 (below_size (by repeat (first | (with_reducible first | exact HB.out | apply below_alloc | apply pw_below_drewN | apply below_drew1) | exact HB.out)))); have n2_ := Aside0.mk (below_step (by repeat (first | (with_reducible first | exact HB.out | apply below_alloc | apply pw_below_drewN | apply below_drew1) | exact HB.out)) hb); clear HO_8; clear HB; have HO_8 := n0_; have HO220 := n1_; have HB := n2_; clear n0_ n1_ n2_; (try clear hb); (try clear hb2); (try clear hk); (try clear hi); (try clear ho0)))
                        go_ret3
                        exact ⟨_, by first | rfl | (simp [errW_none, errW_some] <;> rfl) | (simp only [← hji10]; first | rfl | (simp [errW_none, errW_some] <;> rfl)) | (simp [*, errW_none, errW_some] <;> rfl), by first | exact Kd.S_nil _ _ _ _ _ | exact Kd.N_nil _ _ _ _ _ | exact Kd.V_nil _ _ _ _ _ | exact Kd.Q_nil _ _ _ _ _ | exact Kd.R_nil _ _ _ _ _, by repeat (first | (with_reducible first | exact HB.out | apply below_alloc | apply pw_below_drewN | apply below_drew1) | exact HB.out)⟩
                    · rw [if_neg c12] at H
                      exact absurd H (by simp)
                  · rw [if_neg c11] at H
                    exact absurd H (by simp)
                · rw [if_neg c9] at H
                  have c9b0 : (t214 == 0) = false := beq_eq_false_iff_ne.mpr c9
                  have c9b1 : (t214 != 0) = true := bne_iff_ne.mpr c9
                  simp only [Option.some.injEq, Prod.mk.injEq] at H
                  obtain ⟨rfl, rfl, rfl⟩ := H
                  obtain ⟨i060, hi060, _, hsz60, _⟩ := info_parts info5
                  obtain ⟨A60, hcut60, hA60, hC60⟩ := print_drop_of (P := Try.prog) (Value.int .u8) 0 22 5 .i64 Try.underlying22 hi060 hsz60 A0 c0 l0 x6_1 (of_decide_eq_true (by first | (with_reducible assumption) | assumption)) (of_decide_eq_true (by first | (with_reducible assumption) | assumption)) HC0.out
                  have HR211 := Aside0.mk (Kd.C_of_reads (h1 := fun _ => rfl) (hA60 _ (Kd.reads_of_C HR0.out)))
                  have HC211 := Aside0.mk hC60
                  clear hA60 hC60 hi060 hsz60
                  go_wp2_with (first | ((with_reducible refine gate_callee (f := 15) rfl ?_); refine goesL_ (some 39) rfl rfl Try.func15 (by kernel_rfl) rfl #[.slice A60 (l0.drop (x6_1 : Int).toNat).length (c0 - x6_1.toNat)] rfl (by (try simp only [List.map_toArray, List.map_cons, List.map_nil]); first | done | (rw [show (l0.drop (x6_1 : Int).toNat).length = (l0.length - x6_1.toNat) from List.length_drop] <;> rfl) | rfl | (simp only [List.length_drop, List.length_take]; rfl)) ?_; (with_reducible refine (turnbuckleref04_TakeText.calls _ _ (l0.drop (x6_1 : Int).toNat) t212 t213 t214 _ ?side1 ?side2 A8.out).mono ?_); (case side1 => repeat (first | exact (Kd.C_below HR211.out HB.out) | (with_reducible refine Kd.C_alloc ?_ _) | (with_reducible refine Kd.C_drewN ?_ _) | (with_reducible refine Kd.C_drew ?_))); (case side2 => exact HC211.out); rintro e w61 ⟨rfl, hb⟩; refine ⟨_, rfl, ?_⟩; have n0_ := Aside0.mk (Kd.S_below (by (with_reducible repeat (first | apply Kd.S_alloc | apply Kd.S_drewN | apply Kd.S_drew)); exact HO_8.out) hb); have n1_ := Aside0.mk (below_step (by repeat (first | (with_reducible first | exact HB.out | apply below_alloc | apply pw_below_drewN | apply below_drew1) | exact HB.out)) hb); clear HO_8; clear HB; have HO_8 := n0_; have HB := n1_; clear n0_ n1_; (try clear hb); (try clear hb2); (try clear hk); (try clear hi)))
                  go_ret3
                  exact ⟨_, by first | rfl | (simp [errW_none, errW_some] <;> rfl) | (simp [*, errW_none, errW_some] <;> rfl), by first | exact Kd.S_nil _ _ _ _ _ | exact Kd.N_nil _ _ _ _ _ | exact Kd.V_nil _ _ _ _ _ | exact Kd.Q_nil _ _ _ _ _ | exact Kd.R_nil _ _ _ _ _, by repeat (first | (with_reducible first | exact HB.out | apply below_alloc | apply pw_below_drewN | apply below_drew1) | exact HB.out)⟩
              · rw [if_neg c7] at H
                exact absurd H (by simp)
            · rw [if_neg c6] at H
              exact absurd H (by simp)
          · rw [if_neg c5] at H
            have c5b0 : decide (x9_1 < (wrap64 (t206))) = false := decide_eq_false c5
            clear c5
            replace H := Option.bind_eq_some_iff.mp H
            obtain ⟨⟨t209, t210⟩, A620, H⟩ := H
            replace H : (if t210 = 0 then (some (x8_1, x6_1, 0)) else (some (([] : List (S41)), 0, t210))) = some (r1, r2, r3) := H
            have A62 := Aside0.mk A620
            clear A620
            by_cases c63 : t210 = 0
            · rw [if_pos c63] at H
              have c63b0 : (t210 == 0) = true := beq_iff_eq.mpr c63
              have c63b1 : (t210 != 0) = false := bne_eq_false_iff_eq.mpr c63
              clear c63
              simp only [Option.some.injEq, Prod.mk.injEq] at H
              obtain ⟨rfl, rfl, rfl⟩ := H
              obtain ⟨Ao64, co64, eo64⟩ := Kd.S_slice HO_8.out
              subst eo64
              go_wp2_with (first | ((with_reducible refine gate_callee (f := 17) rfl ?_); refine goesL_ (some 126) rfl rfl Try.func17 (by kernel_rfl) rfl #[.slice Ao64 x8_1.length co64] rfl (by (try simp only [List.map_toArray, List.map_cons, List.map_nil]); first | done | rfl | (simp only [List.length_drop, List.length_take]; rfl)) ?_; (with_reducible refine (turnbuckleref05_Check.calls _ _ x8_1 t209 t210 _ ?side1 ?side2 A62.out).mono ?_); (case side1 => repeat (first | exact (Kd.S_reads' HO_8.out).2.2 | (with_reducible refine Kd.C_alloc ?_ _) | (with_reducible refine Kd.C_drewN ?_ _) | (with_reducible refine Kd.C_drew ?_))); (case side2 => exact (Kd.S_reads' HO_8.out).2.1); rintro e w65 ⟨rfl, hb⟩; refine ⟨_, rfl, ?_⟩; have n0_ := Aside0.mk (Kd.S_below (by (with_reducible repeat (first | apply Kd.S_alloc | apply Kd.S_drewN | apply Kd.S_drew)); exact HO_8.out) hb); have n1_ := Aside0.mk (below_step (by repeat (first | (with_reducible first | exact HB.out | apply below_alloc | apply pw_below_drewN | apply below_drew1) | exact HB.out)) hb); clear HO_8; clear HB; have HO_8 := n0_; have HB := n1_; clear n0_ n1_; (try clear hb); (try clear hb2); (try clear hk); (try clear hi)))
              go_ret3
              exact ⟨_, by first | rfl | (simp [errW_none, errW_some] <;> rfl) | (simp [*, errW_none, errW_some] <;> rfl), by (with_reducible repeat (first | apply Kd.S_alloc | apply Kd.S_drewN | apply Kd.S_drew)); exact HO_8.out, by repeat (first | (with_reducible first | exact HB.out | apply below_alloc | apply pw_below_drewN | apply below_drew1) | exact HB.out)⟩
            · rw [if_neg c63] at H
              have c63b0 : (t210 == 0) = false := beq_eq_false_iff_ne.mpr c63
              have c63b1 : (t210 != 0) = true := bne_iff_ne.mpr c63
              simp only [Option.some.injEq, Prod.mk.injEq] at H
              obtain ⟨rfl, rfl, rfl⟩ := H
              obtain ⟨Ao66, co66, eo66⟩ := Kd.S_slice HO_8.out
              subst eo66
              go_wp2_with (first | ((with_reducible refine gate_callee (f := 17) rfl ?_); refine goesL_ (some 126) rfl rfl Try.func17 (by kernel_rfl) rfl #[.slice Ao66 x8_1.length co66] rfl (by (try simp only [List.map_toArray, List.map_cons, List.map_nil]); first | done | rfl | (simp only [List.length_drop, List.length_take]; rfl)) ?_; (with_reducible refine (turnbuckleref05_Check.calls _ _ x8_1 t209 t210 _ ?side1 ?side2 A62.out).mono ?_); (case side1 => repeat (first | exact (Kd.S_reads' HO_8.out).2.2 | (with_reducible refine Kd.C_alloc ?_ _) | (with_reducible refine Kd.C_drewN ?_ _) | (with_reducible refine Kd.C_drew ?_))); (case side2 => exact (Kd.S_reads' HO_8.out).2.1); rintro e w67 ⟨rfl, hb⟩; refine ⟨_, rfl, ?_⟩; have n0_ := Aside0.mk (Kd.S_below (by (with_reducible repeat (first | apply Kd.S_alloc | apply Kd.S_drewN | apply Kd.S_drew)); exact HO_8.out) hb); have n1_ := Aside0.mk (below_step (by repeat (first | (with_reducible first | exact HB.out | apply below_alloc | apply pw_below_drewN | apply below_drew1) | exact HB.out)) hb); clear HO_8; clear HB; have HO_8 := n0_; have HB := n1_; clear n0_ n1_; (try clear hb); (try clear hb2); (try clear hk); (try clear hi)))
              go_ret3
              exact ⟨_, by first | rfl | (simp [errW_none, errW_some] <;> rfl) | (simp [*, errW_none, errW_some] <;> rfl), by first | exact Kd.S_nil _ _ _ _ _ | exact Kd.N_nil _ _ _ _ _ | exact Kd.V_nil _ _ _ _ _ | exact Kd.Q_nil _ _ _ _ _ | exact Kd.R_nil _ _ _ _ _, by repeat (first | (with_reducible first | exact HB.out | apply below_alloc | apply pw_below_drewN | apply below_drew1) | exact HB.out)⟩
  · rw [if_neg c3] at H
    have c3b0 : (t208 == 0) = false := beq_eq_false_iff_ne.mpr c3
    have c3b1 : (t208 != 0) = true := bne_iff_ne.mpr c3
    simp only [Option.some.injEq, Prod.mk.injEq] at H
    obtain ⟨rfl, rfl, rfl⟩ := H
    go_enter Try.func7, Try.ntmps7
    go_wp2_with (first | ((with_reducible refine gate_callee (f := 14) rfl ?_); refine goesL_ (some 20) rfl rfl Try.func14 (by kernel_rfl) rfl #[.slice A0 l0.length c0] rfl (by (try simp only [List.map_toArray, List.map_cons, List.map_nil]); first | done | rfl | (simp only [List.length_drop, List.length_take]; rfl)) ?_; (with_reducible refine (turnbuckleref04_TakeNumber.calls _ _ l0 t206 t207 t208 _ ?side1 ?side2 A2.out).mono ?_); (case side1 => repeat (first | exact HR0.out | (with_reducible refine Kd.C_alloc ?_ _) | (with_reducible refine Kd.C_drewN ?_ _) | (with_reducible refine Kd.C_drew ?_))); (case side2 => exact HC0.out); rintro e w' ⟨rfl, ⟨nd, rfl⟩⟩; refine ⟨_, rfl, ?_⟩))
    go_ret3
    exact ⟨_, by first | rfl | (simp [errW_none, errW_some] <;> rfl) | (simp [*, errW_none, errW_some] <;> rfl), by first | exact Kd.S_nil _ _ _ _ _ | exact Kd.N_nil _ _ _ _ _ | exact Kd.V_nil _ _ _ _ _ | exact Kd.Q_nil _ _ _ _ _ | exact Kd.R_nil _ _ _ _ _, by repeat (first | (with_reducible first | exact HB.out | apply below_alloc | apply pw_below_drewN | apply below_drew1) | exact HB.out)⟩

end Go.Proofs.Ytckijljnomojiaa.PTypesParses
