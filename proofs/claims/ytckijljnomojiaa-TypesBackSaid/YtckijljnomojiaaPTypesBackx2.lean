-- laid by wip/tools/mkprint.py, a turned copy of the print
import Derived.Test.YtckijljnomojiaaPTypesBackx0
namespace Go.Proofs.Ytckijljnomojiaa.PTypesBack
open Go.RowKit Go.Proofs.YtckijljnomojiaaW.PrintWords Go.Proofs.YtckijljnomojiaaW.PrintLast Go.Proofs.YtckijljnomojiaaW.PrintMore
attribute [local go_sem] max2_int min2_int max_two min_two max_three min_three max_four min_four   -- for this text's walks alone
set_option linter.unusedVariables false
set_option linter.unusedSimpArgs false

/-! ### wire_Number: function 18 -/
/-- a number's bytes -/
def numB : Nat → Int → List Int
  | 0, _ => []
  | k + 1, n => if n ≥ 128 then (n % 128 + 128) :: numB k (n / 128) else [n]
theorem numB_length (k : Nat) : ∀ n, (numB k n).length ≤ k := by
  induction k with
  | zero => intro n; simp [numB]
  | succ k ih =>
    intro n
    simp only [numB]
    split
    · have := ih (n / 128); simp; omega
    · simp
theorem wdiv (x : Int) (h0 : 0 ≤ x) (h1 : x < 18446744073709551616) : IntKind.u64.wrap (x.tdiv 128) = x / 128 := by
  rw [Int.tdiv_eq_ediv_of_nonneg h0]
  simp only [IntKind.wrap, IntKind.bits, IntKind.signed]
  have : x / 128 < 18446744073709551616 := by omega
  have h2 : 0 ≤ x / 128 := by omega
  simp
  omega
def wire_Number.f (a0 : Int) : Option (List Int) := if 0 ≤ a0 ∧ a0 < 18446744073709551616 then some (numB 10 a0) else none
set_option maxHeartbeats 400000 in
set_option maxRecDepth 100000 in
theorem wire_Number.calls (a0 : Int) (r : List Int) (w : World) (h : wire_Number.f a0 = some r) :
    Calls Try.prog 18 #[.int .u64 a0] w fun e w' => ∃ v0_ : Value, e = .returned (v0_) ∧ Kd.R (Kd.int .u8) 5 w' w.heap.size (fun _ => True) v0_ r ∧ Below w.heap.size w w' := by
  have hb : 0 ≤ a0 ∧ a0 < 18446744073709551616 ∧ numB 10 a0 = r := by
    unfold wire_Number.f at h
    split at h
    · rename_i c; exact ⟨c.1, c.2, Option.some.inj h⟩
    · cases h
  obtain ⟨b0, b1, b2⟩ := hb
  have HR := Lib.hid b2
  clear b2 h
  have HL := Lib.hid (numB_length 10 a0)
  have HB := Aside0.mk (Below.refl w.heap.size w)
  have HB1 := Lib.hid b1
  clear b1
  go_enter Try.func18, Try.ntmps18
  go_wp2
  go_loopw [0, 3] (fun v0 v3 w' => ∃ (x : Int) (xs : List Int) (k : Nat), v0 = .int .u64 x ∧ 0 ≤ x ∧ Hid (x < 18446744073709551616 ∧ (x < 128 ^ (k + 1) ∧ k ≤ 9 ∧ xs ++ numB (k + 1) x = numB 10 a0)) ∧ Aside0 (Kd.R (Kd.int .u8) 5 w' w.heap.size (fun _ => True) v3 xs) ∧ Aside0 (Below w.heap.size w w')) (fun v0 _ _ => (intOf v0).toNat)
  case atStart =>
    refine ⟨a0, [], 9, rfl, b0, ⟨HB1.out, ?_, by omega, rfl⟩, ⟨Kd.R_nil _ _ _ _ _⟩, ⟨?_⟩⟩
    · have := HB1.out; show a0 < 1180591620717411303424; omega
    · exact HB.out
  case round =>
    clear HB
    obtain ⟨x, xs, k, rfl, x0, HX, HO, HB⟩ := hrel
    have hlen : xs.length ≤ 10 := by
      have h1 := HL.out
      rw [← HX.out.2.2.2] at h1
      simp at h1
      omega
    by_cases c : 128 ≤ x
    · have cb : decide (128 ≤ x) = true := decide_eq_true c
      go_wp2_with (first | ((with_reducible refine gate_builtin (b := .append) (xs := #[.tmp 8, .tmp 13]) rfl ?_); at_builtin; refine Kd.R_append (Kd.int .u8) (w0 := w) w.heap.size rfl (.tmp 8) (.tmp 13) 22 5 (.int .u8 0) 1 rfl Try.underlying22 info5 rfl (by decide) (by omega) u3 xs (x % 128 + 128) [.int .u8 (x % 128 + 128)] (fun _ => True) (fun _ => False) rfl rfl ?aP (fun _ hk => hk.elim) ?aF ?aO ?aB ?aS ?aL ?_; (case aP => exact rfl); (case aB => exact HB.out); (case aF => exact (fun _ _ => trivial)); (case aO => exact HO.out); (case aS => exact (below_size HB.out)); (case aL => omega); intro v102 w4 ho hb hg hat; have HB4 := Aside0.mk hb; have HO4 := Aside0.mk ho; clear ho hb hg hat HB HO))
      go_roundw
      case rel =>
        obtain ⟨h1, h2, h3, h4⟩ := HX.out
        cases k with
        | zero => exfalso; simp at h2; omega
        | succ k =>
          refine ⟨x / 128, xs ++ [x % 128 + 128], k, by rw [wdiv x x0 h1], by omega, ⟨by omega, ?_, by omega, ?_⟩, HO4, HB4⟩
          · rw [Int.pow_succ] at h2; omega
          · rw [← h4, List.append_assoc]
            conv => rhs; rw [numB]
            rw [if_pos c]
            rfl
      case measure =>
        rw [wdiv x x0 HX.out.1]
        simp [intOf]
        omega
    · have cb : decide (128 ≤ x) = false := decide_eq_false c
      go_wp2_with (first | ((with_reducible refine gate_builtin (b := .append) (xs := #[.tmp 15, .tmp 18]) rfl ?_); at_builtin; refine Kd.R_append (Kd.int .u8) (w0 := w) w.heap.size rfl (.tmp 15) (.tmp 18) 22 5 (.int .u8 0) 1 rfl Try.underlying22 info5 rfl (by decide) (by omega) u3 xs x [.int .u8 x] (fun _ => True) (fun _ => False) rfl rfl ?aP (fun _ hk => hk.elim) ?aF ?aO ?aB ?aS ?aL ?_; (case aP => exact rfl); (case aB => exact HB.out); (case aF => exact (fun _ _ => trivial)); (case aO => exact HO.out); (case aS => exact (below_size HB.out)); (case aL => omega); intro v102 w4 ho hb hg hat; have HB4 := Aside0.mk hb; have HO4 := Aside0.mk ho; clear ho hb hg hat HB HO))
      go_ret
      have e : xs ++ [x] = r := by
        rw [← HR.out, ← HX.out.2.2.2, numB, if_neg (by omega)]
      rw [← e]
      exact ⟨_, rfl, HO4.out, HB4.out⟩


/-! ### wire_name: function 29 -/
/-- a letter, a digit, an underscore -/
def nameByte (n : Nat) : Bool := (97 ≤ n && n ≤ 122) || (65 ≤ n && n ≤ 90) || (48 ≤ n && n ≤ 57) || n == 95
def nameOk (s : ByteArray) : Bool := s.data.toList.all (fun c => nameByte c.toNat)

theorem low5 : ∀ n : Fin 128, ((97 ≤ bits .or .i32 (n.val : Int) 32 ∧ bits .or .i32 (n.val : Int) 32 ≤ 122) ↔ ((97 ≤ n.val ∧ n.val ≤ 122) ∨ (65 ≤ n.val ∧ n.val ≤ 90))) := by decide +kernel
theorem low5' (n : Nat) (h : n < 128) : ((97 ≤ bits .or .i32 (n : Int) 32 ∧ bits .or .i32 (n : Int) 32 ≤ 122) ↔ ((97 ≤ n ∧ n ≤ 122) ∨ (65 ≤ n ∧ n ≤ 90))) := low5 ⟨n, h⟩

theorem nameOk_no (s : ByteArray) (pos : Nat) (h : pos < s.size) (hb : nameByte (s[pos]'h).toNat = false) : nameOk s = false := by
  unfold nameOk
  rw [List.all_eq_false]
  exact ⟨s[pos]'h, Array.getElem_mem_toList (xs := s.data) h, by simp [hb]⟩
theorem nameOk_yes (s : ByteArray) (hb : ∀ j, ∀ h : j < s.size, nameByte (s[j]'h).toNat = true) : nameOk s = true := by
  unfold nameOk
  rw [List.all_eq_true]
  intro c hc
  obtain ⟨j, hj, rfl⟩ := List.getElem_of_mem hc
  have hj' : j < s.size := by simpa using hj
  exact hb j hj'

set_option maxHeartbeats 400000 in
set_option maxRecDepth 100000 in
theorem name_calls (s : ByteArray) (w : World) (hs : s.size ≤ maxLen) :
    Calls Try.prog 29 #[.string s] w fun e w' => e = .returned (.bool (nameOk s && decide (0 < s.size) && decide (s.size ≤ 16))) ∧ Below w.heap.size w w' := by
  unfold maxLen at hs
  have HB : ∀ pos, Below w.heap.size w (w.iter s pos) := fun pos => (Below.refl _ w).alloc (Nat.le_refl _) _
  have HB := Lib.hid HB
  go_enter Try.func29, Try.ntmps29
  go_wp2
  go_loopw [2] (fun v w' => v = .bool false ∧ ∃ pos, w' = w.iter s pos ∧ ∀ j, j < pos → ∀ h : j < s.size, nameByte (s[j]'h).toNat = true) (fun _ w' => s.size - w'.iterPos w.heap.size)
  case atStart => exact ⟨rfl, 0, rfl, by omega⟩
  case round =>
    obtain ⟨rfl, pos, rfl, hA⟩ := hrel
    have HA := Lib.hid hA
    clear hA
    by_cases hp : pos < s.size
    · by_cases ha : (s[pos]'hp).toNat < 128
      · have hnx : ∀ ty, (Instr.next (.pointer (some ⟨w.heap.size, 0, none⟩)) true ty).run Try.prog (w.iter s pos) = _ := fun ty => run_next_ascii w s pos ty hp ha
        have hl := low5' (s[pos]'hp).toNat ha
        have HL := Lib.hid hl
        have HN := Lib.hid (nameOk_no s pos hp)
        clear hl
        obtain ⟨n, hn⟩ : ∃ n, n = (s[pos]'hp).toNat := ⟨_, rfl⟩
        have HNn := Lib.hid hn
        rw [← hn] at hnx ha
        clear hn
        go_wp2
        all_goals
          have hl := HL.out
          have hb0 := HN.out
          rw [← HNn.out] at hl hb0
          first
            | (go_ret
               have hb : nameByte n = false := by
                 simp only [bne_iff_ne, ne_eq] at *
                 simp [nameByte]
                 omega
               exact ⟨by rw [hb0 hb]; simp, HB.out _⟩)
            | (go_roundw
               case rel =>
                 refine ⟨rfl, pos + 1, rfl, fun j hj h => ?_⟩
                 by_cases hjp : j < pos
                 · exact HA.out j hjp h
                 · obtain rfl : j = pos := by omega
                   rw [← HNn.out]
                   try simp only [bne_eq_false_iff_eq] at *
                   simp [nameByte]
                   omega
               case measure => simp; omega)
      · have hnx : ∀ ty, (Instr.next (.pointer (some ⟨w.heap.size, 0, none⟩)) true ty).run Try.prog (w.iter s pos) = _ := fun ty => run_next_any w s pos ty hp
        have hb : nameByte (s[pos]'hp).toNat = false := by
          simp [nameByte]
          omega
        have HF := Lib.hid (nameOk_no s pos hp hb)
        have hd := (decode_high s pos hp (by omega)).1
        clear ha hb
        generalize Utf8.decode s pos = d at *
        have h95 : ((d.1 : Int) != 95) = true := by simp; omega
        go_wp2
        all_goals go_ret
        all_goals exact ⟨by rw [HF.out]; simp, HB.out _⟩
    · have hnx : ∀ ty, (Instr.next (.pointer (some ⟨w.heap.size, 0, none⟩)) true ty).run Try.prog (w.iter s pos) = _ := fun ty => run_next_end w s pos ty hp
      have HF := Lib.hid (nameOk_yes s (fun j h => HA.out j (by omega) h))
      clear HA
      go_wp2
      all_goals go_ret
      all_goals refine ⟨?_, HB.out _⟩
      all_goals rw [HF.out]
      all_goals simp [*]
      all_goals omega

/-- the text's own test -/
def nameAll (s : ByteArray) : Bool := nameOk s && decide (0 < s.size) && decide (s.size ≤ 16)
def wire_name.f (a0 : ByteArray) : Option Bool := if a0.size ≤ 9223372036854775807 then some (nameAll a0) else none
theorem wire_name.calls (a0 : ByteArray) (r : Bool) (w : World) (h : wire_name.f a0 = some r) :
    Calls Try.prog 29 #[.string a0] w fun e w' => e = .returned (.bool r) ∧ Below w.heap.size w w' := by
  unfold wire_name.f at h
  split at h
  · rename_i hs
    obtain rfl := Option.some.inj h
    exact name_calls a0 w hs
  · cases h


/-! ### wire_Text: function 19 -/
def wire_Text.f (a0 : ByteArray) : Option (List Int × Int) := (wire_name.f a0).bind fun t101 => (if t101 = true then ((wire_Number.f (IntKind.u64.wrap ((a0.size : Int)))).bind fun t102 => (if t102.length + a0.size < 140737488355328 then (some ((t102 ++ bytesOf a0), 0)) else (none))) else (some (([] : List Int), 1)))
set_option maxHeartbeats 8000000 in
set_option maxRecDepth 100000 in
theorem wire_Text.calls (a0 : ByteArray) (r1 : List Int) (r2 : Int) (w : World) (h : wire_Text.f a0 = some (r1, r2)) :
    Calls Try.prog 19 #[.string a0] w fun e w' => ∃ v0_ : Value, e = .returned (.tuple #[v0_, .int .i64 r2]) ∧ Kd.R (Kd.int .u8) 5 w' w.heap.size (fun _ => True) v0_ r1 ∧ Below w.heap.size w w' := by
  have HB := Aside0.mk (Below.refl w.heap.size w)
  have H : ((wire_name.f a0).bind fun t101 => (if t101 = true then ((wire_Number.f (IntKind.u64.wrap ((a0.size : Int)))).bind fun t102 => (if t102.length + a0.size < 140737488355328 then (some ((t102 ++ bytesOf a0), 0)) else (none))) else (some (([] : List Int), 1)))) = some (r1, r2) := h
  clear h
  replace H := Option.bind_eq_some_iff.mp H
  obtain ⟨t101, A20, H⟩ := H
  replace H : (if t101 = true then ((wire_Number.f (IntKind.u64.wrap ((a0.size : Int)))).bind fun t102 => (if t102.length + a0.size < 140737488355328 then (some ((t102 ++ bytesOf a0), 0)) else (none))) else (some (([] : List Int), 1))) = some (r1, r2) := H
  have A2 := Aside0.mk A20
  clear A20
  by_cases c3 : t101 = true
  · subst c3
    have H1 : ((wire_Number.f (IntKind.u64.wrap ((a0.size : Int)))).bind fun t102 => (if t102.length + a0.size < 140737488355328 then (some ((t102 ++ bytesOf a0), 0)) else (none))) = some (r1, r2) := by rw [if_pos rfl] at H; exact H
    clear H
    have H := H1
    clear H1
    replace H := Option.bind_eq_some_iff.mp H
    obtain ⟨t102, A40, H⟩ := H
    replace H : (if t102.length + a0.size < 140737488355328 then (some ((t102 ++ bytesOf a0), 0)) else (none)) = some (r1, r2) := H
    have A4 := Aside0.mk A40
    clear A40
    by_cases c5 : t102.length + a0.size < 140737488355328
    · rw [if_pos c5] at H
      have LMc5 := Aside0.mk c5
      clear c5
      obtain ⟨y105, hy105⟩ : ∃ y_ : List Int, y_ = (t102 ++ bytesOf a0) := ⟨_, rfl⟩
      replace H : (some (y105, 0)) = some (r1, r2) := by first | (rw [hy105]; with_reducible exact H) | (have H2_ := (Option.bind_some _ _).symm.trans H; rw [hy105]; with_reducible exact H2_) | (have H2_ := (Option.bind_some _ _).symm.trans H; with_reducible exact H2_) | with_reducible exact H | (rw [hy105]; exact H) | exact H
      have Ny105 := Aside0.mk hy105
      clear hy105
      simp only [Option.some.injEq, Prod.mk.injEq] at H
      obtain ⟨rfl, rfl⟩ := H
      go_enter Try.func19, Try.ntmps19
      go_wp2_with (first | ((with_reducible refine gate_callee (f := 29) rfl ?_); refine goesL_ (some 5) rfl rfl Try.func29 (by kernel_rfl) rfl #[.string a0] rfl (by (try simp only [List.map_toArray, List.map_cons, List.map_nil]); first | done | rfl | (simp only [List.length_drop, List.length_take]; rfl)) ?_; (with_reducible refine (wire_name.calls a0 true _ A2.out).mono ?_); rintro e w6 ⟨rfl, hb⟩; refine ⟨_, rfl, ?_⟩; have n0_ := Aside0.mk (below_step (by repeat (first | (with_reducible first | exact HB.out | apply below_alloc | apply pw_below_drewN | apply below_drew1) | exact HB.out)) hb); clear HB; have HB := n0_; clear n0_; (try clear hb); (try clear hb2); (try clear hk); (try clear hi)) | ((with_reducible refine gate_callee (f := 18) rfl ?_); refine goesL_ (some 10) rfl rfl Try.func18 (by kernel_rfl) rfl #[.int .u64 (IntKind.u64.wrap ((a0.size : Int)))] rfl (by (try simp only [List.map_toArray, List.map_cons, List.map_nil]); first | done | rfl | (simp only [List.length_drop, List.length_take]; rfl)) ?_; (with_reducible refine (wire_Number.calls (IntKind.u64.wrap ((a0.size : Int))) t102 _ A4.out).mono ?_); rintro e w7 ⟨v103, rfl, ho0, hb⟩; refine ⟨_, rfl, ?_⟩; have n0_ := Aside0.mk (Kd.R_lower ho0 (below_size (by repeat (first | (with_reducible first | exact HB.out | apply below_alloc | apply pw_below_drewN | apply below_drew1) | exact HB.out)))); have n1_ := Aside0.mk (below_step (by repeat (first | (with_reducible first | exact HB.out | apply below_alloc | apply pw_below_drewN | apply below_drew1) | exact HB.out)) hb); clear HB; have HO104 := n0_; have HB := n1_; clear n0_ n1_; (try clear hb); (try clear hb2); (try clear hk); (try clear hi); (try clear ho0)) | (at_builtin; refine print_append_str (w0 := w) w.heap.size rfl (.tmp 10) _ 22 9 5 rfl Try.underlying22 Try.underlying9 info5 v103 t102 a0 rfl rfl ?aO ?aB ?aS ?aL ?_; (case aB => exact (by repeat (first | (with_reducible first | exact HB.out | apply below_alloc | apply pw_below_drewN | apply below_drew1) | exact HB.out))); (case aO => exact (Kd.own_of_R (by (with_reducible repeat (first | apply Kd.R_alloc | apply Kd.R_drewN | apply Kd.R_drew)); exact HO104.out))); (case aS => exact (below_size (by repeat (first | (with_reducible first | exact HB.out | apply below_alloc | apply pw_below_drewN | apply below_drew1) | exact HB.out)))); (case aL => have := LMc5.out; omega); intro v106 w8 ho0 hb hg; have ho := Kd.R_of_own (h1 := fun _ => rfl) (ok := fun _ => True) ho0 (fun _ _ => trivial); clear ho0; have hat := True.intro; rw [← Ny105.out] at ho; change Kd.R (Kd.int .u8) 5 w8 w.heap.size (fun _ => True) v106 y105 at ho; have n0_ := Aside0.mk (hb); have n1_ := Aside0.mk (ho); clear HB; clear HO104; have HB := n0_; have HO107 := n1_; clear n0_ n1_; clear ho hb hg hat))
      go_ret2
      exact ⟨_, by first | rfl | (simp [errW_none, errW_some] <;> rfl) | (simp [*, errW_none, errW_some] <;> rfl), by (with_reducible repeat (first | apply Kd.R_alloc | apply Kd.R_drewN | apply Kd.R_drew)); exact HO107.out, by repeat (first | (with_reducible first | exact HB.out | apply below_alloc | apply pw_below_drewN | apply below_drew1) | exact HB.out)⟩
    · rw [if_neg c5] at H
      exact absurd H (by simp)
  · replace c3 := Bool.eq_false_iff.mpr c3
    subst c3
    have H1 : (some (([] : List Int), 1)) = some (r1, r2) := by rw [if_neg (show ¬ (false = true) by decide)] at H; exact H
    clear H
    have H := H1
    clear H1
    simp only [Option.some.injEq, Prod.mk.injEq] at H
    obtain ⟨rfl, rfl⟩ := H
    go_enter Try.func19, Try.ntmps19
    go_wp2_with (first | ((with_reducible refine gate_callee (f := 29) rfl ?_); refine goesL_ (some 5) rfl rfl Try.func29 (by kernel_rfl) rfl #[.string a0] rfl (by (try simp only [List.map_toArray, List.map_cons, List.map_nil]); first | done | rfl | (simp only [List.length_drop, List.length_take]; rfl)) ?_; (with_reducible refine (wire_name.calls a0 false _ A2.out).mono ?_); rintro e w9 ⟨rfl, hb⟩; refine ⟨_, rfl, ?_⟩; have n0_ := Aside0.mk (below_step (by repeat (first | (with_reducible first | exact HB.out | apply below_alloc | apply pw_below_drewN | apply below_drew1) | exact HB.out)) hb); clear HB; have HB := n0_; clear n0_; (try clear hb); (try clear hb2); (try clear hk); (try clear hi)))
    go_ret2
    exact ⟨_, by first | rfl | (simp [errW_none, errW_some] <;> rfl) | (simp [*, errW_none, errW_some] <;> rfl), by first | exact Kd.R_nil _ _ _ _ _ | exact Kd.N_nil _ _ _ _ _ | exact Kd.V_nil _ _ _ _ _ | exact Kd.Q_nil _ _ _ _ _ | exact Kd.S_nil _ _ _ _ _, by repeat (first | (with_reducible first | exact HB.out | apply below_alloc | apply pw_below_drewN | apply below_drew1) | exact HB.out)⟩

/-! ### types_size: function 23 -/
theorem xf_bcell {W w1 : World} (hb : Below W.heap.size W w1) : (∀ b o, b < W.heap.size → w1.cell? ⟨b, o, none⟩ = W.cell? ⟨b, o, none⟩) ∧ (∀ b o, b < W.heap.size → w1.frozen? ⟨b, o, none⟩ = W.frozen? ⟨b, o, none⟩) :=
  ⟨fun b o h => hb.cell (p := ⟨b, o, none⟩) h, fun b o h => hb.frozen (p := ⟨b, o, none⟩) h⟩

/-- types.size of a scalar -/
theorem size1_yes (a b c d : Int) (w : World) (h1 : 1 ≤ a) (h2 : a ≤ 16) :
    Calls Try.prog 23 #[.agg #[.int .i64 1, .int .i64 a, .int .i64 b, .int .i64 c, .int .i64 d]] w fun e w' => e = .returned (.int .i64 (8 * a)) ∧ Below w.heap.size w w' := by
  go_enter Try.func23, Try.ntmps23
  go_wp2
  go_ret
  exact ⟨rfl, (((Below.refl _ _).alloc (Nat.le_refl _) _))⟩
theorem size1_no (a b c d : Int) (w : World) (h : ¬ (1 ≤ a ∧ a ≤ 16)) :
    Calls Try.prog 23 #[.agg #[.int .i64 1, .int .i64 a, .int .i64 b, .int .i64 c, .int .i64 d]] w fun e w' => e = .returned (.int .i64 0) ∧ Below w.heap.size w w' := by
  by_cases h0 : a < 1
  · clear h
    go_enter Try.func23, Try.ntmps23
    go_wp2
    go_ret
    exact ⟨rfl, (((Below.refl _ _).alloc (Nat.le_refl _) _))⟩
  · have h1 : 16 < a := by omega
    clear h
    go_enter Try.func23, Try.ntmps23
    go_wp2
    go_ret
    exact ⟨rfl, (((Below.refl _ _).alloc (Nat.le_refl _) _))⟩

/-- a field's size -/
def sizeF (f : S38) : Int := if f.f0 = 1 then (if 1 ≤ f.f1 ∧ f.f1 ≤ 16 then 8 * f.f1 else 0) else if f.f0 = 2 ∨ f.f0 = 5 ∨ f.f0 = 6 ∨ f.f0 = 7 then 8 else if f.f0 = 3 then 16 else if f.f0 = 4 then 24 else 0
set_option maxHeartbeats 2000000 in
theorem size_any (k a b c d : Int) (w : World) :
    Calls Try.prog 23 #[.agg #[.int .i64 k, .int .i64 a, .int .i64 b, .int .i64 c, .int .i64 d]] w fun e w' => e = .returned (.int .i64 (sizeF ⟨k, a, b, c, d⟩)) ∧ Below w.heap.size w w' := by
  generalize hz : sizeF ⟨k, a, b, c, d⟩ = z
  have HZ := Lib.hid hz
  clear hz
  by_cases h1 : k = 1
  · subst h1
    have h := HZ.out
    simp only [sizeF] at h
    rw [if_pos trivial] at h
    by_cases hs : 1 ≤ a ∧ a ≤ 16
    · rw [if_pos hs] at h
      rw [← h]
      exact size1_yes a b c d w hs.1 hs.2
    · rw [if_neg hs] at h
      rw [← h]
      exact size1_no a b c d w hs
  · have hb1 : (k == 1) = false := by simpa using h1
    have H1 := Lib.hid h1
    clear h1
    go_enter Try.func23, Try.ntmps23
    go_wp2
    all_goals go_ret
    all_goals refine ⟨?_, by repeat (first | exact Below.refl _ _ | apply below_alloc)⟩
    all_goals rw [← HZ.out]
    all_goals refine congrArg (fun x => Ending.returned (Value.int .i64 x)) (?_ : _ = sizeF ⟨k, a, b, c, d⟩)
    all_goals (have h1 := H1.out; simp only [beq_iff_eq, beq_eq_false_iff_ne, ne_eq, Bool.or_eq_true, Bool.or_eq_false_iff, Bool.and_eq_true] at *; unfold sizeF; simp only [])
    all_goals (repeat' split) <;> first | rfl | omega

def types_size.f (a0_0 : Int) (a0_1 : Int) (a0_2 : Int) (a0_3 : Int) (a0_4 : Int) : Option Int := some (sizeF ⟨a0_0, a0_1, a0_2, a0_3, a0_4⟩)
theorem types_size.calls (a0_0 : Int) (a0_1 : Int) (a0_2 : Int) (a0_3 : Int) (a0_4 : Int) (r : Int) (w : World) (h : types_size.f a0_0 a0_1 a0_2 a0_3 a0_4 = some r) :
    Calls Try.prog 23 #[.agg #[.int .i64 a0_0, .int .i64 a0_1, .int .i64 a0_2, .int .i64 a0_3, .int .i64 a0_4]] w fun e w' => e = .returned (.int .i64 r) ∧ Below w.heap.size w w' := by
  obtain rfl := Option.some.inj h
  exact size_any a0_0 a0_1 a0_2 a0_3 a0_4 w


-- NOT PRINTED: function 35 (types_none)

-- NOT PRINTED: function 36 (types_kind)

-- NOT PRINTED: function 30 (types_field)

-- NOT PRINTED: function 21 (types_check)

-- NOT PRINTED: function 22 (types_leads)

end Go.Proofs.Ytckijljnomojiaa.PTypesBack
