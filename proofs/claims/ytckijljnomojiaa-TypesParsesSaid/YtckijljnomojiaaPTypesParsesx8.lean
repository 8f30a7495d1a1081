-- laid by wip/tools/mkprint.py, a turned copy of the print
import Derived.Test.YtckijljnomojiaaPTypesParsesx0
import Derived.Test.YtckijljnomojiaaPTypesParsesx2
import Derived.Test.YtckijljnomojiaaPTypesParsesx3
import Derived.Test.YtckijljnomojiaaPTypesParsesx6
import Derived.Test.YtckijljnomojiaaPTypesParsesx7
namespace Go.Proofs.Ytckijljnomojiaa.PTypesParses
open Go.RowKit Go.Proofs.YtckijljnomojiaaW.PrintWords Go.Proofs.YtckijljnomojiaaW.PrintLast Go.Proofs.YtckijljnomojiaaW.PrintMore
attribute [local go_sem] max2_int min2_int max_two min_two max_three min_three max_four min_four   -- for this text's walks alone
set_option linter.unusedVariables false
set_option linter.unusedSimpArgs false

/-! ### turnbuckleref05_Check: function 17 -/
set_option maxHeartbeats 4000000 in
set_option maxRecDepth 100000 in
theorem rfield3 (k : Int) (hk : k = 3 ∨ k = 4) (A0 : Option Addr) (n0 c0 : Nat) (t0 : ByteArray) (tv t2 : Bool) (A3 : Option Addr) (n3 c3 : Nat) (a b c d : Int) (w : World) :
    Calls Try.prog 31 #[.slice A0 n0 c0, .agg #[.string t0, .bool tv, .bool t2, .slice A3 n3 c3], .agg #[.int .i64 k, .int .i64 a, .int .i64 b, .int .i64 c, .int .i64 d]] w fun e w' =>
      e = .returned (.int .i64 (if zeros [a, b, c, d] && !tv then 0 else 7)) ∧ Below w.heap.size w w' := by
  generalize hz : (if zeros [a, b, c, d] && !tv then 0 else 7 : Int) = z
  have HZ := Lib.hid hz
  clear hz
  rcases hk with rfl | rfl
  all_goals
    go_enter Try.func31, Try.ntmps31
    go_wp2
    all_goals go_ret
    all_goals refine ⟨?_, by repeat (first | exact Below.refl _ _ | apply below_alloc)⟩
    all_goals rw [← HZ.out]
    all_goals (simp [zeros, *])
set_option maxHeartbeats 4000000 in
set_option maxRecDepth 100000 in
theorem rfield7 (A0 : Option Addr) (n0 c0 : Nat) (t0 : ByteArray) (tv t2 : Bool) (A3 : Option Addr) (n3 c3 : Nat) (a b c d : Int) (w : World) :
    Calls Try.prog 31 #[.slice A0 n0 c0, .agg #[.string t0, .bool tv, .bool t2, .slice A3 n3 c3], .agg #[.int .i64 7, .int .i64 a, .int .i64 b, .int .i64 c, .int .i64 d]] w fun e w' =>
      e = .returned (.int .i64 (if zeros [a, b, c, d] && tv then 0 else 7)) ∧ Below w.heap.size w w' := by
  generalize hz : (if zeros [a, b, c, d] && tv then 0 else 7 : Int) = z
  have HZ := Lib.hid hz
  clear hz
  cases tv
  all_goals
    go_enter Try.func31, Try.ntmps31
    go_wp2
    all_goals go_ret
    all_goals refine ⟨?_, by repeat (first | exact Below.refl _ _ | apply below_alloc)⟩
    all_goals rw [← HZ.out]
    all_goals (simp [zeros, *])
set_option maxHeartbeats 4000000 in
set_option maxRecDepth 100000 in
theorem rfield0 (k : Int) (hk : (k == 1) = false ∧ (k == 2) = false ∧ (k == 3) = false ∧ (k == 4) = false ∧ (k == 5) = false ∧ (k == 6) = false ∧ (k == 7) = false) (A0 : Option Addr) (n0 c0 : Nat) (t0 : ByteArray) (tv t2 : Bool) (A3 : Option Addr) (n3 c3 : Nat) (a b c d : Int) (w : World) :
    Calls Try.prog 31 #[.slice A0 n0 c0, .agg #[.string t0, .bool tv, .bool t2, .slice A3 n3 c3], .agg #[.int .i64 k, .int .i64 a, .int .i64 b, .int .i64 c, .int .i64 d]] w fun e w' =>
      e = .returned (.int .i64 (7)) ∧ Below w.heap.size w w' := by
  obtain ⟨k1, k2, k3, k4, k5, k6, k7⟩ := hk
  go_enter Try.func31, Try.ntmps31
  go_wp2
  go_ret
  exact ⟨rfl, by repeat (first | exact Below.refl _ _ | apply below_alloc)⟩
/-- Size of a scalar -/
theorem rsize1 (a b c d : Int) (r : Int) (hr : r = if 1 ≤ a ∧ a ≤ 16 then 8 * a else 0) (w : World) :
    Calls Try.prog 32 #[.agg #[.int .i64 1, .int .i64 a, .int .i64 b, .int .i64 c, .int .i64 d]] w fun e w' => e = .returned (.int .i64 r) ∧ Below w.heap.size w w' := by
  have HR := Lib.hid hr
  clear hr
  by_cases h1 : 1 ≤ a
  · by_cases h2 : a ≤ 16
    · go_enter Try.func32, Try.ntmps32
      go_wp2
      go_ret
      rw [HR.out, if_pos ⟨h1, h2⟩]
      exact ⟨rfl, by repeat (first | exact Below.refl _ _ | apply below_alloc)⟩
    · go_enter Try.func32, Try.ntmps32
      go_wp2
      go_ret
      rw [HR.out, if_neg (by omega)]
      exact ⟨rfl, by repeat (first | exact Below.refl _ _ | apply below_alloc)⟩
  · go_enter Try.func32, Try.ntmps32
    go_wp2
    go_ret
    rw [HR.out, if_neg (by omega)]
    exact ⟨rfl, by repeat (first | exact Below.refl _ _ | apply below_alloc)⟩
set_option maxHeartbeats 4000000 in
set_option maxRecDepth 100000 in
theorem rfield1 (A0 : Option Addr) (n0 c0 : Nat) (t0 : ByteArray) (tv t2 : Bool) (A3 : Option Addr) (n3 c3 : Nat) (a b c d : Int) (w : World) :
    Calls Try.prog 31 #[.slice A0 n0 c0, .agg #[.string t0, .bool tv, .bool t2, .slice A3 n3 c3], .agg #[.int .i64 1, .int .i64 a, .int .i64 b, .int .i64 c, .int .i64 d]] w fun e w' =>
      e = .returned (.int .i64 (if zeros [b, c, d] then (if 1 ≤ a ∧ a ≤ 16 then 0 else 4) else 7)) ∧ Below w.heap.size w w' := by
  by_cases hb : b = 0
  · subst hb
    by_cases hc : c = 0
    · subst hc
      by_cases hd : d = 0
      · subst hd
        rw [if_pos (by rfl)]
        by_cases hs : 1 ≤ a ∧ a ≤ 16
        · have h0 : ((8 * a : Int) == 0) = false := by simp; omega
          have HR := Lib.hid (show (8 * a : Int) = if 1 ≤ a ∧ a ≤ 16 then 8 * a else 0 from (if_pos hs).symm)
          rw [if_pos hs]
          clear hs
          go_enter Try.func31, Try.ntmps31
          go_wp2_with (go_at_call 32; refine (rsize1 a 0 0 0 (8 * a) HR.out _).mono ?_; rintro e w' ⟨rfl, hb⟩; have HB := Lib.hid hb; obtain ⟨hc, hf⟩ := xf_bcell hb; have fc0 : w'.cell? ⟨w.heap.size + 1, 0, none⟩ = some (.int .i64 1) := (by rw [hc _ _ (by simp)]; go_simp); clear hb hc hf)
          go_ret
          exact ⟨rfl, below_step (by repeat (first | exact Below.refl _ _ | apply below_alloc)) HB.out⟩
        · have HR := Lib.hid (show (0 : Int) = if 1 ≤ a ∧ a ≤ 16 then 8 * a else 0 from (if_neg hs).symm)
          rw [if_neg hs]
          clear hs
          go_enter Try.func31, Try.ntmps31
          go_wp2_with (go_at_call 32; refine (rsize1 a 0 0 0 0 HR.out _).mono ?_; rintro e w' ⟨rfl, hb⟩; have HB := Lib.hid hb; clear hb)
          go_ret
          exact ⟨rfl, below_step (by repeat (first | exact Below.refl _ _ | apply below_alloc)) HB.out⟩
      · rw [if_neg (by simp [zeros, hd])]
        have h1 : (d == 0) = false := by simpa using hd
        clear hd
        go_enter Try.func31, Try.ntmps31
        go_wp2
        go_ret
        exact ⟨rfl, by repeat (first | exact Below.refl _ _ | apply below_alloc)⟩
    · rw [if_neg (by simp [zeros, hc])]
      have h1 : (c == 0) = false := by simpa using hc
      clear hc
      go_enter Try.func31, Try.ntmps31
      go_wp2
      go_ret
      exact ⟨rfl, by repeat (first | exact Below.refl _ _ | apply below_alloc)⟩
  · rw [if_neg (by simp [zeros, hb])]
    have h1 : (b == 0) = false := by simpa using hb
    clear hb
    go_enter Try.func31, Try.ntmps31
    go_wp2
    go_ret
    exact ⟨rfl, by repeat (first | exact Below.refl _ _ | apply below_alloc)⟩
/-- turnbuckleref05.Kind -/
theorem rkind_any (fs : List S38) (f0 : ByteArray) (f1 f2 : Bool) (A3 : Option Addr) (c3 : Nat) (i : Int) (w : World) (hlen : fs.length ≤ 9223372036854775807) (hk : k38.C w A3 fs.length fs) :
    Calls Try.prog 37 #[.agg #[.string f0, .bool f1, .bool f2, .slice A3 fs.length c3], .int .i64 i] w fun e w' => e = .returned (.int .i64 (kindOf fs i)) ∧ Below w.heap.size w w' := by
  by_cases h : 0 ≤ i ∧ i < fs.length
  · obtain ⟨h0, h1⟩ := h
    have hr : kindOf fs i = (rd_T38 fs i).f0 := if_pos ⟨h0, h1⟩
    obtain ⟨ad, rfl, e0, -⟩ := at_T38 hk i h0 h1
    rw [hr]
    generalize (rd_T38 fs i).f0 = x at *
    clear hr hk
    obtain ⟨q, rfl⟩ : ∃ q : Nat, i = q := ⟨i.toNat, by omega⟩
    simp only [Int.toNat_natCast] at e0
    have hb : (ad.add (q * 5)).block < w.heap.size := World.block_lt_of_cell? w (ad.add (q * 5)) e0
    have hq : q < fs.length := by omega
    clear h0 h1
    have hq0 : ¬ ((q : Int) < 0) := by omega
    go_enter Try.func37, Try.ntmps37
    go_wp2
    go_ret
    exact ⟨rfl, (((Below.refl _ _).alloc (Nat.le_refl _) _))⟩
  · have hr : kindOf fs i = 0 := if_neg h
    rw [hr]
    clear hr hk
    by_cases h0 : i < 0
    · go_enter Try.func37, Try.ntmps37
      go_wp2
      go_ret
      exact ⟨rfl, (((Below.refl _ _).alloc (Nat.le_refl _) _))⟩
    · have h1 : (fs.length : Int) ≤ i := by omega
      go_enter Try.func37, Try.ntmps37
      go_wp2
      go_ret
      exact ⟨rfl, (((Below.refl _ _).alloc (Nat.le_refl _) _))⟩
set_option maxHeartbeats 4000000 in
set_option maxRecDepth 100000 in
theorem rfield2 (l : List S41) (A0 : Option Addr) (c0 : Nat) (t0 : ByteArray) (tv t2 : Bool) (A3 : Option Addr) (n3 c3 : Nat) (a ty c d : Int) (w : World) (hlen : l.length ≤ 9223372036854775807) (hr0 : Kd.C k41 w A0 l.length l) :
    Calls Try.prog 31 #[.slice A0 l.length c0, .agg #[.string t0, .bool tv, .bool t2, .slice A3 n3 c3], .agg #[.int .i64 2, .int .i64 a, .int .i64 ty, .int .i64 c, .int .i64 d]] w fun e w' =>
      e = .returned (.int .i64 (if zeros [a, c, d] then target l ty (fun _ => 0) else 7)) ∧ Below w.heap.size w w' := by
  by_cases ha : a = 0
  case neg =>
    rw [if_neg (by simp [zeros, ha])]
    have h1 : (a == 0) = false := by simpa using ha
    clear ha hr0
    go_enter Try.func31, Try.ntmps31
    go_wp2
    go_ret
    exact ⟨rfl, by repeat (first | exact Below.refl _ _ | apply below_alloc)⟩
  case pos =>
    subst ha
    by_cases hc : c = 0
    case neg =>
      rw [if_neg (by simp [zeros, hc])]
      have h1 : (c == 0) = false := by simpa using hc
      clear hc hr0
      go_enter Try.func31, Try.ntmps31
      go_wp2
      go_ret
      exact ⟨rfl, by repeat (first | exact Below.refl _ _ | apply below_alloc)⟩
    case pos =>
      subst hc
      by_cases hd : d = 0
      case neg =>
        rw [if_neg (by simp [zeros, hd])]
        have h1 : (d == 0) = false := by simpa using hd
        clear hd hr0
        go_enter Try.func31, Try.ntmps31
        go_wp2
        go_ret
        exact ⟨rfl, by repeat (first | exact Below.refl _ _ | apply below_alloc)⟩
      case pos =>
        subst hd
        rw [if_pos (by simp [zeros])]
        by_cases hr : ty < 0
        case pos =>
          rw [show target l ty _ = 4 from if_pos (.inl hr)]
          clear hr0
          go_enter Try.func31, Try.ntmps31
          go_wp2
          go_ret
          exact ⟨rfl, by repeat (first | exact Below.refl _ _ | apply below_alloc)⟩
        case neg =>
        by_cases hr2 : (l.length : Int) ≤ ty
        case pos =>
          rw [show target l ty _ = 4 from if_pos (.inr hr2)]
          clear hr0
          go_enter Try.func31, Try.ntmps31
          go_wp2
          go_ret
          exact ⟨rfl, by repeat (first | exact Below.refl _ _ | apply below_alloc)⟩
        case neg =>
          obtain ⟨q, rfl⟩ : ∃ q : Nat, ty = q := ⟨ty.toNat, by omega⟩
          have hq : q < l.length := by omega
          obtain ⟨ad, A3', c3', hat⟩ := at_of hr0 q hq
          obtain ⟨rfl, e0, e1, e2, e3, h3, hk⟩ := hat
          have hbl : (ad.add (q * 4)).block < w.heap.size := World.block_lt_of_cell? w (ad.add (q * 4)) e0
          rw [show target l q (fun _ => 0) = (if (rd_T41 l q).f1 then 7 else 0) from by unfold target; rw [if_neg (by omega)]]
          have hq0 : ¬ ((q : Int) < 0) := by omega
          clear hr hr2 hr0
          generalize rd_T41 l q = u at *
          obtain ⟨u0, u1, u2, u3⟩ := u
          simp only at e0 e1 e2 e3 h3 hk
          have HK := Lib.hid hk
          clear hk
          have h3l : u3.length ≤ 9223372036854775807 := Kd.C_max HK.out
          cases u1 with
          | true =>
            rw [if_pos (by rfl)]
            go_enter Try.func31, Try.ntmps31
            go_wp2
            go_ret
            exact ⟨rfl, by repeat (first | exact Below.refl _ _ | apply below_alloc)⟩
          | false =>
            rw [if_neg (by simp)]
            go_enter Try.func31, Try.ntmps31
            go_wp2
            go_ret
            exact ⟨rfl, by repeat (first | exact Below.refl _ _ | apply below_alloc)⟩
set_option maxHeartbeats 4000000 in
set_option maxRecDepth 100000 in
theorem rfield5 (l : List S41) (A0 : Option Addr) (c0 : Nat) (t0 : ByteArray) (tv t2 : Bool) (A3 : Option Addr) (n3 c3 : Nat) (a ty c d : Int) (w : World) (hlen : l.length ≤ 9223372036854775807) (hr0 : Kd.C k41 w A0 l.length l) :
    Calls Try.prog 31 #[.slice A0 l.length c0, .agg #[.string t0, .bool tv, .bool t2, .slice A3 n3 c3], .agg #[.int .i64 5, .int .i64 a, .int .i64 ty, .int .i64 c, .int .i64 d]] w fun e w' =>
      e = .returned (.int .i64 (if zeros [a, d] && tv then target l ty (fun u => if kindOf u.f3 c = 3 then 0 else 7) else 7)) ∧ Below w.heap.size w w' := by
  by_cases ha : a = 0
  case neg =>
    rw [if_neg (by simp [zeros, ha])]
    have h1 : (a == 0) = false := by simpa using ha
    clear ha hr0
    go_enter Try.func31, Try.ntmps31
    go_wp2
    go_ret
    exact ⟨rfl, by repeat (first | exact Below.refl _ _ | apply below_alloc)⟩
  case pos =>
    subst ha
    by_cases hd : d = 0
    case neg =>
      rw [if_neg (by simp [zeros, hd])]
      have h1 : (d == 0) = false := by simpa using hd
      clear hd hr0
      go_enter Try.func31, Try.ntmps31
      go_wp2
      go_ret
      exact ⟨rfl, by repeat (first | exact Below.refl _ _ | apply below_alloc)⟩
    case pos =>
      subst hd
      cases tv with
      | false =>
        rw [if_neg (by simp [zeros])]
        clear hr0
        go_enter Try.func31, Try.ntmps31
        go_wp2
        go_ret
        exact ⟨rfl, by repeat (first | exact Below.refl _ _ | apply below_alloc)⟩
      | true =>
        rw [if_pos (by simp [zeros])]
        by_cases hr : ty < 0
        case pos =>
          rw [show target l ty _ = 4 from if_pos (.inl hr)]
          clear hr0
          go_enter Try.func31, Try.ntmps31
          go_wp2
          go_ret
          exact ⟨rfl, by repeat (first | exact Below.refl _ _ | apply below_alloc)⟩
        case neg =>
        by_cases hr2 : (l.length : Int) ≤ ty
        case pos =>
          rw [show target l ty _ = 4 from if_pos (.inr hr2)]
          clear hr0
          go_enter Try.func31, Try.ntmps31
          go_wp2
          go_ret
          exact ⟨rfl, by repeat (first | exact Below.refl _ _ | apply below_alloc)⟩
        case neg =>
          obtain ⟨q, rfl⟩ : ∃ q : Nat, ty = q := ⟨ty.toNat, by omega⟩
          have hq : q < l.length := by omega
          obtain ⟨ad, A3', c3', hat⟩ := at_of hr0 q hq
          obtain ⟨rfl, e0, e1, e2, e3, h3, hk⟩ := hat
          have hbl : (ad.add (q * 4)).block < w.heap.size := World.block_lt_of_cell? w (ad.add (q * 4)) e0
          rw [show target l q (fun u => if kindOf u.f3 c = 3 then 0 else 7) = (if (rd_T41 l q).f1 then 7 else (if kindOf (rd_T41 l q).f3 c = 3 then 0 else 7)) from by unfold target; rw [if_neg (by omega)]]
          have hq0 : ¬ ((q : Int) < 0) := by omega
          clear hr hr2 hr0
          generalize rd_T41 l q = u at *
          obtain ⟨u0, u1, u2, u3⟩ := u
          simp only at e0 e1 e2 e3 h3 hk
          have HK := Lib.hid hk
          clear hk
          have h3l : u3.length ≤ 9223372036854775807 := Kd.C_max HK.out
          cases u1 with
          | true =>
            rw [if_pos (by rfl)]
            go_enter Try.func31, Try.ntmps31
            go_wp2
            go_ret
            exact ⟨rfl, by repeat (first | exact Below.refl _ _ | apply below_alloc)⟩
          | false =>
            rw [if_neg (by simp)]
            obtain ⟨kk, hkk⟩ : ∃ kk, kk = kindOf u3 c := ⟨_, rfl⟩
            have HKK := Lib.hid hkk
            simp only
            rw [← hkk]
            clear hkk
            by_cases h3k : kk = 3
            case pos =>
              have hb3 : (kk != 3) = false := by rw [h3k]; rfl
              rw [if_pos h3k]
              clear h3k
              go_enter Try.func31, Try.ntmps31
              go_wp2_with (go_at_call 37; refine (rkind_any u3 u0 false u2 A3' c3' c _ h3l ?_).mono ?_; (· exact Kd.C_below HK.out (by repeat (first | exact Below.refl _ _ | apply below_alloc))); rw [← HKK.out]; rintro e w' ⟨rfl, hb⟩; have HB := Lib.hid hb; obtain ⟨hc, hf⟩ := xf_bcell hb; have fc0 : w'.cell? ⟨w.heap.size + 1, 0, none⟩ = some (.int .i64 5) := (by rw [hc _ _ (by simp)]; go_simp); clear hb hc hf)
              go_ret
              exact ⟨rfl, below_step (by repeat (first | exact Below.refl _ _ | apply below_alloc)) HB.out⟩
            case neg =>
              have hb3 : (kk != 3) = true := by simpa using h3k
              rw [if_neg h3k]
              clear h3k
              go_enter Try.func31, Try.ntmps31
              go_wp2_with (go_at_call 37; refine (rkind_any u3 u0 false u2 A3' c3' c _ h3l ?_).mono ?_; (· exact Kd.C_below HK.out (by repeat (first | exact Below.refl _ _ | apply below_alloc))); rw [← HKK.out]; rintro e w' ⟨rfl, hb⟩; have HB := Lib.hid hb; obtain ⟨hc, hf⟩ := xf_bcell hb; have fc0 : w'.cell? ⟨w.heap.size + 1, 0, none⟩ = some (.int .i64 5) := (by rw [hc _ _ (by simp)]; go_simp); clear hb hc hf)
              go_ret
              exact ⟨rfl, below_step (by repeat (first | exact Below.refl _ _ | apply below_alloc)) HB.out⟩
set_option maxHeartbeats 4000000 in
set_option maxRecDepth 100000 in
theorem rfield6 (l : List S41) (A0 : Option Addr) (c0 : Nat) (t0 : ByteArray) (tv t2 : Bool) (A3 : Option Addr) (n3 c3 : Nat) (a ty c d : Int) (w : World) (hlen : l.length ≤ 9223372036854775807) (hr0 : Kd.C k41 w A0 l.length l) :
    Calls Try.prog 31 #[.slice A0 l.length c0, .agg #[.string t0, .bool tv, .bool t2, .slice A3 n3 c3], .agg #[.int .i64 6, .int .i64 a, .int .i64 ty, .int .i64 c, .int .i64 d]] w fun e w' =>
      e = .returned (.int .i64 (if zeros [a] && tv then target l ty (fun u => if !u.f2 && (kindOf u.f3 c == 4) && (kindOf u.f3 d == 1) then 0 else 7) else 7)) ∧ Below w.heap.size w w' := by
  by_cases ha : a = 0
  case neg =>
    rw [if_neg (by simp [zeros, ha])]
    have h1 : (a == 0) = false := by simpa using ha
    clear ha hr0
    go_enter Try.func31, Try.ntmps31
    go_wp2
    go_ret
    exact ⟨rfl, by repeat (first | exact Below.refl _ _ | apply below_alloc)⟩
  case pos =>
    subst ha
    cases tv with
    | false =>
      rw [if_neg (by simp [zeros])]
      clear hr0
      go_enter Try.func31, Try.ntmps31
      go_wp2
      go_ret
      exact ⟨rfl, by repeat (first | exact Below.refl _ _ | apply below_alloc)⟩
    | true =>
      rw [if_pos (by simp [zeros])]
      by_cases hr : ty < 0
      case pos =>
        rw [show target l ty _ = 4 from if_pos (.inl hr)]
        clear hr0
        go_enter Try.func31, Try.ntmps31
        go_wp2
        go_ret
        exact ⟨rfl, by repeat (first | exact Below.refl _ _ | apply below_alloc)⟩
      case neg =>
      by_cases hr2 : (l.length : Int) ≤ ty
      case pos =>
        rw [show target l ty _ = 4 from if_pos (.inr hr2)]
        clear hr0
        go_enter Try.func31, Try.ntmps31
        go_wp2
        go_ret
        exact ⟨rfl, by repeat (first | exact Below.refl _ _ | apply below_alloc)⟩
      case neg =>
        obtain ⟨q, rfl⟩ : ∃ q : Nat, ty = q := ⟨ty.toNat, by omega⟩
        have hq : q < l.length := by omega
        obtain ⟨ad, A3', c3', hat⟩ := at_of hr0 q hq
        obtain ⟨rfl, e0, e1, e2, e3, h3, hk⟩ := hat
        have hbl : (ad.add (q * 4)).block < w.heap.size := World.block_lt_of_cell? w (ad.add (q * 4)) e0
        rw [show target l q (fun u => if !u.f2 && (kindOf u.f3 c == 4) && (kindOf u.f3 d == 1) then 0 else 7) = (if (rd_T41 l q).f1 then 7 else (if !(rd_T41 l q).f2 && (kindOf (rd_T41 l q).f3 c == 4) && (kindOf (rd_T41 l q).f3 d == 1) then 0 else 7)) from by unfold target; rw [if_neg (by omega)]]
        have hq0 : ¬ ((q : Int) < 0) := by omega
        clear hr hr2 hr0
        generalize rd_T41 l q = u at *
        obtain ⟨u0, u1, u2, u3⟩ := u
        simp only at e0 e1 e2 e3 h3 hk
        have HK := Lib.hid hk
        clear hk
        have h3l : u3.length ≤ 9223372036854775807 := Kd.C_max HK.out
        cases u1 with
        | true =>
          rw [if_pos (by rfl)]
          go_enter Try.func31, Try.ntmps31
          go_wp2
          go_ret
          exact ⟨rfl, by repeat (first | exact Below.refl _ _ | apply below_alloc)⟩
        | false =>
          rw [if_neg (by simp)]
          cases u2 with
          | true =>
            rw [if_neg (by simp)]
            go_enter Try.func31, Try.ntmps31
            go_wp2
            go_ret
            exact ⟨rfl, by repeat (first | exact Below.refl _ _ | apply below_alloc)⟩
          | false =>
          obtain ⟨kc, hkc⟩ : ∃ kk, kk = kindOf u3 c := ⟨_, rfl⟩
          obtain ⟨kd, hkd⟩ : ∃ kk, kk = kindOf u3 d := ⟨_, rfl⟩
          have HKc := Lib.hid hkc
          have HKd := Lib.hid hkd
          simp only
          rw [← hkc, ← hkd]
          clear hkc hkd
          by_cases h4 : kc = 4
          case neg =>
            have hb4 : (kc != 4) = true := by simpa using h4
            rw [if_neg (by simp [h4])]
            clear h4
            go_enter Try.func31, Try.ntmps31
            go_wp2_with (go_at_call 37; refine (rkind_any u3 u0 false false A3' c3' c _ h3l ?_).mono ?_; (· exact Kd.C_below HK.out (by repeat (first | exact Below.refl _ _ | apply below_alloc))); rw [← HKc.out]; rintro e w' ⟨rfl, hb⟩; have HB : Hid (Below w.heap.size w w') := (below_step (by repeat (first | exact Below.refl _ _ | apply below_alloc)) hb); obtain ⟨hc, hf⟩ := xf_bcell hb; have fc4 : w'.cell? ⟨w.heap.size + 1, 4, none⟩ = some (.int .i64 d) := (by rw [hc _ _ (by simp)]; go_simp); have g0 : w'.cell? ⟨w.heap.size + 1 + 1, 0, none⟩ = some (.string u0) := (by rw [hc _ _ (by simp)]; go_simp); have g1 : w'.cell? ⟨w.heap.size + 1 + 1, 1, none⟩ = some (.bool false) := (by rw [hc _ _ (by simp)]; go_simp); have g2 : w'.cell? ⟨w.heap.size + 1 + 1, 2, none⟩ = some (.bool false) := (by rw [hc _ _ (by simp)]; go_simp); have g3 : w'.cell? ⟨w.heap.size + 1 + 1, 3, none⟩ = some (.slice A3' u3.length c3') := (by rw [hc _ _ (by simp)]; go_simp); clear hb hc hf; have tok : True := trivial)
            go_ret
            exact ⟨rfl, HB.out⟩
          case pos =>
            have hb4 : (kc != 4) = false := by simpa using h4
            by_cases h1 : kd = 1
            case neg =>
              have hb1 : (kd != 1) = true := by simpa using h1
              rw [if_neg (by simp [h1])]
              clear h4 h1
              go_enter Try.func31, Try.ntmps31
              go_wp2_with (first | (go_at_call 37; have tok2 := tok; refine (rkind_any u3 u0 false false A3' c3' d _ h3l ?_).mono ?_; (· exact Kd.C_below HK.out HB.out); rw [← HKd.out]; rintro e w2 ⟨rfl, hb⟩; have HB2 := Lib.hid hb; clear hb) | (go_at_call 37; refine (rkind_any u3 u0 false false A3' c3' c _ h3l ?_).mono ?_; (· exact Kd.C_below HK.out (by repeat (first | exact Below.refl _ _ | apply below_alloc))); rw [← HKc.out]; rintro e w' ⟨rfl, hb⟩; have HB : Hid (Below w.heap.size w w') := (below_step (by repeat (first | exact Below.refl _ _ | apply below_alloc)) hb); obtain ⟨hc, hf⟩ := xf_bcell hb; have fc4 : w'.cell? ⟨w.heap.size + 1, 4, none⟩ = some (.int .i64 d) := (by rw [hc _ _ (by simp)]; go_simp); have g0 : w'.cell? ⟨w.heap.size + 1 + 1, 0, none⟩ = some (.string u0) := (by rw [hc _ _ (by simp)]; go_simp); have g1 : w'.cell? ⟨w.heap.size + 1 + 1, 1, none⟩ = some (.bool false) := (by rw [hc _ _ (by simp)]; go_simp); have g2 : w'.cell? ⟨w.heap.size + 1 + 1, 2, none⟩ = some (.bool false) := (by rw [hc _ _ (by simp)]; go_simp); have g3 : w'.cell? ⟨w.heap.size + 1 + 1, 3, none⟩ = some (.slice A3' u3.length c3') := (by rw [hc _ _ (by simp)]; go_simp); clear hb hc hf; have tok : True := trivial))
              go_ret
              exact ⟨rfl, below_step HB.out HB2.out⟩
            case pos =>
              have hb1 : (kd != 1) = false := by simpa using h1
              rw [if_pos (by simp [h1, h4])]
              clear h4 h1
              go_enter Try.func31, Try.ntmps31
              go_wp2_with (first | (go_at_call 37; have tok2 := tok; refine (rkind_any u3 u0 false false A3' c3' d _ h3l ?_).mono ?_; (· exact Kd.C_below HK.out HB.out); rw [← HKd.out]; rintro e w2 ⟨rfl, hb⟩; have HB2 := Lib.hid hb; clear hb) | (go_at_call 37; refine (rkind_any u3 u0 false false A3' c3' c _ h3l ?_).mono ?_; (· exact Kd.C_below HK.out (by repeat (first | exact Below.refl _ _ | apply below_alloc))); rw [← HKc.out]; rintro e w' ⟨rfl, hb⟩; have HB : Hid (Below w.heap.size w w') := (below_step (by repeat (first | exact Below.refl _ _ | apply below_alloc)) hb); obtain ⟨hc, hf⟩ := xf_bcell hb; have fc4 : w'.cell? ⟨w.heap.size + 1, 4, none⟩ = some (.int .i64 d) := (by rw [hc _ _ (by simp)]; go_simp); have g0 : w'.cell? ⟨w.heap.size + 1 + 1, 0, none⟩ = some (.string u0) := (by rw [hc _ _ (by simp)]; go_simp); have g1 : w'.cell? ⟨w.heap.size + 1 + 1, 1, none⟩ = some (.bool false) := (by rw [hc _ _ (by simp)]; go_simp); have g2 : w'.cell? ⟨w.heap.size + 1 + 1, 2, none⟩ = some (.bool false) := (by rw [hc _ _ (by simp)]; go_simp); have g3 : w'.cell? ⟨w.heap.size + 1 + 1, 3, none⟩ = some (.slice A3' u3.length c3') := (by rw [hc _ _ (by simp)]; go_simp); clear hb hc hf; have tok : True := trivial))
              go_ret
              exact ⟨rfl, below_step HB.out HB2.out⟩
/-- ref Field, whole -/
theorem rfield_any (l : List S41) (A0 : Option Addr) (c0 : Nat) (t0 : ByteArray) (tv t2 : Bool) (A3 : Option Addr) (n3 c3 : Nat) (k a b c d : Int) (w : World) (hlen : l.length ≤ 9223372036854775807) (hr0 : Kd.C k41 w A0 l.length l) :
    Calls Try.prog 31 #[.slice A0 l.length c0, .agg #[.string t0, .bool tv, .bool t2, .slice A3 n3 c3], .agg #[.int .i64 k, .int .i64 a, .int .i64 b, .int .i64 c, .int .i64 d]] w fun e w' =>
      e = .returned (.int .i64 (fieldErr l tv ⟨k, a, b, c, d⟩)) ∧ Below w.heap.size w w' := by
  by_cases h1 : k = 1
  · subst h1; exact rfield1 A0 l.length c0 t0 tv t2 A3 n3 c3 a b c d w
  by_cases h2 : k = 2
  · subst h2; exact rfield2 l A0 c0 t0 tv t2 A3 n3 c3 a b c d w hlen hr0
  by_cases h3 : k = 3 ∨ k = 4
  · have e : fieldErr l tv ⟨k, a, b, c, d⟩ = if zeros [a, b, c, d] && !tv then 0 else 7 := by unfold fieldErr; rw [if_neg h1, if_neg h2, if_pos h3]
    rw [e]; exact rfield3 k h3 A0 l.length c0 t0 tv t2 A3 n3 c3 a b c d w
  by_cases h5 : k = 5
  · subst h5; exact rfield5 l A0 c0 t0 tv t2 A3 n3 c3 a b c d w hlen hr0
  by_cases h6 : k = 6
  · subst h6; exact rfield6 l A0 c0 t0 tv t2 A3 n3 c3 a b c d w hlen hr0
  by_cases h7 : k = 7
  · subst h7; exact rfield7 A0 l.length c0 t0 tv t2 A3 n3 c3 a b c d w
  have e : fieldErr l tv ⟨k, a, b, c, d⟩ = 7 := by unfold fieldErr; rw [if_neg h1, if_neg h2, if_neg h3, if_neg h5, if_neg h6, if_neg h7]
  rw [e]
  exact rfield0 k (by simp; omega) A0 l.length c0 t0 tv t2 A3 n3 c3 a b c d w

set_option maxHeartbeats 2000000 in
theorem rsize_any (k a b c d : Int) (w : World) :
    Calls Try.prog 32 #[.agg #[.int .i64 k, .int .i64 a, .int .i64 b, .int .i64 c, .int .i64 d]] w fun e w' => e = .returned (.int .i64 (sizeF ⟨k, a, b, c, d⟩)) ∧ Below w.heap.size w w' := by
  by_cases h1 : k = 1
  · subst h1
    exact rsize1 a b c d _ (by simp [sizeF]) w
  · generalize hz : sizeF ⟨k, a, b, c, d⟩ = z
    have HZ := Lib.hid hz
    clear hz
    have hb1 : (k == 1) = false := by simpa using h1
    have H1 := Lib.hid h1
    clear h1
    go_enter Try.func32, Try.ntmps32
    go_wp2
    all_goals go_ret
    all_goals refine ⟨?_, by repeat (first | exact Below.refl _ _ | apply below_alloc)⟩
    all_goals rw [← HZ.out]
    all_goals refine congrArg (fun x => Ending.returned (Value.int .i64 x)) (?_ : _ = sizeF ⟨k, a, b, c, d⟩)
    all_goals (have h1 := H1.out; simp only [beq_iff_eq, beq_eq_false_iff_ne, ne_eq, Bool.or_eq_true, Bool.or_eq_false_iff, Bool.and_eq_true] at *; unfold sizeF; simp only [])
    all_goals (repeat' split) <;> first | rfl | omega
theorem Below.alike {w w1 w2 : World} {B : Nat} (h : Below B w w1) (m : Nat) (e : w2 = w1.drewN m) : Below B w w2 := by rw [e]; exact pw_below_drewN h m
set_option maxHeartbeats 4000000 in
set_option maxRecDepth 100000 in
/-- ref Type -/
theorem rtype_any (l : List S41) (A0 : Option Addr) (c0 i : Nat) (w : World) (hlen : l.length ≤ 9223372036854775807) (hr0 : Kd.C k41 w A0 l.length l) (hi : i < l.length) (hs : (rd_T41 l i).f0.size ≤ 9223372036854775807) (hc0 : l.length ≤ c0) :
    Calls Try.prog 27 #[.slice A0 l.length c0, .int .i64 i] w fun e w' => e = .returned (.int .i64 (typeErr l i)) ∧ Below w.heap.size w w' := by
  obtain ⟨z, hz⟩ : ∃ z, z = typeErr l i := ⟨_, rfl⟩
  rw [← hz]
  obtain ⟨ad, A3, c3, hat⟩ := at_of hr0 i hi
  obtain ⟨rfl, e0, e1, e2, e3, h3, hk⟩ := hat
  have hall : ∀ k, k < l.length → w.cell? (ad.add (k * 4)) = some (.string (rd_T41 l k).f0) ∧ ∃ b1 b2 A c, w.cell? ⟨(ad.add (k * 4)).block, (ad.add (k * 4)).off + 1, none⟩ = some (.bool b1) ∧ w.cell? ⟨(ad.add (k * 4)).block, (ad.add (k * 4)).off + 2, none⟩ = some (.bool b2) ∧ w.cell? ⟨(ad.add (k * 4)).block, (ad.add (k * 4)).off + 3, none⟩ = some (.slice A (rd_T41 l k).f3.length c) := by
    intro k hk
    obtain ⟨ad', A, c, hat⟩ := at_of hr0 k hk
    obtain ⟨hA, a0, a1, a2, a3, h3, hk⟩ := hat
    cases hA
    exact ⟨a0, _, _, A, c, a1, a2, a3⟩
  unfold typeErr at hz
  have hup := fun k => DupTo.succ l i k
  have hd0 : ¬ DupTo l i 0 := by rintro ⟨j, hj, -⟩; omega
  have hcut := fieldsGo_cut l (rd_T41 l i).f1 (rd_T41 l i).f3
  have hdrop : fieldsGo l (rd_T41 l i).f1 ((rd_T41 l i).f3.drop 0) 8 0 0 = fieldsGo l (rd_T41 l i).f1 (rd_T41 l i).f3 8 0 0 := by rw [List.drop_zero]
  have h38 : ∀ j, j < (rd_T41 l i).f3.length → ∃ ad3, A3 = some ad3 ∧ w.cell? (ad3.add (j * 5)) = some (.int .i64 (rd_T38 (rd_T41 l i).f3 j).f0) ∧ w.cell? ⟨(ad3.add (j * 5)).block, (ad3.add (j * 5)).off + 1, none⟩ = some (.int .i64 (rd_T38 (rd_T41 l i).f3 j).f1) ∧ w.cell? ⟨(ad3.add (j * 5)).block, (ad3.add (j * 5)).off + 2, none⟩ = some (.int .i64 (rd_T38 (rd_T41 l i).f3 j).f2) ∧ w.cell? ⟨(ad3.add (j * 5)).block, (ad3.add (j * 5)).off + 3, none⟩ = some (.int .i64 (rd_T38 (rd_T41 l i).f3 j).f3) ∧ w.cell? ⟨(ad3.add (j * 5)).block, (ad3.add (j * 5)).off + 4, none⟩ = some (.int .i64 (rd_T38 (rd_T41 l i).f3 j).f4) := by
    intro j hj
    obtain ⟨ad3, e, d0, d1, d2, d3, d4⟩ := at_T38 hk j (by omega) (by omega)
    simp only [Int.toNat_natCast] at d0 d1 d2 d3 d4
    exact ⟨ad3, e, d0, d1, d2, d3, d4⟩
  generalize hu : rd_T41 l i = u at *
  obtain ⟨f0, f1, f2, fs⟩ := u
  simp only at e0 e1 e2 e3 h3 hz hup hcut hdrop h38 hs
  have HALL := Lib.hid hall
  have HUP := Lib.hid hup
  have HD0 := Lib.hid hd0
  have HCUT := Lib.hid hcut
  have HDROP := Lib.hid hdrop
  have H38 := Lib.hid h38
  have HZ := Lib.hid hz
  have HR0 := Lib.hid hr0
  have h3 : fs.length ≤ 9223372036854775807 := Kd.C_max hk
  have hbl : (ad.add (i * 4)).block < w.heap.size := World.block_lt_of_cell? w (ad.add (i * 4)) e0
  clear hall hup hd0 hcut hdrop h38 hz hr0 hk hu
  obtain ⟨nm, hnm⟩ : ∃ nm, nm = nameAll f0 := ⟨_, rfl⟩
  have HNM := Lib.hid hnm.symm
  clear hnm
  cases nm with
  | false =>
    have hz := HZ.out
    rw [if_pos (.inl HNM.out)] at hz
    have HZ' := Lib.hid hz
    clear hz HZ
    go_enter Try.func27, Try.ntmps27
    go_wp2_with (go_at_call 26; refine (rname_any f0 _ hs).mono ?_; rw [HNM.out]; rintro e w1 ⟨rfl, rfl⟩)
    go_ret
    exact ⟨by rw [HZ'.out]; rfl, (by repeat (first | exact Below.refl _ _ | apply below_alloc | apply below_drew))⟩
  | true =>
    go_enter Try.func27, Try.ntmps27
    go_wp2_with (go_at_call 26; refine (rname_any f0 _ hs).mono ?_; rw [HNM.out]; rintro e w1 ⟨rfl, rfl⟩)
    go_loopw [6] (fun v6 wr => ∃ k : Nat, v6 = .int .i64 k ∧ k ≤ i ∧ Hid (¬ DupTo l i k) ∧ Hid (Below w.heap.size w wr) ∧ Hid (Box wr w.heap.size f0 f1 f2 A3 fs.length c3)) (fun v6 _ => i - (intOf v6).toNat)
    case atStart => exact ⟨0, rfl, by omega, HD0.out, Lib.hid (by repeat (first | exact Below.refl _ _ | apply below_alloc | apply below_drew)), Lib.hid ⟨by simp, by go_simp, by go_simp, by go_simp, by go_simp⟩⟩
    case round =>
      obtain ⟨k, rfl, hk, HX, HB, HBX⟩ := hrel
      obtain ⟨hbb, b0, bv1, bv2, bv3⟩ := HBX.out
      have hbig : w.heap.size < wr.heap.size := hbb
      by_cases hlt : k < i
      · obtain ⟨a0, y1, y2, A, c, a1, a2, a3⟩ := HALL.out k (by omega)
        have hkb : (ad.add (k * 4)).block < w.heap.size := World.block_lt_of_cell? w (ad.add (k * 4)) a0
        have a0' : wr.cell? (ad.add (k * 4)) = _ := (HB.out.cell (p := ad.add (k * 4)) hkb).trans a0
        have hu1 := HUP.out k
        have hkl : k < l.length := by omega
        clear a0 a1 a2 a3 hkb
        generalize (rd_T41 l k).f0 = s at *
        have HU := Lib.hid hu1
        clear hu1
        by_cases hq : s = f0
        · subst hq
          have hz := HZ.out
          rw [if_pos (.inr (by obtain ⟨j, h1, h2⟩ := HU.out.2 (.inr rfl); exact ⟨j, by omega, h2⟩))] at hz
          have HZ' := Lib.hid hz
          clear hz HZ
          go_wp2
          go_region
          all_goals go_wp2
          all_goals go_ret
          all_goals exact ⟨by rw [HZ'.out]; rfl, below_step HB.out (by repeat (first | exact Below.refl _ _ | apply below_alloc | apply below_drew))⟩
        · have hq2 := bytes_no hq
          have HQ := Lib.hid hq
          clear hq
          go_wp2
          go_region
          all_goals first
            | (exfalso; simp_all; done)
            | (go_wp2
               go_roundw
               case rel => exact ⟨k + 1, by go_num, by omega, fun h => HX.out ((HU.out.1 h).resolve_right HQ.out), Lib.hid (below_step HB.out (by repeat (first | exact Below.refl _ _ | apply below_alloc | apply below_drew))), Lib.hid (Box.below HBX.out (by repeat (first | exact Below.refl _ _ | apply below_alloc | apply below_drew)))⟩
               case measure => simp [intOf]; omega)
      · obtain rfl : k = i := by omega
        clear hlt hk
        have hno : ¬ (nameAll f0 = false ∨ DupTo l k k) := fun h => h.elim (fun h => by rw [HNM.out] at h; cases h) HX.out
        have hz := HZ.out
        rw [if_neg hno] at hz
        clear HX hno HALL HUP HD0 HZ
        by_cases h12 : 12 < fs.length
        · rw [if_pos h12] at hz
          have HZ := Lib.hid hz
          clear hz
          go_wp2
          go_ret
          exact ⟨by rw [HZ.out]; rfl, HB.out⟩
        · rw [if_neg h12] at hz
          by_cases hff : (f1 && f2) = true
          · rw [if_pos hff] at hz
            simp only [Bool.and_eq_true] at hff
            obtain ⟨rfl, rfl⟩ := hff
            have HZ := Lib.hid hz
            clear hz
            go_wp2
            go_ret
            exact ⟨by rw [HZ.out]; rfl, HB.out⟩
          · rw [if_neg hff] at hz
            have HZ := Lib.hid hz
            clear hz
            have h12' : fs.length ≤ 12 := by omega
            clear h12
            cases f1 <;> cases f2 <;> simp only [Bool.and_false, Bool.and_true, Bool.false_eq_true, not_true_eq_false, not_false_eq_true] at hff
            · go_wp2
              go_loopw [7, 8, 9, 10] (fun v7 v8 v9 v10 wr => ∃ (j : Nat) (s a b : Int), v10 = .int .i64 j ∧ j ≤ fs.length ∧ v7 = .int .i64 s ∧ v8 = .int .i64 a ∧ v9 = .int .i64 b ∧ 0 ≤ s ∧ s ≤ 8 + 128 * j ∧ 0 ≤ a ∧ a ≤ j ∧ 0 ≤ b ∧ b ≤ j ∧ Hid (z = fieldsGo l false (fs.drop j) s a b) ∧ Hid (Below w.heap.size w wr) ∧ Hid (Box wr w.heap.size f0 false false A3 fs.length c3)) (fun _ _ _ v10 _ => fs.length - (intOf v10).toNat)
              case atStart => exact ⟨0, 8, 0, 0, rfl, by omega, rfl, rfl, rfl, by omega, by omega, by omega, by omega, by omega, by omega, Lib.hid (by rw [HZ.out, HDROP.out]), HB, HBX⟩
              case round =>
                obtain ⟨j, s, a, b, rfl, hj, rfl, rfl, rfl, hs1, hs2, ha1, ha2, hb1, hb2, HI, HBq, HBXq⟩ := hrel
                clear hbb b0 bv1 bv2 bv3 hbig
                obtain ⟨hbb, b0, bv1, bv2, bv3⟩ := HBXq.out
                have hbig : w.heap.size < wr.heap.size := hbb
                by_cases hlt : j < fs.length
                · obtain ⟨ad3, rfl, d0, d1, d2, d3, d4⟩ := H38.out j hlt
                  have hkb : (ad3.add (j * 5)).block < w.heap.size := World.block_lt_of_cell? w _ d0
                  have hkw : (ad3.add (j * 5)).block < wr.heap.size := by omega
                  have d0' : wr.cell? (ad3.add (j * 5)) = _ := (HBq.out.cell (p := ad3.add (j * 5)) hkb).trans d0
                  have hcl := (xf_bcell HBq.out).1
                  rw [← hcl _ _ hkb] at d1 d2 d3 d4
                  have hi := HI.out
                  rw [HCUT.out j hlt s a b] at hi
                  have hsb := sizeF_bound (rd_T38 fs j)
                  clear hcl d0 HI hkb
                  generalize rd_T38 fs j = f at *
                  obtain ⟨k0, k1, k2, k3, k4⟩ := f
                  simp only at d0' d1 d2 d3 d4 hi
                  generalize he : fieldErr l false ⟨k0, k1, k2, k3, k4⟩ = er at *
                  generalize hz : sizeF ⟨k0, k1, k2, k3, k4⟩ = sz at *
                  have HE := Lib.hid he
                  have HSZ := Lib.hid hz
                  clear he hz
                  have HI2 := Lib.hid hi
                  have H7 : ((k0 == 7) = true ∧ (k0 == 5) = false ∧ (k0 == 6) = false) ∨ ((k0 == 7) = false ∧ (k0 == 5) = true) ∨ ((k0 == 7) = false ∧ (k0 == 5) = false ∧ (k0 == 6) = true) ∨ ((k0 == 7) = false ∧ (k0 == 5) = false ∧ (k0 == 6) = false) := by simp; omega
                  have HH7 := Lib.hid H7
                  clear hi H7
                  go_wp2
                  go_region_with (go_at_call 31; refine (rfield_any l (some ad) c0 f0 false false (some ad3) fs.length c3 k0 k1 k2 k3 k4 _ hlen (Kd.C_below HR0.out (below_step HBq.out (by repeat (first | exact Below.refl _ _ | apply below_alloc | apply below_drew))))).mono ?_; rw [HE.out]; rintro e wf ⟨rfl, hb⟩; have HBw : Hid (Below wr.heap.size wr wf) := (below_step (by repeat (first | exact Below.refl _ _ | apply below_alloc | apply below_drew)) hb); obtain ⟨hc, hf⟩ := xf_bcell (show Below wr.heap.size wr wf from HBw.out); have x0 : wf.cell? (ad3.add (j * 5)) = _ := (HBw.out.cell (p := ad3.add (j * 5)) hkw).trans d0'; have x1 := (hc _ _ hkw).trans d1; have x2 := (hc _ _ hkw).trans d2; have x3 := (hc _ _ hkw).trans d3; have x4 := (hc _ _ hkw).trans d4; have y0 := (hc _ _ hbig).trans b0; have y1 := (hc _ _ hbig).trans bv1; have y2 := (hc _ _ hbig).trans bv2; have y3 := (hc _ _ hbig).trans bv3; have hsz : w.heap.size < wf.heap.size := (by have := HBw.out.size; omega); clear hc hf hb)
                  all_goals (by_cases her : er = 0)
                  all_goals (first
                    | (subst her
                       have hi := HI2.out
                       rw [if_neg (by simp)] at hi
                       obtain ⟨a', ha'⟩ : ∃ a', a' = if k0 = 7 then a + 1 else a := ⟨_, rfl⟩
                       obtain ⟨b', hb'⟩ : ∃ b', b' = if k0 = 5 ∨ k0 = 6 then b + 1 else b := ⟨_, rfl⟩
                       rw [← ha', ← hb'] at hi
                       have HII := Lib.hid hi
                       clear hi
                       have HK := Lib.hid (And.intro ha' hb')
                       clear ha' hb'
                       obtain ⟨h7, h5, h6⟩ | ⟨h7, h5⟩ | ⟨h7, h5, h6⟩ | ⟨h7, h5, h6⟩ := HH7.out
                       all_goals go_wp2_with (first | (go_at_call 32; refine (rsize_any k0 k1 k2 k3 k4 _).mono ?_; rw [HSZ.out]; rintro e wg ⟨rfl, hb⟩; have HBv : Hid (Below wr.heap.size wr wg) := (below_step (below_step HBw.out (by repeat (first | exact Below.refl _ _ | apply below_alloc | apply below_drew))) hb); obtain ⟨hc, hf⟩ := xf_bcell (show Below wr.heap.size wr wg from HBv.out); have x0 : wg.cell? (ad3.add (j * 5)) = _ := (HBv.out.cell (p := ad3.add (j * 5)) hkw).trans d0'; have x1 := (hc _ _ hkw).trans d1; have x2 := (hc _ _ hkw).trans d2; have x3 := (hc _ _ hkw).trans d3; have x4 := (hc _ _ hkw).trans d4; have y0 := (hc _ _ hbig).trans b0; have y1 := (hc _ _ hbig).trans bv1; have y2 := (hc _ _ hbig).trans bv2; have y3 := (hc _ _ hbig).trans bv3; have hsz : w.heap.size < wg.heap.size := (by have := HBv.out.size; omega); clear hc hf hb))
                       all_goals go_roundw
                       all_goals (have hk := HK.out; simp only [beq_iff_eq, beq_eq_false_iff_ne, ne_eq] at h7 h5)
                       all_goals (try simp only [beq_iff_eq, beq_eq_false_iff_ne, ne_eq] at h6)
                       case rel => exact ⟨j + 1, s + sz, a', b', by go_num, by omega, by go_num, by rw [hk.1]; first | rw [if_pos (by omega)] | rw [if_neg (by omega)], by rw [hk.2]; first | rw [if_pos (by omega)] | rw [if_neg (by omega)], by omega, by omega, by rw [hk.1]; split <;> omega, by rw [hk.1]; split <;> omega, by rw [hk.2]; split <;> omega, by rw [hk.2]; split <;> omega, HII, Lib.hid (below_step HBq.out (by first | exact HBv.out | exact below_drew HBv.out)), Lib.hid (Box.below HBXq.out (by first | exact HBv.out | exact below_drew HBv.out))⟩
                       case measure => simp [intOf]; omega
                       case rel => exact ⟨j + 1, s + sz, a', b', by go_num, by omega, by go_num, by rw [hk.1]; first | rw [if_pos (by omega)] | rw [if_neg (by omega)], by rw [hk.2]; first | rw [if_pos (by omega)] | rw [if_neg (by omega)], by omega, by omega, by rw [hk.1]; split <;> omega, by rw [hk.1]; split <;> omega, by rw [hk.2]; split <;> omega, by rw [hk.2]; split <;> omega, HII, Lib.hid (below_step HBq.out (by first | exact HBv.out | exact below_drew HBv.out)), Lib.hid (Box.below HBXq.out (by first | exact HBv.out | exact below_drew HBv.out))⟩
                       case measure => simp [intOf]; omega
                       case rel => exact ⟨j + 1, s + sz, a', b', by go_num, by omega, by go_num, by rw [hk.1]; first | rw [if_pos (by omega)] | rw [if_neg (by omega)], by rw [hk.2]; first | rw [if_pos (by omega)] | rw [if_neg (by omega)], by omega, by omega, by rw [hk.1]; split <;> omega, by rw [hk.1]; split <;> omega, by rw [hk.2]; split <;> omega, by rw [hk.2]; split <;> omega, HII, Lib.hid (below_step HBq.out (by first | exact HBv.out | exact below_drew HBv.out)), Lib.hid (Box.below HBXq.out (by first | exact HBv.out | exact below_drew HBv.out))⟩
                       case measure => simp [intOf]; omega
                       case rel => exact ⟨j + 1, s + sz, a', b', by go_num, by omega, by go_num, by rw [hk.1]; first | rw [if_pos (by omega)] | rw [if_neg (by omega)], by rw [hk.2]; first | rw [if_pos (by omega)] | rw [if_neg (by omega)], by omega, by omega, by rw [hk.1]; split <;> omega, by rw [hk.1]; split <;> omega, by rw [hk.2]; split <;> omega, by rw [hk.2]; split <;> omega, HII, Lib.hid (below_step HBq.out (by first | exact HBv.out | exact below_drew HBv.out)), Lib.hid (Box.below HBXq.out (by first | exact HBv.out | exact below_drew HBv.out))⟩
                       case measure => simp [intOf]; omega)
                    | (have hi := HI2.out
                       rw [if_pos her] at hi
                       have her2 : (er != 0) = true := by simpa using her
                       have HII := Lib.hid hi
                       clear hi her hsb HH7
                       go_wp2
                       go_ret
                       exact ⟨by rw [HII.out]; rfl, below_step HBq.out (by first | exact HBw.out | exact below_drew HBw.out | exact below_drew (below_drew HBw.out))⟩))
                · have hjl : j = fs.length := by omega
                  have hi := HI.out
                  rw [List.drop_of_length_le (by omega)] at hi
                  simp only [fieldsGo] at hi
                  by_cases h1 : 1 < a
                  · rw [if_pos (.inl h1)] at hi
                    have HII := Lib.hid hi
                    clear hi
                    go_wp2
                    go_ret
                    exact ⟨by rw [HII.out]; rfl, HBq.out⟩
                  · by_cases h2 : 0 < b
                    · by_cases h3 : a = 0
                      · rw [if_pos (.inr ⟨h2, h3⟩)] at hi
                        have HII := Lib.hid hi
                        subst h3
                        clear hi
                        go_wp2
                        go_ret
                        exact ⟨by rw [HII.out]; rfl, HBq.out⟩
                      · rw [if_neg (by omega)] at hi
                        have h3b : ¬ (a < 1) := by omega
                        have HII := Lib.hid hi
                        clear hi
                        go_wp2
                        all_goals go_ret
                        all_goals refine ⟨?_, HBq.out⟩
                        all_goals rw [HII.out]
                        · rw [if_pos (by omega)]; rfl
                        · rw [if_neg (by omega)]; rfl
                    · rw [if_neg (by omega)] at hi
                      have HII := Lib.hid hi
                      clear hi
                      go_wp2
                      all_goals go_ret
                      all_goals refine ⟨?_, HBq.out⟩
                      all_goals rw [HII.out]
                      · rw [if_pos (by omega)]; rfl
                      · rw [if_neg (by omega)]; rfl
            · go_wp2
              go_loopw [7, 8, 9, 10] (fun v7 v8 v9 v10 wr => ∃ (j : Nat) (s a b : Int), v10 = .int .i64 j ∧ j ≤ fs.length ∧ v7 = .int .i64 s ∧ v8 = .int .i64 a ∧ v9 = .int .i64 b ∧ 0 ≤ s ∧ s ≤ 8 + 128 * j ∧ 0 ≤ a ∧ a ≤ j ∧ 0 ≤ b ∧ b ≤ j ∧ Hid (z = fieldsGo l false (fs.drop j) s a b) ∧ Hid (Below w.heap.size w wr) ∧ Hid (Box wr w.heap.size f0 false true A3 fs.length c3)) (fun _ _ _ v10 _ => fs.length - (intOf v10).toNat)
              case atStart => exact ⟨0, 8, 0, 0, rfl, by omega, rfl, rfl, rfl, by omega, by omega, by omega, by omega, by omega, by omega, Lib.hid (by rw [HZ.out, HDROP.out]), HB, HBX⟩
              case round =>
                obtain ⟨j, s, a, b, rfl, hj, rfl, rfl, rfl, hs1, hs2, ha1, ha2, hb1, hb2, HI, HBq, HBXq⟩ := hrel
                clear hbb b0 bv1 bv2 bv3 hbig
                obtain ⟨hbb, b0, bv1, bv2, bv3⟩ := HBXq.out
                have hbig : w.heap.size < wr.heap.size := hbb
                by_cases hlt : j < fs.length
                · obtain ⟨ad3, rfl, d0, d1, d2, d3, d4⟩ := H38.out j hlt
                  have hkb : (ad3.add (j * 5)).block < w.heap.size := World.block_lt_of_cell? w _ d0
                  have hkw : (ad3.add (j * 5)).block < wr.heap.size := by omega
                  have d0' : wr.cell? (ad3.add (j * 5)) = _ := (HBq.out.cell (p := ad3.add (j * 5)) hkb).trans d0
                  have hcl := (xf_bcell HBq.out).1
                  rw [← hcl _ _ hkb] at d1 d2 d3 d4
                  have hi := HI.out
                  rw [HCUT.out j hlt s a b] at hi
                  have hsb := sizeF_bound (rd_T38 fs j)
                  clear hcl d0 HI hkb
                  generalize rd_T38 fs j = f at *
                  obtain ⟨k0, k1, k2, k3, k4⟩ := f
                  simp only at d0' d1 d2 d3 d4 hi
                  generalize he : fieldErr l false ⟨k0, k1, k2, k3, k4⟩ = er at *
                  generalize hz : sizeF ⟨k0, k1, k2, k3, k4⟩ = sz at *
                  have HE := Lib.hid he
                  have HSZ := Lib.hid hz
                  clear he hz
                  have HI2 := Lib.hid hi
                  have H7 : ((k0 == 7) = true ∧ (k0 == 5) = false ∧ (k0 == 6) = false) ∨ ((k0 == 7) = false ∧ (k0 == 5) = true) ∨ ((k0 == 7) = false ∧ (k0 == 5) = false ∧ (k0 == 6) = true) ∨ ((k0 == 7) = false ∧ (k0 == 5) = false ∧ (k0 == 6) = false) := by simp; omega
                  have HH7 := Lib.hid H7
                  clear hi H7
                  go_wp2
                  go_region_with (go_at_call 31; refine (rfield_any l (some ad) c0 f0 false true (some ad3) fs.length c3 k0 k1 k2 k3 k4 _ hlen (Kd.C_below HR0.out (below_step HBq.out (by repeat (first | exact Below.refl _ _ | apply below_alloc | apply below_drew))))).mono ?_; rw [HE.out]; rintro e wf ⟨rfl, hb⟩; have HBw : Hid (Below wr.heap.size wr wf) := (below_step (by repeat (first | exact Below.refl _ _ | apply below_alloc | apply below_drew)) hb); obtain ⟨hc, hf⟩ := xf_bcell (show Below wr.heap.size wr wf from HBw.out); have x0 : wf.cell? (ad3.add (j * 5)) = _ := (HBw.out.cell (p := ad3.add (j * 5)) hkw).trans d0'; have x1 := (hc _ _ hkw).trans d1; have x2 := (hc _ _ hkw).trans d2; have x3 := (hc _ _ hkw).trans d3; have x4 := (hc _ _ hkw).trans d4; have y0 := (hc _ _ hbig).trans b0; have y1 := (hc _ _ hbig).trans bv1; have y2 := (hc _ _ hbig).trans bv2; have y3 := (hc _ _ hbig).trans bv3; have hsz : w.heap.size < wf.heap.size := (by have := HBw.out.size; omega); clear hc hf hb)
                  all_goals (by_cases her : er = 0)
                  all_goals (first
                    | (subst her
                       have hi := HI2.out
                       rw [if_neg (by simp)] at hi
                       obtain ⟨a', ha'⟩ : ∃ a', a' = if k0 = 7 then a + 1 else a := ⟨_, rfl⟩
                       obtain ⟨b', hb'⟩ : ∃ b', b' = if k0 = 5 ∨ k0 = 6 then b + 1 else b := ⟨_, rfl⟩
                       rw [← ha', ← hb'] at hi
                       have HII := Lib.hid hi
                       clear hi
                       have HK := Lib.hid (And.intro ha' hb')
                       clear ha' hb'
                       obtain ⟨h7, h5, h6⟩ | ⟨h7, h5⟩ | ⟨h7, h5, h6⟩ | ⟨h7, h5, h6⟩ := HH7.out
                       all_goals go_wp2_with (first | (go_at_call 32; refine (rsize_any k0 k1 k2 k3 k4 _).mono ?_; rw [HSZ.out]; rintro e wg ⟨rfl, hb⟩; have HBv : Hid (Below wr.heap.size wr wg) := (below_step (below_step HBw.out (by repeat (first | exact Below.refl _ _ | apply below_alloc | apply below_drew))) hb); obtain ⟨hc, hf⟩ := xf_bcell (show Below wr.heap.size wr wg from HBv.out); have x0 : wg.cell? (ad3.add (j * 5)) = _ := (HBv.out.cell (p := ad3.add (j * 5)) hkw).trans d0'; have x1 := (hc _ _ hkw).trans d1; have x2 := (hc _ _ hkw).trans d2; have x3 := (hc _ _ hkw).trans d3; have x4 := (hc _ _ hkw).trans d4; have y0 := (hc _ _ hbig).trans b0; have y1 := (hc _ _ hbig).trans bv1; have y2 := (hc _ _ hbig).trans bv2; have y3 := (hc _ _ hbig).trans bv3; have hsz : w.heap.size < wg.heap.size := (by have := HBv.out.size; omega); clear hc hf hb))
                       all_goals go_roundw
                       all_goals (have hk := HK.out; simp only [beq_iff_eq, beq_eq_false_iff_ne, ne_eq] at h7 h5)
                       all_goals (try simp only [beq_iff_eq, beq_eq_false_iff_ne, ne_eq] at h6)
                       case rel => exact ⟨j + 1, s + sz, a', b', by go_num, by omega, by go_num, by rw [hk.1]; first | rw [if_pos (by omega)] | rw [if_neg (by omega)], by rw [hk.2]; first | rw [if_pos (by omega)] | rw [if_neg (by omega)], by omega, by omega, by rw [hk.1]; split <;> omega, by rw [hk.1]; split <;> omega, by rw [hk.2]; split <;> omega, by rw [hk.2]; split <;> omega, HII, Lib.hid (below_step HBq.out (by first | exact HBv.out | exact below_drew HBv.out)), Lib.hid (Box.below HBXq.out (by first | exact HBv.out | exact below_drew HBv.out))⟩
                       case measure => simp [intOf]; omega
                       case rel => exact ⟨j + 1, s + sz, a', b', by go_num, by omega, by go_num, by rw [hk.1]; first | rw [if_pos (by omega)] | rw [if_neg (by omega)], by rw [hk.2]; first | rw [if_pos (by omega)] | rw [if_neg (by omega)], by omega, by omega, by rw [hk.1]; split <;> omega, by rw [hk.1]; split <;> omega, by rw [hk.2]; split <;> omega, by rw [hk.2]; split <;> omega, HII, Lib.hid (below_step HBq.out (by first | exact HBv.out | exact below_drew HBv.out)), Lib.hid (Box.below HBXq.out (by first | exact HBv.out | exact below_drew HBv.out))⟩
                       case measure => simp [intOf]; omega
                       case rel => exact ⟨j + 1, s + sz, a', b', by go_num, by omega, by go_num, by rw [hk.1]; first | rw [if_pos (by omega)] | rw [if_neg (by omega)], by rw [hk.2]; first | rw [if_pos (by omega)] | rw [if_neg (by omega)], by omega, by omega, by rw [hk.1]; split <;> omega, by rw [hk.1]; split <;> omega, by rw [hk.2]; split <;> omega, by rw [hk.2]; split <;> omega, HII, Lib.hid (below_step HBq.out (by first | exact HBv.out | exact below_drew HBv.out)), Lib.hid (Box.below HBXq.out (by first | exact HBv.out | exact below_drew HBv.out))⟩
                       case measure => simp [intOf]; omega
                       case rel => exact ⟨j + 1, s + sz, a', b', by go_num, by omega, by go_num, by rw [hk.1]; first | rw [if_pos (by omega)] | rw [if_neg (by omega)], by rw [hk.2]; first | rw [if_pos (by omega)] | rw [if_neg (by omega)], by omega, by omega, by rw [hk.1]; split <;> omega, by rw [hk.1]; split <;> omega, by rw [hk.2]; split <;> omega, by rw [hk.2]; split <;> omega, HII, Lib.hid (below_step HBq.out (by first | exact HBv.out | exact below_drew HBv.out)), Lib.hid (Box.below HBXq.out (by first | exact HBv.out | exact below_drew HBv.out))⟩
                       case measure => simp [intOf]; omega)
                    | (have hi := HI2.out
                       rw [if_pos her] at hi
                       have her2 : (er != 0) = true := by simpa using her
                       have HII := Lib.hid hi
                       clear hi her hsb HH7
                       go_wp2
                       go_ret
                       exact ⟨by rw [HII.out]; rfl, below_step HBq.out (by first | exact HBw.out | exact below_drew HBw.out | exact below_drew (below_drew HBw.out))⟩))
                · have hjl : j = fs.length := by omega
                  have hi := HI.out
                  rw [List.drop_of_length_le (by omega)] at hi
                  simp only [fieldsGo] at hi
                  by_cases h1 : 1 < a
                  · rw [if_pos (.inl h1)] at hi
                    have HII := Lib.hid hi
                    clear hi
                    go_wp2
                    go_ret
                    exact ⟨by rw [HII.out]; rfl, HBq.out⟩
                  · by_cases h2 : 0 < b
                    · by_cases h3 : a = 0
                      · rw [if_pos (.inr ⟨h2, h3⟩)] at hi
                        have HII := Lib.hid hi
                        subst h3
                        clear hi
                        go_wp2
                        go_ret
                        exact ⟨by rw [HII.out]; rfl, HBq.out⟩
                      · rw [if_neg (by omega)] at hi
                        have h3b : ¬ (a < 1) := by omega
                        have HII := Lib.hid hi
                        clear hi
                        go_wp2
                        all_goals go_ret
                        all_goals refine ⟨?_, HBq.out⟩
                        all_goals rw [HII.out]
                        · rw [if_pos (by omega)]; rfl
                        · rw [if_neg (by omega)]; rfl
                    · rw [if_neg (by omega)] at hi
                      have HII := Lib.hid hi
                      clear hi
                      go_wp2
                      all_goals go_ret
                      all_goals refine ⟨?_, HBq.out⟩
                      all_goals rw [HII.out]
                      · rw [if_pos (by omega)]; rfl
                      · rw [if_neg (by omega)]; rfl
            · go_wp2
              go_loopw [7, 8, 9, 10] (fun v7 v8 v9 v10 wr => ∃ (j : Nat) (s a b : Int), v10 = .int .i64 j ∧ j ≤ fs.length ∧ v7 = .int .i64 s ∧ v8 = .int .i64 a ∧ v9 = .int .i64 b ∧ 0 ≤ s ∧ s ≤ 8 + 128 * j ∧ 0 ≤ a ∧ a ≤ j ∧ 0 ≤ b ∧ b ≤ j ∧ Hid (z = fieldsGo l true (fs.drop j) s a b) ∧ Hid (Below w.heap.size w wr) ∧ Hid (Box wr w.heap.size f0 true false A3 fs.length c3)) (fun _ _ _ v10 _ => fs.length - (intOf v10).toNat)
              case atStart => exact ⟨0, 8, 0, 0, rfl, by omega, rfl, rfl, rfl, by omega, by omega, by omega, by omega, by omega, by omega, Lib.hid (by rw [HZ.out, HDROP.out]), HB, HBX⟩
              case round =>
                obtain ⟨j, s, a, b, rfl, hj, rfl, rfl, rfl, hs1, hs2, ha1, ha2, hb1, hb2, HI, HBq, HBXq⟩ := hrel
                clear hbb b0 bv1 bv2 bv3 hbig
                obtain ⟨hbb, b0, bv1, bv2, bv3⟩ := HBXq.out
                have hbig : w.heap.size < wr.heap.size := hbb
                by_cases hlt : j < fs.length
                · obtain ⟨ad3, rfl, d0, d1, d2, d3, d4⟩ := H38.out j hlt
                  have hkb : (ad3.add (j * 5)).block < w.heap.size := World.block_lt_of_cell? w _ d0
                  have hkw : (ad3.add (j * 5)).block < wr.heap.size := by omega
                  have d0' : wr.cell? (ad3.add (j * 5)) = _ := (HBq.out.cell (p := ad3.add (j * 5)) hkb).trans d0
                  have hcl := (xf_bcell HBq.out).1
                  rw [← hcl _ _ hkb] at d1 d2 d3 d4
                  have hi := HI.out
                  rw [HCUT.out j hlt s a b] at hi
                  have hsb := sizeF_bound (rd_T38 fs j)
                  clear hcl d0 HI hkb
                  generalize rd_T38 fs j = f at *
                  obtain ⟨k0, k1, k2, k3, k4⟩ := f
                  simp only at d0' d1 d2 d3 d4 hi
                  generalize he : fieldErr l true ⟨k0, k1, k2, k3, k4⟩ = er at *
                  generalize hz : sizeF ⟨k0, k1, k2, k3, k4⟩ = sz at *
                  have HE := Lib.hid he
                  have HSZ := Lib.hid hz
                  clear he hz
                  have HI2 := Lib.hid hi
                  have H7 : ((k0 == 7) = true ∧ (k0 == 5) = false ∧ (k0 == 6) = false) ∨ ((k0 == 7) = false ∧ (k0 == 5) = true) ∨ ((k0 == 7) = false ∧ (k0 == 5) = false ∧ (k0 == 6) = true) ∨ ((k0 == 7) = false ∧ (k0 == 5) = false ∧ (k0 == 6) = false) := by simp; omega
                  have HH7 := Lib.hid H7
                  clear hi H7
                  go_wp2
                  go_region_with (go_at_call 31; refine (rfield_any l (some ad) c0 f0 true false (some ad3) fs.length c3 k0 k1 k2 k3 k4 _ hlen (Kd.C_below HR0.out (below_step HBq.out (by repeat (first | exact Below.refl _ _ | apply below_alloc | apply below_drew))))).mono ?_; rw [HE.out]; rintro e wf ⟨rfl, hb⟩; have HBw : Hid (Below wr.heap.size wr wf) := (below_step (by repeat (first | exact Below.refl _ _ | apply below_alloc | apply below_drew)) hb); obtain ⟨hc, hf⟩ := xf_bcell (show Below wr.heap.size wr wf from HBw.out); have x0 : wf.cell? (ad3.add (j * 5)) = _ := (HBw.out.cell (p := ad3.add (j * 5)) hkw).trans d0'; have x1 := (hc _ _ hkw).trans d1; have x2 := (hc _ _ hkw).trans d2; have x3 := (hc _ _ hkw).trans d3; have x4 := (hc _ _ hkw).trans d4; have y0 := (hc _ _ hbig).trans b0; have y1 := (hc _ _ hbig).trans bv1; have y2 := (hc _ _ hbig).trans bv2; have y3 := (hc _ _ hbig).trans bv3; have hsz : w.heap.size < wf.heap.size := (by have := HBw.out.size; omega); clear hc hf hb)
                  all_goals (by_cases her : er = 0)
                  all_goals (first
                    | (subst her
                       have hi := HI2.out
                       rw [if_neg (by simp)] at hi
                       obtain ⟨a', ha'⟩ : ∃ a', a' = if k0 = 7 then a + 1 else a := ⟨_, rfl⟩
                       obtain ⟨b', hb'⟩ : ∃ b', b' = if k0 = 5 ∨ k0 = 6 then b + 1 else b := ⟨_, rfl⟩
                       rw [← ha', ← hb'] at hi
                       have HII := Lib.hid hi
                       clear hi
                       have HK := Lib.hid (And.intro ha' hb')
                       clear ha' hb'
                       obtain ⟨h7, h5, h6⟩ | ⟨h7, h5⟩ | ⟨h7, h5, h6⟩ | ⟨h7, h5, h6⟩ := HH7.out
                       all_goals go_wp2_with (first | (go_at_call 32; refine (rsize_any k0 k1 k2 k3 k4 _).mono ?_; rw [HSZ.out]; rintro e wg ⟨rfl, hb⟩; have HBv : Hid (Below wr.heap.size wr wg) := (below_step (below_step HBw.out (by repeat (first | exact Below.refl _ _ | apply below_alloc | apply below_drew))) hb); obtain ⟨hc, hf⟩ := xf_bcell (show Below wr.heap.size wr wg from HBv.out); have x0 : wg.cell? (ad3.add (j * 5)) = _ := (HBv.out.cell (p := ad3.add (j * 5)) hkw).trans d0'; have x1 := (hc _ _ hkw).trans d1; have x2 := (hc _ _ hkw).trans d2; have x3 := (hc _ _ hkw).trans d3; have x4 := (hc _ _ hkw).trans d4; have y0 := (hc _ _ hbig).trans b0; have y1 := (hc _ _ hbig).trans bv1; have y2 := (hc _ _ hbig).trans bv2; have y3 := (hc _ _ hbig).trans bv3; have hsz : w.heap.size < wg.heap.size := (by have := HBv.out.size; omega); clear hc hf hb))
                       all_goals go_roundw
                       all_goals (have hk := HK.out; simp only [beq_iff_eq, beq_eq_false_iff_ne, ne_eq] at h7 h5)
                       all_goals (try simp only [beq_iff_eq, beq_eq_false_iff_ne, ne_eq] at h6)
                       case rel => exact ⟨j + 1, s + sz, a', b', by go_num, by omega, by go_num, by rw [hk.1]; first | rw [if_pos (by omega)] | rw [if_neg (by omega)], by rw [hk.2]; first | rw [if_pos (by omega)] | rw [if_neg (by omega)], by omega, by omega, by rw [hk.1]; split <;> omega, by rw [hk.1]; split <;> omega, by rw [hk.2]; split <;> omega, by rw [hk.2]; split <;> omega, HII, Lib.hid (below_step HBq.out (by first | exact HBv.out | exact below_drew HBv.out)), Lib.hid (Box.below HBXq.out (by first | exact HBv.out | exact below_drew HBv.out))⟩
                       case measure => simp [intOf]; omega
                       case rel => exact ⟨j + 1, s + sz, a', b', by go_num, by omega, by go_num, by rw [hk.1]; first | rw [if_pos (by omega)] | rw [if_neg (by omega)], by rw [hk.2]; first | rw [if_pos (by omega)] | rw [if_neg (by omega)], by omega, by omega, by rw [hk.1]; split <;> omega, by rw [hk.1]; split <;> omega, by rw [hk.2]; split <;> omega, by rw [hk.2]; split <;> omega, HII, Lib.hid (below_step HBq.out (by first | exact HBv.out | exact below_drew HBv.out)), Lib.hid (Box.below HBXq.out (by first | exact HBv.out | exact below_drew HBv.out))⟩
                       case measure => simp [intOf]; omega
                       case rel => exact ⟨j + 1, s + sz, a', b', by go_num, by omega, by go_num, by rw [hk.1]; first | rw [if_pos (by omega)] | rw [if_neg (by omega)], by rw [hk.2]; first | rw [if_pos (by omega)] | rw [if_neg (by omega)], by omega, by omega, by rw [hk.1]; split <;> omega, by rw [hk.1]; split <;> omega, by rw [hk.2]; split <;> omega, by rw [hk.2]; split <;> omega, HII, Lib.hid (below_step HBq.out (by first | exact HBv.out | exact below_drew HBv.out)), Lib.hid (Box.below HBXq.out (by first | exact HBv.out | exact below_drew HBv.out))⟩
                       case measure => simp [intOf]; omega
                       case rel => exact ⟨j + 1, s + sz, a', b', by go_num, by omega, by go_num, by rw [hk.1]; first | rw [if_pos (by omega)] | rw [if_neg (by omega)], by rw [hk.2]; first | rw [if_pos (by omega)] | rw [if_neg (by omega)], by omega, by omega, by rw [hk.1]; split <;> omega, by rw [hk.1]; split <;> omega, by rw [hk.2]; split <;> omega, by rw [hk.2]; split <;> omega, HII, Lib.hid (below_step HBq.out (by first | exact HBv.out | exact below_drew HBv.out)), Lib.hid (Box.below HBXq.out (by first | exact HBv.out | exact below_drew HBv.out))⟩
                       case measure => simp [intOf]; omega)
                    | (have hi := HI2.out
                       rw [if_pos her] at hi
                       have her2 : (er != 0) = true := by simpa using her
                       have HII := Lib.hid hi
                       clear hi her hsb HH7
                       go_wp2
                       go_ret
                       exact ⟨by rw [HII.out]; rfl, below_step HBq.out (by first | exact HBw.out | exact below_drew HBw.out | exact below_drew (below_drew HBw.out))⟩))
                · have hjl : j = fs.length := by omega
                  have hi := HI.out
                  rw [List.drop_of_length_le (by omega)] at hi
                  simp only [fieldsGo] at hi
                  by_cases h1 : 1 < a
                  · rw [if_pos (.inl h1)] at hi
                    have HII := Lib.hid hi
                    clear hi
                    go_wp2
                    go_ret
                    exact ⟨by rw [HII.out]; rfl, HBq.out⟩
                  · by_cases h2 : 0 < b
                    · by_cases h3 : a = 0
                      · rw [if_pos (.inr ⟨h2, h3⟩)] at hi
                        have HII := Lib.hid hi
                        subst h3
                        clear hi
                        go_wp2
                        go_ret
                        exact ⟨by rw [HII.out]; rfl, HBq.out⟩
                      · rw [if_neg (by omega)] at hi
                        have h3b : ¬ (a < 1) := by omega
                        have HII := Lib.hid hi
                        clear hi
                        go_wp2
                        all_goals go_ret
                        all_goals refine ⟨?_, HBq.out⟩
                        all_goals rw [HII.out]
                        · rw [if_pos (by omega)]; rfl
                        · rw [if_neg (by omega)]; rfl
                    · rw [if_neg (by omega)] at hi
                      have HII := Lib.hid hi
                      clear hi
                      go_wp2
                      all_goals go_ret
                      all_goals refine ⟨?_, HBq.out⟩
                      all_goals rw [HII.out]
                      · rw [if_pos (by omega)]; rfl
                      · rw [if_neg (by omega)]; rfl
theorem wrap_succ (j : Nat) (h : j < 9223372036854775807) : wrap64 ((j : Int) + 1) = ((j + 1 : Nat) : Int) := by unfold wrap64; omega
theorem ev_l2 (x0 : List S41) (x1 x5 : List Int) (x6 : Int) (x7 : List S38) (q : Nat) (hq : q < x7.length) (hx5 : x5.length < 17592186044416) (r : List Int) : ∀ (m j : Nat) (b : Bool), x5.length ≤ j + m → j ≤ x5.length →
    Ev (fun k => turnbuckleref05_Reached.l1 k x0 x1 (if (b || decide ((rd_T38 x7 q).f2 ∈ x5.drop j)) = true then x5 else x5 ++ [(rd_T38 x7 q).f2]) x6 x7 (wrap64 (q + 1))) r →
    Ev (fun k => turnbuckleref05_Reached.l2 k x0 x1 x5 x6 x7 q b j) r := by
  intro m
  induction m with
  | zero =>
    intro j b h1 h2 h
    obtain rfl : j = x5.length := by omega
    rw [List.drop_of_length_le (by omega)] at h
    refine Ev.step (f := fun k => turnbuckleref05_Reached.l1 k x0 x1 (if b = true then x5 else x5 ++ [(rd_T38 x7 q).f2]) x6 x7 (wrap64 (q + 1))) (fun k => ?_) (by simpa using h)
    simp only [turnbuckleref05_Reached.l2]
    rw [if_neg (by omega)]
    cases b with
    | true => simp
    | false => simp only [Bool.false_eq_true, if_false]; rw [if_pos (by omega), if_pos (by omega), if_pos hx5]
  | succ m ih =>
    intro j b h1 h2 h
    by_cases hj : j < x5.length
    · refine Ev.step (f := fun k => turnbuckleref05_Reached.l2 k x0 x1 x5 x6 x7 q (b || (rd x5 j == (rd_T38 x7 q).f2)) ((j + 1 : Nat) : Int)) (fun k => ?_) (ih (j + 1) _ (by omega) (by omega) ?_)
      · simp only [turnbuckleref05_Reached.l2]
        rw [if_pos (by omega), wrap_succ j (by omega)]
        cases b with
        | true => simp
        | false => simp only [Bool.false_eq_true, if_false, Bool.false_or]; rw [if_pos (by omega), if_pos (by omega), if_pos (by omega)]
      · rw [List.drop_eq_getElem_cons hj] at h
        have e : (b || decide ((rd_T38 x7 q).f2 ∈ x5[j] :: x5.drop (j + 1))) = (b || (rd x5 j == (rd_T38 x7 q).f2) || decide ((rd_T38 x7 q).f2 ∈ x5.drop (j + 1))) := by
          have hrd : rd x5 j = x5[j] := by simp [rd, hj]
          rw [hrd]
          generalize (rd_T38 x7 q).f2 = f2
          by_cases h1 : x5[j] = f2
          · simp [h1]
          · have h3 : f2 ≠ x5[j] := fun e => h1 e.symm
            have hb : (x5[j] == f2) = false := by simpa using h1
            have hd : decide (f2 ∈ x5[j] :: x5.drop (j + 1)) = decide (f2 ∈ x5.drop (j + 1)) := decide_eq_decide.2 (by rw [List.mem_cons]; exact ⟨fun h => h.resolve_left h3, .inr⟩)
            rw [hb, hd, Bool.or_false]
        rw [e] at h
        exact h
    · obtain rfl : j = x5.length := by omega
      refine ih (x5.length) b (by omega) (by omega) h
theorem ev_l1 (x0 : List S41) (x1 : List Int) (x6 : Int) (x7 : List S38) (hx7 : x7.length ≤ 100) (r : List Int) : ∀ (m q : Nat) (x5 : List Int), x7.length ≤ q + m → q ≤ x7.length → x5.length + m < 17592186044416 →
    Ev (fun k => turnbuckleref05_Reached.l0 k x0 x1 (rRow x5 (x7.drop q)) (wrap64 (x6 + 1))) r → Ev (fun k => turnbuckleref05_Reached.l1 k x0 x1 x5 x6 x7 q) r := by
  intro m
  induction m with
  | zero =>
    intro q x5 h1 h2 h3 h
    obtain rfl : q = x7.length := by omega
    rw [List.drop_of_length_le (by omega)] at h
    refine Ev.step (f := fun k => turnbuckleref05_Reached.l0 k x0 x1 x5 (wrap64 (x6 + 1))) (fun k => ?_) h
    simp only [turnbuckleref05_Reached.l1]
    rw [if_neg (by omega)]
  | succ m ih =>
    intro q x5 h1 h2 h3 h
    by_cases hq : q < x7.length
    · refine Ev.step (f := fun k => turnbuckleref05_Reached.l2 k x0 x1 x5 x6 x7 q ((rd_T38 x7 q).f0 != 2) ((0 : Nat) : Int)) (fun k => ?_) (ev_l2 x0 x1 x5 x6 x7 q hq (by omega) r x5.length 0 _ (by omega) (by omega) ?_)
      · simp only [turnbuckleref05_Reached.l1]
        rw [if_pos (by omega), if_pos (by omega)]
        rfl
      · rw [wrap_succ q (by omega)]
        have e : (if ((rd_T38 x7 q).f0 != 2 || decide ((rd_T38 x7 q).f2 ∈ x5.drop 0)) = true then x5 else x5 ++ [(rd_T38 x7 q).f2]) = rStep x5 (rd_T38 x7 q) := by
          unfold rStep
          rw [List.drop_zero]
          by_cases h2 : (rd_T38 x7 q).f0 = 2
          · by_cases h4 : (rd_T38 x7 q).f2 ∈ x5
            · rw [if_pos (by simp [h4]), if_neg (by simp [h4])]
            · rw [if_neg (by simp [h2, h4]), if_pos ⟨h2, h4⟩]
          · rw [if_pos (by simp [h2]), if_neg (by simp [h2])]
        rw [e]
        refine ih (q + 1) _ (by omega) (by omega) (by have := rStep_length x5 (rd_T38 x7 q); omega) ?_
        rw [List.drop_eq_getElem_cons hq] at h
        have e2 : rd_T38 x7 q = x7[q] := by simp [rd_T38, hq]
        rw [e2]
        exact h
    · obtain rfl : q = x7.length := by omega
      exact ih x7.length x5 (by omega) (by omega) (by omega) h
theorem ev_l0 (x0 : List S41) (hx0 : x0.length ≤ 100) (hf : ∀ x, (rd_T41 x0 x).f3.length ≤ 12) (x1 : List Int) (hx1 : x1.length ≤ 100000) (hr : ∀ x ∈ x1, 0 ≤ x ∧ x < (x0.length : Int)) : ∀ (m q : Nat) (x5 : List Int), x1.length ≤ q + m → q ≤ x1.length → x5.length + 12 * m < 17592186044400 →
    Ev (fun k => turnbuckleref05_Reached.l0 k x0 x1 x5 q) (rAll x0 x5 (x1.drop q)) := by
  intro m
  induction m with
  | zero =>
    intro q x5 h1 h2 h3
    obtain rfl : q = x1.length := by omega
    rw [List.drop_of_length_le (by omega)]
    refine Ev.step (f := fun k => some x5) (fun k => ?_) (Ev.now _)
    simp only [turnbuckleref05_Reached.l0]
    rw [if_neg (by omega)]
  | succ m ih =>
    intro q x5 h1 h2 h3
    by_cases hq : q < x1.length
    · have e2 : rd x1 q = x1[q] := by simp [rd, hq]
      obtain ⟨r0, r1⟩ := hr _ (List.getElem_mem hq)
      have h12 := hf (rd x1 q)
      refine Ev.step (f := fun k => turnbuckleref05_Reached.l1 k x0 x1 x5 q (rd_T41 x0 (rd x1 q)).f3 ((0 : Nat) : Int)) (fun k => ?_) (ev_l1 x0 x1 q _ (by omega) _ (rd_T41 x0 (rd x1 q)).f3.length 0 x5 (by omega) (by omega) (by omega) ?_)
      · simp only [turnbuckleref05_Reached.l0]
        rw [if_pos (by omega), if_pos (by omega), if_pos (by omega), if_pos (by omega)]
        rfl
      · rw [wrap_succ q (by omega), List.drop_zero]
        have hl := rRow_length (rd_T41 x0 (rd x1 q)).f3 x5
        have := ih (q + 1) (rRow x5 (rd_T41 x0 (rd x1 q)).f3) (by omega) (by omega) (by omega)
        rw [List.drop_eq_getElem_cons hq]
        unfold rAll at *
        rw [List.foldl_cons, ← e2]
        exact this
    · obtain rfl : q = x1.length := by omega
      exact ih x1.length x5 (by omega) (by omega) (by omega)
theorem ev_reached (l : List S41) (hl : l.length ≤ 100) (hf : ∀ x, (rd_T41 l x).f3.length ≤ 12) (s : List Int) (hs : s.length ≤ 100000) (hr : ∀ x ∈ s, 0 ≤ x ∧ x < (l.length : Int)) : Ev (fun k => turnbuckleref05_Reached.f k l s) (reached l s) := by
  refine Ev.congr (f := fun k => turnbuckleref05_Reached.l0 k l s s ((0 : Nat) : Int)) (fun k => ?_) ?_
  · unfold turnbuckleref05_Reached.f
    simp only [Option.bind_some, List.nil_append, List.length_nil]
    rw [if_pos (by omega)]
    rfl
  · have := ev_l0 l hl hf s hs hr s.length 0 s (by omega) (by omega) (by omega)
    rw [List.drop_zero] at this
    exact this
theorem reached_in (l : List S41) (hcl : Closed l) (s : List Int) (hs : ∀ x ∈ s, 0 ≤ x ∧ x < (l.length : Int)) : ∀ x ∈ reached l s, 0 ≤ x ∧ x < (l.length : Int) := by
  intro x hx
  rcases (reached_mem l s x).1 hx with h1 | ⟨i, hi, he⟩
  · exact hs x h1
  · obtain ⟨h0, h1⟩ := hs i hi
    obtain ⟨q, rfl⟩ : ∃ q : Nat, i = q := ⟨i.toNat, by omega⟩
    exact hcl q (by omega) x he
theorem reached_append (l : List S41) (s : List Int) : ∃ t, reached l s = s ++ t ∧ t.Nodup ∧ ∀ x ∈ t, ¬ x ∈ s := by
  have hstep : ∀ (o t : List Int) (f : S38), t.Nodup → (∀ x ∈ t, ¬ x ∈ o) → ∃ t', rStep (o ++ t) f = o ++ t' ∧ t'.Nodup ∧ ∀ x ∈ t', ¬ x ∈ o := by
    intro o t f h1 h2
    unfold rStep
    split
    · rename_i h
      rw [List.mem_append, not_or] at h
      refine ⟨t ++ [f.f2], by simp, ?_, ?_⟩
      · rw [List.nodup_append]
        exact ⟨h1, by simp, by intro a ha b hb; simp at hb; subst hb; intro e; subst e; exact h.2.2 ha⟩
      · intro x hx
        rw [List.mem_append, List.mem_singleton] at hx
        rcases hx with hx | rfl
        · exact h2 x hx
        · exact h.2.1
    · exact ⟨t, rfl, h1, h2⟩
  have hrow : ∀ (fs : List S38) (o t : List Int), t.Nodup → (∀ x ∈ t, ¬ x ∈ o) → ∃ t', rRow (o ++ t) fs = o ++ t' ∧ t'.Nodup ∧ ∀ x ∈ t', ¬ x ∈ o := by
    intro fs
    induction fs with
    | nil => intro o t h1 h2; exact ⟨t, rfl, h1, h2⟩
    | cons f r ih =>
      intro o t h1 h2
      obtain ⟨t', e, h1', h2'⟩ := hstep o t f h1 h2
      unfold rRow
      rw [List.foldl_cons, e]
      exact ih o t' h1' h2'
  have hall : ∀ (r o t : List Int), t.Nodup → (∀ x ∈ t, ¬ x ∈ o) → ∃ t', rAll l (o ++ t) r = o ++ t' ∧ t'.Nodup ∧ ∀ x ∈ t', ¬ x ∈ o := by
    intro r
    induction r with
    | nil => intro o t h1 h2; exact ⟨t, rfl, h1, h2⟩
    | cons f r ih =>
      intro o t h1 h2
      obtain ⟨t', e, h1', h2'⟩ := hrow (rd_T41 l f).f3 o t h1 h2
      unfold rAll
      rw [List.foldl_cons, e]
      exact ih o t' h1' h2'
  have := hall s s [] (by simp) (by simp)
  rw [List.append_nil] at this
  exact this
theorem nodup_length (n : Nat) (t : List Int) (hn : t.Nodup) (hr : ∀ x ∈ t, 0 ≤ x ∧ x < (n : Int)) : t.length ≤ n := by
  have h1 : (t.map Int.toNat).Nodup := by
    rw [List.nodup_iff_pairwise_ne, List.pairwise_map]
    refine List.Pairwise.imp_of_mem ?_ hn
    intro a b ha hb hab e
    have := hr a ha
    have := hr b hb
    omega
  have h2 : (t.map Int.toNat) ⊆ List.range n := by
    intro x hx
    rw [List.mem_map] at hx
    obtain ⟨y, hy, rfl⟩ := hx
    have := hr y hy
    rw [List.mem_range]
    omega
  have := h1.length_le_of_subset h2
  simpa using this
theorem reached_length (l : List S41) (hcl : Closed l) (s : List Int) (hs : ∀ x ∈ s, 0 ≤ x ∧ x < (l.length : Int)) : (reached l s).length ≤ s.length + l.length := by
  obtain ⟨t, e, h1, h2⟩ := reached_append l s
  have := nodup_length l.length t h1 (fun x hx => reached_in l hcl s hs x (by rw [e]; simp [hx]))
  rw [e]
  simp
  omega
theorem ev_i2 (x1 : Int) (x6 : List Int) (hx : x6.length < 100000) : ∀ (m j : Nat), x6.length ≤ j + m → j ≤ x6.length → Ev (fun k => turnbuckleref05_Itself.l2 k x1 x6 j) (decide (x1 ∈ x6.drop j)) := by
  intro m
  induction m with
  | zero =>
    intro j h1 h2
    obtain rfl : j = x6.length := by omega
    rw [List.drop_of_length_le (by omega)]
    refine Ev.step (f := fun k => some false) (fun k => ?_) (Ev.now _)
    simp only [turnbuckleref05_Itself.l2]
    rw [if_neg (by omega)]
  | succ m ih =>
    intro j h1 h2
    by_cases hj : j < x6.length
    · have e2 : rd x6 j = x6[j] := by simp [rd, hj]
      have ed : x6.drop j = x6[j] :: x6.drop (j + 1) := List.drop_eq_getElem_cons hj
      by_cases he : x6[j] = x1
      · refine Ev.step (f := fun k => some true) (fun k => ?_) ?_
        · simp only [turnbuckleref05_Itself.l2]
          rw [if_pos (by omega), if_pos (by omega), if_pos (by rw [e2]; exact he)]
        · rw [ed, he, decide_eq_true (by simp)]
          exact Ev.now _
      · refine Ev.step (f := fun k => turnbuckleref05_Itself.l2 k x1 x6 ((j + 1 : Nat) : Int)) (fun k => ?_) ?_
        · simp only [turnbuckleref05_Itself.l2]
          rw [if_pos (by omega), if_pos (by omega), if_neg (by rw [e2]; exact he), wrap_succ j (by omega)]
        · have hd : decide (x1 ∈ x6.drop j) = decide (x1 ∈ x6.drop (j + 1)) := decide_eq_decide.2 (by rw [ed, List.mem_cons]; exact ⟨fun h => h.resolve_left (fun e => he e.symm), .inr⟩)
          rw [hd]
          exact ih (j + 1) (by omega) (by omega)
    · obtain rfl : j = x6.length := by omega
      exact ih x6.length (by omega) (by omega)
theorem ev_i1 (l : List S41) (hl : l.length ≤ 32) (hcl : Closed l) (hf : ∀ x, (rd_T41 l x).f3.length ≤ 12) (x1 : Int) : ∀ (m q : Nat) (s : List Int), l.length = q + m → s.length ≤ 100 + 32 * q → (∀ x ∈ s, 0 ≤ x ∧ x < (l.length : Int)) →
    Ev (fun k => turnbuckleref05_Itself.l1 k l x1 s q) (decide (x1 ∈ iter l m s)) := by
  intro m
  induction m with
  | zero =>
    intro q s h1 h2 h3
    refine Ev.step (f := fun k => turnbuckleref05_Itself.l2 k x1 s ((0 : Nat) : Int)) (fun k => ?_) ?_
    · simp only [turnbuckleref05_Itself.l1]
      rw [if_neg (by omega)]
      rfl
    · have := ev_i2 x1 s (by omega) s.length 0 (by omega) (by omega)
      rw [List.drop_zero] at this
      exact this
  | succ m ih =>
    intro q s h1 h2 h3
    refine Ev.step (f := fun k => (turnbuckleref05_Reached.f k l s).bind fun t201 => turnbuckleref05_Itself.l1 k l x1 t201 ((q + 1 : Nat) : Int)) (fun k => ?_) ?_
    · simp only [turnbuckleref05_Itself.l1]
      rw [if_pos (by omega), wrap_succ q (by omega)]
    · have hlen := reached_length l hcl s h3
      exact Ev.bind (f := fun k t => turnbuckleref05_Itself.l1 k l x1 t ((q + 1 : Nat) : Int)) (ev_reached l (by omega) hf s (by omega) h3) (ih (q + 1) (reached l s) (by omega) (by omega) (reached_in l hcl s h3))
theorem ev_i0 (l : List S41) (hl : l.length ≤ 32) (x1 : Int) (fs : List S38) (hfs : fs.length ≤ 12) (r : Bool) : ∀ (m j : Nat) (s : List Int), fs.length = j + m → s.length ≤ j → Ev (fun k => turnbuckleref05_Itself.l1 k l x1 (s ++ firsts (fs.drop j)) 0) r →
    Ev (fun k => turnbuckleref05_Itself.l0 k l x1 fs s j) r := by
  intro m
  induction m with
  | zero =>
    intro j s h1 h2 h
    rw [List.drop_of_length_le (by omega)] at h
    refine Ev.step (f := fun k => turnbuckleref05_Itself.l1 k l x1 s 0) (fun k => ?_) (by simpa [firsts] using h)
    simp only [turnbuckleref05_Itself.l0]
    rw [if_neg (by omega)]
  | succ m ih =>
    intro j s h1 h2 h
    have hj : j < fs.length := by omega
    have e2 : rd_T38 fs j = fs[j] := by simp [rd_T38, hj]
    rw [List.drop_eq_getElem_cons hj] at h
    by_cases h2' : (rd_T38 fs j).f0 = 2
    · refine Ev.step (f := fun k => turnbuckleref05_Itself.l0 k l x1 fs (s ++ [(rd_T38 fs j).f2]) ((j + 1 : Nat) : Int)) (fun k => ?_) (ih (j + 1) _ (by omega) (by simp; omega) ?_)
      · simp only [turnbuckleref05_Itself.l0]
        rw [if_pos (by omega), if_pos (by omega), if_pos h2', if_pos (by omega), wrap_succ j (by omega)]
      · rw [e2] at h2' ⊢
        have : firsts (fs[j] :: fs.drop (j + 1)) = fs[j].f2 :: firsts (fs.drop (j + 1)) := by
          unfold firsts
          rw [List.filter_cons_of_pos (by simpa using h2'), List.map_cons]
        rw [this] at h
        rw [List.append_assoc]
        exact h
    · refine Ev.step (f := fun k => turnbuckleref05_Itself.l0 k l x1 fs s ((j + 1 : Nat) : Int)) (fun k => ?_) (ih (j + 1) _ (by omega) (by omega) ?_)
      · simp only [turnbuckleref05_Itself.l0]
        rw [if_pos (by omega), if_pos (by omega), if_neg h2', wrap_succ j (by omega)]
      · rw [e2] at h2'
        have : firsts (fs[j] :: fs.drop (j + 1)) = firsts (fs.drop (j + 1)) := by
          unfold firsts
          rw [List.filter_cons_of_neg (by simpa using h2')]
        rw [this] at h
        exact h
theorem itself_any (l : List S41) (A0 : Option Addr) (c0 i : Nat) (w : World) (hlen : l.length ≤ 32) (hr0 : Kd.C k41 w A0 l.length l) (hi : i < l.length) (hcl : Closed l) (hf : ∀ x, (rd_T41 l x).f3.length ≤ 12) (hc0 : l.length ≤ c0) :
    Calls Try.prog 28 #[.slice A0 l.length c0, .int .i64 i] w fun e w' => ∃ r, e = .returned (.bool r) ∧ (r = true ↔ Reach l i i) ∧ Below w.heap.size w w' := by
  have hev : Ev (fun k => turnbuckleref05_Itself.f k l i) (decide ((i : Int) ∈ iter l l.length (firsts (rd_T41 l i).f3))) := by
    refine Ev.congr (f := fun k => turnbuckleref05_Itself.l0 k l i (rd_T41 l i).f3 [] ((0 : Nat) : Int)) (fun k => ?_) ?_
    · unfold turnbuckleref05_Itself.f
      rw [if_pos (by omega), if_pos (by omega)]
      rfl
    · refine ev_i0 l hlen i _ (hf i) _ (rd_T41 l i).f3.length 0 [] (by omega) (by simp) ?_
      rw [List.drop_zero, List.nil_append]
      have h12 := hf i
      have hfl : (firsts (rd_T41 l i).f3).length ≤ 12 := by
        unfold firsts
        rw [List.length_map]
        exact Nat.le_trans (List.length_filter_le _ _) h12
      exact ev_i1 l hlen hcl hf i l.length 0 _ (by omega) (by omega) (fun x hx => hcl i hi x ((firsts_mem l i x).1 hx))
  obtain ⟨k, hk⟩ := hev.rounds
  refine (turnbuckleref05_Itself.calls k A0 c0 l i _ w hr0 hc0 hk).mono fun e w' ⟨he, hb⟩ => ⟨_, he, ?_, hb⟩
  rw [decide_eq_true_iff]
  exact itself_iff l hcl i hi
theorem rows_of {l : List S41} (h : ∀ j, j < l.length → typeErr l j = 0) : ∀ x, (rd_T41 l x).f3.length ≤ 12 := by
  intro x
  by_cases hx : x.toNat < l.length
  · have := (typeErr_zero (h x.toNat hx)).2.2.1
    have e : rd_T41 l ((x.toNat : Nat) : Int) = rd_T41 l x := by unfold rd_T41; rw [Int.toNat_natCast]
    rw [e] at this
    exact this
  · have e : rd_T41 l x = rd_T41 [] 0 := by unfold rd_T41; simp; rw [List.getElem?_eq_none (by omega)]; rfl
    rw [e]
    exact Nat.zero_le _
set_option maxHeartbeats 4000000 in
set_option maxRecDepth 100000 in
/-- ref Check -/
theorem rcheckAll_any (l : List S41) (A0 : Option Addr) (c0 : Nat) (w : World) (hlen : l.length ≤ 9223372036854775807) (hr0 : Kd.C k41 w A0 l.length l) (hs : ∀ i, i < l.length → (rd_T41 l i).f0.size ≤ 9223372036854775807) (hc0 : l.length ≤ c0) :
    Calls Try.prog 17 #[.slice A0 l.length c0] w fun e w' => e = .returned (.tuple #[.int .i64 (allErr l).1, .int .i64 (allErr l).2]) ∧ Below w.heap.size w w' := by
  obtain ⟨z, hz⟩ : ∃ z, z = allErr l := ⟨_, rfl⟩
  rw [← hz]
  obtain ⟨z1, z2⟩ := z
  simp only
  unfold allErr at hz
  by_cases h32 : 32 < l.length
  · rw [if_pos h32] at hz
    cases hz
    clear hr0 hs
    go_enter Try.func17, Try.ntmps17
    go_wp2
    go_ret2
    exact ⟨rfl, Below.refl _ _⟩
  · rw [if_neg h32] at hz
    have HR0 := Lib.hid hr0
    have HS := Lib.hid hs
    have HZ := Lib.hid hz
    have hle : l.length ≤ 32 := by omega
    clear hz hr0 hs h32
    go_enter Try.func17, Try.ntmps17
    go_wp2
    go_loopw [4] (fun v4 wr => ∃ k : Nat, v4 = .int .i64 k ∧ k ≤ l.length ∧ Hid (∀ j, j < k → typeErr l j = 0) ∧ Hid (Below w.heap.size w wr)) (fun v4 _ => l.length - (intOf v4).toNat)
    case atStart => exact ⟨0, rfl, by omega, fun j hj => absurd hj (by omega), Lib.hid (Below.refl _ _)⟩
    case round =>
      obtain ⟨k, rfl, hk, HA, HB⟩ := hrel
      by_cases hlt : k < l.length
      · obtain ⟨te, hte⟩ : ∃ te, te = typeErr l k := ⟨_, rfl⟩
        have HTE := Lib.hid hte
        clear hte
        by_cases h0 : te = 0
        · subst h0
          go_wp2_with (go_at_call 27; refine (rtype_any l A0 c0 k _ hlen (Kd.C_below HR0.out HB.out) hlt (HS.out k hlt) hc0).mono ?_; rw [← HTE.out]; rintro e w1 ⟨rfl, hb⟩; have HB1 := Lib.hid hb; clear hb)
          go_roundw
          case rel => exact ⟨k + 1, by go_num, by omega, fun j hj => (by by_cases hjk : j < k; (· exact HA.out j hjk); (· obtain rfl : j = k := (by omega); exact HTE.out.symm)), Lib.hid (below_step HB.out HB1.out)⟩
          case measure => simp [intOf]; omega
        · have hb0 : (te != 0) = true := by simpa using h0
          have H0 := Lib.hid h0
          clear h0
          go_wp2_with (go_at_call 27; refine (rtype_any l A0 c0 k _ hlen (Kd.C_below HR0.out HB.out) hlt (HS.out k hlt) hc0).mono ?_; rw [← HTE.out]; rintro e w1 ⟨rfl, hb⟩; have HB1 := Lib.hid hb; clear hb)
          go_ret2
          have hz := HZ.out
          rw [if_neg (fun h => H0.out (HTE.out.trans (h k hlt))), firstBad_hit (typeErr l) l.length 0 k (fun j _ hj => HA.out j hj) (by omega) (by omega) (by rw [← HTE.out]; exact H0.out)] at hz
          cases hz
          exact ⟨by rw [HTE.out]; rfl, below_step HB.out HB1.out⟩
      · obtain rfl : k = l.length := by omega
        have hz := HZ.out
        rw [if_pos HA.out] at hz
        have HCL := Lib.hid (closed_of HA.out)
        have HFL := Lib.hid (rows_of HA.out)
        have HZ2 := Lib.hid hz
        clear hz HZ
        go_wp2
        go_loopw [6] (fun v6 wr => ∃ k : Nat, v6 = .int .i64 k ∧ k ≤ l.length ∧ Hid (∀ j, j < k → ringErr l j = 0) ∧ Hid (Below w.heap.size w wr)) (fun v6 _ => l.length - (intOf v6).toNat)
        case atStart => exact ⟨0, rfl, by omega, fun j hj => absurd hj (by omega), HB⟩
        case round =>
          obtain ⟨k, rfl, hk, HA2, HB2⟩ := hrel
          by_cases hlt : k < l.length
          · obtain ⟨ad, A3, c3, hat⟩ := at_of HR0.out k hlt
            obtain ⟨rfl, e0, e1, e2, e3, h3, hk3⟩ := hat
            have hkb : (ad.add (k * 4)).block < w.heap.size := World.block_lt_of_cell? w _ e0
            have e0' : wr.cell? (ad.add (k * 4)) = _ := (HB2.out.cell (p := ad.add (k * 4)) hkb).trans e0
            have hcl := (xf_bcell HB2.out).1
            rw [← hcl _ _ hkb] at e1 e2 e3
            obtain ⟨rg, hrg0⟩ : ∃ rg, rg = ringErr l k := ⟨_, rfl⟩
            have hrg : (((rd_T41 l k).f2 = true ∧ Reach l k k) → rg = 7) ∧ (¬ ((rd_T41 l k).f2 = true ∧ Reach l k k) → rg = 0) := ⟨fun h => by rw [hrg0, ringErr, if_pos h], fun h => by rw [hrg0, ringErr, if_neg h]⟩
            clear hcl e0 hkb hk3
            generalize rd_T41 l k = u at *
            obtain ⟨u0, u1, u2, u3⟩ := u
            simp only at e0' e1 e2 e3 h3 hrg
            cases u2 with
            | false =>
              replace hrg := hrg.2 (by simp)
              rw [hrg0] at hrg
              have HRG := Lib.hid hrg
              clear hrg
              go_wp2
              go_roundw
              case rel => exact ⟨k + 1, by go_num, by omega, fun j hj => (by by_cases hjk : j < k; (· exact HA2.out j hjk); (· obtain rfl : j = k := (by omega); exact HRG.out)), HB2⟩
              case measure => simp [intOf]; omega
            | true =>
              rw [hrg0] at hrg
              have HRG := Lib.hid hrg
              clear hrg
              go_wp2_with (go_at_call 28; refine (itself_any l (some ad) c0 k _ hle (Kd.C_below HR0.out HB2.out) hlt HCL.out HFL.out hc0).mono ?_; rintro e w2 ⟨r, rfl, hrr, hb⟩; have HR := Lib.hid hrr; have HBx := Lib.hid hb; clear hrr hb)
              · have hr : r = true := by first | assumption | simp_all
                subst hr
                go_ret2
                have hreach := HR.out.1 rfl
                have hz := HZ2.out
                have h7 : ringErr l k = 7 := by exact HRG.out.1 (by first | exact ⟨rfl, hreach⟩ | exact ⟨trivial, hreach⟩ | exact hreach)
                rw [firstBad_hit (ringErr l) l.length 0 k (fun j _ hj => HA2.out j hj) (by omega) (by omega) (by rw [h7]; decide), h7] at hz
                cases hz
                exact ⟨rfl, below_step HB2.out HBx.out⟩
              · have hr : r = false := by first | assumption | simp_all
                subst hr
                go_roundw
                have hreach : ¬ Reach l k k := fun h => by have := HR.out.2 h; cases this
                case rel => exact ⟨k + 1, by go_num, by omega, fun j hj => (by by_cases hjk : j < k; (· exact HA2.out j hjk); (· obtain rfl : j = k := (by omega); exact HRG.out.2 (by first | exact (fun h => hreach h.2) | exact hreach))), Lib.hid (below_step HB2.out HBx.out)⟩
                case measure => simp [intOf]; omega
          · obtain rfl : k = l.length := by omega
            have hz := HZ2.out
            rw [firstBad_none (ringErr l) l.length 0 (fun j _ hj => HA2.out j (by omega))] at hz
            cases hz
            go_wp2
            go_ret2
            exact ⟨rfl, HB2.out⟩
def turnbuckleref05_Check.f (l0 : List S41) : Option (Int × Int) := if ∀ i, i < l0.length → (rd_T41 l0 i).f0.size ≤ 9223372036854775807 then some (allErrC l0) else none
theorem turnbuckleref05_Check.calls (A0 : Option Addr) (c0 : Nat) (l0 : List (S41)) (r1 : Int) (r2 : Int) (w : World) (hr0 : Kd.C k41 w A0 l0.length l0) (hc0 : l0.length ≤ c0) (h : turnbuckleref05_Check.f l0 = some (r1, r2)) :
    Calls Try.prog 17 #[.slice A0 l0.length c0] w fun e w' => e = .returned (.tuple #[.int .i64 r1, .int .i64 r2]) ∧ Below w.heap.size w w' := by
  unfold turnbuckleref05_Check.f at h
  split at h
  · rename_i hs
    have h1 := rcheckAll_any l0 A0 c0 w (Kd.C_max hr0) hr0 hs hc0
    rw [← allErrC_eq, Option.some.inj h] at h1
    exact h1
  · cases h


end Go.Proofs.Ytckijljnomojiaa.PTypesParses
