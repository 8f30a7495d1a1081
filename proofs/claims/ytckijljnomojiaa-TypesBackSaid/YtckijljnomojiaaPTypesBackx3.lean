-- laid by wip/tools/mkprint.py, a turned copy of the print
import Derived.Test.YtckijljnomojiaaPTypesBackx0
import Derived.Test.YtckijljnomojiaaPTypesBackx2
namespace Go.Proofs.Ytckijljnomojiaa.PTypesBack
open Go.RowKit Go.Proofs.YtckijljnomojiaaW.PrintWords Go.Proofs.YtckijljnomojiaaW.PrintLast Go.Proofs.YtckijljnomojiaaW.PrintMore
attribute [local go_sem] max2_int min2_int max_two min_two max_three min_three max_four min_four   -- for this text's walks alone
set_option linter.unusedVariables false
set_option linter.unusedSimpArgs false

/-! ### types_Check: function 10 -/
/-- all are 0 -/
def zeros (l : List Int) : Bool := l.all (· == 0)
theorem zeros_cut (l : List Int) (i : Nat) (h : i < l.length) (h0 : zeros (l.take i) = true) : zeros (l.take (i + 1)) = (l.getD i 0 == 0) := by
  rw [List.take_succ_eq_append_getElem h]
  unfold zeros at *
  rw [List.all_append, h0]
  simp [h]
theorem zeros_no (l : List Int) (i : Nat) (h : i < l.length) (h0 : l.getD i 0 ≠ 0) : zeros l = false := by
  unfold zeros
  rw [List.all_eq_false]
  refine ⟨l[i], List.getElem_mem h, ?_⟩
  simpa [h] using h0

set_option maxHeartbeats 400000 in
set_option maxRecDepth 100000 in
/-- types.none: over a row of a block -/
theorem none_any (l : List Int) (g c : Nat) (w : World) (hl : l.length ≤ 100) (hc : ∀ i, i < l.length → w.cell? ⟨g, i, none⟩ = some (.int .i64 (l.getD i 0))) :
    Calls Try.prog 35 #[.slice (some ⟨g, 0, none⟩) l.length c] w fun e w' => e = .returned (.bool (zeros l)) ∧ w = w' := by
  have HC := Lib.hid hc
  clear hc
  have HN := Lib.hid (zeros_no l)
  have HCt := Lib.hid (zeros_cut l)
  go_enter Try.func35, Try.ntmps35
  go_wp2
  go_loop [7] (fun i => ∃ k : Nat, k ≤ l.length ∧ i = .int .i64 k ∧ Hid (zeros (l.take k) = true)) (fun i => l.length - (intOf i).toNat)
  case atStart => exact ⟨0, by omega, rfl, rfl⟩
  case round =>
    obtain ⟨k, hk, rfl, hz⟩ := hrel
    by_cases hlt : k < l.length
    · have hcell := HC.out k hlt
      obtain ⟨x, hx⟩ : ∃ x, x = l.getD k 0 := ⟨_, rfl⟩
      rw [← hx] at hcell
      have HX := Lib.hid hx
      clear hx
      by_cases h0 : x = 0
      · subst h0
        go_wp2
        go_round
        case rel => exact ⟨k + 1, by omega, by go_num, by show zeros _ = true; rw [HCt.out k hlt hz.out, ← HX.out]; rfl⟩
        case measure => simp [intOf]; omega
      · have hb : (x != 0) = true := by simpa using h0
        clear h0
        go_wp2
        go_ret
        have := HN.out k hlt (by rw [← HX.out]; simpa using hb)
        exact ⟨by rw [this]; rfl, rfl⟩
    · go_wp2
      go_ret
      have hz' := hz.out
      rw [List.take_of_length_le (by omega)] at hz'
      exact ⟨by rw [hz']; rfl, rfl⟩

/-- the closure of types.field: of no type -/
theorem to_range (l : List S41) (A0 : Option Addr) (c0 bl bf : Nat) (ty : Int) (w : World) (hl : w.cell? ⟨bl, 0, none⟩ = some (.slice A0 l.length c0)) (hf : w.cell? ⟨bf, 2, none⟩ = some (.int .i64 ty)) (hlen : l.length ≤ 9223372036854775807)
    (ht : ty < 0 ∨ (l.length : Int) ≤ ty) :
    Calls Try.prog 34 #[.pointer (some ⟨bf, 0, none⟩), .pointer (some ⟨bl, 0, none⟩)] w fun e w' => e = .returned (.tuple #[.agg #[.string ⟨#[]⟩, .bool false, .bool false, .slice none 0 0], .int .i64 4]) ∧ Below w.heap.size w w' := by
  have hbf : bf < w.heap.size := World.block_lt_of_cell? w _ hf
  have hbl : bl < w.heap.size := World.block_lt_of_cell? w _ hl
  by_cases h0 : ty < 0
  · go_enter Try.func34, Try.ntmps34
    go_wp2
    exact bodyPost_ret (v := .tuple #[.agg #[.string ⟨#[]⟩, .bool false, .bool false, .slice none 0 0], .int .i64 4]) (by simp [results, Try.results34, go_sem]) rfl ⟨rfl, (((Below.refl _ _).alloc (Nat.le_refl _) _))⟩
  · have h1 : (l.length : Int) ≤ ty := by omega
    clear ht
    go_enter Try.func34, Try.ntmps34
    go_wp2
    exact bodyPost_ret (v := .tuple #[.agg #[.string ⟨#[]⟩, .bool false, .bool false, .slice none 0 0], .int .i64 4]) (by simp [results, Try.results34, go_sem]) rfl ⟨rfl, (((Below.refl _ _).alloc (Nat.le_refl _) _))⟩

/-- the closure of types.field: of a type -/
theorem to_val (n : Nat) (c0 bl bf : Nat) (q : Nat) (ad : Addr) (w : World) (hl : w.cell? ⟨bl, 0, none⟩ = some (.slice (some ad) n c0)) (hf : w.cell? ⟨bf, 2, none⟩ = some (.int .i64 q)) (hlen : n ≤ 9223372036854775807)
    (hq : q < n) (e1 : w.cell? ⟨(ad.add (q * 4)).block, (ad.add (q * 4)).off + 1, none⟩ = some (.bool true)) :
    Calls Try.prog 34 #[.pointer (some ⟨bf, 0, none⟩), .pointer (some ⟨bl, 0, none⟩)] w fun e w' => e = .returned (.tuple #[.agg #[.string ⟨#[]⟩, .bool false, .bool false, .slice none 0 0], .int .i64 7]) ∧ Below w.heap.size w w' := by
  have hbf : bf < w.heap.size := World.block_lt_of_cell? w _ hf
  have hbl : bl < w.heap.size := World.block_lt_of_cell? w _ hl
  have hb : (ad.add (q * 4)).block < w.heap.size := World.block_lt_of_cell? w ⟨(ad.add (q * 4)).block, (ad.add (q * 4)).off + 1, none⟩ e1
  have hq0 : ¬ ((q : Int) < 0) := by omega
  go_enter Try.func34, Try.ntmps34
  go_wp2
  exact bodyPost_ret (v := .tuple #[.agg #[.string ⟨#[]⟩, .bool false, .bool false, .slice none 0 0], .int .i64 7]) (by simp [results, Try.results34, go_sem]) rfl ⟨rfl, (((Below.refl _ _).alloc (Nat.le_refl _) _))⟩
theorem to_ok (n : Nat) (c0 bl bf : Nat) (q : Nat) (ad : Addr) (w : World) (hl : w.cell? ⟨bl, 0, none⟩ = some (.slice (some ad) n c0)) (hf : w.cell? ⟨bf, 2, none⟩ = some (.int .i64 q)) (hlen : n ≤ 9223372036854775807)
    (hq : q < n) (f0 : ByteArray) (f2 : Bool) (A3 : Option Addr) (n3 c3 : Nat) (e0 : w.cell? (ad.add (q * 4)) = some (.string f0)) (e1 : w.cell? ⟨(ad.add (q * 4)).block, (ad.add (q * 4)).off + 1, none⟩ = some (.bool false)) (e2 : w.cell? ⟨(ad.add (q * 4)).block, (ad.add (q * 4)).off + 2, none⟩ = some (.bool f2)) (e3 : w.cell? ⟨(ad.add (q * 4)).block, (ad.add (q * 4)).off + 3, none⟩ = some (.slice A3 n3 c3)) :
    Calls Try.prog 34 #[.pointer (some ⟨bf, 0, none⟩), .pointer (some ⟨bl, 0, none⟩)] w fun e w' => e = .returned (.tuple #[.agg #[.string f0, .bool false, .bool f2, .slice A3 n3 c3], .int .i64 0]) ∧ Below w.heap.size w w' := by
  have hbf : bf < w.heap.size := World.block_lt_of_cell? w _ hf
  have hbl : bl < w.heap.size := World.block_lt_of_cell? w _ hl
  have hb : (ad.add (q * 4)).block < w.heap.size := World.block_lt_of_cell? w _ e0
  have hq0 : ¬ ((q : Int) < 0) := by omega
  go_enter Try.func34, Try.ntmps34
  go_wp2
  exact bodyPost_ret (v := .tuple #[.agg #[.string f0, .bool false, .bool f2, .slice A3 n3 c3], .int .i64 0]) (by simp [results, Try.results34, go_sem]) rfl ⟨rfl, (((Below.refl _ _).alloc (Nat.le_refl _) _))⟩

def kindOf (fs : List S38) (i : Int) : Int := if 0 ≤ i ∧ i < fs.length then (rd_T38 fs i).f0 else 0
set_option maxHeartbeats 400000 in
/-- types.kind -/
theorem kind_any (fs : List S38) (f0 : ByteArray) (f1 f2 : Bool) (A3 : Option Addr) (c3 : Nat) (i : Int) (w : World) (hlen : fs.length ≤ 9223372036854775807) (hk : k38.C w A3 fs.length fs) :
    Calls Try.prog 36 #[.agg #[.string f0, .bool f1, .bool f2, .slice A3 fs.length c3], .int .i64 i] w fun e w' => e = .returned (.int .i64 (kindOf fs i)) ∧ Below w.heap.size w w' := by
  by_cases h : 0 ≤ i ∧ i < fs.length
  · obtain ⟨h0, h1⟩ := h
    have hr : kindOf fs i = (rd_T38 fs i).f0 := if_pos ⟨h0, h1⟩
    obtain ⟨ad, rfl, e0, -⟩ := at_T38 hk i h0 h1
    rw [hr]
    generalize (rd_T38 fs i).f0 = x at *
    clear hr hk
    obtain ⟨q, rfl⟩ : ∃ q : Nat, i = q := ⟨i.toNat, by omega⟩
    simp only [Int.toNat_natCast] at e0
    have hb : (ad.add (q * 5)).block < w.heap.size := World.block_lt_of_cell? w (ad.add (q * 5)) e0
    have hq : q < fs.length := by omega
    clear h0 h1
    have hq0 : ¬ ((q : Int) < 0) := by omega
    go_enter Try.func36, Try.ntmps36
    go_wp2
    go_ret
    exact ⟨rfl, (((Below.refl _ _).alloc (Nat.le_refl _) _))⟩
  · have hr : kindOf fs i = 0 := if_neg h
    rw [hr]
    clear hr hk
    by_cases h0 : i < 0
    · go_enter Try.func36, Try.ntmps36
      go_wp2
      go_ret
      exact ⟨rfl, (((Below.refl _ _).alloc (Nat.le_refl _) _))⟩
    · have h1 : (fs.length : Int) ≤ i := by omega
      go_enter Try.func36, Try.ntmps36
      go_wp2
      go_ret
      exact ⟨rfl, (((Below.refl _ _).alloc (Nat.le_refl _) _))⟩
/-- types.none over a literal -/
theorem none_lit (l : List Int) (r : Bool) (g : Nat) (W : World) (hl : l.length ≤ 100) (hz : zeros l = r) (hg : g = W.heap.size) :
    Calls Try.prog 35 #[.slice (some ⟨g, 0, none⟩) l.length l.length] (W.alloc (.cells (l.map (Value.int .i64)).toArray 3)) fun e w' => e = .returned (.bool r) ∧ W.alloc (.cells (l.map (Value.int .i64)).toArray 3) = w' := by
  subst hg
  rw [← hz]
  refine none_any l _ _ _ hl (fun i hi => ?_)
  have e : ((W.alloc (.cells (l.map (Value.int .i64)).toArray 3)).heap[W.heap.size]?) = some (.cells (l.map (Value.int .i64)).toArray 3) := heap_alloc_new W _
  rw [cell_of_row _ _ _ _ _ _ e]
  simp [hi]
theorem none1 (a : Int) (r : Bool) (g : Nat) (W : World) (hz : zeros [a] = r) (hg : g = W.heap.size) : Calls Try.prog 35 #[.slice (some ⟨g, 0, none⟩) 1 1] (W.alloc (.cells #[.int .i64 a] 3)) fun e w' => e = .returned (.bool r) ∧ W.alloc (.cells #[.int .i64 a] 3) = w' := none_lit [a] r g W (by simp) hz hg
theorem none2 (a b : Int) (r : Bool) (g : Nat) (W : World) (hz : zeros [a, b] = r) (hg : g = W.heap.size) : Calls Try.prog 35 #[.slice (some ⟨g, 0, none⟩) 2 2] (W.alloc (.cells #[.int .i64 a, .int .i64 b] 3)) fun e w' => e = .returned (.bool r) ∧ W.alloc (.cells #[.int .i64 a, .int .i64 b] 3) = w' := none_lit [a, b] r g W (by simp) hz hg
theorem none3 (a b c : Int) (r : Bool) (g : Nat) (W : World) (hz : zeros [a, b, c] = r) (hg : g = W.heap.size) : Calls Try.prog 35 #[.slice (some ⟨g, 0, none⟩) 3 3] (W.alloc (.cells #[.int .i64 a, .int .i64 b, .int .i64 c] 3)) fun e w' => e = .returned (.bool r) ∧ W.alloc (.cells #[.int .i64 a, .int .i64 b, .int .i64 c] 3) = w' := none_lit [a, b, c] r g W (by simp) hz hg
theorem none4 (a b c d : Int) (r : Bool) (g : Nat) (W : World) (hz : zeros [a, b, c, d] = r) (hg : g = W.heap.size) : Calls Try.prog 35 #[.slice (some ⟨g, 0, none⟩) 4 4] (W.alloc (.cells #[.int .i64 a, .int .i64 b, .int .i64 c, .int .i64 d] 3)) fun e w' => e = .returned (.bool r) ∧ W.alloc (.cells #[.int .i64 a, .int .i64 b, .int .i64 c, .int .i64 d] 3) = w' := none_lit [a, b, c, d] r g W (by simp) hz hg

/-- types.field, the scalar -/
theorem field1 (A0 : Option Addr) (n0 c0 : Nat) (t0 : ByteArray) (tv t2 : Bool) (A3 : Option Addr) (n3 c3 : Nat) (a b c d : Int) (w : World) :
    Calls Try.prog 30 #[.slice A0 n0 c0, .agg #[.string t0, .bool tv, .bool t2, .slice A3 n3 c3], .agg #[.int .i64 1, .int .i64 a, .int .i64 b, .int .i64 c, .int .i64 d]] w fun e w' =>
      e = .returned (.int .i64 (if zeros [b, c, d] then (if 1 ≤ a ∧ a ≤ 16 then 0 else 4) else 7)) ∧ Below w.heap.size w w' := by
  cases hz : zeros [b, c, d] with
  | false =>
    have HZ := Lib.hid hz
    clear hz
    go_enter Try.func30, Try.ntmps30
    go_wp2_with (go_at_call 35; refine (none3 b c d false _ _ HZ.out ?_).mono ?_; (· simp); rintro e w' ⟨rfl, rfl⟩)
    go_ret
    exact ⟨rfl, by repeat (first | exact Below.refl _ _ | apply below_alloc)⟩
  | true =>
    have HZ := Lib.hid hz
    clear hz
    by_cases hs : (1 ≤ a ∧ a ≤ 16)
    · have hs0 : ((8 * a : Int) == 0) = false := by simp; omega
      rw [if_pos rfl, if_pos hs]
      have HS := Lib.hid hs
      clear hs
      go_enter Try.func30, Try.ntmps30
      go_wp2_with (first | (go_at_call 35; refine (none3 b c d true _ _ HZ.out ?_).mono ?_; (· simp); rintro e w' ⟨rfl, rfl⟩) | (go_at_call 23; refine (size1_yes a b c d _ HS.out.1 HS.out.2).mono ?_; rintro e w' ⟨rfl, hb⟩; obtain ⟨hc, hf⟩ := xf_bcell hb))
      go_ret
      exact ⟨rfl, below_step (by repeat (first | exact Below.refl _ _ | apply below_alloc)) hb⟩
    · rw [if_pos rfl, if_neg hs]
      have HS := Lib.hid hs
      clear hs
      go_enter Try.func30, Try.ntmps30
      go_wp2_with (first | (go_at_call 35; refine (none3 b c d true _ _ HZ.out ?_).mono ?_; (· simp); rintro e w' ⟨rfl, rfl⟩) | (go_at_call 23; refine (size1_no a b c d _ HS.out).mono ?_; rintro e w' ⟨rfl, hb⟩; obtain ⟨hc, hf⟩ := xf_bcell hb))
      go_ret
      exact ⟨rfl, below_step (by repeat (first | exact Below.refl _ _ | apply below_alloc)) hb⟩

/-- what is known of a target -/
structure At (l : List S41) (w : World) (A0 : Option Addr) (q : Nat) (ad : Addr) (A3 : Option Addr) (c3 : Nat) : Prop where
  hA : A0 = some ad
  e0 : w.cell? (ad.add (q * 4)) = some (.string (rd_T41 l q).f0)
  e1 : w.cell? ⟨(ad.add (q * 4)).block, (ad.add (q * 4)).off + 1, none⟩ = some (.bool (rd_T41 l q).f1)
  e2 : w.cell? ⟨(ad.add (q * 4)).block, (ad.add (q * 4)).off + 2, none⟩ = some (.bool (rd_T41 l q).f2)
  e3 : w.cell? ⟨(ad.add (q * 4)).block, (ad.add (q * 4)).off + 3, none⟩ = some (.slice A3 (rd_T41 l q).f3.length c3)
  hl : (rd_T41 l q).f3.length ≤ c3
  hk : k38.C w A3 (rd_T41 l q).f3.length (rd_T41 l q).f3
theorem at_of {l : List S41} {w : World} {A0 : Option Addr} (hr0 : Kd.C k41 w A0 l.length l) (q : Nat) (h1 : q < l.length) : ∃ ad A3 c3, At l w A0 q ad A3 c3 := by
  obtain ⟨ad, A3, c3, rfl, e0, e1, e2, e3, h3, hk⟩ := at_T41 hr0 q (by omega) (by omega)
  simp only [Int.toNat_natCast] at e0 e1 e2 e3
  exact ⟨ad, A3, c3, rfl, e0, e1, e2, e3, h3, hk⟩

/-- what types.field comes to -/
def target (l : List S41) (ty : Int) (g : S41 → Int) : Int := if ty < 0 ∨ (l.length : Int) ≤ ty then 4 else if (rd_T41 l ty).f1 then 7 else g (rd_T41 l ty)
def fieldErr (l : List S41) (tv : Bool) (f : S38) : Int :=
  if f.f0 = 1 then (if zeros [f.f2, f.f3, f.f4] then (if 1 ≤ f.f1 ∧ f.f1 ≤ 16 then 0 else 4) else 7)
  else if f.f0 = 2 then (if zeros [f.f1, f.f3, f.f4] then target l f.f2 (fun _ => 0) else 7)
  else if f.f0 = 3 ∨ f.f0 = 4 then (if zeros [f.f1, f.f2, f.f3, f.f4] && !tv then 0 else 7)
  else if f.f0 = 5 then (if zeros [f.f1, f.f4] && tv then target l f.f2 (fun u => if kindOf u.f3 f.f3 = 3 then 0 else 7) else 7)
  else if f.f0 = 6 then (if zeros [f.f1] && tv then target l f.f2 (fun u => if !u.f2 && (kindOf u.f3 f.f3 == 4) && (kindOf u.f3 f.f4 == 1) then 0 else 7) else 7)
  else if f.f0 = 7 then (if zeros [f.f1, f.f2, f.f3, f.f4] && tv then 0 else 7)
  else 7

/-- the world of types.field behind its boxes -/
theorem field2 (l : List S41) (A0 : Option Addr) (c0 : Nat) (t0 : ByteArray) (tv t2 : Bool) (A3 : Option Addr) (n3 c3 : Nat) (a ty c d : Int) (w : World) (hlen : l.length ≤ 9223372036854775807) (hr0 : Kd.C k41 w A0 l.length l) :
    Calls Try.prog 30 #[.slice A0 l.length c0, .agg #[.string t0, .bool tv, .bool t2, .slice A3 n3 c3], .agg #[.int .i64 2, .int .i64 a, .int .i64 ty, .int .i64 c, .int .i64 d]] w fun e w' =>
      e = .returned (.int .i64 (if zeros [a, c, d] then target l ty (fun _ => 0) else 7)) ∧ Below w.heap.size w w' := by
  cases hz : zeros [a, c, d] with
  | false =>
    have HZ := Lib.hid hz
    clear hz hr0
    go_enter Try.func30, Try.ntmps30
    go_wp2_with (go_at_call 35; refine (none3 a c d false _ _ HZ.out ?_).mono ?_; (· simp); rintro e w' ⟨rfl, rfl⟩)
    go_ret
    exact ⟨rfl, by repeat (first | exact Below.refl _ _ | apply below_alloc)⟩
  | true =>
    have HZ := Lib.hid hz
    clear hz
    rw [if_pos rfl]
    by_cases hr : ty < 0 ∨ (l.length : Int) ≤ ty
    · rw [show target l ty (fun _ => 0) = 4 from if_pos hr]
      have HR := Lib.hid hr
      clear hr hr0
      go_enter Try.func30, Try.ntmps30
      go_wp2_with (first | (go_at_call 35; refine (none3 a c d true _ _ HZ.out ?_).mono ?_; (· simp); rintro e w' ⟨rfl, rfl⟩) | (go_at_call 34; refine (to_range l A0 c0 _ _ ty _ ?_ ?_ hlen HR.out).mono ?_; (· go_simp); (· go_simp); rintro e w' ⟨rfl, hb⟩))
      go_ret
      exact ⟨rfl, below_alloc (below_step (by repeat (first | exact Below.refl _ _ | apply below_alloc)) hb) _⟩
    · obtain ⟨q, rfl⟩ : ∃ q : Nat, ty = q := ⟨ty.toNat, by omega⟩
      have hq : q < l.length := by omega
      obtain ⟨ad, A3', c3', hat⟩ := at_of hr0 q hq
      obtain ⟨rfl, e0, e1, e2, e3, -, -⟩ := hat
      cases hv : (rd_T41 l q).f1 with
      | true =>
        rw [hv] at e1
        rw [show target l q (fun _ => 0) = 7 from by unfold target; rw [if_neg hr, hv]; rfl]
        clear hr hr0 hv
        have hbl : (ad.add (q * 4)).block < w.heap.size := World.block_lt_of_cell? w (ad.add (q * 4)) e0
        go_enter Try.func30, Try.ntmps30
        go_wp2_with (first | (go_at_call 35; refine (none3 a c d true _ _ HZ.out ?_).mono ?_; (· simp); rintro e w' ⟨rfl, rfl⟩) | (go_at_call 34; refine (to_val l.length c0 _ _ q ad _ ?_ ?_ hlen hq ?_).mono ?_; (· go_simp); (· go_simp); (· exact pw_cell_below (by repeat (first | exact Below.refl _ _ | apply below_alloc)) e1); rintro e w' ⟨rfl, hb⟩))
        go_ret
        exact ⟨rfl, below_alloc (below_step (by repeat (first | exact Below.refl _ _ | apply below_alloc)) hb) _⟩
      | false =>
        rw [hv] at e1
        rw [show target l q (fun _ => 0) = 0 from by unfold target; rw [if_neg hr, hv]; rfl]
        clear hr hr0 hv
        have hbl : (ad.add (q * 4)).block < w.heap.size := World.block_lt_of_cell? w (ad.add (q * 4)) e0
        generalize rd_T41 l q = u at *
        obtain ⟨u0, u1, u2, u3⟩ := u
        go_enter Try.func30, Try.ntmps30
        go_wp2_with (first | (go_at_call 35; refine (none3 a c d true _ _ HZ.out ?_).mono ?_; (· simp); rintro e w' ⟨rfl, rfl⟩) | (go_at_call 34; refine (to_ok l.length c0 _ _ q ad _ ?_ ?_ hlen hq u0 u2 A3' u3.length c3' ?_ ?_ ?_ ?_).mono ?_; (· go_simp); (· go_simp); (· exact pw_cell_below (by repeat (first | exact Below.refl _ _ | apply below_alloc)) e0); (· exact pw_cell_below (by repeat (first | exact Below.refl _ _ | apply below_alloc)) e1); (· exact pw_cell_below (by repeat (first | exact Below.refl _ _ | apply below_alloc)) e2); (· exact pw_cell_below (by repeat (first | exact Below.refl _ _ | apply below_alloc)) e3); rintro e w' ⟨rfl, hb⟩))
        go_ret
        exact ⟨rfl, below_alloc (below_step (by repeat (first | exact Below.refl _ _ | apply below_alloc)) hb) _⟩

theorem field3 (k : Int) (hk : k = 3 ∨ k = 4) (A0 : Option Addr) (n0 c0 : Nat) (t0 : ByteArray) (tv t2 : Bool) (A3 : Option Addr) (n3 c3 : Nat) (a b c d : Int) (w : World) :
    Calls Try.prog 30 #[.slice A0 n0 c0, .agg #[.string t0, .bool tv, .bool t2, .slice A3 n3 c3], .agg #[.int .i64 k, .int .i64 a, .int .i64 b, .int .i64 c, .int .i64 d]] w fun e w' =>
      e = .returned (.int .i64 (if zeros [a, b, c, d] && !tv then 0 else 7)) ∧ Below w.heap.size w w' := by
  cases hz : zeros [a, b, c, d] with
  | false =>
    have HZ := Lib.hid hz
    clear hz
    rcases hk with rfl | rfl <;>
    · go_enter Try.func30, Try.ntmps30
      go_wp2_with (go_at_call 35; refine (none4 a b c d false _ _ HZ.out ?_).mono ?_; (· simp); rintro e w' ⟨rfl, rfl⟩)
      go_ret
      exact ⟨rfl, by repeat (first | exact Below.refl _ _ | apply below_alloc)⟩
  | true =>
    have HZ := Lib.hid hz
    clear hz
    cases tv <;> rcases hk with rfl | rfl <;>
    · go_enter Try.func30, Try.ntmps30
      go_wp2_with (go_at_call 35; refine (none4 a b c d true _ _ HZ.out ?_).mono ?_; (· simp); rintro e w' ⟨rfl, rfl⟩)
      go_ret
      exact ⟨rfl, by repeat (first | exact Below.refl _ _ | apply below_alloc)⟩
theorem field7 (A0 : Option Addr) (n0 c0 : Nat) (t0 : ByteArray) (tv t2 : Bool) (A3 : Option Addr) (n3 c3 : Nat) (a b c d : Int) (w : World) :
    Calls Try.prog 30 #[.slice A0 n0 c0, .agg #[.string t0, .bool tv, .bool t2, .slice A3 n3 c3], .agg #[.int .i64 7, .int .i64 a, .int .i64 b, .int .i64 c, .int .i64 d]] w fun e w' =>
      e = .returned (.int .i64 (if zeros [a, b, c, d] && tv then 0 else 7)) ∧ Below w.heap.size w w' := by
  cases hz : zeros [a, b, c, d] with
  | false =>
    have HZ := Lib.hid hz
    clear hz
    go_enter Try.func30, Try.ntmps30
    go_wp2_with (go_at_call 35; refine (none4 a b c d false _ _ HZ.out ?_).mono ?_; (· simp); rintro e w' ⟨rfl, rfl⟩)
    go_ret
    exact ⟨rfl, by repeat (first | exact Below.refl _ _ | apply below_alloc)⟩
  | true =>
    have HZ := Lib.hid hz
    clear hz
    cases tv <;>
    · go_enter Try.func30, Try.ntmps30
      go_wp2_with (go_at_call 35; refine (none4 a b c d true _ _ HZ.out ?_).mono ?_; (· simp); rintro e w' ⟨rfl, rfl⟩)
      go_ret
      exact ⟨rfl, by repeat (first | exact Below.refl _ _ | apply below_alloc)⟩
theorem field0 (k : Int) (hk : (k == 1) = false ∧ (k == 2) = false ∧ (k == 3) = false ∧ (k == 4) = false ∧ (k == 5) = false ∧ (k == 6) = false ∧ (k == 7) = false) (A0 : Option Addr) (n0 c0 : Nat) (t0 : ByteArray) (tv t2 : Bool) (A3 : Option Addr) (n3 c3 : Nat) (a b c d : Int) (w : World) :
    Calls Try.prog 30 #[.slice A0 n0 c0, .agg #[.string t0, .bool tv, .bool t2, .slice A3 n3 c3], .agg #[.int .i64 k, .int .i64 a, .int .i64 b, .int .i64 c, .int .i64 d]] w fun e w' =>
      e = .returned (.int .i64 7) ∧ Below w.heap.size w w' := by
  obtain ⟨k1, k2, k3, k4, k5, k6, k7⟩ := hk
  go_enter Try.func30, Try.ntmps30
  go_wp2
  go_ret
  exact ⟨rfl, by repeat (first | exact Below.refl _ _ | apply below_alloc)⟩

set_option maxHeartbeats 4000000 in
set_option maxRecDepth 100000 in
theorem field5 (l : List S41) (A0 : Option Addr) (c0 : Nat) (t0 : ByteArray) (tv t2 : Bool) (A3 : Option Addr) (n3 c3 : Nat) (a ty c d : Int) (w : World) (hlen : l.length ≤ 9223372036854775807) (hr0 : Kd.C k41 w A0 l.length l) :
    Calls Try.prog 30 #[.slice A0 l.length c0, .agg #[.string t0, .bool tv, .bool t2, .slice A3 n3 c3], .agg #[.int .i64 5, .int .i64 a, .int .i64 ty, .int .i64 c, .int .i64 d]] w fun e w' =>
      e = .returned (.int .i64 (if zeros [a, d] && tv then target l ty (fun u => if kindOf u.f3 c = 3 then 0 else 7) else 7)) ∧ Below w.heap.size w w' := by
  cases hz : zeros [a, d] with
  | false =>
    have HZ := Lib.hid hz
    clear hz hr0
    go_enter Try.func30, Try.ntmps30
    go_wp2_with (go_at_call 35; refine (none2 a d false _ _ HZ.out ?_).mono ?_; (· simp); rintro e w' ⟨rfl, rfl⟩)
    go_ret
    exact ⟨rfl, by repeat (first | exact Below.refl _ _ | apply below_alloc)⟩
  | true =>
    have HZ := Lib.hid hz
    clear hz
    cases tv with
    | false =>
      clear hr0
      go_enter Try.func30, Try.ntmps30
      go_wp2_with (go_at_call 35; refine (none2 a d true _ _ HZ.out ?_).mono ?_; (· simp); rintro e w' ⟨rfl, rfl⟩)
      go_ret
      exact ⟨rfl, by repeat (first | exact Below.refl _ _ | apply below_alloc)⟩
    | true =>
    rw [if_pos (by rfl)]
    by_cases hr : ty < 0 ∨ (l.length : Int) ≤ ty
    · rw [show target l ty _ = 4 from if_pos hr]
      have HR := Lib.hid hr
      clear hr hr0
      go_enter Try.func30, Try.ntmps30
      go_wp2_with (first | (go_at_call 35; refine (none2 a d true _ _ HZ.out ?_).mono ?_; (· simp); rintro e w' ⟨rfl, rfl⟩) | (go_at_call 34; refine (to_range l A0 c0 _ _ ty _ ?_ ?_ hlen HR.out).mono ?_; (· go_simp); (· go_simp); rintro e w' ⟨rfl, hb⟩))
      go_ret
      exact ⟨rfl, below_alloc (below_step (by repeat (first | exact Below.refl _ _ | apply below_alloc)) hb) _⟩
    · obtain ⟨q, rfl⟩ : ∃ q : Nat, ty = q := ⟨ty.toNat, by omega⟩
      have hq : q < l.length := by omega
      obtain ⟨ad, A3', c3', hat⟩ := at_of hr0 q hq
      obtain ⟨rfl, e0, e1, e2, e3, h3, hk⟩ := hat
      cases hv : (rd_T41 l q).f1 with
      | true =>
        rw [hv] at e1
        rw [show target l q _ = 7 from by unfold target; rw [if_neg hr, hv]; rfl]
        clear hr hr0 hv hk
        have hbl : (ad.add (q * 4)).block < w.heap.size := World.block_lt_of_cell? w (ad.add (q * 4)) e0
        go_enter Try.func30, Try.ntmps30
        go_wp2_with (first | (go_at_call 35; refine (none2 a d true _ _ HZ.out ?_).mono ?_; (· simp); rintro e w' ⟨rfl, rfl⟩) | (go_at_call 34; refine (to_val l.length c0 _ _ q ad _ ?_ ?_ hlen hq ?_).mono ?_; (· go_simp); (· go_simp); (· exact pw_cell_below (by repeat (first | exact Below.refl _ _ | apply below_alloc)) e1); rintro e w' ⟨rfl, hb⟩))
        go_ret
        exact ⟨rfl, below_alloc (below_step (by repeat (first | exact Below.refl _ _ | apply below_alloc)) hb) _⟩
      | false =>
        rw [hv] at e1
        rw [show target l q (fun u => if kindOf u.f3 c = 3 then 0 else 7) = (if kindOf (rd_T41 l q).f3 c = 3 then 0 else 7) from by unfold target; rw [if_neg hr, hv]; rfl]
        clear hr hr0 hv
        have hbl : (ad.add (q * 4)).block < w.heap.size := World.block_lt_of_cell? w (ad.add (q * 4)) e0
        generalize rd_T41 l q = u at *
        obtain ⟨u0, u1, u2, u3⟩ := u
        simp only at e0 e1 e2 e3 h3 hk
        have HK := Lib.hid hk
        clear hk
        have h3l : u3.length ≤ 9223372036854775807 := Kd.C_max HK.out
        obtain ⟨kk, hkk⟩ : ∃ kk, kk = kindOf u3 c := ⟨_, rfl⟩
        have HKK := Lib.hid hkk
        rw [← hkk]
        clear hkk
        by_cases h3k : kk = 3
        · have hb3 : (kk == 3) = true := by rw [h3k]; rfl
          rw [if_pos h3k]
          clear h3k
          go_enter Try.func30, Try.ntmps30
          go_wp2_with (first | (go_at_call 35; refine (none2 a d true _ _ HZ.out ?_).mono ?_; (· simp); rintro e w' ⟨rfl, rfl⟩) | (go_at_call 34; refine (to_ok l.length c0 _ _ q ad _ ?_ ?_ hlen hq u0 u2 A3' u3.length c3' ?_ ?_ ?_ ?_).mono ?_; (· go_simp); (· go_simp); (· exact pw_cell_below (by repeat (first | exact Below.refl _ _ | apply below_alloc)) e0); (· exact pw_cell_below (by repeat (first | exact Below.refl _ _ | apply below_alloc)) e1); (· exact pw_cell_below (by repeat (first | exact Below.refl _ _ | apply below_alloc)) e2); (· exact pw_cell_below (by repeat (first | exact Below.refl _ _ | apply below_alloc)) e3); rintro e w' ⟨rfl, hb⟩; have HBc := Lib.hid hb; obtain ⟨hc, hf⟩ := xf_bcell hb; have hsz : w.heap.size + 1 + 1 < w'.heap.size := (by have := hb.size; simp at this; omega); have fc3 : w'.cell? ⟨w.heap.size + 1 + 1, 3, none⟩ = some (.int .i64 c) := (by rw [hc _ _ (by simp)]; go_simp); clear hc hf hb; have HBw : Hid (Below w.heap.size w w') := (below_step (by repeat (first | exact Below.refl _ _ | apply below_alloc)) HBc.out)) | (go_at_call 36; refine (kind_any u3 u0 false u2 A3' c3' c _ h3l ?_).mono ?_; (· exact Kd.C_alloc (Kd.C_below HK.out HBw.out) _); rw [← HKK.out]; rintro e w2 ⟨rfl, hb2⟩; have HB2 := Lib.hid hb2; clear hb2))
          go_ret
          exact ⟨rfl, below_step (below_alloc HBw.out _) HB2.out⟩
        · have hb3 : (kk == 3) = false := by simpa using h3k
          rw [if_neg h3k]
          clear h3k
          go_enter Try.func30, Try.ntmps30
          go_wp2_with (first | (go_at_call 35; refine (none2 a d true _ _ HZ.out ?_).mono ?_; (· simp); rintro e w' ⟨rfl, rfl⟩) | (go_at_call 34; refine (to_ok l.length c0 _ _ q ad _ ?_ ?_ hlen hq u0 u2 A3' u3.length c3' ?_ ?_ ?_ ?_).mono ?_; (· go_simp); (· go_simp); (· exact pw_cell_below (by repeat (first | exact Below.refl _ _ | apply below_alloc)) e0); (· exact pw_cell_below (by repeat (first | exact Below.refl _ _ | apply below_alloc)) e1); (· exact pw_cell_below (by repeat (first | exact Below.refl _ _ | apply below_alloc)) e2); (· exact pw_cell_below (by repeat (first | exact Below.refl _ _ | apply below_alloc)) e3); rintro e w' ⟨rfl, hb⟩; have HBc := Lib.hid hb; obtain ⟨hc, hf⟩ := xf_bcell hb; have hsz : w.heap.size + 1 + 1 < w'.heap.size := (by have := hb.size; simp at this; omega); have fc3 : w'.cell? ⟨w.heap.size + 1 + 1, 3, none⟩ = some (.int .i64 c) := (by rw [hc _ _ (by simp)]; go_simp); clear hc hf hb; have HBw : Hid (Below w.heap.size w w') := (below_step (by repeat (first | exact Below.refl _ _ | apply below_alloc)) HBc.out)) | (go_at_call 36; refine (kind_any u3 u0 false u2 A3' c3' c _ h3l ?_).mono ?_; (· exact Kd.C_alloc (Kd.C_below HK.out HBw.out) _); rw [← HKK.out]; rintro e w2 ⟨rfl, hb2⟩; have HB2 := Lib.hid hb2; clear hb2))
          go_ret
          exact ⟨rfl, below_step (below_alloc HBw.out _) HB2.out⟩
set_option maxHeartbeats 4000000 in
set_option maxRecDepth 100000 in
theorem field6 (l : List S41) (A0 : Option Addr) (c0 : Nat) (t0 : ByteArray) (tv t2 : Bool) (A3 : Option Addr) (n3 c3 : Nat) (a ty c d : Int) (w : World) (hlen : l.length ≤ 9223372036854775807) (hr0 : Kd.C k41 w A0 l.length l) :
    Calls Try.prog 30 #[.slice A0 l.length c0, .agg #[.string t0, .bool tv, .bool t2, .slice A3 n3 c3], .agg #[.int .i64 6, .int .i64 a, .int .i64 ty, .int .i64 c, .int .i64 d]] w fun e w' =>
      e = .returned (.int .i64 (if zeros [a] && tv then target l ty (fun u => if !u.f2 && (kindOf u.f3 c == 4) && (kindOf u.f3 d == 1) then 0 else 7) else 7)) ∧ Below w.heap.size w w' := by
  cases hz : zeros [a] with
  | false =>
    have HZ := Lib.hid hz
    clear hz hr0
    go_enter Try.func30, Try.ntmps30
    go_wp2_with (go_at_call 35; refine (none1 a false _ _ HZ.out ?_).mono ?_; (· simp); rintro e w' ⟨rfl, rfl⟩)
    go_ret
    exact ⟨rfl, by repeat (first | exact Below.refl _ _ | apply below_alloc)⟩
  | true =>
    have HZ := Lib.hid hz
    clear hz
    cases tv with
    | false =>
      clear hr0
      go_enter Try.func30, Try.ntmps30
      go_wp2_with (go_at_call 35; refine (none1 a true _ _ HZ.out ?_).mono ?_; (· simp); rintro e w' ⟨rfl, rfl⟩)
      go_ret
      exact ⟨rfl, by repeat (first | exact Below.refl _ _ | apply below_alloc)⟩
    | true =>
    rw [if_pos (by rfl)]
    by_cases hr : ty < 0 ∨ (l.length : Int) ≤ ty
    · rw [show target l ty _ = 4 from if_pos hr]
      have HR := Lib.hid hr
      clear hr hr0
      go_enter Try.func30, Try.ntmps30
      go_wp2_with (first | (go_at_call 35; refine (none1 a true _ _ HZ.out ?_).mono ?_; (· simp); rintro e w' ⟨rfl, rfl⟩) | (go_at_call 34; refine (to_range l A0 c0 _ _ ty _ ?_ ?_ hlen HR.out).mono ?_; (· go_simp); (· go_simp); rintro e w' ⟨rfl, hb⟩))
      go_ret
      exact ⟨rfl, below_alloc (below_step (by repeat (first | exact Below.refl _ _ | apply below_alloc)) hb) _⟩
    · obtain ⟨q, rfl⟩ : ∃ q : Nat, ty = q := ⟨ty.toNat, by omega⟩
      have hq : q < l.length := by omega
      obtain ⟨ad, A3', c3', hat⟩ := at_of hr0 q hq
      obtain ⟨rfl, e0, e1, e2, e3, h3, hk⟩ := hat
      cases hv : (rd_T41 l q).f1 with
      | true =>
        rw [hv] at e1
        rw [show target l q _ = 7 from by unfold target; rw [if_neg hr, hv]; rfl]
        clear hr hr0 hv hk
        have hbl : (ad.add (q * 4)).block < w.heap.size := World.block_lt_of_cell? w (ad.add (q * 4)) e0
        go_enter Try.func30, Try.ntmps30
        go_wp2_with (first | (go_at_call 35; refine (none1 a true _ _ HZ.out ?_).mono ?_; (· simp); rintro e w' ⟨rfl, rfl⟩) | (go_at_call 34; refine (to_val l.length c0 _ _ q ad _ ?_ ?_ hlen hq ?_).mono ?_; (· go_simp); (· go_simp); (· exact pw_cell_below (by repeat (first | exact Below.refl _ _ | apply below_alloc)) e1); rintro e w' ⟨rfl, hb⟩))
        go_ret
        exact ⟨rfl, below_alloc (below_step (by repeat (first | exact Below.refl _ _ | apply below_alloc)) hb) _⟩
      | false =>
        rw [hv] at e1
        rw [show target l q _ = (if !(rd_T41 l q).f2 && (kindOf (rd_T41 l q).f3 c == 4) && (kindOf (rd_T41 l q).f3 d == 1) then 0 else 7) from by unfold target; rw [if_neg hr, hv]; rfl]
        clear hr hr0 hv
        have hbl : (ad.add (q * 4)).block < w.heap.size := World.block_lt_of_cell? w (ad.add (q * 4)) e0
        generalize rd_T41 l q = u at *
        obtain ⟨u0, u1, u2, u3⟩ := u
        simp only at e0 e1 e2 e3 h3 hk
        have HK := Lib.hid hk
        clear hk
        have h3l : u3.length ≤ 9223372036854775807 := Kd.C_max HK.out
        cases u2 with
        | true =>
          rw [if_neg (by simp)]
          go_enter Try.func30, Try.ntmps30
          go_wp2_with (first | (go_at_call 35; refine (none1 a true _ _ HZ.out ?_).mono ?_; (· simp); rintro e w' ⟨rfl, rfl⟩) | (go_at_call 34; refine (to_ok l.length c0 _ _ q ad _ ?_ ?_ hlen hq u0 true A3' u3.length c3' ?_ ?_ ?_ ?_).mono ?_; (· go_simp); (· go_simp); (· exact pw_cell_below (by repeat (first | exact Below.refl _ _ | apply below_alloc)) e0); (· exact pw_cell_below (by repeat (first | exact Below.refl _ _ | apply below_alloc)) e1); (· exact pw_cell_below (by repeat (first | exact Below.refl _ _ | apply below_alloc)) e2); (· exact pw_cell_below (by repeat (first | exact Below.refl _ _ | apply below_alloc)) e3); rintro e w' ⟨rfl, hb⟩; have HBc := Lib.hid hb; obtain ⟨hc, hf⟩ := xf_bcell hb; have hsz : w.heap.size + 1 + 1 < w'.heap.size := (by have := hb.size; simp at this; omega); have fc3 : w'.cell? ⟨w.heap.size + 1 + 1, 3, none⟩ = some (.int .i64 c) := (by rw [hc _ _ (by simp)]; go_simp); have fc4 : w'.cell? ⟨w.heap.size + 1 + 1, 4, none⟩ = some (.int .i64 d) := (by rw [hc _ _ (by simp)]; go_simp); clear hc hf hb; have HBw : Hid (Below w.heap.size w w') := (below_step (by repeat (first | exact Below.refl _ _ | apply below_alloc)) HBc.out)))
          go_ret
          exact ⟨rfl, below_alloc HBw.out _⟩
        | false =>
        obtain ⟨kc, hkc⟩ : ∃ kk, kk = kindOf u3 c := ⟨_, rfl⟩
        obtain ⟨kd, hkd⟩ : ∃ kk, kk = kindOf u3 d := ⟨_, rfl⟩
        have HKc := Lib.hid hkc
        have HKd := Lib.hid hkd
        simp only
        rw [← hkc, ← hkd]
        clear hkc hkd
        cases hkc4 : kc == 4 with
        | false =>
          rw [if_neg (by simp)]
          go_enter Try.func30, Try.ntmps30
          go_wp2_with (first | (go_at_call 35; refine (none1 a true _ _ HZ.out ?_).mono ?_; (· simp); rintro e w' ⟨rfl, rfl⟩) | (go_at_call 34; refine (to_ok l.length c0 _ _ q ad _ ?_ ?_ hlen hq u0 false A3' u3.length c3' ?_ ?_ ?_ ?_).mono ?_; (· go_simp); (· go_simp); (· exact pw_cell_below (by repeat (first | exact Below.refl _ _ | apply below_alloc)) e0); (· exact pw_cell_below (by repeat (first | exact Below.refl _ _ | apply below_alloc)) e1); (· exact pw_cell_below (by repeat (first | exact Below.refl _ _ | apply below_alloc)) e2); (· exact pw_cell_below (by repeat (first | exact Below.refl _ _ | apply below_alloc)) e3); rintro e w' ⟨rfl, hb⟩; have HBc := Lib.hid hb; obtain ⟨hc, hf⟩ := xf_bcell hb; have hsz : w.heap.size + 1 + 1 < w'.heap.size := (by have := hb.size; simp at this; omega); have fc3 : w'.cell? ⟨w.heap.size + 1 + 1, 3, none⟩ = some (.int .i64 c) := (by rw [hc _ _ (by simp)]; go_simp); have fc4 : w'.cell? ⟨w.heap.size + 1 + 1, 4, none⟩ = some (.int .i64 d) := (by rw [hc _ _ (by simp)]; go_simp); clear hc hf hb; have HBw : Hid (Below w.heap.size w w') := (below_step (by repeat (first | exact Below.refl _ _ | apply below_alloc)) HBc.out)) | (go_at_call 36; refine (kind_any u3 u0 false false A3' c3' c _ h3l ?_).mono ?_; (· exact Kd.C_alloc (Kd.C_below HK.out HBw.out) _); rw [← HKc.out]; rintro e w2 ⟨rfl, hb2⟩; have HB2 := Lib.hid (below_step (below_alloc HBw.out _) hb2); obtain ⟨hc2, hf2⟩ := xf_bcell hb2; have gc4 : w2.cell? ⟨w.heap.size + 1 + 1, 4, none⟩ = some (.int .i64 d) := (by rw [hc2 _ _ (by simp; omega)]; go_simp); have g0 : w2.cell? ⟨w'.heap.size, 0, none⟩ = some (.string u0) := (by rw [hc2 _ _ (by simp)]; go_simp); have g1 : w2.cell? ⟨w'.heap.size, 1, none⟩ = some (.bool false) := (by rw [hc2 _ _ (by simp)]; go_simp); have g2 : w2.cell? ⟨w'.heap.size, 2, none⟩ = some (.bool false) := (by rw [hc2 _ _ (by simp)]; go_simp); have g3 : w2.cell? ⟨w'.heap.size, 3, none⟩ = some (.slice A3' u3.length c3') := (by rw [hc2 _ _ (by simp)]; go_simp); clear hc2 hf2 hb2; have tok : True := trivial))
          go_ret
          exact ⟨rfl, HB2.out⟩
        | true =>
          cases hkd1 : kd == 1 with
          | false =>
            rw [if_neg (by simp)]
            go_enter Try.func30, Try.ntmps30
            go_wp2_with (first | (go_at_call 35; refine (none1 a true _ _ HZ.out ?_).mono ?_; (· simp); rintro e w' ⟨rfl, rfl⟩) | (go_at_call 34; refine (to_ok l.length c0 _ _ q ad _ ?_ ?_ hlen hq u0 false A3' u3.length c3' ?_ ?_ ?_ ?_).mono ?_; (· go_simp); (· go_simp); (· exact pw_cell_below (by repeat (first | exact Below.refl _ _ | apply below_alloc)) e0); (· exact pw_cell_below (by repeat (first | exact Below.refl _ _ | apply below_alloc)) e1); (· exact pw_cell_below (by repeat (first | exact Below.refl _ _ | apply below_alloc)) e2); (· exact pw_cell_below (by repeat (first | exact Below.refl _ _ | apply below_alloc)) e3); rintro e w' ⟨rfl, hb⟩; have HBc := Lib.hid hb; obtain ⟨hc, hf⟩ := xf_bcell hb; have hsz : w.heap.size + 1 + 1 < w'.heap.size := (by have := hb.size; simp at this; omega); have fc3 : w'.cell? ⟨w.heap.size + 1 + 1, 3, none⟩ = some (.int .i64 c) := (by rw [hc _ _ (by simp)]; go_simp); have fc4 : w'.cell? ⟨w.heap.size + 1 + 1, 4, none⟩ = some (.int .i64 d) := (by rw [hc _ _ (by simp)]; go_simp); clear hc hf hb; have HBw : Hid (Below w.heap.size w w') := (below_step (by repeat (first | exact Below.refl _ _ | apply below_alloc)) HBc.out)) | (go_at_call 36; have tok2 := tok; refine (kind_any u3 u0 false false A3' c3' d _ h3l ?_).mono ?_; (· exact (Kd.C_below HK.out HB2.out)); rw [← HKd.out]; rintro e w3 ⟨rfl, hb3⟩; have HB3 := Lib.hid hb3; clear hb3) | (go_at_call 36; refine (kind_any u3 u0 false false A3' c3' c _ h3l ?_).mono ?_; (· exact Kd.C_alloc (Kd.C_below HK.out HBw.out) _); rw [← HKc.out]; rintro e w2 ⟨rfl, hb2⟩; have HB2 := Lib.hid (below_step (below_alloc HBw.out _) hb2); obtain ⟨hc2, hf2⟩ := xf_bcell hb2; have gc4 : w2.cell? ⟨w.heap.size + 1 + 1, 4, none⟩ = some (.int .i64 d) := (by rw [hc2 _ _ (by simp; omega)]; go_simp); have g0 : w2.cell? ⟨w'.heap.size, 0, none⟩ = some (.string u0) := (by rw [hc2 _ _ (by simp)]; go_simp); have g1 : w2.cell? ⟨w'.heap.size, 1, none⟩ = some (.bool false) := (by rw [hc2 _ _ (by simp)]; go_simp); have g2 : w2.cell? ⟨w'.heap.size, 2, none⟩ = some (.bool false) := (by rw [hc2 _ _ (by simp)]; go_simp); have g3 : w2.cell? ⟨w'.heap.size, 3, none⟩ = some (.slice A3' u3.length c3') := (by rw [hc2 _ _ (by simp)]; go_simp); clear hc2 hf2 hb2; have tok : True := trivial))
            go_ret
            exact ⟨rfl, below_step HB2.out HB3.out⟩
          | true =>
            rw [if_pos (by simp)]
            go_enter Try.func30, Try.ntmps30
            go_wp2_with (first | (go_at_call 35; refine (none1 a true _ _ HZ.out ?_).mono ?_; (· simp); rintro e w' ⟨rfl, rfl⟩) | (go_at_call 34; refine (to_ok l.length c0 _ _ q ad _ ?_ ?_ hlen hq u0 false A3' u3.length c3' ?_ ?_ ?_ ?_).mono ?_; (· go_simp); (· go_simp); (· exact pw_cell_below (by repeat (first | exact Below.refl _ _ | apply below_alloc)) e0); (· exact pw_cell_below (by repeat (first | exact Below.refl _ _ | apply below_alloc)) e1); (· exact pw_cell_below (by repeat (first | exact Below.refl _ _ | apply below_alloc)) e2); (· exact pw_cell_below (by repeat (first | exact Below.refl _ _ | apply below_alloc)) e3); rintro e w' ⟨rfl, hb⟩; have HBc := Lib.hid hb; obtain ⟨hc, hf⟩ := xf_bcell hb; have hsz : w.heap.size + 1 + 1 < w'.heap.size := (by have := hb.size; simp at this; omega); have fc3 : w'.cell? ⟨w.heap.size + 1 + 1, 3, none⟩ = some (.int .i64 c) := (by rw [hc _ _ (by simp)]; go_simp); have fc4 : w'.cell? ⟨w.heap.size + 1 + 1, 4, none⟩ = some (.int .i64 d) := (by rw [hc _ _ (by simp)]; go_simp); clear hc hf hb; have HBw : Hid (Below w.heap.size w w') := (below_step (by repeat (first | exact Below.refl _ _ | apply below_alloc)) HBc.out)) | (go_at_call 36; have tok2 := tok; refine (kind_any u3 u0 false false A3' c3' d _ h3l ?_).mono ?_; (· exact (Kd.C_below HK.out HB2.out)); rw [← HKd.out]; rintro e w3 ⟨rfl, hb3⟩; have HB3 := Lib.hid hb3; clear hb3) | (go_at_call 36; refine (kind_any u3 u0 false false A3' c3' c _ h3l ?_).mono ?_; (· exact Kd.C_alloc (Kd.C_below HK.out HBw.out) _); rw [← HKc.out]; rintro e w2 ⟨rfl, hb2⟩; have HB2 := Lib.hid (below_step (below_alloc HBw.out _) hb2); obtain ⟨hc2, hf2⟩ := xf_bcell hb2; have gc4 : w2.cell? ⟨w.heap.size + 1 + 1, 4, none⟩ = some (.int .i64 d) := (by rw [hc2 _ _ (by simp; omega)]; go_simp); have g0 : w2.cell? ⟨w'.heap.size, 0, none⟩ = some (.string u0) := (by rw [hc2 _ _ (by simp)]; go_simp); have g1 : w2.cell? ⟨w'.heap.size, 1, none⟩ = some (.bool false) := (by rw [hc2 _ _ (by simp)]; go_simp); have g2 : w2.cell? ⟨w'.heap.size, 2, none⟩ = some (.bool false) := (by rw [hc2 _ _ (by simp)]; go_simp); have g3 : w2.cell? ⟨w'.heap.size, 3, none⟩ = some (.slice A3' u3.length c3') := (by rw [hc2 _ _ (by simp)]; go_simp); clear hc2 hf2 hb2; have tok : True := trivial))
            go_ret
            exact ⟨rfl, below_step HB2.out HB3.out⟩
/-- types.field, whole -/
theorem field_any (l : List S41) (A0 : Option Addr) (c0 : Nat) (t0 : ByteArray) (tv t2 : Bool) (A3 : Option Addr) (n3 c3 : Nat) (k a b c d : Int) (w : World) (hlen : l.length ≤ 9223372036854775807) (hr0 : Kd.C k41 w A0 l.length l) :
    Calls Try.prog 30 #[.slice A0 l.length c0, .agg #[.string t0, .bool tv, .bool t2, .slice A3 n3 c3], .agg #[.int .i64 k, .int .i64 a, .int .i64 b, .int .i64 c, .int .i64 d]] w fun e w' =>
      e = .returned (.int .i64 (fieldErr l tv ⟨k, a, b, c, d⟩)) ∧ Below w.heap.size w w' := by
  by_cases h1 : k = 1
  · subst h1; exact field1 A0 l.length c0 t0 tv t2 A3 n3 c3 a b c d w
  by_cases h2 : k = 2
  · subst h2; exact field2 l A0 c0 t0 tv t2 A3 n3 c3 a b c d w hlen hr0
  by_cases h3 : k = 3 ∨ k = 4
  · have e : fieldErr l tv ⟨k, a, b, c, d⟩ = if zeros [a, b, c, d] && !tv then 0 else 7 := by unfold fieldErr; rw [if_neg h1, if_neg h2, if_pos h3]
    rw [e]; exact field3 k h3 A0 l.length c0 t0 tv t2 A3 n3 c3 a b c d w
  by_cases h5 : k = 5
  · subst h5; exact field5 l A0 c0 t0 tv t2 A3 n3 c3 a b c d w hlen hr0
  by_cases h6 : k = 6
  · subst h6; exact field6 l A0 c0 t0 tv t2 A3 n3 c3 a b c d w hlen hr0
  by_cases h7 : k = 7
  · subst h7; exact field7 A0 l.length c0 t0 tv t2 A3 n3 c3 a b c d w
  have e : fieldErr l tv ⟨k, a, b, c, d⟩ = 7 := by unfold fieldErr; rw [if_neg h1, if_neg h2, if_neg h3, if_neg h5, if_neg h6, if_neg h7]
  rw [e]
  exact field0 k (by simp; omega) A0 l.length c0 t0 tv t2 A3 n3 c3 a b c d w

/-- wire.Text's error -/
theorem text_err (s : ByteArray) (hs : s.size ≤ 9223372036854775807) (w : World) :
    Calls Try.prog 19 #[.string s] w fun e w' => ∃ v, e = .returned (.tuple #[v, .int .i64 (if nameAll s then 0 else 1)]) ∧ Below w.heap.size w w' := by
  have hf : ∃ r1, wire_Text.f s = some (r1, if nameAll s then 0 else 1) := by
    unfold wire_Text.f wire_name.f
    rw [if_pos hs]
    simp only [Option.bind_some]
    by_cases hn : nameAll s = true
    · have h16 : s.size ≤ 16 := by unfold nameAll at hn; simp at hn; omega
      rw [if_pos hn, if_pos hn]
      have hw : IntKind.u64.wrap (s.size : Int) = (s.size : Int) := by simp [IntKind.wrap, IntKind.bits, IntKind.signed]; omega
      rw [hw]
      unfold wire_Number.f
      rw [if_pos (by omega)]
      simp only [Option.bind_some]
      have hl := numB_length 10 (s.size : Int)
      rw [if_pos (by omega)]
      exact ⟨_, rfl⟩
    · rw [if_neg hn, if_neg hn]
      exact ⟨_, rfl⟩
  obtain ⟨r1, hf⟩ := hf
  exact (wire_Text.calls s r1 _ w hf).mono fun e w' ⟨v, he, _, hb⟩ => ⟨v, he, hb⟩
theorem bytes_no {s t : ByteArray} (h : ¬ s = t) : (s.toList == t.toList) = false := by
  rw [beq_eq_false_iff_ne, ByteArray.toList_eq, ByteArray.toList_eq]
  intro e
  apply h
  obtain ⟨⟨a⟩⟩ := s
  obtain ⟨⟨b⟩⟩ := t
  simp at e
  rw [e]
theorem bytes_yes (s : ByteArray) : (s.toList == s.toList) = true := by simp
theorem sizeF_bound (f : S38) : 0 ≤ sizeF f ∧ sizeF f ≤ 128 := by
  unfold sizeF
  (repeat' split) <;> omega
/-- some type ahead of number i, among the first k, has its name -/
def DupTo (l : List S41) (i k : Nat) : Prop := ∃ j, j < k ∧ (rd_T41 l j).f0 = (rd_T41 l i).f0
theorem DupTo.succ (l : List S41) (i k : Nat) : DupTo l i (k + 1) ↔ DupTo l i k ∨ (rd_T41 l k).f0 = (rd_T41 l i).f0 := by
  constructor
  · rintro ⟨j, hj, h⟩
    by_cases hjk : j < k
    · exact .inl ⟨j, hjk, h⟩
    · obtain rfl : j = k := by omega
      exact .inr h
  · rintro (⟨j, hj, h⟩ | h)
    · exact ⟨j, by omega, h⟩
    · exact ⟨k, by omega, h⟩
def fieldsGo (l : List S41) (tv : Bool) : List S38 → Int → Int → Int → Int
  | [], s, k, g => if 1 < k ∨ (0 < g ∧ k = 0) then 9 else if 256 < s then 11 else 0
  | f :: r, s, k, g => if fieldErr l tv f ≠ 0 then fieldErr l tv f else fieldsGo l tv r (s + sizeF f) (if f.f0 = 7 then k + 1 else k) (if f.f0 = 5 ∨ f.f0 = 6 then g + 1 else g)
open Classical in
noncomputable def typeErr (l : List S41) (i : Nat) : Int :=
  if nameAll (rd_T41 l i).f0 = false ∨ DupTo l i i then 3 else if 12 < (rd_T41 l i).f3.length then 11 else if ((rd_T41 l i).f1 && (rd_T41 l i).f2) = true then 7 else fieldsGo l (rd_T41 l i).f1 (rd_T41 l i).f3 8 0 0
theorem fieldsGo_cut (l : List S41) (tv : Bool) (fs : List S38) (k : Nat) (h : k < fs.length) (s a b : Int) : fieldsGo l tv (fs.drop k) s a b = if fieldErr l tv (rd_T38 fs k) ≠ 0 then fieldErr l tv (rd_T38 fs k) else fieldsGo l tv (fs.drop (k + 1)) (s + sizeF (rd_T38 fs k)) (if (rd_T38 fs k).f0 = 7 then a + 1 else a) (if (rd_T38 fs k).f0 = 5 ∨ (rd_T38 fs k).f0 = 6 then b + 1 else b) := by
  rw [List.drop_eq_getElem_cons h]
  have e : rd_T38 fs k = fs[k] := by simp [rd_T38, h]
  rw [e]
  rfl
theorem text_err2 (s : ByteArray) (hs : s.size ≤ 9223372036854775807) (w : World) :
    Calls Try.prog 19 #[.string s] w fun e w' => ∃ v x, e = .returned (.tuple #[v, .int .i64 x]) ∧ (x ≠ 0 ↔ nameAll s = false) ∧ Below w.heap.size w w' :=
  (text_err s hs w).mono fun e w' ⟨v, he, hb⟩ => ⟨v, _, he, by cases nameAll s <;> simp, hb⟩
def Box (w : World) (b : Nat) (f0 : ByteArray) (f1 f2 : Bool) (A3 : Option Addr) (n3 c3 : Nat) : Prop := b < w.heap.size ∧ w.cell? ⟨b, 0, none⟩ = some (.string f0) ∧ w.cell? ⟨b, 1, none⟩ = some (.bool f1) ∧ w.cell? ⟨b, 2, none⟩ = some (.bool f2) ∧ w.cell? ⟨b, 3, none⟩ = some (.slice A3 n3 c3)
theorem Box.below {w w' : World} {b : Nat} {f0 f1 f2 A3 n3 c3} (h : Box w b f0 f1 f2 A3 n3 c3) (hb : Below w.heap.size w w') : Box w' b f0 f1 f2 A3 n3 c3 := by
  obtain ⟨h0, h1, h2, h3, h4⟩ := h
  obtain ⟨hc, hf⟩ := xf_bcell hb
  exact ⟨by have := hb.size; omega, by rw [hc _ _ h0]; exact h1, by rw [hc _ _ h0]; exact h2, by rw [hc _ _ h0]; exact h3, by rw [hc _ _ h0]; exact h4⟩
set_option maxHeartbeats 4000000 in
set_option maxRecDepth 100000 in
/-- types.check -/
theorem check_any (l : List S41) (A0 : Option Addr) (c0 i : Nat) (w : World) (hlen : l.length ≤ 9223372036854775807) (hr0 : Kd.C k41 w A0 l.length l) (hi : i < l.length) (hs : (rd_T41 l i).f0.size ≤ 9223372036854775807) (hc0 : l.length ≤ c0) :
    Calls Try.prog 21 #[.slice A0 l.length c0, .int .i64 i] w fun e w' => e = .returned (.int .i64 (typeErr l i)) ∧ Below w.heap.size w w' := by
  obtain ⟨z, hz⟩ : ∃ z, z = typeErr l i := ⟨_, rfl⟩
  rw [← hz]
  obtain ⟨ad, A3, c3, hat⟩ := at_of hr0 i hi
  obtain ⟨rfl, e0, e1, e2, e3, h3, hk⟩ := hat
  have hall : ∀ k, k < l.length → w.cell? (ad.add (k * 4)) = some (.string (rd_T41 l k).f0) ∧ ∃ b1 b2 A c, w.cell? ⟨(ad.add (k * 4)).block, (ad.add (k * 4)).off + 1, none⟩ = some (.bool b1) ∧ w.cell? ⟨(ad.add (k * 4)).block, (ad.add (k * 4)).off + 2, none⟩ = some (.bool b2) ∧ w.cell? ⟨(ad.add (k * 4)).block, (ad.add (k * 4)).off + 3, none⟩ = some (.slice A (rd_T41 l k).f3.length c) := by
    intro k hk
    obtain ⟨ad', A, c, hat⟩ := at_of hr0 k hk
    obtain ⟨hA, a0, a1, a2, a3, h3, hk⟩ := hat
    cases hA
    exact ⟨a0, _, _, A, c, a1, a2, a3⟩
  unfold typeErr at hz
  have hup := fun k => DupTo.succ l i k
  have hd0 : ¬ DupTo l i 0 := by rintro ⟨j, hj, -⟩; omega
  have hcut := fieldsGo_cut l (rd_T41 l i).f1 (rd_T41 l i).f3
  have hdrop : fieldsGo l (rd_T41 l i).f1 ((rd_T41 l i).f3.drop 0) 8 0 0 = fieldsGo l (rd_T41 l i).f1 (rd_T41 l i).f3 8 0 0 := by rw [List.drop_zero]
  have h38 : ∀ j, j < (rd_T41 l i).f3.length → ∃ ad3, A3 = some ad3 ∧ w.cell? (ad3.add (j * 5)) = some (.int .i64 (rd_T38 (rd_T41 l i).f3 j).f0) ∧ w.cell? ⟨(ad3.add (j * 5)).block, (ad3.add (j * 5)).off + 1, none⟩ = some (.int .i64 (rd_T38 (rd_T41 l i).f3 j).f1) ∧ w.cell? ⟨(ad3.add (j * 5)).block, (ad3.add (j * 5)).off + 2, none⟩ = some (.int .i64 (rd_T38 (rd_T41 l i).f3 j).f2) ∧ w.cell? ⟨(ad3.add (j * 5)).block, (ad3.add (j * 5)).off + 3, none⟩ = some (.int .i64 (rd_T38 (rd_T41 l i).f3 j).f3) ∧ w.cell? ⟨(ad3.add (j * 5)).block, (ad3.add (j * 5)).off + 4, none⟩ = some (.int .i64 (rd_T38 (rd_T41 l i).f3 j).f4) := by
    intro j hj
    obtain ⟨ad3, e, d0, d1, d2, d3, d4⟩ := at_T38 hk j (by omega) (by omega)
    simp only [Int.toNat_natCast] at d0 d1 d2 d3 d4
    exact ⟨ad3, e, d0, d1, d2, d3, d4⟩
  generalize hu : rd_T41 l i = u at *
  obtain ⟨f0, f1, f2, fs⟩ := u
  simp only at e0 e1 e2 e3 h3 hz hup hcut hdrop h38 hs
  have HALL := Lib.hid hall
  have HUP := Lib.hid hup
  have HD0 := Lib.hid hd0
  have HCUT := Lib.hid hcut
  have HDROP := Lib.hid hdrop
  have H38 := Lib.hid h38
  have HZ := Lib.hid hz
  have HR0 := Lib.hid hr0
  have h3 : fs.length ≤ 9223372036854775807 := Kd.C_max hk
  have hbl : (ad.add (i * 4)).block < w.heap.size := World.block_lt_of_cell? w (ad.add (i * 4)) e0
  clear hall hup hd0 hcut hdrop h38 hz hr0 hk hu
  go_enter Try.func21, Try.ntmps21
  go_wp2_with (go_at_call 19; refine (text_err2 f0 hs _).mono ?_; rintro e w1 ⟨v, x, rfl, hx, hb⟩; have HX0 := Lib.hid hx; clear hx; have hbx : Hid (Box w1 w.heap.size f0 f1 f2 A3 fs.length c3) := (Lib.hid (Box.below (⟨by simp, by go_simp, by go_simp, by go_simp, by go_simp⟩) hb)); have HBw : Hid (Below w.heap.size w w1) := (below_step (by repeat (first | exact Below.refl _ _ | apply below_alloc)) hb); clear hb)
  obtain ⟨hb1, b0, bv1, bv2, bv3⟩ := hbx.out
  clear hbx
  go_loopw [7, 30] (fun v7 v30 wr => ∃ (k : Nat) (x : Int), v30 = .int .i64 k ∧ k ≤ i ∧ v7 = .int .i64 x ∧ Hid (x ≠ 0 ↔ (nameAll f0 = false ∨ DupTo l i k)) ∧ Hid (Below w.heap.size w wr) ∧ Hid (Box wr w.heap.size f0 f1 f2 A3 fs.length c3)) (fun _ v30 _ => i - (intOf v30).toNat)
  case atStart =>
    exact ⟨0, x, rfl, by omega, rfl, Lib.hid ⟨fun h => .inl (HX0.out.1 h), fun h => HX0.out.2 (h.resolve_right HD0.out)⟩, HBw, Lib.hid ⟨hb1, b0, bv1, bv2, bv3⟩⟩
  case round =>
    obtain ⟨k, x, rfl, hk, rfl, HX, HB, HBX⟩ := hrel
    clear hb1 b0 bv1 bv2 bv3 HBw
    obtain ⟨hbb, b0, bv1, bv2, bv3⟩ := HBX.out
    have hbig : w.heap.size < wr.heap.size := hbb
    by_cases hlt : k < i
    · obtain ⟨a0, y1, y2, A, c, a1, a2, a3⟩ := HALL.out k (by omega)
      have hkb : (ad.add (k * 4)).block < w.heap.size := World.block_lt_of_cell? w (ad.add (k * 4)) a0
      have hcl := (xf_bcell HB.out).1
      have a0' : wr.cell? (ad.add (k * 4)) = _ := (HB.out.cell (p := ad.add (k * 4)) hkb).trans a0
      rw [← hcl _ _ hkb] at a1 a2 a3
      clear a0
      have hu1 := HUP.out k
      generalize (rd_T41 l k).f0 = s at *
      generalize (rd_T41 l k).f3.length = n at *
      have HU := Lib.hid hu1
      clear hu1 hcl
      by_cases hq : s = f0
      · subst hq
        go_wp2
        go_roundw
        case rel => exact ⟨k + 1, 3, by go_num, by omega, rfl, Lib.hid ⟨fun _ => .inr (HU.out.2 (.inr rfl)), fun _ => by decide⟩, Lib.hid (below_step HB.out (by repeat (first | exact Below.refl _ _ | apply below_alloc))), Lib.hid (Box.below HBX.out (by repeat (first | exact Below.refl _ _ | apply below_alloc)))⟩
        case measure => simp [intOf]; omega
      · skip
        have HQ := Lib.hid hq
        clear hq
        go_wp2
        · rename_i h
          have h2 := bytes_no HQ.out
          rw [h] at h2
          cases h2
        go_roundw
        case rel => exact ⟨k + 1, x, by go_num, by omega, rfl, Lib.hid ⟨fun h => (HX.out.1 h).imp id (fun h => HU.out.2 (.inl h)), fun h => HX.out.2 (h.imp id (fun h => (HU.out.1 h).resolve_right HQ.out))⟩, Lib.hid (below_step HB.out (by repeat (first | exact Below.refl _ _ | apply below_alloc))), Lib.hid (Box.below HBX.out (by repeat (first | exact Below.refl _ _ | apply below_alloc)))⟩
        case measure => simp [intOf]; omega
    · obtain rfl : k = i := by omega
      clear hlt hk
      by_cases hx : x = 0
      · have hno : ¬ (nameAll f0 = false ∨ DupTo l k k) := fun h => HX.out.2 h hx
        have hz := HZ.out
        rw [if_neg hno] at hz
        subst hx
        clear HX HX0 hno HALL HUP HD0 HZ
        by_cases h12 : 12 < fs.length
        · rw [if_pos h12] at hz
          have HZ := Lib.hid hz
          clear hz
          go_wp2
          go_ret
          exact ⟨by rw [HZ.out]; rfl, HB.out⟩
        · rw [if_neg h12] at hz
          by_cases hff : (f1 && f2) = true
          · rw [if_pos hff] at hz
            simp only [Bool.and_eq_true] at hff
            obtain ⟨rfl, rfl⟩ := hff
            have HZ := Lib.hid hz
            clear hz
            go_wp2
            go_ret
            exact ⟨by rw [HZ.out]; rfl, HB.out⟩
          · rw [if_neg hff] at hz
            have HZ := Lib.hid hz
            clear hz
            have hcl := (xf_bcell HB.out).1
            have hff2 : (f1 && f2) = false := by simpa using hff
            have h12' : fs.length ≤ 12 := by omega
            clear h12 hff2
            cases f1 <;> cases f2 <;> simp only [Bool.and_false, Bool.and_true, Bool.false_eq_true, not_true_eq_false, not_false_eq_true] at hff
            · go_wp2
              go_loopw [10, 11, 12, 58] (fun v10 v11 v12 v58 wr => ∃ (j : Nat) (s a b : Int), v58 = .int .i64 j ∧ j ≤ fs.length ∧ v10 = .int .i64 s ∧ v11 = .int .i64 a ∧ v12 = .int .i64 b ∧ 0 ≤ s ∧ s ≤ 8 + 128 * j ∧ 0 ≤ a ∧ a ≤ j ∧ 0 ≤ b ∧ b ≤ j ∧ Hid (z = fieldsGo l false (fs.drop j) s a b) ∧ Hid (Below w.heap.size w wr) ∧ Hid (Box wr w.heap.size f0 false false A3 fs.length c3)) (fun _ _ _ v58 _ => fs.length - (intOf v58).toNat)
              case atStart => exact ⟨0, 8, 0, 0, rfl, by omega, rfl, rfl, rfl, by omega, by omega, by omega, by omega, by omega, by omega, Lib.hid (by rw [HZ.out, HDROP.out]), HB, HBX⟩
              case round =>
                obtain ⟨j, s, a, b, rfl, hj, rfl, rfl, rfl, hs1, hs2, ha1, ha2, hb1, hb2, HI, HBq, HBXq⟩ := hrel
                clear hbb b0 bv1 bv2 bv3 hbig
                obtain ⟨hbb, b0, bv1, bv2, bv3⟩ := HBXq.out
                have hbig : w.heap.size < wr.heap.size := hbb
                by_cases hlt : j < fs.length
                · obtain ⟨ad3, rfl, d0, d1, d2, d3, d4⟩ := H38.out j hlt
                  have hkb : (ad3.add (j * 5)).block < w.heap.size := World.block_lt_of_cell? w _ d0
                  have d0' : wr.cell? (ad3.add (j * 5)) = _ := (HBq.out.cell (p := ad3.add (j * 5)) hkb).trans d0
                  have hcl := (xf_bcell HBq.out).1
                  rw [← hcl _ _ hkb] at d1 d2 d3 d4
                  have hi := HI.out
                  rw [HCUT.out j hlt s a b] at hi
                  have hsb := sizeF_bound (rd_T38 fs j)
                  clear hcl d0 HI hkb
                  generalize rd_T38 fs j = f at *
                  obtain ⟨k0, k1, k2, k3, k4⟩ := f
                  simp only at d0' d1 d2 d3 d4 hi
                  generalize he : fieldErr l false ⟨k0, k1, k2, k3, k4⟩ = er at *
                  generalize hz : sizeF ⟨k0, k1, k2, k3, k4⟩ = sz at *
                  have HE := Lib.hid he
                  have HSZ := Lib.hid hz
                  clear he hz
                  by_cases her : er = 0
                  · subst her
                    rw [if_neg (by simp)] at hi
                    have H7 : (k0 == 7) = true ∨ ((k0 == 7) = false ∧ (k0 == 5) = true) ∨ ((k0 == 7) = false ∧ (k0 == 5) = false ∧ (k0 == 6) = true) ∨ ((k0 == 7) = false ∧ (k0 == 5) = false ∧ (k0 == 6) = false) := by simp; omega
                    obtain ⟨a', ha'⟩ : ∃ a', a' = if k0 = 7 then a + 1 else a := ⟨_, rfl⟩
                    obtain ⟨b', hb'⟩ : ∃ b', b' = if k0 = 5 ∨ k0 = 6 then b + 1 else b := ⟨_, rfl⟩
                    rw [← ha', ← hb'] at hi
                    have HII := Lib.hid hi
                    clear hi
                    obtain h7 | ⟨h7, h5⟩ | ⟨h7, h5, h6⟩ | ⟨h7, h5, h6⟩ := H7
                    all_goals have HK := Lib.hid (And.intro ha' hb')
                    all_goals clear ha' hb'
                    all_goals go_wp2_with (first | (go_at_call 30; refine (field_any l (some ad) c0 f0 false false (some ad3) fs.length c3 k0 k1 k2 k3 k4 _ hlen (Kd.C_below HR0.out (below_step HBq.out (by repeat (first | exact Below.refl _ _ | apply below_alloc))))).mono ?_; rw [HE.out]; rintro e wf ⟨rfl, hb⟩; have HBc := Lib.hid hb; obtain ⟨hc, hf⟩ := xf_bcell hb; have hsz : w.heap.size < wf.heap.size := (by have := hb.size; simp at this; omega); have hsz2 : wr.heap.size < wf.heap.size := (by have := hb.size; simp at this; omega); have g0 : wf.cell? ⟨wr.heap.size, 0, none⟩ = some (.int .i64 k0) := (by rw [hc _ _ (by simp)]; go_simp); have g1 : wf.cell? ⟨wr.heap.size, 1, none⟩ = some (.int .i64 k1) := (by rw [hc _ _ (by simp)]; go_simp); have g2 : wf.cell? ⟨wr.heap.size, 2, none⟩ = some (.int .i64 k2) := (by rw [hc _ _ (by simp)]; go_simp); have g3 : wf.cell? ⟨wr.heap.size, 3, none⟩ = some (.int .i64 k3) := (by rw [hc _ _ (by simp)]; go_simp); have g4 : wf.cell? ⟨wr.heap.size, 4, none⟩ = some (.int .i64 k4) := (by rw [hc _ _ (by simp)]; go_simp); clear hc hf hb; have HBw : Hid (Below wr.heap.size wr wf) := (below_step (by repeat (first | exact Below.refl _ _ | apply below_alloc)) HBc.out); clear HBc) | (go_at_call 23; refine (size_any k0 k1 k2 k3 k4 _).mono ?_; rw [HSZ.out]; rintro e wg ⟨rfl, hb⟩; have HBc := Lib.hid hb; obtain ⟨hc, hf⟩ := xf_bcell hb; have hsz3 : wr.heap.size < wg.heap.size := (by have := hb.size; omega); have gg0 : wg.cell? ⟨wr.heap.size, 0, none⟩ = some (.int .i64 k0) := (by rw [hc _ _ hsz2]; exact g0); clear hc hf hb; have HBv : Hid (Below wr.heap.size wr wg) := (below_step HBw.out HBc.out); clear HBc))
                    all_goals go_roundw
                    all_goals (have hk := HK.out; simp only [beq_iff_eq, beq_eq_false_iff_ne, ne_eq] at *)
                    case rel => exact ⟨j + 1, s + sz, a', b', by go_num, by omega, by go_num, by rw [hk.1, if_pos h7], by rw [hk.2, if_neg (by omega)], by omega, by omega, by rw [hk.1]; split <;> omega, by rw [hk.1]; split <;> omega, by rw [hk.2]; split <;> omega, by rw [hk.2]; split <;> omega, HII, Lib.hid (below_step HBq.out HBv.out), Lib.hid (Box.below HBXq.out HBv.out)⟩
                    case measure => simp [intOf]; omega
                    case rel => exact ⟨j + 1, s + sz, a', b', by go_num, by omega, by go_num, by rw [hk.1, if_neg h7], by rw [hk.2, if_pos (by omega)], by omega, by omega, by rw [hk.1]; split <;> omega, by rw [hk.1]; split <;> omega, by rw [hk.2]; split <;> omega, by rw [hk.2]; split <;> omega, HII, Lib.hid (below_step HBq.out HBv.out), Lib.hid (Box.below HBXq.out HBv.out)⟩
                    case measure => simp [intOf]; omega
                    case rel => exact ⟨j + 1, s + sz, a', b', by go_num, by omega, by go_num, by rw [hk.1, if_neg h7], by rw [hk.2, if_pos (by omega)], by omega, by omega, by rw [hk.1]; split <;> omega, by rw [hk.1]; split <;> omega, by rw [hk.2]; split <;> omega, by rw [hk.2]; split <;> omega, HII, Lib.hid (below_step HBq.out HBv.out), Lib.hid (Box.below HBXq.out HBv.out)⟩
                    case measure => simp [intOf]; omega
                    case rel => exact ⟨j + 1, s + sz, a', b', by go_num, by omega, by go_num, by rw [hk.1, if_neg h7], by rw [hk.2, if_neg (by omega)], by omega, by omega, by rw [hk.1]; split <;> omega, by rw [hk.1]; split <;> omega, by rw [hk.2]; split <;> omega, by rw [hk.2]; split <;> omega, HII, Lib.hid (below_step HBq.out HBv.out), Lib.hid (Box.below HBXq.out HBv.out)⟩
                    case measure => simp [intOf]; omega
                  · rw [if_pos her] at hi
                    have her2 : (er != 0) = true := by simpa using her
                    have HII := Lib.hid hi
                    clear hi her hsb
                    go_wp2_with (first | (go_at_call 30; refine (field_any l (some ad) c0 f0 false false (some ad3) fs.length c3 k0 k1 k2 k3 k4 _ hlen (Kd.C_below HR0.out (below_step HBq.out (by repeat (first | exact Below.refl _ _ | apply below_alloc))))).mono ?_; rw [HE.out]; rintro e wf ⟨rfl, hb⟩; have HBc := Lib.hid hb; obtain ⟨hc, hf⟩ := xf_bcell hb; have hsz : w.heap.size < wf.heap.size := (by have := hb.size; simp at this; omega); have hsz2 : wr.heap.size < wf.heap.size := (by have := hb.size; simp at this; omega); have g0 : wf.cell? ⟨wr.heap.size, 0, none⟩ = some (.int .i64 k0) := (by rw [hc _ _ (by simp)]; go_simp); have g1 : wf.cell? ⟨wr.heap.size, 1, none⟩ = some (.int .i64 k1) := (by rw [hc _ _ (by simp)]; go_simp); have g2 : wf.cell? ⟨wr.heap.size, 2, none⟩ = some (.int .i64 k2) := (by rw [hc _ _ (by simp)]; go_simp); have g3 : wf.cell? ⟨wr.heap.size, 3, none⟩ = some (.int .i64 k3) := (by rw [hc _ _ (by simp)]; go_simp); have g4 : wf.cell? ⟨wr.heap.size, 4, none⟩ = some (.int .i64 k4) := (by rw [hc _ _ (by simp)]; go_simp); clear hc hf hb; have HBw : Hid (Below wr.heap.size wr wf) := (below_step (by repeat (first | exact Below.refl _ _ | apply below_alloc)) HBc.out); clear HBc))
                    go_ret
                    exact ⟨by rw [HII.out]; rfl, below_step HBq.out HBw.out⟩
                · have hjl : j = fs.length := by omega
                  have hi := HI.out
                  rw [List.drop_of_length_le (by omega)] at hi
                  simp only [fieldsGo] at hi
                  by_cases h1 : 1 < a
                  · rw [if_pos (.inl h1)] at hi
                    have HII := Lib.hid hi
                    clear hi
                    go_wp2
                    go_ret
                    exact ⟨by rw [HII.out]; rfl, HBq.out⟩
                  · by_cases h2 : 0 < b
                    · by_cases h3 : a = 0
                      · rw [if_pos (.inr ⟨h2, h3⟩)] at hi
                        have HII := Lib.hid hi
                        subst h3
                        clear hi
                        go_wp2
                        go_ret
                        exact ⟨by rw [HII.out]; rfl, HBq.out⟩
                      · rw [if_neg (by omega)] at hi
                        have h3b : (a == 0) = false := by simpa using h3
                        have HII := Lib.hid hi
                        clear hi
                        go_wp2
                        all_goals go_ret
                        all_goals refine ⟨?_, HBq.out⟩
                        all_goals rw [HII.out]
                        · rw [if_pos (by omega)]; rfl
                        · rw [if_neg (by omega)]; rfl
                    · rw [if_neg (by omega)] at hi
                      have HII := Lib.hid hi
                      clear hi
                      go_wp2
                      all_goals go_ret
                      all_goals refine ⟨?_, HBq.out⟩
                      all_goals rw [HII.out]
                      · rw [if_pos (by omega)]; rfl
                      · rw [if_neg (by omega)]; rfl
            · go_wp2
              go_loopw [10, 11, 12, 58] (fun v10 v11 v12 v58 wr => ∃ (j : Nat) (s a b : Int), v58 = .int .i64 j ∧ j ≤ fs.length ∧ v10 = .int .i64 s ∧ v11 = .int .i64 a ∧ v12 = .int .i64 b ∧ 0 ≤ s ∧ s ≤ 8 + 128 * j ∧ 0 ≤ a ∧ a ≤ j ∧ 0 ≤ b ∧ b ≤ j ∧ Hid (z = fieldsGo l false (fs.drop j) s a b) ∧ Hid (Below w.heap.size w wr) ∧ Hid (Box wr w.heap.size f0 false true A3 fs.length c3)) (fun _ _ _ v58 _ => fs.length - (intOf v58).toNat)
              case atStart => exact ⟨0, 8, 0, 0, rfl, by omega, rfl, rfl, rfl, by omega, by omega, by omega, by omega, by omega, by omega, Lib.hid (by rw [HZ.out, HDROP.out]), HB, HBX⟩
              case round =>
                obtain ⟨j, s, a, b, rfl, hj, rfl, rfl, rfl, hs1, hs2, ha1, ha2, hb1, hb2, HI, HBq, HBXq⟩ := hrel
                clear hbb b0 bv1 bv2 bv3 hbig
                obtain ⟨hbb, b0, bv1, bv2, bv3⟩ := HBXq.out
                have hbig : w.heap.size < wr.heap.size := hbb
                by_cases hlt : j < fs.length
                · obtain ⟨ad3, rfl, d0, d1, d2, d3, d4⟩ := H38.out j hlt
                  have hkb : (ad3.add (j * 5)).block < w.heap.size := World.block_lt_of_cell? w _ d0
                  have d0' : wr.cell? (ad3.add (j * 5)) = _ := (HBq.out.cell (p := ad3.add (j * 5)) hkb).trans d0
                  have hcl := (xf_bcell HBq.out).1
                  rw [← hcl _ _ hkb] at d1 d2 d3 d4
                  have hi := HI.out
                  rw [HCUT.out j hlt s a b] at hi
                  have hsb := sizeF_bound (rd_T38 fs j)
                  clear hcl d0 HI hkb
                  generalize rd_T38 fs j = f at *
                  obtain ⟨k0, k1, k2, k3, k4⟩ := f
                  simp only at d0' d1 d2 d3 d4 hi
                  generalize he : fieldErr l false ⟨k0, k1, k2, k3, k4⟩ = er at *
                  generalize hz : sizeF ⟨k0, k1, k2, k3, k4⟩ = sz at *
                  have HE := Lib.hid he
                  have HSZ := Lib.hid hz
                  clear he hz
                  by_cases her : er = 0
                  · subst her
                    rw [if_neg (by simp)] at hi
                    have H7 : (k0 == 7) = true ∨ ((k0 == 7) = false ∧ (k0 == 5) = true) ∨ ((k0 == 7) = false ∧ (k0 == 5) = false ∧ (k0 == 6) = true) ∨ ((k0 == 7) = false ∧ (k0 == 5) = false ∧ (k0 == 6) = false) := by simp; omega
                    obtain ⟨a', ha'⟩ : ∃ a', a' = if k0 = 7 then a + 1 else a := ⟨_, rfl⟩
                    obtain ⟨b', hb'⟩ : ∃ b', b' = if k0 = 5 ∨ k0 = 6 then b + 1 else b := ⟨_, rfl⟩
                    rw [← ha', ← hb'] at hi
                    have HII := Lib.hid hi
                    clear hi
                    obtain h7 | ⟨h7, h5⟩ | ⟨h7, h5, h6⟩ | ⟨h7, h5, h6⟩ := H7
                    all_goals have HK := Lib.hid (And.intro ha' hb')
                    all_goals clear ha' hb'
                    all_goals go_wp2_with (first | (go_at_call 30; refine (field_any l (some ad) c0 f0 false true (some ad3) fs.length c3 k0 k1 k2 k3 k4 _ hlen (Kd.C_below HR0.out (below_step HBq.out (by repeat (first | exact Below.refl _ _ | apply below_alloc))))).mono ?_; rw [HE.out]; rintro e wf ⟨rfl, hb⟩; have HBc := Lib.hid hb; obtain ⟨hc, hf⟩ := xf_bcell hb; have hsz : w.heap.size < wf.heap.size := (by have := hb.size; simp at this; omega); have hsz2 : wr.heap.size < wf.heap.size := (by have := hb.size; simp at this; omega); have g0 : wf.cell? ⟨wr.heap.size, 0, none⟩ = some (.int .i64 k0) := (by rw [hc _ _ (by simp)]; go_simp); have g1 : wf.cell? ⟨wr.heap.size, 1, none⟩ = some (.int .i64 k1) := (by rw [hc _ _ (by simp)]; go_simp); have g2 : wf.cell? ⟨wr.heap.size, 2, none⟩ = some (.int .i64 k2) := (by rw [hc _ _ (by simp)]; go_simp); have g3 : wf.cell? ⟨wr.heap.size, 3, none⟩ = some (.int .i64 k3) := (by rw [hc _ _ (by simp)]; go_simp); have g4 : wf.cell? ⟨wr.heap.size, 4, none⟩ = some (.int .i64 k4) := (by rw [hc _ _ (by simp)]; go_simp); clear hc hf hb; have HBw : Hid (Below wr.heap.size wr wf) := (below_step (by repeat (first | exact Below.refl _ _ | apply below_alloc)) HBc.out); clear HBc) | (go_at_call 23; refine (size_any k0 k1 k2 k3 k4 _).mono ?_; rw [HSZ.out]; rintro e wg ⟨rfl, hb⟩; have HBc := Lib.hid hb; obtain ⟨hc, hf⟩ := xf_bcell hb; have hsz3 : wr.heap.size < wg.heap.size := (by have := hb.size; omega); have gg0 : wg.cell? ⟨wr.heap.size, 0, none⟩ = some (.int .i64 k0) := (by rw [hc _ _ hsz2]; exact g0); clear hc hf hb; have HBv : Hid (Below wr.heap.size wr wg) := (below_step HBw.out HBc.out); clear HBc))
                    all_goals go_roundw
                    all_goals (have hk := HK.out; simp only [beq_iff_eq, beq_eq_false_iff_ne, ne_eq] at *)
                    case rel => exact ⟨j + 1, s + sz, a', b', by go_num, by omega, by go_num, by rw [hk.1, if_pos h7], by rw [hk.2, if_neg (by omega)], by omega, by omega, by rw [hk.1]; split <;> omega, by rw [hk.1]; split <;> omega, by rw [hk.2]; split <;> omega, by rw [hk.2]; split <;> omega, HII, Lib.hid (below_step HBq.out HBv.out), Lib.hid (Box.below HBXq.out HBv.out)⟩
                    case measure => simp [intOf]; omega
                    case rel => exact ⟨j + 1, s + sz, a', b', by go_num, by omega, by go_num, by rw [hk.1, if_neg h7], by rw [hk.2, if_pos (by omega)], by omega, by omega, by rw [hk.1]; split <;> omega, by rw [hk.1]; split <;> omega, by rw [hk.2]; split <;> omega, by rw [hk.2]; split <;> omega, HII, Lib.hid (below_step HBq.out HBv.out), Lib.hid (Box.below HBXq.out HBv.out)⟩
                    case measure => simp [intOf]; omega
                    case rel => exact ⟨j + 1, s + sz, a', b', by go_num, by omega, by go_num, by rw [hk.1, if_neg h7], by rw [hk.2, if_pos (by omega)], by omega, by omega, by rw [hk.1]; split <;> omega, by rw [hk.1]; split <;> omega, by rw [hk.2]; split <;> omega, by rw [hk.2]; split <;> omega, HII, Lib.hid (below_step HBq.out HBv.out), Lib.hid (Box.below HBXq.out HBv.out)⟩
                    case measure => simp [intOf]; omega
                    case rel => exact ⟨j + 1, s + sz, a', b', by go_num, by omega, by go_num, by rw [hk.1, if_neg h7], by rw [hk.2, if_neg (by omega)], by omega, by omega, by rw [hk.1]; split <;> omega, by rw [hk.1]; split <;> omega, by rw [hk.2]; split <;> omega, by rw [hk.2]; split <;> omega, HII, Lib.hid (below_step HBq.out HBv.out), Lib.hid (Box.below HBXq.out HBv.out)⟩
                    case measure => simp [intOf]; omega
                  · rw [if_pos her] at hi
                    have her2 : (er != 0) = true := by simpa using her
                    have HII := Lib.hid hi
                    clear hi her hsb
                    go_wp2_with (first | (go_at_call 30; refine (field_any l (some ad) c0 f0 false true (some ad3) fs.length c3 k0 k1 k2 k3 k4 _ hlen (Kd.C_below HR0.out (below_step HBq.out (by repeat (first | exact Below.refl _ _ | apply below_alloc))))).mono ?_; rw [HE.out]; rintro e wf ⟨rfl, hb⟩; have HBc := Lib.hid hb; obtain ⟨hc, hf⟩ := xf_bcell hb; have hsz : w.heap.size < wf.heap.size := (by have := hb.size; simp at this; omega); have hsz2 : wr.heap.size < wf.heap.size := (by have := hb.size; simp at this; omega); have g0 : wf.cell? ⟨wr.heap.size, 0, none⟩ = some (.int .i64 k0) := (by rw [hc _ _ (by simp)]; go_simp); have g1 : wf.cell? ⟨wr.heap.size, 1, none⟩ = some (.int .i64 k1) := (by rw [hc _ _ (by simp)]; go_simp); have g2 : wf.cell? ⟨wr.heap.size, 2, none⟩ = some (.int .i64 k2) := (by rw [hc _ _ (by simp)]; go_simp); have g3 : wf.cell? ⟨wr.heap.size, 3, none⟩ = some (.int .i64 k3) := (by rw [hc _ _ (by simp)]; go_simp); have g4 : wf.cell? ⟨wr.heap.size, 4, none⟩ = some (.int .i64 k4) := (by rw [hc _ _ (by simp)]; go_simp); clear hc hf hb; have HBw : Hid (Below wr.heap.size wr wf) := (below_step (by repeat (first | exact Below.refl _ _ | apply below_alloc)) HBc.out); clear HBc))
                    go_ret
                    exact ⟨by rw [HII.out]; rfl, below_step HBq.out HBw.out⟩
                · have hjl : j = fs.length := by omega
                  have hi := HI.out
                  rw [List.drop_of_length_le (by omega)] at hi
                  simp only [fieldsGo] at hi
                  by_cases h1 : 1 < a
                  · rw [if_pos (.inl h1)] at hi
                    have HII := Lib.hid hi
                    clear hi
                    go_wp2
                    go_ret
                    exact ⟨by rw [HII.out]; rfl, HBq.out⟩
                  · by_cases h2 : 0 < b
                    · by_cases h3 : a = 0
                      · rw [if_pos (.inr ⟨h2, h3⟩)] at hi
                        have HII := Lib.hid hi
                        subst h3
                        clear hi
                        go_wp2
                        go_ret
                        exact ⟨by rw [HII.out]; rfl, HBq.out⟩
                      · rw [if_neg (by omega)] at hi
                        have h3b : (a == 0) = false := by simpa using h3
                        have HII := Lib.hid hi
                        clear hi
                        go_wp2
                        all_goals go_ret
                        all_goals refine ⟨?_, HBq.out⟩
                        all_goals rw [HII.out]
                        · rw [if_pos (by omega)]; rfl
                        · rw [if_neg (by omega)]; rfl
                    · rw [if_neg (by omega)] at hi
                      have HII := Lib.hid hi
                      clear hi
                      go_wp2
                      all_goals go_ret
                      all_goals refine ⟨?_, HBq.out⟩
                      all_goals rw [HII.out]
                      · rw [if_pos (by omega)]; rfl
                      · rw [if_neg (by omega)]; rfl
            · go_wp2
              go_loopw [10, 11, 12, 58] (fun v10 v11 v12 v58 wr => ∃ (j : Nat) (s a b : Int), v58 = .int .i64 j ∧ j ≤ fs.length ∧ v10 = .int .i64 s ∧ v11 = .int .i64 a ∧ v12 = .int .i64 b ∧ 0 ≤ s ∧ s ≤ 8 + 128 * j ∧ 0 ≤ a ∧ a ≤ j ∧ 0 ≤ b ∧ b ≤ j ∧ Hid (z = fieldsGo l true (fs.drop j) s a b) ∧ Hid (Below w.heap.size w wr) ∧ Hid (Box wr w.heap.size f0 true false A3 fs.length c3)) (fun _ _ _ v58 _ => fs.length - (intOf v58).toNat)
              case atStart => exact ⟨0, 8, 0, 0, rfl, by omega, rfl, rfl, rfl, by omega, by omega, by omega, by omega, by omega, by omega, Lib.hid (by rw [HZ.out, HDROP.out]), HB, HBX⟩
              case round =>
                obtain ⟨j, s, a, b, rfl, hj, rfl, rfl, rfl, hs1, hs2, ha1, ha2, hb1, hb2, HI, HBq, HBXq⟩ := hrel
                clear hbb b0 bv1 bv2 bv3 hbig
                obtain ⟨hbb, b0, bv1, bv2, bv3⟩ := HBXq.out
                have hbig : w.heap.size < wr.heap.size := hbb
                by_cases hlt : j < fs.length
                · obtain ⟨ad3, rfl, d0, d1, d2, d3, d4⟩ := H38.out j hlt
                  have hkb : (ad3.add (j * 5)).block < w.heap.size := World.block_lt_of_cell? w _ d0
                  have d0' : wr.cell? (ad3.add (j * 5)) = _ := (HBq.out.cell (p := ad3.add (j * 5)) hkb).trans d0
                  have hcl := (xf_bcell HBq.out).1
                  rw [← hcl _ _ hkb] at d1 d2 d3 d4
                  have hi := HI.out
                  rw [HCUT.out j hlt s a b] at hi
                  have hsb := sizeF_bound (rd_T38 fs j)
                  clear hcl d0 HI hkb
                  generalize rd_T38 fs j = f at *
                  obtain ⟨k0, k1, k2, k3, k4⟩ := f
                  simp only at d0' d1 d2 d3 d4 hi
                  generalize he : fieldErr l true ⟨k0, k1, k2, k3, k4⟩ = er at *
                  generalize hz : sizeF ⟨k0, k1, k2, k3, k4⟩ = sz at *
                  have HE := Lib.hid he
                  have HSZ := Lib.hid hz
                  clear he hz
                  by_cases her : er = 0
                  · subst her
                    rw [if_neg (by simp)] at hi
                    have H7 : (k0 == 7) = true ∨ ((k0 == 7) = false ∧ (k0 == 5) = true) ∨ ((k0 == 7) = false ∧ (k0 == 5) = false ∧ (k0 == 6) = true) ∨ ((k0 == 7) = false ∧ (k0 == 5) = false ∧ (k0 == 6) = false) := by simp; omega
                    obtain ⟨a', ha'⟩ : ∃ a', a' = if k0 = 7 then a + 1 else a := ⟨_, rfl⟩
                    obtain ⟨b', hb'⟩ : ∃ b', b' = if k0 = 5 ∨ k0 = 6 then b + 1 else b := ⟨_, rfl⟩
                    rw [← ha', ← hb'] at hi
                    have HII := Lib.hid hi
                    clear hi
                    obtain h7 | ⟨h7, h5⟩ | ⟨h7, h5, h6⟩ | ⟨h7, h5, h6⟩ := H7
                    all_goals have HK := Lib.hid (And.intro ha' hb')
                    all_goals clear ha' hb'
                    all_goals go_wp2_with (first | (go_at_call 30; refine (field_any l (some ad) c0 f0 true false (some ad3) fs.length c3 k0 k1 k2 k3 k4 _ hlen (Kd.C_below HR0.out (below_step HBq.out (by repeat (first | exact Below.refl _ _ | apply below_alloc))))).mono ?_; rw [HE.out]; rintro e wf ⟨rfl, hb⟩; have HBc := Lib.hid hb; obtain ⟨hc, hf⟩ := xf_bcell hb; have hsz : w.heap.size < wf.heap.size := (by have := hb.size; simp at this; omega); have hsz2 : wr.heap.size < wf.heap.size := (by have := hb.size; simp at this; omega); have g0 : wf.cell? ⟨wr.heap.size, 0, none⟩ = some (.int .i64 k0) := (by rw [hc _ _ (by simp)]; go_simp); have g1 : wf.cell? ⟨wr.heap.size, 1, none⟩ = some (.int .i64 k1) := (by rw [hc _ _ (by simp)]; go_simp); have g2 : wf.cell? ⟨wr.heap.size, 2, none⟩ = some (.int .i64 k2) := (by rw [hc _ _ (by simp)]; go_simp); have g3 : wf.cell? ⟨wr.heap.size, 3, none⟩ = some (.int .i64 k3) := (by rw [hc _ _ (by simp)]; go_simp); have g4 : wf.cell? ⟨wr.heap.size, 4, none⟩ = some (.int .i64 k4) := (by rw [hc _ _ (by simp)]; go_simp); clear hc hf hb; have HBw : Hid (Below wr.heap.size wr wf) := (below_step (by repeat (first | exact Below.refl _ _ | apply below_alloc)) HBc.out); clear HBc) | (go_at_call 23; refine (size_any k0 k1 k2 k3 k4 _).mono ?_; rw [HSZ.out]; rintro e wg ⟨rfl, hb⟩; have HBc := Lib.hid hb; obtain ⟨hc, hf⟩ := xf_bcell hb; have hsz3 : wr.heap.size < wg.heap.size := (by have := hb.size; omega); have gg0 : wg.cell? ⟨wr.heap.size, 0, none⟩ = some (.int .i64 k0) := (by rw [hc _ _ hsz2]; exact g0); clear hc hf hb; have HBv : Hid (Below wr.heap.size wr wg) := (below_step HBw.out HBc.out); clear HBc))
                    all_goals go_roundw
                    all_goals (have hk := HK.out; simp only [beq_iff_eq, beq_eq_false_iff_ne, ne_eq] at *)
                    case rel => exact ⟨j + 1, s + sz, a', b', by go_num, by omega, by go_num, by rw [hk.1, if_pos h7], by rw [hk.2, if_neg (by omega)], by omega, by omega, by rw [hk.1]; split <;> omega, by rw [hk.1]; split <;> omega, by rw [hk.2]; split <;> omega, by rw [hk.2]; split <;> omega, HII, Lib.hid (below_step HBq.out HBv.out), Lib.hid (Box.below HBXq.out HBv.out)⟩
                    case measure => simp [intOf]; omega
                    case rel => exact ⟨j + 1, s + sz, a', b', by go_num, by omega, by go_num, by rw [hk.1, if_neg h7], by rw [hk.2, if_pos (by omega)], by omega, by omega, by rw [hk.1]; split <;> omega, by rw [hk.1]; split <;> omega, by rw [hk.2]; split <;> omega, by rw [hk.2]; split <;> omega, HII, Lib.hid (below_step HBq.out HBv.out), Lib.hid (Box.below HBXq.out HBv.out)⟩
                    case measure => simp [intOf]; omega
                    case rel => exact ⟨j + 1, s + sz, a', b', by go_num, by omega, by go_num, by rw [hk.1, if_neg h7], by rw [hk.2, if_pos (by omega)], by omega, by omega, by rw [hk.1]; split <;> omega, by rw [hk.1]; split <;> omega, by rw [hk.2]; split <;> omega, by rw [hk.2]; split <;> omega, HII, Lib.hid (below_step HBq.out HBv.out), Lib.hid (Box.below HBXq.out HBv.out)⟩
                    case measure => simp [intOf]; omega
                    case rel => exact ⟨j + 1, s + sz, a', b', by go_num, by omega, by go_num, by rw [hk.1, if_neg h7], by rw [hk.2, if_neg (by omega)], by omega, by omega, by rw [hk.1]; split <;> omega, by rw [hk.1]; split <;> omega, by rw [hk.2]; split <;> omega, by rw [hk.2]; split <;> omega, HII, Lib.hid (below_step HBq.out HBv.out), Lib.hid (Box.below HBXq.out HBv.out)⟩
                    case measure => simp [intOf]; omega
                  · rw [if_pos her] at hi
                    have her2 : (er != 0) = true := by simpa using her
                    have HII := Lib.hid hi
                    clear hi her hsb
                    go_wp2_with (first | (go_at_call 30; refine (field_any l (some ad) c0 f0 true false (some ad3) fs.length c3 k0 k1 k2 k3 k4 _ hlen (Kd.C_below HR0.out (below_step HBq.out (by repeat (first | exact Below.refl _ _ | apply below_alloc))))).mono ?_; rw [HE.out]; rintro e wf ⟨rfl, hb⟩; have HBc := Lib.hid hb; obtain ⟨hc, hf⟩ := xf_bcell hb; have hsz : w.heap.size < wf.heap.size := (by have := hb.size; simp at this; omega); have hsz2 : wr.heap.size < wf.heap.size := (by have := hb.size; simp at this; omega); have g0 : wf.cell? ⟨wr.heap.size, 0, none⟩ = some (.int .i64 k0) := (by rw [hc _ _ (by simp)]; go_simp); have g1 : wf.cell? ⟨wr.heap.size, 1, none⟩ = some (.int .i64 k1) := (by rw [hc _ _ (by simp)]; go_simp); have g2 : wf.cell? ⟨wr.heap.size, 2, none⟩ = some (.int .i64 k2) := (by rw [hc _ _ (by simp)]; go_simp); have g3 : wf.cell? ⟨wr.heap.size, 3, none⟩ = some (.int .i64 k3) := (by rw [hc _ _ (by simp)]; go_simp); have g4 : wf.cell? ⟨wr.heap.size, 4, none⟩ = some (.int .i64 k4) := (by rw [hc _ _ (by simp)]; go_simp); clear hc hf hb; have HBw : Hid (Below wr.heap.size wr wf) := (below_step (by repeat (first | exact Below.refl _ _ | apply below_alloc)) HBc.out); clear HBc))
                    go_ret
                    exact ⟨by rw [HII.out]; rfl, below_step HBq.out HBw.out⟩
                · have hjl : j = fs.length := by omega
                  have hi := HI.out
                  rw [List.drop_of_length_le (by omega)] at hi
                  simp only [fieldsGo] at hi
                  by_cases h1 : 1 < a
                  · rw [if_pos (.inl h1)] at hi
                    have HII := Lib.hid hi
                    clear hi
                    go_wp2
                    go_ret
                    exact ⟨by rw [HII.out]; rfl, HBq.out⟩
                  · by_cases h2 : 0 < b
                    · by_cases h3 : a = 0
                      · rw [if_pos (.inr ⟨h2, h3⟩)] at hi
                        have HII := Lib.hid hi
                        subst h3
                        clear hi
                        go_wp2
                        go_ret
                        exact ⟨by rw [HII.out]; rfl, HBq.out⟩
                      · rw [if_neg (by omega)] at hi
                        have h3b : (a == 0) = false := by simpa using h3
                        have HII := Lib.hid hi
                        clear hi
                        go_wp2
                        all_goals go_ret
                        all_goals refine ⟨?_, HBq.out⟩
                        all_goals rw [HII.out]
                        · rw [if_pos (by omega)]; rfl
                        · rw [if_neg (by omega)]; rfl
                    · rw [if_neg (by omega)] at hi
                      have HII := Lib.hid hi
                      clear hi
                      go_wp2
                      all_goals go_ret
                      all_goals refine ⟨?_, HBq.out⟩
                      all_goals rw [HII.out]
                      · rw [if_pos (by omega)]; rfl
                      · rw [if_neg (by omega)]; rfl
      · have hx2 : (x != 0) = true := by simpa using hx
        have hno : (nameAll f0 = false ∨ DupTo l k k) := HX.out.1 hx
        have hz := HZ.out
        rw [if_pos hno] at hz
        have HZ' := Lib.hid hz
        clear hz hno hx HX HX0
        go_wp2
        go_ret
        exact ⟨by rw [HZ'.out]; rfl, HB.out⟩
/-- an edge by a field -/
def EdgeAt (l : List S41) (i : Int) (k : Nat) (j : Int) : Prop := k < (rd_T41 l i).f3.length ∧ (rd_T38 (rd_T41 l i).f3 k).f0 = 2 ∧ (rd_T38 (rd_T41 l i).f3 k).f2 = j
def Edge (l : List S41) (i j : Int) : Prop := ∃ k, EdgeAt l i k j
inductive Reach (l : List S41) : Int → Int → Prop
  | one {i j : Int} (h : Edge l i j) : Reach l i j
  | step {i j k : Int} (h : Edge l i j) (r : Reach l j k) : Reach l i k
theorem Reach.trans {l : List S41} {i j k : Int} (a : Reach l i j) (b : Reach l j k) : Reach l i k := by
  induction a with
  | one h => exact .step h b
  | step h _ ih => exact .step h (ih b)
/-- all edges lead to types -/
def Closed (l : List S41) : Prop := ∀ i : Nat, i < l.length → ∀ j, Edge l i j → 0 ≤ j ∧ j < l.length
def unseen (l : List S41) (S : Int → Bool) : Nat := ((List.range l.length).filter (fun i : Nat => !S (i : Int))).length
theorem filter_lt {α : Type} (p q : α → Bool) : ∀ (l : List α), (∀ x ∈ l, q x = true → p x = true) → ∀ a ∈ l, p a = true → q a = false → (l.filter q).length < (l.filter p).length
  | [], _, a, h, _, _ => by cases h
  | x :: r, hpq, a, h, hp, hq => by
    have hle : (r.filter q).length ≤ (r.filter p).length := by
      have : ∀ (l : List α), (∀ x ∈ l, q x = true → p x = true) → (l.filter q).length ≤ (l.filter p).length := by
        intro l
        induction l with
        | nil => intro _; simp
        | cons y t ih =>
          intro hh
          have i1 := ih (fun z hz => hh z (by simp [hz]))
          have i2 := hh y (by simp)
          cases hqy : q y <;> cases hpy : p y <;> simp_all <;> omega
      exact this r (fun z hz => hpq z (by simp [hz]))
    rcases List.mem_cons.1 h with rfl | h'
    · simp only [List.filter_cons, hp, hq, if_true]
      simp
      omega
    · have ih := filter_lt p q r (fun z hz => hpq z (by simp [hz])) a h' hp hq
      have hx := hpq x (by simp)
      cases hqx : q x <;> cases hpx : p x <;> simp_all <;> omega
theorem unseen_put (l : List S41) (S : Int → Bool) (x : Int) (h0 : 0 ≤ x) (h1 : x < l.length) (hS : S x = false) : unseen l (fun y => y == x || S y) + 1 ≤ unseen l S := by
  unfold unseen
  have := filter_lt (fun i : Nat => !S (i : Int)) (fun i : Nat => !((i : Int) == x || S (i : Int))) (List.range l.length) (by intro y _; simp) x.toNat (by simp; omega) (by rw [show ((x.toNat : Nat) : Int) = x from by omega, hS]; rfl) (by rw [show ((x.toNat : Nat) : Int) = x from by omega]; simp)
  exact this
theorem filter_le {α : Type} (p q : α → Bool) (l : List α) (h : ∀ x ∈ l, q x = true → p x = true) : (l.filter q).length ≤ (l.filter p).length := by
  induction l with
  | nil => simp
  | cons y t ih =>
    have i1 := ih (fun z hz => h z (by simp [hz]))
    have i2 := h y (by simp)
    cases hqy : q y <;> cases hpy : p y <;> simp_all <;> omega
theorem unseen_mono (l : List S41) (S S' : Int → Bool) (h : ∀ x, S x = true → S' x = true) : unseen l S' ≤ unseen l S :=
  filter_le _ _ _ (by
    intro x _ hx
    cases hS : S x with
    | false => rfl
    | true => rw [h x hS] at hx; cases hx)
theorem unseen_le (l : List S41) (S : Int → Bool) : unseen l S ≤ l.length := by
  unfold unseen
  have := List.length_filter_le (fun i : Nat => !S (i : Int)) (List.range l.length)
  simpa using this

/-- what holds within a walk over the fields of a type -/
structure Inv (l : List S41) (frm dst : Int) (S S1 : Int → Bool) (k : Nat) : Prop where
  up : ∀ x, S x = true → S1 x = true
  reach : ∀ x, S1 x = true → S x = true ∨ Reach l frm x
  edges : ∀ q j, q < k → EdgeAt l frm q j → S1 j = true
  done : ∀ u, S1 u = true → S u = false → u ≠ dst ∧ ∀ j, Edge l u j → S1 j = true
theorem Inv.start (l : List S41) (frm dst : Int) (S : Int → Bool) : Inv l frm dst S S 0 :=
  ⟨fun _ h => h, fun _ h => .inl h, fun q j h => by omega, fun u h h' => by rw [h] at h'; cases h'⟩
theorem Inv.skip {l : List S41} {frm dst : Int} {S S1 : Int → Bool} {k : Nat} (h : Inv l frm dst S S1 k) (hk : (rd_T38 (rd_T41 l frm).f3 k).f0 ≠ 2) : Inv l frm dst S S1 (k + 1) :=
  ⟨h.up, h.reach, fun q j hq he => by
    by_cases hqk : q = k
    · subst hqk; exact absurd he.2.1 hk
    · exact h.edges q j (by omega) he, h.done⟩
theorem Inv.seen {l : List S41} {frm dst : Int} {S S1 : Int → Bool} {k : Nat} (h : Inv l frm dst S S1 k) (hk : S1 (rd_T38 (rd_T41 l frm).f3 k).f2 = true) : Inv l frm dst S S1 (k + 1) :=
  ⟨h.up, h.reach, fun q j hq he => by
    by_cases hqk : q = k
    · subst hqk; rw [← he.2.2]; exact hk
    · exact h.edges q j (by omega) he, h.done⟩
/-- what a call of leads comes to -/
structure Led (l : List S41) (frm dst : Int) (S S' : Int → Bool) (r : Bool) : Prop where
  up : ∀ x, S x = true → S' x = true
  reach : ∀ x, S' x = true → S x = true ∨ Reach l frm x
  yes : r = true → Reach l frm dst
  no : r = false → (∀ j, Edge l frm j → S' j = true) ∧ ∀ u, S' u = true → S u = false → u ≠ dst ∧ ∀ j, Edge l u j → S' j = true
theorem Inv.end_ {l : List S41} {frm dst : Int} {S S1 : Int → Bool} {k : Nat} (h : Inv l frm dst S S1 k) (hk : (rd_T41 l frm).f3.length ≤ k) : Led l frm dst S S1 false :=
  ⟨h.up, h.reach, (fun h => by cases h), fun _ => ⟨fun j ⟨q, he⟩ => h.edges q j (by have := he.1; omega) he, h.done⟩⟩
theorem put_reach {l : List S41} {frm dst : Int} {S S1 : Int → Bool} {k : Nat} (h : Inv l frm dst S S1 k) {x : Int} (he : EdgeAt l frm k x) : ∀ y, (y == x || S1 y) = true → S y = true ∨ Reach l frm y := by
  intro y hy
  by_cases hyx : y = x
  · subst hyx; exact .inr (.one ⟨k, he⟩)
  · have : S1 y = true := by simpa [hyx] using hy
    exact h.reach y this
theorem Inv.hit {l : List S41} {frm dst : Int} {S S1 : Int → Bool} {k : Nat} (h : Inv l frm dst S S1 k) (he : EdgeAt l frm k dst) : Led l frm dst S (fun y => y == dst || S1 y) true :=
  ⟨fun x hx => by simp [h.up x hx], put_reach h he, fun _ => .one ⟨k, he⟩, (fun h => by cases h)⟩
theorem Inv.call_yes {l : List S41} {frm dst x : Int} {S S1 S2 : Int → Bool} {k : Nat} (h : Inv l frm dst S S1 k) (he : EdgeAt l frm k x) (hc : Led l x dst (fun y => y == x || S1 y) S2 true) : Led l frm dst S S2 true :=
  ⟨fun y hy => hc.up y (by simp [h.up y hy]), fun y hy => by
    rcases hc.reach y hy with h1 | h1
    · exact put_reach h he y h1
    · exact .inr (.step ⟨k, he⟩ h1), fun _ => .step ⟨k, he⟩ (hc.yes rfl), (fun h => by cases h)⟩
theorem Inv.call_no {l : List S41} {frm dst x : Int} {S S1 S2 : Int → Bool} {k : Nat} (h : Inv l frm dst S S1 k) (he : EdgeAt l frm k x) (hx : x ≠ dst) (hc : Led l x dst (fun y => y == x || S1 y) S2 false) : Inv l frm dst S S2 (k + 1) := by
  obtain ⟨n1, n2⟩ := hc.no rfl
  refine ⟨fun y hy => hc.up y (by simp [h.up y hy]), fun y hy => ?_, fun q j hq hj => ?_, fun u hu hS => ?_⟩
  · rcases hc.reach y hy with h1 | h1
    · exact put_reach h he y h1
    · exact .inr (.step ⟨k, he⟩ h1)
  · by_cases hqk : q = k
    · subst hqk
      have : j = x := hj.2.2.symm.trans he.2.2
      exact hc.up j (by simp [this])
    · exact hc.up j (by simp [h.edges q j (by omega) hj])
  · by_cases hux : u = x
    · subst hux; exact ⟨hx, n1⟩
    · by_cases hu1 : S1 u = true
      · obtain ⟨d1, d2⟩ := h.done u hu1 hS
        exact ⟨d1, fun j hj => hc.up j (by simp [d2 j hj])⟩
      · exact n2 u hu (by simpa [hux] using hu1)
/-- at the top: just where the type leads to itself -/
theorem Led.top {l : List S41} {i : Int} {S' : Int → Bool} {r : Bool} (h : Led l i i (fun _ => false) S' r) : r = true ↔ Reach l i i := by
  constructor
  · exact h.yes
  · intro hr
    cases hrr : r with
    | true => rfl
    | false =>
      exfalso
      obtain ⟨n1, n2⟩ := h.no hrr
      have key : ∀ a b, Reach l a b → (∀ j, Edge l a j → S' j = true) → S' b = true := by
        intro a b hab
        induction hab with
        | one e => intro hh; exact hh _ e
        | step e _ ih => intro hh; exact ih (n2 _ (hh _ e) rfl).2
      exact (n2 i (key i i hr n1) rfl).1 rfl
/-- block b is a map[int]bool of at most n entries, true just at S -/
def Seen (w : World) (b n : Nat) (S : Int → Bool) : Prop :=
  ∃ D : DataW Unit, w.ownsMap Try.prog 3 (plainElem Try.prog 4) b n D ∧ ∀ x, (Lit.int .i64 x).wf = true → D.atKey (.int .i64 x) (.lit (.bool false)) = .lit (.bool (S x))
theorem Seen.made (w : World) : Seen (w.alloc (.map #[] 0)) w.heap.size 0 (fun _ => false) :=
  ⟨.map [], World.ownsMap_made _ _ _ _, fun x _ => rfl⟩
theorem Seen.kept {w w' : World} {b n : Nat} {S : Int → Bool} {row : Option Nat} (h : Seen w b n S) (hg : w.grownBy w' row) (hne : some b ≠ row) : Seen w' b n S := by
  obtain ⟨D, h1, h2⟩ := h
  exact ⟨D, h1.kept hg hne, h2⟩
theorem Seen.alloc {w : World} {b n : Nat} {S : Int → Bool} (h : Seen w b n S) (o : Obj) : Seen (w.alloc o) b n S := h.kept (World.grownBy_alloc w o none) (by simp)
theorem plainElem_bool_inv {v : Value} {z : DataW Unit × List MemPlace} (h : plainElem Try.prog 4 v = some z) : ∃ x, v = .bool x ∧ z = (.lit (.bool x), []) := by
  unfold plainElem at h
  rw [Try.underlying4] at h
  cases v <;> simp at h
  exact ⟨_, rfl, h.symm⟩
theorem Seen.look {w : World} {b n : Nat} {S : Int → Bool} (h : Seen w b n S) (x : Int) (hx : (Lit.int .i64 x).wf = true) :
    (Instr.lookup 63 (.map (some b)) (.int .i64 x) false).run Try.prog w = .ok (.bool (S x)) w := by
  obtain ⟨D, h1, h2⟩ := h
  have hz : (zeroValue 4).run Try.prog w = .ok (.bool false) w := by kernel_rfl
  obtain ⟨v, ps, hrun, hv⟩ := h1.lookup (Maps.int_keyed Try.underlying3) Try.underlying63 hz (plainElem_bool Try.underlying4 false) (Maps.keyOf_int_mk Try.underlying3 hx)
  obtain ⟨y, rfl, hy⟩ := plainElem_bool_inv hv
  rw [h2 x hx] at hy
  simp at hy
  rw [hrun, hy.1]
theorem Seen.put {w : World} {b n : Nat} {S : Int → Bool} (h : Seen w b n S) (hn : n < maxLen) (x : Int) (hx : (Lit.int .i64 x).wf = true) :
    ∃ w', (Instr.mapUpdate 63 (.map (some b)) (.int .i64 x) (.bool true)).run Try.prog w = .ok () w' ∧ Seen w' b (n + 1) (fun y => y == x || S y) ∧ w.grownBy w' (some b) := by
  obtain ⟨D, h1, h2⟩ := h
  obtain ⟨w', hrun, h3, h4⟩ := h1.update (Maps.int_keyed Try.underlying3) Try.underlying63 hn (Maps.keyOf_int_mk Try.underlying3 hx) (plainElem_bool Try.underlying4 true)
  refine ⟨w', hrun, ⟨_, h3, fun y hy => ?_⟩, h4⟩
  by_cases hxy : y = x
  · subst hxy
    rw [Maps.atKey_put_same h1.isMap (by trivial)]
    simp
  · rw [Maps.atKey_put_other (by simpa using hxy), h2 y hy]
    simp [hxy]
theorem Seen.lt {w : World} {b n : Nat} {S : Int → Bool} (h : Seen w b n S) : b < w.heap.size := by
  obtain ⟨D, h1, h2⟩ := h
  exact h1.lt
theorem Seen.noCell {w : World} {b n : Nat} {S : Int → Bool} (h : Seen w b n S) (a : Addr) (v : Value) (hc : w.cell? a = some v) : a.block ≠ b := by
  obtain ⟨D, ⟨es, cl, hb, -⟩, -⟩ := h
  rintro rfl
  simp [World.cell?, hb] at hc

/-- the types' fields, cell by cell -/
def Tree (w : World) (A0 : Option Addr) (l : List S41) : Prop := ∀ i, i < l.length → ∃ ad A3 c3, A0 = some ad ∧ w.cell? ⟨(ad.add (i * 4)).block, (ad.add (i * 4)).off + 3, none⟩ = some (.slice A3 (rd_T41 l i).f3.length c3) ∧ (rd_T41 l i).f3.length ≤ 9223372036854775807 ∧
  ∀ j, j < (rd_T41 l i).f3.length → ∃ ad3, A3 = some ad3 ∧ w.cell? (ad3.add (j * 5)) = some (.int .i64 (rd_T38 (rd_T41 l i).f3 j).f0) ∧ w.cell? ⟨(ad3.add (j * 5)).block, (ad3.add (j * 5)).off + 1, none⟩ = some (.int .i64 (rd_T38 (rd_T41 l i).f3 j).f1) ∧ w.cell? ⟨(ad3.add (j * 5)).block, (ad3.add (j * 5)).off + 2, none⟩ = some (.int .i64 (rd_T38 (rd_T41 l i).f3 j).f2) ∧ w.cell? ⟨(ad3.add (j * 5)).block, (ad3.add (j * 5)).off + 3, none⟩ = some (.int .i64 (rd_T38 (rd_T41 l i).f3 j).f3) ∧ w.cell? ⟨(ad3.add (j * 5)).block, (ad3.add (j * 5)).off + 4, none⟩ = some (.int .i64 (rd_T38 (rd_T41 l i).f3 j).f4)
theorem Tree.of {w : World} {A0 : Option Addr} {l : List S41} (h : Kd.C k41 w A0 l.length l) : Tree w A0 l := by
  intro i hi
  obtain ⟨ad, A3, c3, hat⟩ := at_of h i hi
  refine ⟨ad, A3, c3, hat.hA, hat.e3, Kd.C_max hat.hk, fun j hj => ?_⟩
  obtain ⟨ad3, e, d0, d1, d2, d3, d4⟩ := at_T38 hat.hk j (by omega) (by omega)
  simp only [Int.toNat_natCast] at d0 d1 d2 d3 d4
  exact ⟨ad3, e, d0, d1, d2, d3, d4⟩
theorem Tree.keep {w w' : World} {A0 : Option Addr} {l : List S41} (h : Tree w A0 l) (hk : ∀ a v, w.cell? a = some v → w'.cell? a = some v) : Tree w' A0 l := by
  intro i hi
  obtain ⟨ad, A3, c3, h1, h2, h3, h4⟩ := h i hi
  refine ⟨ad, A3, c3, h1, hk _ _ h2, h3, fun j hj => ?_⟩
  obtain ⟨ad3, e, d0, d1, d2, d3, d4⟩ := h4 j hj
  exact ⟨ad3, e, hk _ _ d0, hk _ _ d1, hk _ _ d2, hk _ _ d3, hk _ _ d4⟩

def LPost (l : List S41) (frm dst : Int) (b n : Nat) (S : Int → Bool) (w : World) (e : Ending) (w' : World) : Prop :=
  ∃ r n' S', e = .returned (.bool r) ∧ Seen w' b n' S' ∧ w.grownBy w' (some b) ∧ n' + unseen l S' ≤ n + unseen l S ∧ Led l frm dst S S' r

theorem grown_keep {w w' : World} {b n : Nat} {S : Int → Bool} (hs : Seen w b n S) (hg : w.grownBy w' (some b)) : ∀ a v, w.cell? a = some v → w'.cell? a = some v :=
  fun a v h => hg.cell h (by have := hs.noCell a v h; simpa using this)

set_option maxHeartbeats 4000000 in
set_option maxRecDepth 100000 in
theorem leads_any (l : List S41) (A0 : Option Addr) (c0 : Nat) (dst : Int) (hl : l.length ≤ 1000) (hcl : Closed l) : ∀ (m i : Nat) (S : Int → Bool) (n b : Nat) (w : World), unseen l S < m → i < l.length → n + unseen l S ≤ 2000 → Seen w b n S → Tree w A0 l →
    Calls Try.prog 22 #[.slice A0 l.length c0, .int .i64 i, .int .i64 dst, .map (some b)] w (LPost l i dst b n S w) := by
  intro m
  induction m with
  | zero => intro i S n b w hm; exact absurd hm (by omega)
  | succ m ih =>
    intro i S n b w hm hi hn hS hT
    have IH := Lib.hid ih
    have HCL := Lib.hid hcl
    clear ih hcl
    obtain ⟨ad, A3, c3, rfl, e3, h3, hfl⟩ := hT i hi
    have HFL := Lib.hid hfl
    have HT := Lib.hid hT
    have HS := Lib.hid hS
    have HN := Lib.hid hn
    have HM := Lib.hid hm
    clear hfl hT hS hn hm
    have hb3 : (ad.add (i * 4)).block < w.heap.size := World.block_lt_of_cell? w ⟨(ad.add (i * 4)).block, (ad.add (i * 4)).off + 3, none⟩ e3
    go_enter Try.func22, Try.ntmps22
    go_wp2
    clear e3 hb3
    go_loopw [17] (fun v17 wr => ∃ (k : Nat) (n1 : Nat) (S1 : Int → Bool), v17 = .int .i64 k ∧ k ≤ (rd_T41 l i).f3.length ∧ Hid (Seen wr b n1 S1 ∧ w.grownBy wr (some b) ∧ n1 + unseen l S1 ≤ n + unseen l S ∧ unseen l S1 ≤ unseen l S ∧ Inv l i dst S S1 k)) (fun v17 _ => (rd_T41 l i).f3.length - (intOf v17).toNat)
    case atStart => exact ⟨0, n, S, rfl, by omega, HS.out, World.grownBy.refl _ _, by omega, by omega, Inv.start _ _ _ _⟩
    case round =>
      obtain ⟨k, n1, S1, rfl, hk, HI⟩ := hrel
      by_cases hlt : k < (rd_T41 l i).f3.length
      · obtain ⟨hs1, hg1, hb1, hu1, hinv⟩ := HI.out
        obtain ⟨ad3, rfl, d0, d1, d2, d3, d4⟩ := HFL.out k hlt
        have hkp := grown_keep HS.out hg1
        replace d0 := hkp _ _ d0
        replace d1 := hkp _ _ d1
        replace d2 := hkp _ _ d2
        replace d3 := hkp _ _ d3
        replace d4 := hkp _ _ d4
        have hbl : (ad3.add (k * 5)).block < wr.heap.size := World.block_lt_of_cell? wr (ad3.add (k * 5)) d0
        have hED : EdgeAt l i k (rd_T38 (rd_T41 l i).f3 k).f2 ↔ (rd_T38 (rd_T41 l i).f3 k).f0 = 2 := ⟨fun h => h.2.1, fun h => ⟨hlt, h, rfl⟩⟩
        have hsk := @Inv.skip l i dst S S1 k hinv
        have hse := @Inv.seen l i dst S S1 k hinv
        generalize hf : rd_T38 (rd_T41 l i).f3 k = f at *
        obtain ⟨f0, f1, f2, f3, f4⟩ := f
        simp only at d0 d1 d2 d3 d4 hED hsk hse
        have HSK := Lib.hid hsk
        have HSE := Lib.hid hse
        have HED := Lib.hid hED
        have HK := Lib.hid hkp
        clear hsk hse hED hkp hf hs1 hg1 hb1 hu1 hinv
        by_cases h2 : f0 = 2
        · obtain rfl := h2
          have he : EdgeAt l i k f2 := HED.out.2 rfl
          obtain ⟨r0, r1⟩ := HCL.out i hi f2 ⟨k, he⟩
          have hwf : (Lit.int .i64 f2).wf = true := by simp [Lit.wf, IntKind.min, IntKind.max, IntKind.signed, IntKind.bits]; omega
          have HE := Lib.hid he
          have HW := Lib.hid hwf
          clear he hwf
          obtain ⟨q, rfl⟩ : ∃ q : Nat, f2 = q := ⟨f2.toNat, by omega⟩
          have hlk := Seen.look (HI.out.1.alloc (.cells #[.int .i64 2, .int .i64 f1, .int .i64 q, .int .i64 f3, .int .i64 f4] 38)) q HW.out
          cases hsq : S1 q with
          | true =>
            rw [hsq] at hlk
            have hg' : w.grownBy (wr.alloc (.cells #[.int .i64 2, .int .i64 f1, .int .i64 q, .int .i64 f3, .int .i64 f4] 38)) (some b) := HI.out.2.1.trans (World.grownBy_alloc _ _ _)
            have HG := Lib.hid hg'
            have HS1 := Lib.hid hsq
            clear hg' hsq
            go_wp2
            go_roundw
            case rel => exact ⟨k + 1, n1, S1, by go_num, by omega, HI.out.1.alloc _, HG.out, HI.out.2.2.1, HI.out.2.2.2.1, HSE.out HS1.out⟩
            case measure => simp [intOf]; omega
          | false =>
            rw [hsq] at hlk
            obtain ⟨hi1, hi2, hi3, hi4, hi5⟩ := HI.out
            have hbw : b < wr.heap.size := hi1.lt
            have hn1 : n1 < maxLen := by have := HN.out; unfold maxLen; omega
            have hpu := unseen_put l S1 q r0 r1 hsq
            obtain ⟨w1, hup, hs2, hg2⟩ := Seen.put (hi1.alloc (.cells #[.int .i64 2, .int .i64 f1, .int .i64 q, .int .i64 f3, .int .i64 f4] 38)) hn1 q HW.out
            have hne : (some wr.heap.size : Option Nat) ≠ some b := by simp; omega
            have c2 : w1.cell? ⟨wr.heap.size, 2, none⟩ = some (.int .i64 q) := hg2.cell (a := ⟨wr.heap.size, 2, none⟩) (by go_simp) hne
            have hgw : w.grownBy w1 (some b) := (hi2.trans (World.grownBy_alloc _ _ _)).trans hg2
            have HGW := Lib.hid hgw
            have HS2 := Lib.hid hs2
            have HPU := Lib.hid hpu
            have HINV := Lib.hid hi5
            have HB3 := Lib.hid hi3
            have HB4 := Lib.hid hi4
            clear hgw hs2 hpu hi5 hi3 hi4 hi2 hi1 hg2 hne hsq
            by_cases hqd : (q : Int) = dst
            · have hbq : ((q : Int) == dst) = true := by simpa using hqd
              have HQ := Lib.hid hqd
              clear hqd
              go_wp2
              go_ret
              have he := HE.out
              have hinv := HINV.out
              have hs2 := HS2.out
              have hpu := HPU.out
              rw [HQ.out] at he hs2 hpu
              exact ⟨true, n1 + 1, _, rfl, hs2, HGW.out, by have := HB3.out; omega, Inv.hit hinv he⟩
            · have hbq : ((q : Int) == dst) = false := by simpa using hqd
              have HQ := Lib.hid hqd
              clear hqd
              go_wp2_with (go_at_call 22; refine (IH.out q (fun y => y == (q : Int) || S1 y) (n1 + 1) b _ ?_ ?_ ?_ HS2.out ?_).mono ?_; (· have h1 := HPU.out; have h2 := HM.out; have h3 := HB4.out; omega); (· omega); (· have h1 := HPU.out; have h2 := HN.out; have h3 := HB3.out; omega); (· exact HT.out.keep (grown_keep HS.out HGW.out)); rintro e w2 ⟨r, n2, S2, rfl, hs3, hg3, hb3, hled⟩; have HR := Lib.hid (And.intro hs3 (And.intro hg3 (And.intro hb3 hled))); clear hs3 hg3 hb3 hled)
              · have hr : r = true := by assumption
                subst hr
                go_ret
                obtain ⟨hs3, hg3, hb3, hled⟩ := HR.out
                exact ⟨true, n2, S2, rfl, hs3, HGW.out.trans hg3, by have h1 := HPU.out; have h3 := HB3.out; omega, Inv.call_yes HINV.out HE.out hled⟩
              · have hr : r = false := by first | assumption | simp_all
                subst hr
                go_roundw
                obtain ⟨hs3, hg3, hb3, hled⟩ := HR.out
                case rel => exact ⟨k + 1, n2, S2, by go_num, by omega, hs3, HGW.out.trans hg3, by have h1 := HPU.out; have h3 := HB3.out; omega, by have h1 := HPU.out; have h3 := HB4.out; have h5 := unseen_mono l _ _ hled.up; omega, Inv.call_no HINV.out HE.out (by have := HQ.out; exact this) hled⟩
                case measure => simp [intOf]; omega
        · have hb2 : (f0 != 2) = true := by simpa using h2
          have hsk' := HSK.out h2
          have hg' : w.grownBy (wr.alloc (.cells #[.int .i64 f0, .int .i64 f1, .int .i64 f2, .int .i64 f3, .int .i64 f4] 38)) (some b) := HI.out.2.1.trans (World.grownBy_alloc _ _ _)
          have HG := Lib.hid hg'
          have HSK' := Lib.hid hsk'
          clear h2 hg' hsk'
          go_wp2
          go_roundw
          case rel => exact ⟨k + 1, n1, S1, by go_num, by omega, HI.out.1.alloc _, HG.out, HI.out.2.2.1, HI.out.2.2.2.1, HSK'.out⟩
          case measure => simp [intOf]; omega
      · go_wp2
        go_ret
        obtain ⟨hi1, hi2, hi3, hi4, hi5⟩ := HI.out
        exact ⟨false, n1, S1, rfl, hi1, hi2, hi3, hi5.end_ (by omega)⟩
/-- the first that P speaks against -/
def firstBad (P : Nat → Int) : Nat → Nat → Int × Int
  | 0, _ => (0, 0)
  | n + 1, k => if P k ≠ 0 then ((k : Int), P k) else firstBad P n (k + 1)
theorem firstBad_hit (P : Nat → Int) : ∀ (n s k : Nat), (∀ j, s ≤ j → j < k → P j = 0) → s ≤ k → k < s + n → P k ≠ 0 → firstBad P n s = ((k : Int), P k)
  | 0, s, k, _, h1, h2, _ => by omega
  | n + 1, s, k, h, h1, h2, h3 => by
    unfold firstBad
    by_cases hs : P s = 0
    · have hsk : s ≠ k := by rintro rfl; exact h3 hs
      rw [if_neg (by simpa using hs)]
      exact firstBad_hit P n (s + 1) k (fun j hj => h j (by omega)) (by omega) (by omega) h3
    · rw [if_pos hs]
      have : s = k := by
        by_cases hsk : s = k
        · exact hsk
        · exact absurd (h s (by omega) (by omega)) hs
      subst this
      rfl
theorem firstBad_none (P : Nat → Int) : ∀ (n s : Nat), (∀ j, s ≤ j → j < s + n → P j = 0) → firstBad P n s = (0, 0)
  | 0, s, _ => rfl
  | n + 1, s, h => by
    unfold firstBad
    rw [if_neg (by simpa using h s (by omega) (by omega))]
    exact firstBad_none P n (s + 1) (fun j h1 h2 => h j (by omega) (by omega))
open Classical in
noncomputable def ringErr (l : List S41) (i : Nat) : Int := if (rd_T41 l i).f2 = true ∧ Reach l i i then 7 else 0
open Classical in
noncomputable def allErr (l : List S41) : Int × Int :=
  if 32 < l.length then (0, 11) else if ∀ j, j < l.length → typeErr l j = 0 then firstBad (ringErr l) l.length 0 else firstBad (typeErr l) l.length 0
theorem fieldsGo_zero (l : List S41) (tv : Bool) : ∀ (fs : List S38) (s a b : Int), fieldsGo l tv fs s a b = 0 → ∀ k, k < fs.length → fieldErr l tv (rd_T38 fs k) = 0
  | [], _, _, _, _, k, hk => absurd hk (by simp)
  | f :: r, s, a, b, h, k, hk => by
    unfold fieldsGo at h
    by_cases hf : fieldErr l tv f = 0
    · rw [if_neg (by simpa using hf)] at h
      cases k with
      | zero => simpa [rd_T38] using hf
      | succ k =>
        have := fieldsGo_zero l tv r _ _ _ h k (by simpa using hk)
        simpa [rd_T38] using this
    · rw [if_pos hf] at h
      exact absurd h hf
theorem typeErr_zero {l : List S41} {i : Nat} (h : typeErr l i = 0) : nameAll (rd_T41 l i).f0 = true ∧ ¬ DupTo l i i ∧ (rd_T41 l i).f3.length ≤ 12 ∧ fieldsGo l (rd_T41 l i).f1 (rd_T41 l i).f3 8 0 0 = 0 := by
  unfold typeErr at h
  split at h
  · simp at h
  · rename_i h1
    split at h
    · simp at h
    · rename_i h2
      split at h
      · simp at h
      · simp only [not_or] at h1
        exact ⟨by simpa using h1.1, h1.2, by omega, h⟩
theorem closed_of {l : List S41} (h : ∀ j, j < l.length → typeErr l j = 0) : Closed l := by
  intro i hi j ⟨k, hk, h2, hj⟩
  have hz := fieldsGo_zero _ _ _ _ _ _ (typeErr_zero (h i hi)).2.2.2 k hk
  generalize rd_T38 (rd_T41 l i).f3 k = f at *
  obtain ⟨k0, k1, k2, k3, k4⟩ := f
  simp only at h2 hj
  subst h2
  subst hj
  unfold fieldErr at hz
  rw [if_neg (by simp), if_pos (by rfl)] at hz
  split at hz
  · unfold target at hz
    split at hz
    · simp at hz
    · rename_i hh
      simp only at hh ⊢
      omega
  · simp at hz
set_option maxHeartbeats 4000000 in
set_option maxRecDepth 100000 in
/-- types.Check -/
theorem checkAll_any (l : List S41) (A0 : Option Addr) (c0 : Nat) (w : World) (hlen : l.length ≤ 9223372036854775807) (hr0 : Kd.C k41 w A0 l.length l) (hs : ∀ i, i < l.length → (rd_T41 l i).f0.size ≤ 9223372036854775807) (hc0 : l.length ≤ c0) :
    Calls Try.prog 10 #[.slice A0 l.length c0] w fun e w' => e = .returned (.tuple #[.int .i64 (allErr l).1, .int .i64 (allErr l).2]) ∧ Below w.heap.size w w' := by
  obtain ⟨z, hz⟩ : ∃ z, z = allErr l := ⟨_, rfl⟩
  rw [← hz]
  obtain ⟨z1, z2⟩ := z
  simp only
  unfold allErr at hz
  by_cases h32 : 32 < l.length
  · rw [if_pos h32] at hz
    cases hz
    clear hr0 hs
    go_enter Try.func10, Try.ntmps10
    go_wp2
    go_ret2
    exact ⟨rfl, Below.refl _ _⟩
  · rw [if_neg h32] at hz
    have HR0 := Lib.hid hr0
    have HS := Lib.hid hs
    have HZ := Lib.hid hz
    have hle : l.length ≤ 32 := by omega
    clear hz hr0 hs h32
    go_enter Try.func10, Try.ntmps10
    go_wp2
    go_loopw [13] (fun v13 wr => ∃ k : Nat, v13 = .int .i64 k ∧ k ≤ l.length ∧ Hid (∀ j, j < k → typeErr l j = 0) ∧ Hid (Below w.heap.size w wr)) (fun v13 _ => l.length - (intOf v13).toNat)
    case atStart => exact ⟨0, rfl, by omega, fun j hj => absurd hj (by omega), Lib.hid (Below.refl _ _)⟩
    case round =>
      obtain ⟨k, rfl, hk, HA, HB⟩ := hrel
      by_cases hlt : k < l.length
      · obtain ⟨te, hte⟩ : ∃ te, te = typeErr l k := ⟨_, rfl⟩
        have HTE := Lib.hid hte
        clear hte
        by_cases h0 : te = 0
        · subst h0
          go_wp2_with (go_at_call 21; refine (check_any l A0 c0 k _ hlen (Kd.C_below HR0.out HB.out) hlt (HS.out k hlt) hc0).mono ?_; rw [← HTE.out]; rintro e w1 ⟨rfl, hb⟩; have HB1 := Lib.hid hb; clear hb)
          go_roundw
          case rel => exact ⟨k + 1, by go_num, by omega, fun j hj => (by by_cases hjk : j < k; (· exact HA.out j hjk); (· obtain rfl : j = k := (by omega); exact HTE.out.symm)), Lib.hid (below_step HB.out HB1.out)⟩
          case measure => simp [intOf]; omega
        · have hb0 : (te != 0) = true := by simpa using h0
          have H0 := Lib.hid h0
          clear h0
          go_wp2_with (go_at_call 21; refine (check_any l A0 c0 k _ hlen (Kd.C_below HR0.out HB.out) hlt (HS.out k hlt) hc0).mono ?_; rw [← HTE.out]; rintro e w1 ⟨rfl, hb⟩; have HB1 := Lib.hid hb; clear hb)
          go_ret2
          have hz := HZ.out
          rw [if_neg (fun h => H0.out (HTE.out.trans (h k hlt))), firstBad_hit (typeErr l) l.length 0 k (fun j _ hj => HA.out j hj) (by omega) (by omega) (by rw [← HTE.out]; exact H0.out)] at hz
          cases hz
          exact ⟨by rw [HTE.out]; rfl, below_step HB.out HB1.out⟩
      · obtain rfl : k = l.length := by omega
        have hz := HZ.out
        rw [if_pos HA.out] at hz
        have HCL := Lib.hid (closed_of HA.out)
        have HZ2 := Lib.hid hz
        clear hz HZ
        go_wp2
        go_loopw [26] (fun v26 wq => ∃ k : Nat, v26 = .int .i64 k ∧ k ≤ l.length ∧ Hid (∀ j, j < k → ringErr l j = 0) ∧ Hid (Below w.heap.size w wq)) (fun v26 _ => l.length - (intOf v26).toNat)
        case atStart => exact ⟨0, rfl, by omega, fun j hj => absurd hj (by omega), HB⟩
        case round =>
          obtain ⟨k, rfl, hk, HA2, HB2⟩ := hrel
          by_cases hlt : k < l.length
          · obtain ⟨ad, A3, c3, hat⟩ := at_of HR0.out k hlt
            obtain ⟨rfl, e0, e1, e2, e3, h3, hk3⟩ := hat
            have hkb : (ad.add (k * 4)).block < w.heap.size := World.block_lt_of_cell? w _ e0
            have e0' : wr.cell? (ad.add (k * 4)) = _ := (HB2.out.cell (p := ad.add (k * 4)) hkb).trans e0
            have hcl := (xf_bcell HB2.out).1
            rw [← hcl _ _ hkb] at e1 e2 e3
            obtain ⟨rg, hrg0⟩ : ∃ rg, rg = ringErr l k := ⟨_, rfl⟩
            have hrg : (((rd_T41 l k).f2 = true ∧ Reach l k k) → rg = 7) ∧ (¬ ((rd_T41 l k).f2 = true ∧ Reach l k k) → rg = 0) := ⟨fun h => by rw [hrg0, ringErr, if_pos h], fun h => by rw [hrg0, ringErr, if_neg h]⟩
            clear hcl e0 hkb hk3
            generalize rd_T41 l k = u at *
            obtain ⟨u0, u1, u2, u3⟩ := u
            simp only at e0' e1 e2 e3 h3 hrg
            have hsz : (wr.alloc (.cells #[.string u0, .bool u1, .bool u2, .slice A3 u3.length c3] 41)).heap.size = wr.heap.size + 1 := by simp
            cases u2 with
            | false =>
              replace hrg := hrg.2 (by simp)
              rw [hrg0] at hrg
              have HRG := Lib.hid hrg
              clear hrg hsz
              go_wp2
              go_roundw
              case rel => exact ⟨k + 1, by go_num, by omega, fun j hj => (by by_cases hjk : j < k; (· exact HA2.out j hjk); (· obtain rfl : j = k := (by omega); exact HRG.out)), Lib.hid (below_step HB2.out (by repeat (first | exact Below.refl _ _ | apply below_alloc)))⟩
              case measure => simp [intOf]; omega
            | true =>
              rw [hrg0] at hrg
              have HRG := Lib.hid hrg
              clear hrg
              have hSeen := Seen.made (wr.alloc (.cells #[.string u0, .bool u1, .bool true, .slice A3 u3.length c3] 41))
              rw [hsz] at hSeen
              have HSE := Lib.hid hSeen
              have HTR := Lib.hid (Tree.of (Kd.C_below HR0.out (below_step HB2.out (show Below wr.heap.size wr ((wr.alloc (.cells #[.string u0, .bool u1, .bool true, .slice A3 u3.length c3] 41)).alloc (.map #[] 0)) by repeat (first | exact Below.refl _ _ | apply below_alloc)))))
              clear hSeen hsz
              have hun := unseen_le l (fun _ => false)
              have hmm := @run_makeMap Try.prog
              go_wp2_with (go_at_call 22; refine (leads_any l (some ad) c0 k (by omega) HCL.out (unseen l (fun _ => false) + 1) k (fun _ => false) 0 (wr.heap.size + 1) _ (by omega) hlt (by omega) HSE.out HTR.out).mono ?_; rintro e w2 ⟨r, n2, S2, rfl, hs3, hg3, hb3, hled⟩; have HR := Lib.hid (And.intro hs3 (And.intro hg3 (And.intro hb3 hled))); clear hs3 hg3 hb3 hled)
              · have hr : r = true := by first | assumption | simp_all
                subst hr
                go_ret2
                obtain ⟨hs3, hg3, hb3, hled⟩ := HR.out
                have hreach := hled.top.1 rfl
                have hz := HZ2.out
                have h7 : ringErr l k = 7 := by exact HRG.out.1 (by first | exact ⟨rfl, hreach⟩ | exact ⟨trivial, hreach⟩ | exact hreach)
                rw [firstBad_hit (ringErr l) l.length 0 k (fun j _ hj => HA2.out j hj) (by omega) (by omega) (by rw [h7]; decide), h7] at hz
                cases hz
                exact ⟨rfl, below_step HB2.out (pw_below_grown (by repeat (first | exact Below.refl _ _ | apply below_alloc)) (some (wr.heap.size + 1)) (by simp; omega) hg3 (by intro q hq; cases hq; omega))⟩
              · have hr : r = false := by first | assumption | simp_all
                subst hr
                go_roundw
                obtain ⟨hs3, hg3, hb3, hled⟩ := HR.out
                have hreach : ¬ Reach l k k := fun h => by have := hled.top.2 h; cases this
                case rel => exact ⟨k + 1, by go_num, by omega, fun j hj => (by by_cases hjk : j < k; (· exact HA2.out j hjk); (· obtain rfl : j = k := (by omega); exact HRG.out.2 (by first | exact (fun h => hreach h.2) | exact hreach))), Lib.hid (below_step HB2.out (pw_below_grown (by repeat (first | exact Below.refl _ _ | apply below_alloc)) (some (wr.heap.size + 1)) (by simp; omega) hg3 (by intro q hq; cases hq; omega)))⟩
                case measure => simp [intOf]; omega
          · obtain rfl : k = l.length := by omega
            have hz := HZ2.out
            rw [firstBad_none (ringErr l) l.length 0 (fun j _ hj => HA2.out j (by omega))] at hz
            cases hz
            go_wp2
            go_ret2
            exact ⟨rfl, HB2.out⟩
def rStep (out : List Int) (f : S38) : List Int := if f.f0 = 2 ∧ ¬ f.f2 ∈ out then out ++ [f.f2] else out
def rRow (out : List Int) (fs : List S38) : List Int := fs.foldl rStep out
def rAll (l : List S41) (out some_ : List Int) : List Int := some_.foldl (fun o x => rRow o (rd_T41 l x).f3) out
theorem rStep_length (out : List Int) (f : S38) : (rStep out f).length ≤ out.length + 1 := by
  unfold rStep
  split <;> simp
theorem rRow_length (fs : List S38) : ∀ out, (rRow out fs).length ≤ out.length + fs.length := by
  induction fs with
  | nil => intro out; simp [rRow]
  | cons f r ih =>
    intro out
    have h1 := ih (rStep out f)
    have h2 := rStep_length out f
    simp only [rRow, List.foldl_cons, List.length_cons] at *
    omega
theorem rAll_length (l : List S41) (hf : ∀ x, (rd_T41 l x).f3.length ≤ 12) (s : List Int) : ∀ out, (rAll l out s).length ≤ out.length + 12 * s.length := by
  induction s with
  | nil => intro out; simp [rAll]
  | cons f r ih =>
    intro out
    have h1 := ih (rRow out (rd_T41 l f).f3)
    have h2 := rRow_length (rd_T41 l f).f3 out
    have h3 := hf f
    simp only [rAll, List.foldl_cons, List.length_cons] at *
    omega
theorem rStep_mem (out : List Int) (f : S38) (x : Int) : x ∈ rStep out f ↔ x ∈ out ∨ (f.f0 = 2 ∧ f.f2 = x) := by
  unfold rStep
  split
  · rename_i h
    rw [List.mem_append, List.mem_singleton]
    constructor
    · rintro (h1 | h1)
      · exact .inl h1
      · exact .inr ⟨h.1, h1.symm⟩
    · rintro (h1 | ⟨_, h1⟩)
      · exact .inl h1
      · exact .inr h1.symm
  · rename_i h
    constructor
    · exact .inl
    · rintro (h1 | ⟨h2, h1⟩)
      · exact h1
      · subst h1
        by_cases hm : f.f2 ∈ out
        · exact hm
        · exact absurd ⟨h2, hm⟩ h
theorem rRow_mem (fs : List S38) : ∀ (out : List Int) (x : Int), x ∈ rRow out fs ↔ x ∈ out ∨ ∃ f ∈ fs, f.f0 = 2 ∧ f.f2 = x := by
  induction fs with
  | nil => intro out x; simp [rRow]
  | cons f r ih =>
    intro out x
    have h1 := ih (rStep out f) x
    unfold rRow at *
    rw [List.foldl_cons, h1, rStep_mem]
    simp only [List.mem_cons, exists_eq_or_imp]
    exact or_assoc
theorem rd38_mem (fs : List S38) (P : S38 → Prop) : (∃ f ∈ fs, P f) ↔ ∃ k : Nat, k < fs.length ∧ P (rd_T38 fs k) := by
  constructor
  · rintro ⟨f, hf, hp⟩
    obtain ⟨k, hk, rfl⟩ := List.getElem_of_mem hf
    exact ⟨k, hk, by simpa [rd_T38, hk] using hp⟩
  · rintro ⟨k, hk, hp⟩
    exact ⟨fs[k], List.getElem_mem hk, by simpa [rd_T38, hk] using hp⟩
theorem rRow_edge (l : List S41) (i : Int) (out : List Int) (x : Int) : x ∈ rRow out (rd_T41 l i).f3 ↔ x ∈ out ∨ Edge l i x := by
  rw [rRow_mem, rd38_mem _ (fun f => f.f0 = 2 ∧ f.f2 = x)]
  rfl
theorem rAll_mem (l : List S41) (s : List Int) : ∀ (out : List Int) (x : Int), x ∈ rAll l out s ↔ x ∈ out ∨ ∃ i ∈ s, Edge l i x := by
  induction s with
  | nil => intro out x; simp [rAll]
  | cons i r ih =>
    intro out x
    have h1 := ih (rRow out (rd_T41 l i).f3) x
    unfold rAll at *
    rw [List.foldl_cons, h1, rRow_edge]
    simp only [List.mem_cons, exists_eq_or_imp]
    exact or_assoc
/-- ref Reached over out = some -/
def reached (l : List S41) (s : List Int) : List Int := rAll l s s
def iter (l : List S41) : Nat → List Int → List Int
  | 0, s => s
  | n + 1, s => iter l n (reached l s)
theorem reached_mem (l : List S41) (s : List Int) (x : Int) : x ∈ reached l s ↔ x ∈ s ∨ ∃ i ∈ s, Edge l i x := rAll_mem l s s x
def Shut (l : List S41) (s : List Int) : Prop := ∀ i ∈ s, ∀ x, Edge l i x → x ∈ s
def seenIn (s : List Int) (x : Int) : Bool := decide (x ∈ s)
theorem iter_mono (l : List S41) : ∀ n s x, x ∈ s → x ∈ iter l n s
  | 0, s, x, h => h
  | n + 1, s, x, h => iter_mono l n _ x ((reached_mem l s x).2 (.inl h))
theorem iter_shut (l : List S41) : ∀ n s, Shut l s → ∀ x, x ∈ iter l n s ↔ x ∈ s
  | 0, s, h, x => Iff.rfl
  | n + 1, s, h, x => by
    have hs : ∀ y, y ∈ reached l s ↔ y ∈ s := fun y => (reached_mem l s y).trans ⟨fun hy => hy.elim id (fun ⟨i, hi, he⟩ => h i hi y he), .inl⟩
    have h2 : Shut l (reached l s) := fun i hi x he => (hs x).2 (h i ((hs i).1 hi) x he)
    exact (iter_shut l n _ h2 x).trans (hs x)
theorem iter_done (l : List S41) (hcl : Closed l) : ∀ n s, (∀ x ∈ s, 0 ≤ x ∧ x < (l.length : Int)) → unseen l (seenIn s) ≤ n → Shut l (iter l n s)
  | 0, s, hs, hu => by
    intro i hi x he
    by_cases hx : x ∈ s
    · exact hx
    · obtain ⟨h0, h1⟩ := hs i hi
      obtain ⟨q, rfl⟩ : ∃ q : Nat, i = q := ⟨i.toNat, by omega⟩
      obtain ⟨r0, r1⟩ := hcl q (by omega) x he
      have := unseen_put l (seenIn s) x r0 r1 (by simp [seenIn, hx])
      omega
  | n + 1, s, hs, hu => by
    by_cases hsh : Shut l s
    · intro i hi x he
      have e := iter_shut l (n + 1) s hsh
      exact (e x).2 (hsh i ((e i).1 hi) x he)
    · have hr : ∀ x ∈ reached l s, 0 ≤ x ∧ x < (l.length : Int) := by
        intro x hx
        rcases (reached_mem l s x).1 hx with h1 | ⟨i, hi, he⟩
        · exact hs x h1
        · obtain ⟨h0, h1⟩ := hs i hi
          obtain ⟨q, rfl⟩ : ∃ q : Nat, i = q := ⟨i.toNat, by omega⟩
          exact hcl q (by omega) x he
      refine iter_done l hcl n (reached l s) hr ?_
      obtain ⟨x, hx1, hx2⟩ : ∃ x, x ∈ reached l s ∧ ¬ x ∈ s := by
        apply Classical.byContradiction
        intro hno
        apply hsh
        intro i hi x he
        apply Classical.byContradiction
        intro hx
        exact hno ⟨x, (reached_mem l s x).2 (.inr ⟨i, hi, he⟩), hx⟩
      have h1 := unseen_put l (seenIn s) x (hr x hx1).1 (hr x hx1).2 (by simp [seenIn, hx2])
      have h2 := unseen_mono l (fun y => y == x || seenIn s y) (seenIn (reached l s)) (by
        intro y hy
        simp only [seenIn, Bool.or_eq_true, beq_iff_eq, decide_eq_true_eq] at hy ⊢
        rcases hy with rfl | hy
        · exact hx1
        · exact (reached_mem l s y).2 (.inl hy))
      omega
theorem reach_in (l : List S41) (s : List Int) (hs : Shut l s) {a b : Int} (h : Reach l a b) : (∀ x, Edge l a x → x ∈ s) → b ∈ s := by
  induction h with
  | one e => intro h; exact h _ e
  | step e _ ih => intro h; exact ih (fun x hx => hs _ (h _ e) x hx)
theorem iter_reach (l : List S41) (a : Int) : ∀ n s, (∀ x ∈ s, Reach l a x) → ∀ x ∈ iter l n s, Reach l a x
  | 0, s, h, x, hx => h x hx
  | n + 1, s, h, x, hx => iter_reach l a n (reached l s) (fun y hy => by
      rcases (reached_mem l s y).1 hy with h1 | ⟨i, hi, he⟩
      · exact h y h1
      · exact (h i hi).trans (.one he)) x hx
def firsts (fs : List S38) : List Int := (fs.filter (fun f => f.f0 == 2)).map (·.f2)
theorem firsts_mem (l : List S41) (i x : Int) : x ∈ firsts (rd_T41 l i).f3 ↔ Edge l i x := by
  unfold firsts Edge
  have := rd38_mem (rd_T41 l i).f3 (fun f => f.f0 = 2 ∧ f.f2 = x)
  rw [List.mem_map]
  constructor
  · rintro ⟨f, hf, hx⟩
    rw [List.mem_filter] at hf
    exact this.1 ⟨f, hf.1, by simpa using hf.2, hx⟩
  · intro h
    obtain ⟨f, hf, h1, h2⟩ := this.2 h
    exact ⟨f, List.mem_filter.2 ⟨hf, by simpa using h1⟩, h2⟩
theorem itself_iff (l : List S41) (hcl : Closed l) (i : Nat) (hi : i < l.length) : ((i : Int) ∈ iter l l.length (firsts (rd_T41 l i).f3)) ↔ Reach l i i := by
  constructor
  · intro h
    exact iter_reach l i l.length _ (fun x hx => .one ((firsts_mem l i x).1 hx)) _ h
  · intro h
    have hs : ∀ x ∈ firsts (rd_T41 l i).f3, 0 ≤ x ∧ x < (l.length : Int) := fun x hx => hcl i hi x ((firsts_mem l i x).1 hx)
    exact reach_in l _ (iter_done l hcl l.length _ hs (unseen_le l _)) h (fun x hx => iter_mono l _ _ x ((firsts_mem l i x).2 hx))
def dupC (l : List S41) (i : Nat) : Bool := (List.range i).any fun j => decide ((rd_T41 l j).f0 = (rd_T41 l i).f0)
theorem dupC_iff (l : List S41) (i : Nat) : dupC l i = true ↔ DupTo l i i := by
  unfold dupC DupTo
  rw [List.any_eq_true]
  simp only [List.mem_range, decide_eq_true_eq]
/-- typeErr, reckoned -/
def typeErrC (l : List S41) (i : Nat) : Int :=
  if nameAll (rd_T41 l i).f0 = false ∨ dupC l i = true then 3 else if 12 < (rd_T41 l i).f3.length then 11 else if ((rd_T41 l i).f1 && (rd_T41 l i).f2) = true then 7 else fieldsGo l (rd_T41 l i).f1 (rd_T41 l i).f3 8 0 0
theorem typeErrC_eq (l : List S41) (i : Nat) : typeErrC l i = typeErr l i := by
  unfold typeErrC typeErr
  by_cases h : nameAll (rd_T41 l i).f0 = false ∨ DupTo l i i
  · rw [if_pos h, if_pos (h.imp id (dupC_iff l i).2)]
  · rw [if_neg h, if_neg (fun h' => h (h'.imp id (dupC_iff l i).1))]
def ringErrC (l : List S41) (i : Nat) : Int := if (rd_T41 l i).f2 = true ∧ (i : Int) ∈ iter l l.length (firsts (rd_T41 l i).f3) then 7 else 0
theorem ringErrC_eq (l : List S41) (hcl : Closed l) (i : Nat) (hi : i < l.length) : ringErrC l i = ringErr l i := by
  unfold ringErrC ringErr
  have h := itself_iff l hcl i hi
  by_cases h2 : (rd_T41 l i).f2 = true ∧ Reach l i i
  · rw [if_pos h2, if_pos ⟨h2.1, h.2 h2.2⟩]
  · rw [if_neg h2, if_neg (fun h' => h2 ⟨h'.1, h.1 h'.2⟩)]
theorem firstBad_congr (P Q : Nat → Int) : ∀ (n s : Nat), (∀ j, s ≤ j → j < s + n → P j = Q j) → firstBad P n s = firstBad Q n s
  | 0, s, _ => rfl
  | n + 1, s, h => by
    unfold firstBad
    rw [h s (by omega) (by omega), firstBad_congr P Q n (s + 1) (fun j h1 h2 => h j (by omega) (by omega))]
/-- what both Checks tell, reckoned -/
def allErrC (l : List S41) : Int × Int :=
  if 32 < l.length then (0, 11) else if (List.range l.length).all (fun j => typeErrC l j == 0) = true then firstBad (ringErrC l) l.length 0 else firstBad (typeErrC l) l.length 0
theorem allErrC_eq (l : List S41) : allErrC l = allErr l := by
  unfold allErrC allErr
  have e : (List.range l.length).all (fun j => typeErrC l j == 0) = true ↔ ∀ j, j < l.length → typeErr l j = 0 := by
    rw [List.all_eq_true]
    simp only [List.mem_range, beq_iff_eq, typeErrC_eq]
  by_cases h32 : 32 < l.length
  · rw [if_pos h32, if_pos h32]
  · rw [if_neg h32, if_neg h32]
    by_cases h : ∀ j, j < l.length → typeErr l j = 0
    · rw [if_pos h, if_pos (e.2 h)]
      exact firstBad_congr _ _ _ _ (fun j _ hj => ringErrC_eq l (closed_of h) j (by omega))
    · rw [if_neg h, if_neg (fun h' => h (e.1 h'))]
      exact firstBad_congr _ _ _ _ (fun j _ hj => typeErrC_eq l j)
def types_Check.f (l0 : List S41) : Option (Int × Int) := if ∀ i, i < l0.length → (rd_T41 l0 i).f0.size ≤ 9223372036854775807 then some (allErrC l0) else none
theorem types_Check.calls (A0 : Option Addr) (c0 : Nat) (l0 : List (S41)) (r1 : Int) (r2 : Int) (w : World) (hr0 : Kd.C k41 w A0 l0.length l0) (hc0 : l0.length ≤ c0) (h : types_Check.f l0 = some (r1, r2)) :
    Calls Try.prog 10 #[.slice A0 l0.length c0] w fun e w' => e = .returned (.tuple #[.int .i64 r1, .int .i64 r2]) ∧ Below w.heap.size w w' := by
  unfold types_Check.f at h
  split at h
  · rename_i hs
    have h1 := checkAll_any l0 A0 c0 w (Kd.C_max hr0) hr0 hs hc0
    rw [← allErrC_eq, Option.some.inj h] at h1
    exact h1
  · cases h


end Go.Proofs.Ytckijljnomojiaa.PTypesBack
