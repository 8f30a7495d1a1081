/- The pure part of TypesParses: what both Parses come to is one and the same list, place and error, told by one function (pAll); and Same of a list and itself is true. -/
import Derived.Test.YtckijljnomojiaaPTypesParsesx11
namespace Go.Proofs.Ytckijljnomojiaa.Pure
open Go.RowKit Go.Proofs.Ytckijljnomojiaa.PTypesParses Go.Proofs.YtckijljnomojiaaW.PrintWords Go.Proofs.YtckijljnomojiaaW.PrintLast
set_option linter.unusedVariables false
set_option linter.unusedSimpArgs false
/-- the fields, five numbers each -/
def flds : List Int → List S38
  | a :: b :: c :: d :: e :: r => ⟨a, b, c, d, e⟩ :: flds r
  | _ => []
def tLoop (l : List Int) : Nat → Int → List Int → List Int × Int × Int
  | 0, at_, acc => (acc, at_, 0)
  | m + 1, at_, acc => if (takeNum (l.drop at_.toNat)).2.2 = 0 then (if (takeNum (l.drop at_.toNat)).1 > 2147483647 then ([], 0, 4) else tLoop l m (at_ + (takeNum (l.drop at_.toNat)).2.1) (acc ++ [(takeNum (l.drop at_.toNat)).1])) else ([], 0, (takeNum (l.drop at_.toNat)).2.2)
def tInts (l : List Int) : List Int × Int × Int :=
  if (takeNum l).2.2 = 0 then (if (takeNum l).1 > 1000 then ([], 0, 11) else tLoop l (takeNum l).1.toNat (takeNum l).2.1 []) else ([], 0, (takeNum l).2.2)
def pOne (l : List Int) : ByteArray × Bool × Bool × List S38 × Int × Int :=
  if (takeText l).2.2 = 0 then
    (if (tInts (l.drop (takeText l).2.1.toNat)).2.2 = 0 then
      (if ((tInts (l.drop (takeText l).2.1.toNat)).1.length : Int) % 5 = 1 then
        (if rd (tInts (l.drop (takeText l).2.1.toNat)).1 0 > 3 then (⟨#[]⟩, false, false, [], 0, 3)
         else ((takeText l).1, Int.tmod (rd (tInts (l.drop (takeText l).2.1.toNat)).1 0) 2 == 1, decide (rd (tInts (l.drop (takeText l).2.1.toNat)).1 0 > 1), flds ((tInts (l.drop (takeText l).2.1.toNat)).1.drop 1), (takeText l).2.1 + (tInts (l.drop (takeText l).2.1.toNat)).2.1, 0))
       else (⟨#[]⟩, false, false, [], 0, 3))
     else (⟨#[]⟩, false, false, [], 0, (tInts (l.drop (takeText l).2.1.toNat)).2.2))
  else (⟨#[]⟩, false, false, [], 0, (takeText l).2.2)
def pLoop (l : List Int) : Nat → Int → List S41 → List S41 × Int × Int
  | 0, at_, acc => if (allErrC acc).2 = 0 then (acc, at_, 0) else ([], 0, (allErrC acc).2)
  | m + 1, at_, acc => if (pOne (l.drop at_.toNat)).2.2.2.2.2 = 0 then pLoop l m (at_ + (pOne (l.drop at_.toNat)).2.2.2.2.1) (acc ++ [⟨(pOne (l.drop at_.toNat)).1, (pOne (l.drop at_.toNat)).2.1, (pOne (l.drop at_.toNat)).2.2.1, (pOne (l.drop at_.toNat)).2.2.2.1⟩]) else ([], 0, (pOne (l.drop at_.toNat)).2.2.2.2.2)
def pAll (l : List Int) : List S41 × Int × Int :=
  if (takeNum l).2.2 = 0 then (if (takeNum l).1 > 32 then ([], 0, 11) else pLoop l (takeNum l).1.toNat (takeNum l).2.1 []) else ([], 0, (takeNum l).2.2)

theorem bytesOk_drop {l : List Int} (h : bytesOk l) (n : Nat) : bytesOk (l.drop n) := fun x hx => h x (List.mem_of_mem_drop hx)
theorem wrapu (j : Nat) (h : j < 10000) : IntKind.u64.wrap ((j : Int) + 1) = ((j + 1 : Nat) : Int) := by simp [IntKind.wrap, IntKind.bits, IntKind.signed]; omega
theorem wrap64_small (x : Int) (h0 : 0 ≤ x) (h1 : x ≤ 9223372036854775807) : wrap64 x = x := by unfold wrap64; omega
theorem takeNum_drop (l : List Int) (hok : bytesOk l) (a : Int) (ha0 : 0 ≤ a) (ha : a ≤ l.length) (h : (takeNum (l.drop a.toNat)).2.2 = 0) : 0 ≤ (takeNum (l.drop a.toNat)).1 ∧ (takeNum (l.drop a.toNat)).1 < 18446744073709551616 ∧ 1 ≤ (takeNum (l.drop a.toNat)).2.1 ∧ a + (takeNum (l.drop a.toNat)).2.1 ≤ l.length := by
  have := takeNum_facts (l.drop a.toNat) (bytesOk_drop hok _) h
  rw [List.length_drop] at this
  omega
theorem tLoop_facts (l : List Int) (hok : bytesOk l) : ∀ (m : Nat) (a : Int) (acc : List Int), 0 ≤ a → a ≤ l.length → (∀ x ∈ acc, 0 ≤ x ∧ x ≤ 2147483647) → (tLoop l m a acc).2.2 = 0 → (∀ x ∈ (tLoop l m a acc).1, 0 ≤ x ∧ x ≤ 2147483647) ∧ a ≤ (tLoop l m a acc).2.1 ∧ (tLoop l m a acc).2.1 ≤ l.length ∧ (tLoop l m a acc).1.length = acc.length + m := by
  intro m
  induction m with
  | zero => intro a acc h0 h1 h2 h; exact ⟨h2, by simp [tLoop], by simpa [tLoop] using h1, by simp [tLoop]⟩
  | succ m ih =>
    intro a acc h0 h1 h2 h
    unfold tLoop at h ⊢
    by_cases he : (takeNum (l.drop a.toNat)).2.2 = 0
    · rw [if_pos he] at h ⊢
      by_cases hb : (takeNum (l.drop a.toNat)).1 > 2147483647
      · rw [if_pos hb] at h; simp at h
      · rw [if_neg hb] at h ⊢
        have hf := takeNum_drop l hok a h0 h1 he
        have := ih (a + (takeNum (l.drop a.toNat)).2.1) (acc ++ [(takeNum (l.drop a.toNat)).1]) (by omega) (by omega) (by
          intro x hx
          rw [List.mem_append, List.mem_singleton] at hx
          rcases hx with hx | rfl
          · exact h2 x hx
          · omega) h
        refine ⟨this.1, by omega, this.2.2.1, by rw [this.2.2.2]; simp; omega⟩
    · rw [if_neg he] at h
      exact absurd h he
theorem tInts_facts (l : List Int) (hok : bytesOk l) (h : (tInts l).2.2 = 0) : (∀ x ∈ (tInts l).1, 0 ≤ x ∧ x ≤ 2147483647) ∧ 1 ≤ (tInts l).2.1 ∧ (tInts l).2.1 ≤ l.length ∧ (tInts l).1.length ≤ 1000 := by
  unfold tInts at h ⊢
  by_cases he : (takeNum l).2.2 = 0
  · rw [if_pos he] at h ⊢
    by_cases hb : (takeNum l).1 > 1000
    · rw [if_pos hb] at h; simp at h
    · rw [if_neg hb] at h ⊢
      have hf := takeNum_facts l hok he
      have := tLoop_facts l hok _ _ [] (by omega) (by omega) (by simp) h
      refine ⟨this.1, by omega, this.2.2.1, by rw [this.2.2.2]; simp; omega⟩
  · rw [if_neg he] at h
    exact absurd h he
theorem takeText_facts (l : List Int) (hok : bytesOk l) (h : (takeText l).2.2 = 0) : (takeText l).1.size ≤ 16 ∧ 1 ≤ (takeText l).2.1 ∧ (takeText l).2.1 ≤ l.length := by
  unfold takeText at h ⊢
  by_cases he : (takeNum l).2.2 ≠ 0
  · rw [if_pos he] at h; exact absurd h he
  · rw [if_neg he] at h ⊢
    have hf := takeNum_facts l hok (by omega)
    by_cases h1 : (takeNum l).1 < 1 ∨ 16 < (takeNum l).1
    · rw [if_pos h1] at h; simp at h
    · rw [if_neg h1] at h ⊢
      by_cases h2 : (l.length : Int) - (takeNum l).2.1 < (takeNum l).1
      · rw [if_pos h2] at h; simp at h
      · rw [if_neg h2] at h ⊢
        split at h
        · rename_i h3
          rw [if_pos h3]
          refine ⟨?_, by simp only []; omega, by simp only []; omega⟩
          unfold nameAll at h3
          simp only [Bool.and_eq_true, decide_eq_true_eq] at h3
          exact h3.2
        · simp at h
theorem flds_length (l : List Int) : (flds l).length ≤ l.length := by
  fun_induction flds l with
  | case1 a b c d e r ih => simp only [List.length_cons]; omega
  | case2 l h => simp
theorem pOne_facts (l : List Int) (hok : bytesOk l) (h : (pOne l).2.2.2.2.2 = 0) : (pOne l).1.size ≤ 16 ∧ 1 ≤ (pOne l).2.2.2.2.1 ∧ (pOne l).2.2.2.2.1 ≤ l.length := by
  unfold pOne at h ⊢
  by_cases h1 : (takeText l).2.2 = 0
  · rw [if_pos h1] at h ⊢
    have f1 := takeText_facts l hok h1
    by_cases h2 : (tInts (l.drop (takeText l).2.1.toNat)).2.2 = 0
    · rw [if_pos h2] at h ⊢
      have f2 := tInts_facts _ (bytesOk_drop hok _) h2
      rw [List.length_drop] at f2
      by_cases h3 : ((tInts (l.drop (takeText l).2.1.toNat)).1.length : Int) % 5 = 1
      · rw [if_pos h3] at h ⊢
        by_cases h4 : rd (tInts (l.drop (takeText l).2.1.toNat)).1 0 > 3
        · rw [if_pos h4] at h; simp at h
        · rw [if_neg h4]
          refine ⟨f1.1, by simp only []; omega, by simp only []; omega⟩
      · rw [if_neg h3] at h; simp at h
    · rw [if_neg h2] at h; exact absurd h h2
  · rw [if_neg h1] at h; exact absurd h h1
theorem f_num (l : List Int) (hl : l.length ≤ 140737488355328) (hok : bytesOk l) : wire_TakeNumber.f l = some (takeNum l) := by
  unfold wire_TakeNumber.f
  rw [if_pos ⟨by omega, hok⟩]
theorem f_rnum (l : List Int) (hl : l.length ≤ 140737488355328) (hok : bytesOk l) : turnbuckleref04_TakeNumber.f l = some (takeNum l) := by
  unfold turnbuckleref04_TakeNumber.f
  rw [if_pos ⟨by omega, hok⟩]
theorem drop_le (l : List Int) (n : Nat) (hl : l.length ≤ 140737488355328) : (l.drop n).length ≤ 140737488355328 := by rw [List.length_drop]; omega
theorem ev_ints (l : List Int) (hl : l.length ≤ 140737488355328) (hok : bytesOk l) (n : Nat) (hn : n ≤ 1000) : ∀ (m j : Nat) (a : Int) (acc : List Int), n = j + m → 0 ≤ a → a ≤ l.length → acc.length = j →
    Ev (fun k => wire_TakeInts.l0 k l a acc n j) (tLoop l m a acc) := by
  intro m
  induction m with
  | zero =>
    intro j a acc h1 h2 h3 h4
    refine Ev.step (f := fun k => some (acc, a, 0)) (fun k => ?_) (Ev.now _)
    simp only [wire_TakeInts.l0]
    rw [if_neg (by omega)]
  | succ m ih =>
    intro j a acc h1 h2 h3 h4
    unfold tLoop
    have hnum := f_num (l.drop a.toNat) (drop_le l _ hl) (bytesOk_drop hok _)
    by_cases he : (takeNum (l.drop a.toNat)).2.2 = 0
    · rw [if_pos he]
      have hf := takeNum_drop l hok a h2 h3 he
      by_cases hb : (takeNum (l.drop a.toNat)).1 > 2147483647
      · rw [if_pos hb]
        refine Ev.step (f := fun k => some ([], 0, 4)) (fun k => ?_) (Ev.now _)
        simp only [wire_TakeInts.l0]
        rw [if_pos (by omega), if_pos h2, if_pos h3, hnum, Option.bind_some, if_pos he, if_pos hb]
      · rw [if_neg hb]
        refine Ev.step (f := fun k => wire_TakeInts.l0 k l (a + (takeNum (l.drop a.toNat)).2.1) (acc ++ [(takeNum (l.drop a.toNat)).1]) n ((j + 1 : Nat) : Int)) (fun k => ?_) (ih (j + 1) _ _ (by omega) (by omega) (by omega) (by simp [h4]))
        simp only [wire_TakeInts.l0]
        rw [if_pos (by omega), if_pos h2, if_pos h3, hnum, Option.bind_some, if_pos he, if_neg hb, if_pos (by omega), wrap64_small _ (by omega) (by omega), wrap64_small _ (by omega) (by omega), wrapu j (by omega)]
    · rw [if_neg he]
      refine Ev.step (f := fun k => some ([], 0, (takeNum (l.drop a.toNat)).2.2)) (fun k => ?_) (Ev.now _)
      simp only [wire_TakeInts.l0]
      rw [if_pos (by omega), if_pos h2, if_pos h3, hnum, Option.bind_some, if_neg he]
theorem ev_rints (l : List Int) (hl : l.length ≤ 140737488355328) (hok : bytesOk l) (n : Nat) (hn : n ≤ 1000) : ∀ (m j : Nat) (a : Int) (acc : List Int), n = j + m → 0 ≤ a → a ≤ l.length → acc.length = j →
    Ev (fun k => turnbuckleref04_TakeInts.l0 k l n a acc j) (tLoop l m a acc) := by
  intro m
  have hw : wrap64 (n : Int) = n := wrap64_small _ (by omega) (by omega)
  induction m with
  | zero =>
    intro j a acc h1 h2 h3 h4
    refine Ev.step (f := fun k => some (acc, a, 0)) (fun k => ?_) (Ev.now _)
    simp only [turnbuckleref04_TakeInts.l0]
    rw [hw, if_neg (by omega)]
  | succ m ih =>
    intro j a acc h1 h2 h3 h4
    unfold tLoop
    have hnum := f_rnum (l.drop a.toNat) (drop_le l _ hl) (bytesOk_drop hok _)
    by_cases he : (takeNum (l.drop a.toNat)).2.2 = 0
    · rw [if_pos he]
      have hf := takeNum_drop l hok a h2 h3 he
      by_cases hb : (takeNum (l.drop a.toNat)).1 > 2147483647
      · rw [if_pos hb]
        refine Ev.step (f := fun k => some ([], 0, 4)) (fun k => ?_) (Ev.now _)
        simp only [turnbuckleref04_TakeInts.l0]
        rw [hw, if_pos (by omega), if_pos h2, if_pos h3, hnum, Option.bind_some, if_pos he, if_pos hb]
      · rw [if_neg hb]
        refine Ev.step (f := fun k => turnbuckleref04_TakeInts.l0 k l n (a + (takeNum (l.drop a.toNat)).2.1) (acc ++ [(takeNum (l.drop a.toNat)).1]) ((j + 1 : Nat) : Int)) (fun k => ?_) (ih (j + 1) _ _ (by omega) (by omega) (by omega) (by simp [h4]))
        simp only [turnbuckleref04_TakeInts.l0]
        rw [hw, if_pos (by omega), if_pos h2, if_pos h3, hnum, Option.bind_some, if_pos he, if_neg hb, if_pos (by omega), wrap64_small (a + _) (by omega) (by omega), wrap64_small (takeNum (l.drop a.toNat)).1 (by omega) (by omega), wrap64_small ((j : Int) + 1) (by omega) (by omega)]
        rfl
    · rw [if_neg he]
      refine Ev.step (f := fun k => some ([], 0, (takeNum (l.drop a.toNat)).2.2)) (fun k => ?_) (Ev.now _)
      simp only [turnbuckleref04_TakeInts.l0]
      rw [hw, if_pos (by omega), if_pos h2, if_pos h3, hnum, Option.bind_some, if_neg he]
theorem ev_tInts (l : List Int) (hl : l.length ≤ 140737488355328) (hok : bytesOk l) : Ev (fun k => wire_TakeInts.f k l) (tInts l) := by
  unfold tInts
  by_cases he : (takeNum l).2.2 = 0
  · rw [if_pos he]
    have hf := takeNum_facts l hok he
    by_cases hb : (takeNum l).1 > 1000
    · rw [if_pos hb]
      refine Ev.congr (f := fun k => some ([], 0, 11)) (fun k => ?_) (Ev.now _)
      unfold wire_TakeInts.f
      rw [f_num l hl hok, Option.bind_some, if_pos he, if_pos hb]
    · rw [if_neg hb]
      refine Ev.congr (f := fun k => wire_TakeInts.l0 k l (takeNum l).2.1 [] ((takeNum l).1.toNat : Nat) ((0 : Nat) : Int)) (fun k => ?_) (ev_ints l hl hok _ (by omega) _ 0 _ [] (by omega) (by omega) (by omega) rfl)
      unfold wire_TakeInts.f
      rw [f_num l hl hok, Option.bind_some, if_pos he, if_neg hb, Int.toNat_of_nonneg (by omega)]
      rfl
  · rw [if_neg he]
    refine Ev.congr (f := fun k => some ([], 0, (takeNum l).2.2)) (fun k => ?_) (Ev.now _)
    unfold wire_TakeInts.f
    rw [f_num l hl hok, Option.bind_some, if_neg he]
theorem ev_rtInts (l : List Int) (hl : l.length ≤ 140737488355328) (hok : bytesOk l) : Ev (fun k => turnbuckleref04_TakeInts.f k l) (tInts l) := by
  unfold tInts
  by_cases he : (takeNum l).2.2 = 0
  · rw [if_pos he]
    have hf := takeNum_facts l hok he
    by_cases hb : (takeNum l).1 > 1000
    · rw [if_pos hb]
      refine Ev.congr (f := fun k => some ([], 0, 11)) (fun k => ?_) (Ev.now _)
      unfold turnbuckleref04_TakeInts.f
      rw [f_rnum l hl hok, Option.bind_some, if_pos he, if_pos hb]
    · rw [if_neg hb]
      refine Ev.congr (f := fun k => turnbuckleref04_TakeInts.l0 k l ((takeNum l).1.toNat : Nat) (takeNum l).2.1 [] ((0 : Nat) : Int)) (fun k => ?_) (ev_rints l hl hok _ (by omega) _ 0 _ [] (by omega) (by omega) (by omega) rfl)
      unfold turnbuckleref04_TakeInts.f
      rw [f_rnum l hl hok, Option.bind_some, if_pos he, if_neg hb, Int.toNat_of_nonneg (by omega)]
      rfl
  · rw [if_neg he]
    refine Ev.congr (f := fun k => some ([], 0, (takeNum l).2.2)) (fun k => ?_) (Ev.now _)
    unfold turnbuckleref04_TakeInts.f
    rw [f_rnum l hl hok, Option.bind_some, if_neg he]
theorem pOne_rows (l : List Int) (hok : bytesOk l) : (pOne l).2.2.2.1.length ≤ 1000 := by
  unfold pOne
  split
  · rename_i h1
    split
    · rename_i h2
      have f2 := tInts_facts _ (bytesOk_drop hok _) h2
      split
      · split
        · simp
        · simp only []
          have := flds_length ((tInts (l.drop (takeText l).2.1.toNat)).1.drop 1)
          rw [List.length_drop] at this
          omega
      · simp
    · simp
  · simp
theorem bits_one (x : Int) (h0 : 0 ≤ x) (h3 : x ≤ 3) : (Go.bits .and .i64 x 1 != 0) = (Int.tmod x 2 == 1) := by
  have : x = 0 ∨ x = 1 ∨ x = 2 ∨ x = 3 := by omega
  rcases this with rfl | rfl | rfl | rfl <;> decide
theorem bits_two (x : Int) (h0 : 0 ≤ x) (h3 : x ≤ 3) : (Go.bits .and .i64 x 2 != 0) = decide (x > 1) := by
  have : x = 0 ∨ x = 1 ∨ x = 2 ∨ x = 3 := by omega
  rcases this with rfl | rfl | rfl | rfl <;> decide
theorem ev_oneL (x6 x9 : Int) (nm : ByteArray) (b1 b2 : Bool) : ∀ (m : Nat) (x8 : List Int) (acc : List S38), x8.length = 5 * m → acc.length + m ≤ 1000 →
    Ev (fun k => types_one.l0 k x6 x8 x9 nm b1 b2 acc) (nm, b1, b2, acc ++ flds x8, wrap64 (x6 + x9), 0) := by
  intro m
  induction m with
  | zero =>
    intro x8 acc h1 h2
    obtain rfl : x8 = [] := List.length_eq_zero_iff.1 h1
    refine Ev.step (f := fun k => some (nm, b1, b2, acc ++ flds [], wrap64 (x6 + x9), 0)) (fun k => ?_) (Ev.now _)
    simp only [types_one.l0]
    rw [if_neg (by simp)]
    simp [flds]
  | succ m ih =>
    intro x8 acc h1 h2
    match x8, h1 with
    | a :: b :: c :: d :: e :: r, h1 =>
      refine Ev.step (f := fun k => types_one.l0 k x6 r x9 nm b1 b2 (acc ++ [(⟨a, b, c, d, e⟩ : S38)])) (fun k => ?_) ?_
      · simp only [types_one.l0]
        have hl : ((a :: b :: c :: d :: e :: r).length : Int) = (r.length : Int) + 5 := by simp only [List.length_cons]; omega
        rw [hl]
        rw [if_pos (by omega), if_pos (by omega), if_pos (by omega), if_pos (by omega), if_pos (by omega), if_pos (by omega), if_pos (by omega), if_pos (by omega)]
        rfl
      · have := ih r (acc ++ [⟨a, b, c, d, e⟩]) (by simp only [List.length_cons] at h1; omega) (by simp; omega)
        simp only [flds]
        rw [List.append_assoc] at this
        exact this
    | [], h1 => simp at h1 <;> omega
    | [_], h1 => simp at h1 <;> omega
    | [_, _], h1 => simp at h1 <;> omega
    | [_, _, _], h1 => simp at h1 <;> omega
    | [_, _, _, _], h1 => simp at h1 <;> omega
theorem f_text (l : List Int) (hl : l.length ≤ 140737488355328) (hok : bytesOk l) : wire_TakeText.f l = some (takeText l) := by
  unfold wire_TakeText.f
  rw [if_pos ⟨hl, hok⟩]
theorem f_rtext (l : List Int) (hl : l.length ≤ 140737488355328) (hok : bytesOk l) : turnbuckleref04_TakeText.f l = some (takeText l) := by
  unfold turnbuckleref04_TakeText.f
  rw [if_pos ⟨hl, hok⟩]
theorem rd_zero_in (xs : List Int) (h : 0 < xs.length) : rd xs 0 ∈ xs := by
  have : rd xs 0 = xs[0] := by simp [rd, h]
  rw [this]
  exact List.getElem_mem h
theorem ev_one (l : List Int) (hl : l.length ≤ 140737488355328) (hok : bytesOk l) : Ev (fun k => types_one.f k l) (pOne l) := by
  unfold pOne
  by_cases h1 : (takeText l).2.2 = 0
  · rw [if_pos h1]
    have f1 := takeText_facts l hok h1
    have hev := ev_tInts (l.drop (takeText l).2.1.toNat) (drop_le l _ hl) (bytesOk_drop hok _)
    refine Ev.congr (f := fun k => (wire_TakeInts.f k (l.drop (takeText l).2.1.toNat)).bind _) (fun k => ?_) (Ev.bind (f := fun k bt130 => if bt130.2.2 = 0 then (if ((bt130.1.length : Int) % 5) = 1 then (if 0 < (bt130.1.length : Int) then (if (rd bt130.1 0) > 3 then (some ((⟨#[]⟩ : ByteArray), false, false, ([] : List (S38)), 0, 3)) else (if 1 ≤ (bt130.1.length : Int) then (types_one.l0 k (takeText l).2.1 (bt130.1.drop (1 : Int).toNat) bt130.2.1 (takeText l).1 ((Go.bits .and .i64 (rd bt130.1 0) 1) != 0) ((Go.bits .and .i64 (rd bt130.1 0) 2) != 0) ([] : List (S38))) else (none))) else (none)) else (some ((⟨#[]⟩ : ByteArray), false, false, ([] : List (S38)), 0, 3))) else (some ((⟨#[]⟩ : ByteArray), false, false, ([] : List (S38)), 0, bt130.2.2))) hev ?_)
    · unfold types_one.f
      rw [f_text l hl hok, Option.bind_some, if_pos h1, if_pos (by omega), if_pos f1.2.2]
    · generalize hI : tInts (l.drop (takeText l).2.1.toNat) = I
      by_cases h2 : I.2.2 = 0
      · rw [if_pos h2]
        have f2 := tInts_facts (l.drop (takeText l).2.1.toNat) (bytesOk_drop hok _) (by rw [hI]; exact h2)
        rw [hI, List.length_drop] at f2
        by_cases h3 : (I.1.length : Int) % 5 = 1
        · rw [if_pos h3]
          have hlen : 0 < I.1.length := by omega
          by_cases h4 : rd I.1 0 > 3
          · rw [if_pos h4]
            refine Ev.congr (f := fun k => some _) (fun k => ?_) (Ev.now _)
            rw [if_pos h2, if_pos h3, if_pos (by omega), if_pos h4]
          · rw [if_neg h4]
            have hr := f2.1 _ (rd_zero_in I.1 hlen)
            refine Ev.congr (f := fun k => types_one.l0 k (takeText l).2.1 (I.1.drop 1) I.2.1 (takeText l).1 (Int.tmod (rd I.1 0) 2 == 1) (decide (rd I.1 0 > 1)) []) (fun k => ?_) ?_
            · rw [if_pos h2, if_pos h3, if_pos (by omega), if_neg h4, if_pos (by omega), bits_one _ hr.1 (by omega), bits_two _ hr.1 (by omega)]
              rfl
            · have := ev_oneL (takeText l).2.1 I.2.1 (takeText l).1 (Int.tmod (rd I.1 0) 2 == 1) (decide (rd I.1 0 > 1)) ((I.1.length - 1) / 5) (I.1.drop 1) [] (by rw [List.length_drop]; omega) (by simp; omega)
              rw [wrap64_small _ (by omega) (by omega), List.nil_append] at this
              exact this
        · rw [if_neg h3]
          refine Ev.congr (f := fun k => some _) (fun k => ?_) (Ev.now _)
          rw [if_pos h2, if_neg h3]
      · rw [if_neg h2]
        refine Ev.congr (f := fun k => some _) (fun k => ?_) (Ev.now _)
        rw [if_neg h2]
  · rw [if_neg h1]
    refine Ev.congr (f := fun k => some _) (fun k => ?_) (Ev.now _)
    unfold types_one.f
    rw [f_text l hl hok, Option.bind_some, if_neg h1]
def Good (acc : List S41) : Prop := ∀ t ∈ acc, t.f0.size ≤ 16 ∧ t.f3.length ≤ 1000
theorem rd41_in (acc : List S41) (i : Nat) (h : i < acc.length) : rd_T41 acc i ∈ acc := by
  have : rd_T41 acc i = acc[i] := by simp [rd_T41, h]
  rw [this]
  exact List.getElem_mem h
theorem f_check (acc : List S41) (h : Good acc) : types_Check.f acc = some (allErrC acc) := by
  unfold types_Check.f
  rw [if_pos (fun i hi => by have := (h _ (rd41_in acc i hi)).1; omega)]
theorem f_rcheck (acc : List S41) (h : Good acc) : turnbuckleref05_Check.f acc = some (allErrC acc) := by
  unfold turnbuckleref05_Check.f
  rw [if_pos (fun i hi => by have := (h _ (rd41_in acc i hi)).1; omega)]
theorem Good.more {acc : List S41} (h : Good acc) (l : List Int) (hok : bytesOk l) (he : (pOne l).2.2.2.2.2 = 0) : Good (acc ++ [⟨(pOne l).1, (pOne l).2.1, (pOne l).2.2.1, (pOne l).2.2.2.1⟩]) := by
  intro t ht
  rw [List.mem_append, List.mem_singleton] at ht
  rcases ht with ht | rfl
  · exact h t ht
  · exact ⟨(pOne_facts l hok he).1, pOne_rows l hok⟩
theorem pOne_drop (l : List Int) (hok : bytesOk l) (a : Int) (ha0 : 0 ≤ a) (ha : a ≤ l.length) (h : (pOne (l.drop a.toNat)).2.2.2.2.2 = 0) : 1 ≤ (pOne (l.drop a.toNat)).2.2.2.2.1 ∧ a + (pOne (l.drop a.toNat)).2.2.2.2.1 ≤ l.length := by
  have := pOne_facts (l.drop a.toNat) (bytesOk_drop hok _) h
  rw [List.length_drop] at this
  omega
theorem ev_parseL (l : List Int) (hl : l.length ≤ 140737488355328) (hok : bytesOk l) (n : Nat) (hn : n ≤ 32) : ∀ (m j : Nat) (a : Int) (acc : List S41), n = j + m → 0 ≤ a → a ≤ l.length → acc.length = j → Good acc →
    Ev (fun k => types_Parse.l0 k l a acc n j) (pLoop l m a acc) := by
  intro m
  induction m with
  | zero =>
    intro j a acc h1 h2 h3 h4 h5
    refine Ev.step (f := fun k => some (pLoop l 0 a acc)) (fun k => ?_) (Ev.now _)
    simp only [types_Parse.l0, pLoop]
    rw [if_neg (by omega), f_check acc h5, Option.bind_some]
    split <;> rfl
  | succ m ih =>
    intro j a acc h1 h2 h3 h4 h5
    have hev := ev_one (l.drop a.toNat) (drop_le l _ hl) (bytesOk_drop hok _)
    refine Ev.step (f := fun k => (types_one.f k (l.drop a.toNat)).bind _) (fun k => ?_) (Ev.bind (f := fun k bt157 => if bt157.2.2.2.2.2 = 0 then (if acc.length < 2932031007402 then (types_Parse.l0 k l (wrap64 (a + bt157.2.2.2.2.1)) (acc ++ [(⟨bt157.1, bt157.2.1, bt157.2.2.1, bt157.2.2.2.1⟩ : S41)]) n (IntKind.u64.wrap (j + 1))) else (none)) else (some (([] : List (S41)), 0, bt157.2.2.2.2.2))) hev ?_)
    · simp only [types_Parse.l0]
      rw [if_pos (by omega), if_pos h2, if_pos h3]
    · unfold pLoop
      by_cases he : (pOne (l.drop a.toNat)).2.2.2.2.2 = 0
      · rw [if_pos he]
        have hf := pOne_drop l hok a h2 h3 he
        refine Ev.congr (f := fun k => types_Parse.l0 k l (a + (pOne (l.drop a.toNat)).2.2.2.2.1) (acc ++ [⟨(pOne (l.drop a.toNat)).1, (pOne (l.drop a.toNat)).2.1, (pOne (l.drop a.toNat)).2.2.1, (pOne (l.drop a.toNat)).2.2.2.1⟩]) n ((j + 1 : Nat) : Int)) (fun k => ?_) (ih (j + 1) _ _ (by omega) (by omega) (by omega) (by simp [h4]) (h5.more _ (bytesOk_drop hok _) he))
        rw [if_pos he, if_pos (by omega), wrap64_small _ (by omega) (by omega), wrapu j (by omega)]
      · rw [if_neg he]
        refine Ev.congr (f := fun k => some _) (fun k => ?_) (Ev.now _)
        rw [if_neg he]
theorem ev_parse (l : List Int) (hl : l.length ≤ 140737488355328) (hok : bytesOk l) : Ev (fun k => types_Parse.f k l) (pAll l) := by
  unfold pAll
  by_cases he : (takeNum l).2.2 = 0
  · rw [if_pos he]
    have hf := takeNum_facts l hok he
    by_cases hb : (takeNum l).1 > 32
    · rw [if_pos hb]
      refine Ev.congr (f := fun k => some _) (fun k => ?_) (Ev.now _)
      unfold types_Parse.f
      rw [f_num l hl hok, Option.bind_some, if_pos he, if_pos hb]
    · rw [if_neg hb]
      refine Ev.congr (f := fun k => types_Parse.l0 k l (takeNum l).2.1 [] ((takeNum l).1.toNat : Nat) ((0 : Nat) : Int)) (fun k => ?_) (ev_parseL l hl hok _ (by omega) _ 0 _ [] (by omega) (by omega) (by omega) rfl (fun t ht => by simp at ht))
      unfold types_Parse.f
      rw [f_num l hl hok, Option.bind_some, if_pos he, if_neg hb, Int.toNat_of_nonneg (by omega)]
      rfl
  · rw [if_neg he]
    refine Ev.congr (f := fun k => some _) (fun k => ?_) (Ev.now _)
    unfold types_Parse.f
    rw [f_num l hl hok, Option.bind_some, if_neg he]
theorem rd_in (xs : List Int) (q i : Nat) (hi : q + i < xs.length) : rd xs ((q : Int) + (i : Int)) = xs[q + i] := by
  have e : ((q : Int) + (i : Int)) = ((q + i : Nat) : Int) := by omega
  unfold rd
  rw [e, Int.toNat_natCast, List.getD_eq_getElem?_getD, List.getElem?_eq_getElem hi]
  rfl
set_option maxHeartbeats 4000000 in
theorem ev_rL1 (x0 : List Int) (x5 x6 : Int) (x8 : List S41) (hx8 : x8.length ≤ 1000) (x9 : Int) (x13 : List Int) (hx : x13.length ≤ 100000) (nm : ByteArray) (b1 b2 : Bool) (r : List S41 × Int × Int) : ∀ (m q : Nat) (acc : List S38), x13.length = q + 5 * m → acc.length + m ≤ 100000 →
    Ev (fun k => turnbuckleref05_Parse.l0 k x0 x5 x6 (x8 ++ [⟨nm, b1, b2, acc ++ flds (x13.drop q)⟩]) (wrap64 (x9 + 1))) r → Ev (fun k => turnbuckleref05_Parse.l1 k x0 x5 x6 x8 x9 x13 q nm b1 b2 acc) r := by
  intro m
  induction m with
  | zero =>
    intro q acc h1 h2 h
    rw [List.drop_of_length_le (by omega)] at h
    refine Ev.step (f := fun k => turnbuckleref05_Parse.l0 k x0 x5 x6 (x8 ++ [⟨nm, b1, b2, acc⟩]) (wrap64 (x9 + 1))) (fun k => ?_) (by simpa [flds] using h)
    simp only [turnbuckleref05_Parse.l1]
    rw [if_neg (by omega), if_pos (by omega)]
  | succ m ih =>
    intro q acc h1 h2 h
    have hq0 : q < x13.length := by omega
    have hq1 : q + 1 < x13.length := by omega
    have hq2 : q + 2 < x13.length := by omega
    have hq3 : q + 3 < x13.length := by omega
    have hq4 : q + 4 < x13.length := by omega
    have c0 : (q : Int) < (x13.length : Int) := by omega
    have c1 : (q : Int) + 1 < (x13.length : Int) := by omega
    have c2 : (q : Int) + 2 < (x13.length : Int) := by omega
    have c3 : (q : Int) + 3 < (x13.length : Int) := by omega
    have c4 : (q : Int) + 4 < (x13.length : Int) := by omega
    have z0 : (0 : Int) ≤ (q : Int) := by omega
    have z1 : (0 : Int) ≤ (q : Int) + 1 := by omega
    have z2 : (0 : Int) ≤ (q : Int) + 2 := by omega
    have z3 : (0 : Int) ≤ (q : Int) + 3 := by omega
    have z4 : (0 : Int) ≤ (q : Int) + 4 := by omega
    have ca : acc.length < 3518437208883 := by omega
    have cq : ((q + 5 : Nat) : Int) = (q : Int) + 5 := by omega
    have w1 := wrap64_small ((q : Int) + 1) (by omega) (by omega)
    have w2 := wrap64_small ((q : Int) + 2) (by omega) (by omega)
    have w3 := wrap64_small ((q : Int) + 3) (by omega) (by omega)
    have w4 := wrap64_small ((q : Int) + 4) (by omega) (by omega)
    have w5 := wrap64_small ((q : Int) + 5) (by omega) (by omega)
    have hx5 : x13.length = q + 5 + 5 * m := by omega
    have ha5 : ∀ y : S38, (acc ++ [y]).length + m ≤ 100000 := fun y => by rw [List.length_append, List.length_singleton]; omega
    have d0 : x13.drop q = x13[q] :: x13.drop (q + 1) := List.drop_eq_getElem_cons hq0
    have d1 : x13.drop (q + 1) = x13[q + 1] :: x13.drop (q + 2) := List.drop_eq_getElem_cons hq1
    have d2 : x13.drop (q + 2) = x13[q + 2] :: x13.drop (q + 3) := List.drop_eq_getElem_cons hq2
    have d3 : x13.drop (q + 3) = x13[q + 3] :: x13.drop (q + 4) := List.drop_eq_getElem_cons hq3
    have d4 : x13.drop (q + 4) = x13[q + 4] :: x13.drop (q + 5) := List.drop_eq_getElem_cons hq4
    rw [d0, d1, d2, d3, d4] at h
    simp only [flds] at h
    have e0 : rd x13 (q : Int) = x13[q] := by have := rd_in x13 q 0 hq0; rw [show ((q : Int) + ((0 : Nat) : Int)) = (q : Int) from Int.add_zero _] at this; exact this
    have e1 : rd x13 ((q : Int) + 1) = x13[q + 1] := rd_in x13 q 1 hq1
    have e2 : rd x13 ((q : Int) + 2) = x13[q + 2] := rd_in x13 q 2 hq2
    have e3 : rd x13 ((q : Int) + 3) = x13[q + 3] := rd_in x13 q 3 hq3
    have e4 : rd x13 ((q : Int) + 4) = x13[q + 4] := rd_in x13 q 4 hq4
    refine Ev.step (f := fun k => turnbuckleref05_Parse.l1 k x0 x5 x6 x8 x9 x13 ((q + 5 : Nat) : Int) nm b1 b2 (acc ++ [(⟨x13[q], x13[q + 1], x13[q + 2], x13[q + 3], x13[q + 4]⟩ : S38)])) (fun k => ?_) (ih (q + 5) (acc ++ [(⟨x13[q], x13[q + 1], x13[q + 2], x13[q + 3], x13[q + 4]⟩ : S38)]) hx5 (ha5 _) ?_)
    · rw [turnbuckleref05_Parse.l1, w1, w2, w3, w4, w5, e0, e1, e2, e3, e4, if_pos c0, if_pos z0, if_pos z1, if_pos c1, if_pos z2, if_pos c2, if_pos z3, if_pos c3, if_pos z4, if_pos c4, if_pos ca, cq]
    · rw [List.append_assoc]
      exact h
theorem drop_two (l : List Int) (a b : Int) (ha : 0 ≤ a) (hb : 0 ≤ b) : (l.drop a.toNat).drop b.toNat = l.drop (a + b).toNat := by
  rw [List.drop_drop]
  congr 1
  omega
theorem ev_rparseL (l : List Int) (hl : l.length ≤ 140737488355328) (hok : bytesOk l) (n : Nat) (hn : n ≤ 32) : ∀ (m j : Nat) (a : Int) (acc : List S41), n = j + m → 0 ≤ a → a ≤ l.length → acc.length = j → Good acc →
    Ev (fun k => turnbuckleref05_Parse.l0 k l n a acc j) (pLoop l m a acc) := by
  intro m
  have hw : wrap64 (n : Int) = n := wrap64_small _ (by omega) (by omega)
  induction m with
  | zero =>
    intro j a acc h1 h2 h3 h4 h5
    refine Ev.step (f := fun k => some (pLoop l 0 a acc)) (fun k => ?_) (Ev.now _)
    simp only [turnbuckleref05_Parse.l0, pLoop]
    rw [hw, if_neg (by omega), f_rcheck acc h5, Option.bind_some]
    split <;> rfl
  | succ m ih =>
    intro j a acc h1 h2 h3 h4 h5
    have IH := ih (j + 1)
    clear ih
    have hDl := drop_le l a.toNat hl
    have hDo := bytesOk_drop hok a.toNat
    have htext := f_rtext (l.drop a.toNat) hDl hDo
    have hlenD : (l.drop a.toNat).length = l.length - a.toNat := List.length_drop
    unfold pLoop
    have hfacts := pOne_drop l hok a h2 h3
    have hgood := fun he => h5.more (l.drop a.toNat) hDo he
    revert hfacts hgood
    have hpo : pOne (l.drop a.toNat) = pOne (l.drop a.toNat) := rfl
    revert hpo
    generalize hP : pOne (l.drop a.toNat) = P
    intro _ hfacts hgood
    unfold pOne at hP
    by_cases h1' : (takeText (l.drop a.toNat)).2.2 = 0
    · rw [if_pos h1'] at hP
      have f1 := takeText_facts _ hDo h1'
      have hsum : wrap64 (a + (takeText (l.drop a.toNat)).2.1) = a + (takeText (l.drop a.toNat)).2.1 := wrap64_small _ (by omega) (by omega)
      have hdd := drop_two l a (takeText (l.drop a.toNat)).2.1 h2 (by omega)
      rw [hdd] at hP
      have hev := ev_rtInts (l.drop (a + (takeText (l.drop a.toNat)).2.1).toNat) (drop_le l _ hl) (bytesOk_drop hok _)
      refine Ev.step (f := fun k => (turnbuckleref04_TakeInts.f k (l.drop (a + (takeText (l.drop a.toNat)).2.1).toNat)).bind _) (fun k => ?_) (Ev.bind (f := fun k bt216 => if bt216.2.2 = 0 then (if ((bt216.1.length : Int) % 5) = 1 then (if 0 < (bt216.1.length : Int) then (turnbuckleref05_Parse.j1 k l n (wrap64 ((a + (takeText (l.drop a.toNat)).2.1) + bt216.2.1)) acc j (takeText (l.drop a.toNat)).1 bt216.1 (decide ((rd bt216.1 0) > 3))) else (none)) else (turnbuckleref05_Parse.j1 k l n (wrap64 ((a + (takeText (l.drop a.toNat)).2.1) + bt216.2.1)) acc j (takeText (l.drop a.toNat)).1 bt216.1 true)) else (some (([] : List (S41)), 0, bt216.2.2))) hev ?_)
      · simp only [turnbuckleref05_Parse.l0]
        rw [hw, if_pos (by omega), if_pos h2, if_pos h3, htext, Option.bind_some, if_pos h1', hsum, if_pos (by omega), if_pos (by omega)]
      · have f2 := tInts_facts (l.drop (a + (takeText (l.drop a.toNat)).2.1).toNat) (bytesOk_drop hok _)
        rw [List.length_drop] at f2
        generalize tInts (l.drop (a + (takeText (l.drop a.toNat)).2.1).toNat) = I at *
        generalize takeText (l.drop a.toNat) = T at *
        by_cases h2' : I.2.2 = 0
        · rw [if_pos h2'] at hP
          have f2' := f2 h2'
          have hs2 : wrap64 (a + T.2.1 + I.2.1) = a + T.2.1 + I.2.1 := wrap64_small _ (by omega) (by omega)
          by_cases h3' : (I.1.length : Int) % 5 = 1
          · rw [if_pos h3'] at hP
            have hlen : 0 < I.1.length := by omega
            by_cases h4' : rd I.1 0 > 3
            · rw [if_pos h4'] at hP
              subst hP
              rw [if_neg (by simp)]
              refine Ev.congr (f := fun k => turnbuckleref05_Parse.j1 k l n (wrap64 (a + T.2.1 + I.2.1)) acc j T.1 I.1 true) (fun k => ?_) (Ev.step (f := fun k => some _) (fun k => ?_) (Ev.now _))
              · rw [if_pos h2', if_pos h3', if_pos (by omega), decide_eq_true h4']
              · simp only [turnbuckleref05_Parse.j1]
                rw [if_pos trivial]
            · rw [if_neg h4'] at hP
              subst hP
              simp only at hfacts hgood ⊢
              rw [if_pos trivial]
              refine Ev.congr (f := fun k => turnbuckleref05_Parse.j1 k l n (a + T.2.1 + I.2.1) acc j T.1 I.1 false) (fun k => ?_) (Ev.step (f := fun k => turnbuckleref05_Parse.l1 k l n (a + T.2.1 + I.2.1) acc j I.1 ((1 : Nat) : Int) T.1 (Int.tmod (rd I.1 0) 2 == 1) (decide (rd I.1 0 > 1)) []) (fun k => ?_) (ev_rL1 l n _ acc (by omega) j I.1 (by omega) _ _ _ _ ((I.1.length - 1) / 5) 1 [] (by omega) (by simp; omega) ?_))
              · rw [if_pos h2', if_pos h3', if_pos (by omega), decide_eq_false h4', hs2]
              · simp only [turnbuckleref05_Parse.j1]
                rw [if_neg (by simp), if_pos (by omega)]
                rfl
              · rw [wrap64_small ((j : Int) + 1) (by omega) (by omega), List.nil_append]
                have hass : a + T.2.1 + I.2.1 = a + (T.2.1 + I.2.1) := by omega
                rw [hass]
                exact IH _ _ (by omega) (by omega) (by have := hfacts trivial; omega) (by simp [h4]) (hgood trivial)
          · rw [if_neg h3'] at hP
            subst hP
            rw [if_neg (by simp)]
            refine Ev.congr (f := fun k => turnbuckleref05_Parse.j1 k l n (wrap64 (a + T.2.1 + I.2.1)) acc j T.1 I.1 true) (fun k => ?_) (Ev.step (f := fun k => some _) (fun k => ?_) (Ev.now _))
            · rw [if_pos h2', if_neg h3']
            · simp only [turnbuckleref05_Parse.j1]
              rw [if_pos trivial]
        · rw [if_neg h2'] at hP
          subst hP
          rw [if_neg (by simpa using h2')]
          refine Ev.congr (f := fun k => some _) (fun k => ?_) (Ev.now _)
          rw [if_neg h2']
    · rw [if_neg h1'] at hP
      subst hP
      rw [if_neg (by simpa using h1')]
      refine Ev.step (f := fun k => some _) (fun k => ?_) (Ev.now _)
      simp only [turnbuckleref05_Parse.l0]
      rw [hw, if_pos (by omega), if_pos h2, if_pos h3, htext, Option.bind_some, if_neg h1']
theorem ev_rparse (l : List Int) (hl : l.length ≤ 140737488355328) (hok : bytesOk l) : Ev (fun k => turnbuckleref05_Parse.f k l) (pAll l) := by
  unfold pAll
  by_cases he : (takeNum l).2.2 = 0
  · rw [if_pos he]
    have hf := takeNum_facts l hok he
    by_cases hb : (takeNum l).1 > 32
    · rw [if_pos hb]
      refine Ev.congr (f := fun k => some _) (fun k => ?_) (Ev.now _)
      unfold turnbuckleref05_Parse.f
      rw [f_rnum l hl hok, Option.bind_some, if_pos he, if_pos hb]
    · rw [if_neg hb]
      refine Ev.congr (f := fun k => turnbuckleref05_Parse.l0 k l ((takeNum l).1.toNat : Nat) (takeNum l).2.1 [] ((0 : Nat) : Int)) (fun k => ?_) (ev_rparseL l hl hok _ (by omega) _ 0 _ [] (by omega) (by omega) (by omega) rfl (fun t ht => by simp at ht))
      unfold turnbuckleref05_Parse.f
      rw [f_rnum l hl hok, Option.bind_some, if_pos he, if_neg hb, Int.toNat_of_nonneg (by omega)]
      rfl
  · rw [if_neg he]
    refine Ev.congr (f := fun k => some _) (fun k => ?_) (Ev.now _)
    unfold turnbuckleref05_Parse.f
    rw [f_rnum l hl hok, Option.bind_some, if_neg he]
theorem pLoop_good (l : List Int) (hok : bytesOk l) : ∀ (m : Nat) (a : Int) (acc : List S41), acc.length + m ≤ 32 → Good acc → Good (pLoop l m a acc).1 ∧ (pLoop l m a acc).1.length ≤ 32
  | 0, a, acc, h1, h2 => by
    unfold pLoop
    split
    · exact ⟨h2, by simpa using h1⟩
    · exact ⟨fun t ht => by simp at ht, by simp⟩
  | m + 1, a, acc, h1, h2 => by
    unfold pLoop
    split
    · rename_i he
      exact pLoop_good l hok m _ _ (by simp; omega) (h2.more _ (bytesOk_drop hok _) he)
    · exact ⟨fun t ht => by simp at ht, by simp⟩
theorem pAll_good (l : List Int) (hok : bytesOk l) : Good (pAll l).1 ∧ (pAll l).1.length ≤ 32 := by
  unfold pAll
  split
  · split
    · exact ⟨fun t ht => by simp at ht, by simp⟩
    · exact pLoop_good l hok _ _ [] (by simp; omega) (fun t ht => by simp at ht)
  · exact ⟨fun t ht => by simp at ht, by simp⟩
theorem ev_same1 (l : List S41) (i : Nat) (hi : i < l.length) (hl : l.length ≤ 32) (h12 : (rd_T41 l i).f3.length ≤ 1000) (r : Bool) (h : Ev (fun k => turnbuckleref05_Same.l0 k l l ((i + 1 : Nat) : Int)) r) : ∀ (m q : Nat), (rd_T41 l i).f3.length = q + m → Ev (fun k => turnbuckleref05_Same.l1 k l l i q) r := by
  intro m
  induction m with
  | zero =>
    intro q hq
    refine Ev.step (f := fun k => turnbuckleref05_Same.l0 k l l ((i + 1 : Nat) : Int)) (fun k => ?_) h
    simp only [turnbuckleref05_Same.l1]
    rw [if_pos (by omega), if_pos (by omega), if_neg (by omega), wrap64_small ((i : Int) + 1) (by omega) (by omega)]
    rfl
  | succ m ih =>
    intro q hq
    refine Ev.step (f := fun k => turnbuckleref05_Same.l1 k l l i ((q + 1 : Nat) : Int)) (fun k => ?_) (ih (q + 1) (by omega))
    simp only [turnbuckleref05_Same.l1]
    rw [if_pos (by omega), if_pos (by omega), if_pos (by omega), if_pos (by omega), if_pos (by omega), if_pos (by omega), if_neg (by simp), wrap64_small ((q : Int) + 1) (by omega) (by omega)]
    rfl
theorem ev_same0 (l : List S41) (hl : l.length ≤ 32) (hg : Good l) : ∀ (m i : Nat), l.length = i + m → Ev (fun k => turnbuckleref05_Same.l0 k l l i) true := by
  intro m
  induction m with
  | zero =>
    intro i hi
    refine Ev.step (f := fun k => some true) (fun k => ?_) (Ev.now _)
    simp only [turnbuckleref05_Same.l0]
    rw [if_neg (by omega)]
  | succ m ih =>
    intro i hi
    have hgi := (hg _ (rd41_in l i (by omega))).2
    refine Ev.step (f := fun k => turnbuckleref05_Same.j1 k l l i false) (fun k => ?_) (Ev.step (f := fun k => turnbuckleref05_Same.l1 k l l i ((0 : Nat) : Int)) (fun k => ?_) (ev_same1 l i (by omega) hl hgi true (ih (i + 1) (by omega)) (rd_T41 l i).f3.length 0 (by omega)))
    · simp only [turnbuckleref05_Same.l0]
      rw [if_pos (by omega), if_pos (by omega), if_pos (by omega)]
      simp
    · simp only [turnbuckleref05_Same.j1]
      rw [if_neg (by simp)]
      rfl
theorem ev_same (l : List S41) (hl : l.length ≤ 32) (hg : Good l) : Ev (fun k => turnbuckleref05_Same.f k l l) true := by
  refine Ev.congr (f := fun k => turnbuckleref05_Same.l0 k l l ((0 : Nat) : Int)) (fun k => ?_) (ev_same0 l hl hg l.length 0 (by omega))
  unfold turnbuckleref05_Same.f
  rw [if_pos rfl]
  rfl
theorem TypesParses : turnbucklelaw05_TypesParses.Pure := by
  intro l0 h1 h2 h3
  have hok : bytesOk l0 := fun x hx => by
    have := h3 x hx
    simp [Lit.wf, IntKind.min, IntKind.max, IntKind.signed, IntKind.bits] at this
    omega
  have hl : l0.length ≤ 140737488355328 := by omega
  have hg := pAll_good l0 hok
  have hev : Ev (fun k => turnbucklelaw05_TypesParses.f k l0) true := by
    refine Ev.congr (f := fun k => (types_Parse.f k l0).bind _) (fun k => ?_) (Ev.bind (f := fun k bt250 => ((turnbuckleref05_Parse.f k l0).bind fun bt255 => ((turnbuckleref05_Same.f k bt250.1 bt255.1).bind fun t260 => (if true = true then (if t260 = true then (if bt250.2.1 = bt255.2.1 then (some (bt250.2.2 == bt255.2.2)) else (some false)) else (some false)) else (some false))))) (ev_parse l0 hl hok) ?_)
    · unfold turnbucklelaw05_TypesParses.f turnbucklelaw05_shown.f
      rfl
    · refine Ev.bind (f := fun k bt255 => ((turnbuckleref05_Same.f k (pAll l0).1 bt255.1).bind fun t260 => (if true = true then (if t260 = true then (if (pAll l0).2.1 = bt255.2.1 then (some ((pAll l0).2.2 == bt255.2.2)) else (some false)) else (some false)) else (some false)))) (ev_rparse l0 hl hok) ?_
      refine Ev.bind (f := fun k t260 => (if true = true then (if t260 = true then (if (pAll l0).2.1 = (pAll l0).2.1 then (some ((pAll l0).2.2 == (pAll l0).2.2)) else (some false)) else (some false)) else (some false))) (ev_same (pAll l0).1 hg.2 hg.1) ?_
      refine Ev.congr (f := fun k => some true) (fun k => ?_) (Ev.now _)
      simp
  exact hev.rounds
end Go.Proofs.Ytckijljnomojiaa.Pure
