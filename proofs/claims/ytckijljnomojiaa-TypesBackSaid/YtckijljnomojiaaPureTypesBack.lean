/- The pure part of TypesBack: Bytes lays a list of types down, Parse reads the same list and place back whatever stands behind, and what Parse read Bytes lays down as the very bytes. -/
import Derived.Test.YtckijljnomojiaaPTypesBackx9
namespace Go.Proofs.Ytckijljnomojiaa.PureBack
open Go.RowKit Go.Proofs.Ytckijljnomojiaa.PTypesBack Go.Proofs.YtckijljnomojiaaW.PrintWords Go.Proofs.YtckijljnomojiaaW.PrintLast
set_option linter.unusedVariables false
set_option linter.unusedSimpArgs false
/-- the fields, five numbers each -/
def flds : List Int → List S38
  | a :: b :: c :: d :: e :: r => ⟨a, b, c, d, e⟩ :: flds r
  | _ => []
def tLoop (l : List Int) : Nat → Int → List Int → List Int × Int × Int
  | 0, at_, acc => (acc, at_, 0)
  | m + 1, at_, acc => if (takeNum (l.drop at_.toNat)).2.2 = 0 then (if (takeNum (l.drop at_.toNat)).1 > 2147483647 then ([], 0, 4) else tLoop l m (at_ + (takeNum (l.drop at_.toNat)).2.1) (acc ++ [(takeNum (l.drop at_.toNat)).1])) else ([], 0, (takeNum (l.drop at_.toNat)).2.2)
def tInts (l : List Int) : List Int × Int × Int :=
  if (takeNum l).2.2 = 0 then (if (takeNum l).1 > 1000 then ([], 0, 11) else tLoop l (takeNum l).1.toNat (takeNum l).2.1 []) else ([], 0, (takeNum l).2.2)
def pOne (l : List Int) : ByteArray × Bool × Bool × List S38 × Int × Int :=
  if (takeText l).2.2 = 0 then
    (if (tInts (l.drop (takeText l).2.1.toNat)).2.2 = 0 then
      (if ((tInts (l.drop (takeText l).2.1.toNat)).1.length : Int) % 5 = 1 then
        (if rd (tInts (l.drop (takeText l).2.1.toNat)).1 0 > 3 then (⟨#[]⟩, false, false, [], 0, 3)
         else ((takeText l).1, Int.tmod (rd (tInts (l.drop (takeText l).2.1.toNat)).1 0) 2 == 1, decide (rd (tInts (l.drop (takeText l).2.1.toNat)).1 0 > 1), flds ((tInts (l.drop (takeText l).2.1.toNat)).1.drop 1), (takeText l).2.1 + (tInts (l.drop (takeText l).2.1.toNat)).2.1, 0))
       else (⟨#[]⟩, false, false, [], 0, 3))
     else (⟨#[]⟩, false, false, [], 0, (tInts (l.drop (takeText l).2.1.toNat)).2.2))
  else (⟨#[]⟩, false, false, [], 0, (takeText l).2.2)
def pLoop (l : List Int) : Nat → Int → List S41 → List S41 × Int × Int
  | 0, at_, acc => if (allErrC acc).2 = 0 then (acc, at_, 0) else ([], 0, (allErrC acc).2)
  | m + 1, at_, acc => if (pOne (l.drop at_.toNat)).2.2.2.2.2 = 0 then pLoop l m (at_ + (pOne (l.drop at_.toNat)).2.2.2.2.1) (acc ++ [⟨(pOne (l.drop at_.toNat)).1, (pOne (l.drop at_.toNat)).2.1, (pOne (l.drop at_.toNat)).2.2.1, (pOne (l.drop at_.toNat)).2.2.2.1⟩]) else ([], 0, (pOne (l.drop at_.toNat)).2.2.2.2.2)
def pAll (l : List Int) : List S41 × Int × Int :=
  if (takeNum l).2.2 = 0 then (if (takeNum l).1 > 32 then ([], 0, 11) else pLoop l (takeNum l).1.toNat (takeNum l).2.1 []) else ([], 0, (takeNum l).2.2)

theorem bytesOk_drop {l : List Int} (h : bytesOk l) (n : Nat) : bytesOk (l.drop n) := fun x hx => h x (List.mem_of_mem_drop hx)
theorem wrapu (j : Nat) (h : j < 10000) : IntKind.u64.wrap ((j : Int) + 1) = ((j + 1 : Nat) : Int) := by simp [IntKind.wrap, IntKind.bits, IntKind.signed]; omega
theorem wrap64_small (x : Int) (h0 : 0 ≤ x) (h1 : x ≤ 9223372036854775807) : wrap64 x = x := by unfold wrap64; omega
theorem takeNum_drop (l : List Int) (hok : bytesOk l) (a : Int) (ha0 : 0 ≤ a) (ha : a ≤ l.length) (h : (takeNum (l.drop a.toNat)).2.2 = 0) : 0 ≤ (takeNum (l.drop a.toNat)).1 ∧ (takeNum (l.drop a.toNat)).1 < 18446744073709551616 ∧ 1 ≤ (takeNum (l.drop a.toNat)).2.1 ∧ a + (takeNum (l.drop a.toNat)).2.1 ≤ l.length := by
  have := takeNum_facts (l.drop a.toNat) (bytesOk_drop hok _) h
  rw [List.length_drop] at this
  omega
theorem tLoop_facts (l : List Int) (hok : bytesOk l) : ∀ (m : Nat) (a : Int) (acc : List Int), 0 ≤ a → a ≤ l.length → (∀ x ∈ acc, 0 ≤ x ∧ x ≤ 2147483647) → (tLoop l m a acc).2.2 = 0 → (∀ x ∈ (tLoop l m a acc).1, 0 ≤ x ∧ x ≤ 2147483647) ∧ a ≤ (tLoop l m a acc).2.1 ∧ (tLoop l m a acc).2.1 ≤ l.length ∧ (tLoop l m a acc).1.length = acc.length + m := by
  intro m
  induction m with
  | zero => intro a acc h0 h1 h2 h; exact ⟨h2, by simp [tLoop], by simpa [tLoop] using h1, by simp [tLoop]⟩
  | succ m ih =>
    intro a acc h0 h1 h2 h
    unfold tLoop at h ⊢
    by_cases he : (takeNum (l.drop a.toNat)).2.2 = 0
    · rw [if_pos he] at h ⊢
      by_cases hb : (takeNum (l.drop a.toNat)).1 > 2147483647
      · rw [if_pos hb] at h; simp at h
      · rw [if_neg hb] at h ⊢
        have hf := takeNum_drop l hok a h0 h1 he
        have := ih (a + (takeNum (l.drop a.toNat)).2.1) (acc ++ [(takeNum (l.drop a.toNat)).1]) (by omega) (by omega) (by
          intro x hx
          rw [List.mem_append, List.mem_singleton] at hx
          rcases hx with hx | rfl
          · exact h2 x hx
          · omega) h
        refine ⟨this.1, by omega, this.2.2.1, by rw [this.2.2.2]; simp; omega⟩
    · rw [if_neg he] at h
      exact absurd h he
theorem tInts_facts (l : List Int) (hok : bytesOk l) (h : (tInts l).2.2 = 0) : (∀ x ∈ (tInts l).1, 0 ≤ x ∧ x ≤ 2147483647) ∧ 1 ≤ (tInts l).2.1 ∧ (tInts l).2.1 ≤ l.length ∧ (tInts l).1.length ≤ 1000 := by
  unfold tInts at h ⊢
  by_cases he : (takeNum l).2.2 = 0
  · rw [if_pos he] at h ⊢
    by_cases hb : (takeNum l).1 > 1000
    · rw [if_pos hb] at h; simp at h
    · rw [if_neg hb] at h ⊢
      have hf := takeNum_facts l hok he
      have := tLoop_facts l hok _ _ [] (by omega) (by omega) (by simp) h
      refine ⟨this.1, by omega, this.2.2.1, by rw [this.2.2.2]; simp; omega⟩
  · rw [if_neg he] at h
    exact absurd h he
theorem takeText_facts (l : List Int) (hok : bytesOk l) (h : (takeText l).2.2 = 0) : (takeText l).1.size ≤ 16 ∧ 1 ≤ (takeText l).2.1 ∧ (takeText l).2.1 ≤ l.length := by
  unfold takeText at h ⊢
  by_cases he : (takeNum l).2.2 ≠ 0
  · rw [if_pos he] at h; exact absurd h he
  · rw [if_neg he] at h ⊢
    have hf := takeNum_facts l hok (by omega)
    by_cases h1 : (takeNum l).1 < 1 ∨ 16 < (takeNum l).1
    · rw [if_pos h1] at h; simp at h
    · rw [if_neg h1] at h ⊢
      by_cases h2 : (l.length : Int) - (takeNum l).2.1 < (takeNum l).1
      · rw [if_pos h2] at h; simp at h
      · rw [if_neg h2] at h ⊢
        split at h
        · rename_i h3
          rw [if_pos h3]
          refine ⟨?_, by simp only []; omega, by simp only []; omega⟩
          unfold nameAll at h3
          simp only [Bool.and_eq_true, decide_eq_true_eq] at h3
          exact h3.2
        · simp at h
theorem flds_length (l : List Int) : (flds l).length ≤ l.length := by
  fun_induction flds l with
  | case1 a b c d e r ih => simp only [List.length_cons]; omega
  | case2 l h => simp
theorem pOne_facts (l : List Int) (hok : bytesOk l) (h : (pOne l).2.2.2.2.2 = 0) : (pOne l).1.size ≤ 16 ∧ 1 ≤ (pOne l).2.2.2.2.1 ∧ (pOne l).2.2.2.2.1 ≤ l.length := by
  unfold pOne at h ⊢
  by_cases h1 : (takeText l).2.2 = 0
  · rw [if_pos h1] at h ⊢
    have f1 := takeText_facts l hok h1
    by_cases h2 : (tInts (l.drop (takeText l).2.1.toNat)).2.2 = 0
    · rw [if_pos h2] at h ⊢
      have f2 := tInts_facts _ (bytesOk_drop hok _) h2
      rw [List.length_drop] at f2
      by_cases h3 : ((tInts (l.drop (takeText l).2.1.toNat)).1.length : Int) % 5 = 1
      · rw [if_pos h3] at h ⊢
        by_cases h4 : rd (tInts (l.drop (takeText l).2.1.toNat)).1 0 > 3
        · rw [if_pos h4] at h; simp at h
        · rw [if_neg h4]
          refine ⟨f1.1, by simp only []; omega, by simp only []; omega⟩
      · rw [if_neg h3] at h; simp at h
    · rw [if_neg h2] at h; exact absurd h h2
  · rw [if_neg h1] at h; exact absurd h h1
theorem f_num (l : List Int) (hl : l.length ≤ 140737488355328) (hok : bytesOk l) : wire_TakeNumber.f l = some (takeNum l) := by
  unfold wire_TakeNumber.f
  rw [if_pos ⟨by omega, hok⟩]
theorem drop_le (l : List Int) (n : Nat) (hl : l.length ≤ 140737488355328) : (l.drop n).length ≤ 140737488355328 := by rw [List.length_drop]; omega
theorem ev_ints (l : List Int) (hl : l.length ≤ 140737488355328) (hok : bytesOk l) (n : Nat) (hn : n ≤ 1000) : ∀ (m j : Nat) (a : Int) (acc : List Int), n = j + m → 0 ≤ a → a ≤ l.length → acc.length = j →
    Ev (fun k => wire_TakeInts.l0 k l a acc n j) (tLoop l m a acc) := by
  intro m
  induction m with
  | zero =>
    intro j a acc h1 h2 h3 h4
    refine Ev.step (f := fun k => some (acc, a, 0)) (fun k => ?_) (Ev.now _)
    simp only [wire_TakeInts.l0]
    rw [if_neg (by omega)]
  | succ m ih =>
    intro j a acc h1 h2 h3 h4
    unfold tLoop
    have hnum := f_num (l.drop a.toNat) (drop_le l _ hl) (bytesOk_drop hok _)
    by_cases he : (takeNum (l.drop a.toNat)).2.2 = 0
    · rw [if_pos he]
      have hf := takeNum_drop l hok a h2 h3 he
      by_cases hb : (takeNum (l.drop a.toNat)).1 > 2147483647
      · rw [if_pos hb]
        refine Ev.step (f := fun k => some ([], 0, 4)) (fun k => ?_) (Ev.now _)
        simp only [wire_TakeInts.l0]
        rw [if_pos (by omega), if_pos h2, if_pos h3, hnum, Option.bind_some, if_pos he, if_pos hb]
      · rw [if_neg hb]
        refine Ev.step (f := fun k => wire_TakeInts.l0 k l (a + (takeNum (l.drop a.toNat)).2.1) (acc ++ [(takeNum (l.drop a.toNat)).1]) n ((j + 1 : Nat) : Int)) (fun k => ?_) (ih (j + 1) _ _ (by omega) (by omega) (by omega) (by simp [h4]))
        simp only [wire_TakeInts.l0]
        rw [if_pos (by omega), if_pos h2, if_pos h3, hnum, Option.bind_some, if_pos he, if_neg hb, if_pos (by omega), wrap64_small _ (by omega) (by omega), wrap64_small _ (by omega) (by omega), wrapu j (by omega)]
    · rw [if_neg he]
      refine Ev.step (f := fun k => some ([], 0, (takeNum (l.drop a.toNat)).2.2)) (fun k => ?_) (Ev.now _)
      simp only [wire_TakeInts.l0]
      rw [if_pos (by omega), if_pos h2, if_pos h3, hnum, Option.bind_some, if_neg he]
theorem ev_tInts (l : List Int) (hl : l.length ≤ 140737488355328) (hok : bytesOk l) : Ev (fun k => wire_TakeInts.f k l) (tInts l) := by
  unfold tInts
  by_cases he : (takeNum l).2.2 = 0
  · rw [if_pos he]
    have hf := takeNum_facts l hok he
    by_cases hb : (takeNum l).1 > 1000
    · rw [if_pos hb]
      refine Ev.congr (f := fun k => some ([], 0, 11)) (fun k => ?_) (Ev.now _)
      unfold wire_TakeInts.f
      rw [f_num l hl hok, Option.bind_some, if_pos he, if_pos hb]
    · rw [if_neg hb]
      refine Ev.congr (f := fun k => wire_TakeInts.l0 k l (takeNum l).2.1 [] ((takeNum l).1.toNat : Nat) ((0 : Nat) : Int)) (fun k => ?_) (ev_ints l hl hok _ (by omega) _ 0 _ [] (by omega) (by omega) (by omega) rfl)
      unfold wire_TakeInts.f
      rw [f_num l hl hok, Option.bind_some, if_pos he, if_neg hb, Int.toNat_of_nonneg (by omega)]
      rfl
  · rw [if_neg he]
    refine Ev.congr (f := fun k => some ([], 0, (takeNum l).2.2)) (fun k => ?_) (Ev.now _)
    unfold wire_TakeInts.f
    rw [f_num l hl hok, Option.bind_some, if_neg he]
theorem pOne_rows (l : List Int) (hok : bytesOk l) : (pOne l).2.2.2.1.length ≤ 1000 := by
  unfold pOne
  split
  · rename_i h1
    split
    · rename_i h2
      have f2 := tInts_facts _ (bytesOk_drop hok _) h2
      split
      · split
        · simp
        · simp only []
          have := flds_length ((tInts (l.drop (takeText l).2.1.toNat)).1.drop 1)
          rw [List.length_drop] at this
          omega
      · simp
    · simp
  · simp
theorem bits_one (x : Int) (h0 : 0 ≤ x) (h3 : x ≤ 3) : (Go.bits .and .i64 x 1 != 0) = (Int.tmod x 2 == 1) := by
  have : x = 0 ∨ x = 1 ∨ x = 2 ∨ x = 3 := by omega
  rcases this with rfl | rfl | rfl | rfl <;> decide
theorem bits_two (x : Int) (h0 : 0 ≤ x) (h3 : x ≤ 3) : (Go.bits .and .i64 x 2 != 0) = decide (x > 1) := by
  have : x = 0 ∨ x = 1 ∨ x = 2 ∨ x = 3 := by omega
  rcases this with rfl | rfl | rfl | rfl <;> decide
theorem ev_oneL (x6 x9 : Int) (nm : ByteArray) (b1 b2 : Bool) : ∀ (m : Nat) (x8 : List Int) (acc : List S38), x8.length = 5 * m → acc.length + m ≤ 1000 →
    Ev (fun k => types_one.l0 k x6 x8 x9 nm b1 b2 acc) (nm, b1, b2, acc ++ flds x8, wrap64 (x6 + x9), 0) := by
  intro m
  induction m with
  | zero =>
    intro x8 acc h1 h2
    obtain rfl : x8 = [] := List.length_eq_zero_iff.1 h1
    refine Ev.step (f := fun k => some (nm, b1, b2, acc ++ flds [], wrap64 (x6 + x9), 0)) (fun k => ?_) (Ev.now _)
    simp only [types_one.l0]
    rw [if_neg (by simp)]
    simp [flds]
  | succ m ih =>
    intro x8 acc h1 h2
    match x8, h1 with
    | a :: b :: c :: d :: e :: r, h1 =>
      refine Ev.step (f := fun k => types_one.l0 k x6 r x9 nm b1 b2 (acc ++ [(⟨a, b, c, d, e⟩ : S38)])) (fun k => ?_) ?_
      · simp only [types_one.l0]
        have hl : ((a :: b :: c :: d :: e :: r).length : Int) = (r.length : Int) + 5 := by simp only [List.length_cons]; omega
        rw [hl]
        rw [if_pos (by omega), if_pos (by omega), if_pos (by omega), if_pos (by omega), if_pos (by omega), if_pos (by omega), if_pos (by omega), if_pos (by omega)]
        rfl
      · have := ih r (acc ++ [⟨a, b, c, d, e⟩]) (by simp only [List.length_cons] at h1; omega) (by simp; omega)
        simp only [flds]
        rw [List.append_assoc] at this
        exact this
    | [], h1 => simp at h1 <;> omega
    | [_], h1 => simp at h1 <;> omega
    | [_, _], h1 => simp at h1 <;> omega
    | [_, _, _], h1 => simp at h1 <;> omega
    | [_, _, _, _], h1 => simp at h1 <;> omega
theorem f_text (l : List Int) (hl : l.length ≤ 140737488355328) (hok : bytesOk l) : wire_TakeText.f l = some (takeText l) := by
  unfold wire_TakeText.f
  rw [if_pos ⟨hl, hok⟩]
theorem rd_zero_in (xs : List Int) (h : 0 < xs.length) : rd xs 0 ∈ xs := by
  have : rd xs 0 = xs[0] := by simp [rd, h]
  rw [this]
  exact List.getElem_mem h
theorem ev_one (l : List Int) (hl : l.length ≤ 140737488355328) (hok : bytesOk l) : Ev (fun k => types_one.f k l) (pOne l) := by
  unfold pOne
  by_cases h1 : (takeText l).2.2 = 0
  · rw [if_pos h1]
    have f1 := takeText_facts l hok h1
    have hev := ev_tInts (l.drop (takeText l).2.1.toNat) (drop_le l _ hl) (bytesOk_drop hok _)
    refine Ev.congr (f := fun k => (wire_TakeInts.f k (l.drop (takeText l).2.1.toNat)).bind _) (fun k => ?_) (Ev.bind (f := fun k bt130 => if bt130.2.2 = 0 then (if ((bt130.1.length : Int) % 5) = 1 then (if 0 < (bt130.1.length : Int) then (if (rd bt130.1 0) > 3 then (some ((⟨#[]⟩ : ByteArray), false, false, ([] : List (S38)), 0, 3)) else (if 1 ≤ (bt130.1.length : Int) then (types_one.l0 k (takeText l).2.1 (bt130.1.drop (1 : Int).toNat) bt130.2.1 (takeText l).1 ((Go.bits .and .i64 (rd bt130.1 0) 1) != 0) ((Go.bits .and .i64 (rd bt130.1 0) 2) != 0) ([] : List (S38))) else (none))) else (none)) else (some ((⟨#[]⟩ : ByteArray), false, false, ([] : List (S38)), 0, 3))) else (some ((⟨#[]⟩ : ByteArray), false, false, ([] : List (S38)), 0, bt130.2.2))) hev ?_)
    · unfold types_one.f
      rw [f_text l hl hok, Option.bind_some, if_pos h1, if_pos (by omega), if_pos f1.2.2]
    · generalize hI : tInts (l.drop (takeText l).2.1.toNat) = I
      by_cases h2 : I.2.2 = 0
      · rw [if_pos h2]
        have f2 := tInts_facts (l.drop (takeText l).2.1.toNat) (bytesOk_drop hok _) (by rw [hI]; exact h2)
        rw [hI, List.length_drop] at f2
        by_cases h3 : (I.1.length : Int) % 5 = 1
        · rw [if_pos h3]
          have hlen : 0 < I.1.length := by omega
          by_cases h4 : rd I.1 0 > 3
          · rw [if_pos h4]
            refine Ev.congr (f := fun k => some _) (fun k => ?_) (Ev.now _)
            rw [if_pos h2, if_pos h3, if_pos (by omega), if_pos h4]
          · rw [if_neg h4]
            have hr := f2.1 _ (rd_zero_in I.1 hlen)
            refine Ev.congr (f := fun k => types_one.l0 k (takeText l).2.1 (I.1.drop 1) I.2.1 (takeText l).1 (Int.tmod (rd I.1 0) 2 == 1) (decide (rd I.1 0 > 1)) []) (fun k => ?_) ?_
            · rw [if_pos h2, if_pos h3, if_pos (by omega), if_neg h4, if_pos (by omega), bits_one _ hr.1 (by omega), bits_two _ hr.1 (by omega)]
              rfl
            · have := ev_oneL (takeText l).2.1 I.2.1 (takeText l).1 (Int.tmod (rd I.1 0) 2 == 1) (decide (rd I.1 0 > 1)) ((I.1.length - 1) / 5) (I.1.drop 1) [] (by rw [List.length_drop]; omega) (by simp; omega)
              rw [wrap64_small _ (by omega) (by omega), List.nil_append] at this
              exact this
        · rw [if_neg h3]
          refine Ev.congr (f := fun k => some _) (fun k => ?_) (Ev.now _)
          rw [if_pos h2, if_neg h3]
      · rw [if_neg h2]
        refine Ev.congr (f := fun k => some _) (fun k => ?_) (Ev.now _)
        rw [if_neg h2]
  · rw [if_neg h1]
    refine Ev.congr (f := fun k => some _) (fun k => ?_) (Ev.now _)
    unfold types_one.f
    rw [f_text l hl hok, Option.bind_some, if_neg h1]
def Good (acc : List S41) : Prop := ∀ t ∈ acc, t.f0.size ≤ 16 ∧ t.f3.length ≤ 1000
theorem rd41_in (acc : List S41) (i : Nat) (h : i < acc.length) : rd_T41 acc i ∈ acc := by
  have : rd_T41 acc i = acc[i] := by simp [rd_T41, h]
  rw [this]
  exact List.getElem_mem h
theorem f_check (acc : List S41) (h : Good acc) : types_Check.f acc = some (allErrC acc) := by
  unfold types_Check.f
  rw [if_pos (fun i hi => by have := (h _ (rd41_in acc i hi)).1; omega)]
theorem Good.more {acc : List S41} (h : Good acc) (l : List Int) (hok : bytesOk l) (he : (pOne l).2.2.2.2.2 = 0) : Good (acc ++ [⟨(pOne l).1, (pOne l).2.1, (pOne l).2.2.1, (pOne l).2.2.2.1⟩]) := by
  intro t ht
  rw [List.mem_append, List.mem_singleton] at ht
  rcases ht with ht | rfl
  · exact h t ht
  · exact ⟨(pOne_facts l hok he).1, pOne_rows l hok⟩
theorem pOne_drop (l : List Int) (hok : bytesOk l) (a : Int) (ha0 : 0 ≤ a) (ha : a ≤ l.length) (h : (pOne (l.drop a.toNat)).2.2.2.2.2 = 0) : 1 ≤ (pOne (l.drop a.toNat)).2.2.2.2.1 ∧ a + (pOne (l.drop a.toNat)).2.2.2.2.1 ≤ l.length := by
  have := pOne_facts (l.drop a.toNat) (bytesOk_drop hok _) h
  rw [List.length_drop] at this
  omega
theorem ev_parseL (l : List Int) (hl : l.length ≤ 140737488355328) (hok : bytesOk l) (n : Nat) (hn : n ≤ 32) : ∀ (m j : Nat) (a : Int) (acc : List S41), n = j + m → 0 ≤ a → a ≤ l.length → acc.length = j → Good acc →
    Ev (fun k => types_Parse.l0 k l a acc n j) (pLoop l m a acc) := by
  intro m
  induction m with
  | zero =>
    intro j a acc h1 h2 h3 h4 h5
    refine Ev.step (f := fun k => some (pLoop l 0 a acc)) (fun k => ?_) (Ev.now _)
    simp only [types_Parse.l0, pLoop]
    rw [if_neg (by omega), f_check acc h5, Option.bind_some]
    split <;> rfl
  | succ m ih =>
    intro j a acc h1 h2 h3 h4 h5
    have hev := ev_one (l.drop a.toNat) (drop_le l _ hl) (bytesOk_drop hok _)
    refine Ev.step (f := fun k => (types_one.f k (l.drop a.toNat)).bind _) (fun k => ?_) (Ev.bind (f := fun k bt157 => if bt157.2.2.2.2.2 = 0 then (if acc.length < 2932031007402 then (types_Parse.l0 k l (wrap64 (a + bt157.2.2.2.2.1)) (acc ++ [(⟨bt157.1, bt157.2.1, bt157.2.2.1, bt157.2.2.2.1⟩ : S41)]) n (IntKind.u64.wrap (j + 1))) else (none)) else (some (([] : List (S41)), 0, bt157.2.2.2.2.2))) hev ?_)
    · simp only [types_Parse.l0]
      rw [if_pos (by omega), if_pos h2, if_pos h3]
    · unfold pLoop
      by_cases he : (pOne (l.drop a.toNat)).2.2.2.2.2 = 0
      · rw [if_pos he]
        have hf := pOne_drop l hok a h2 h3 he
        refine Ev.congr (f := fun k => types_Parse.l0 k l (a + (pOne (l.drop a.toNat)).2.2.2.2.1) (acc ++ [⟨(pOne (l.drop a.toNat)).1, (pOne (l.drop a.toNat)).2.1, (pOne (l.drop a.toNat)).2.2.1, (pOne (l.drop a.toNat)).2.2.2.1⟩]) n ((j + 1 : Nat) : Int)) (fun k => ?_) (ih (j + 1) _ _ (by omega) (by omega) (by omega) (by simp [h4]) (h5.more _ (bytesOk_drop hok _) he))
        rw [if_pos he, if_pos (by omega), wrap64_small _ (by omega) (by omega), wrapu j (by omega)]
      · rw [if_neg he]
        refine Ev.congr (f := fun k => some _) (fun k => ?_) (Ev.now _)
        rw [if_neg he]
theorem ev_parse (l : List Int) (hl : l.length ≤ 140737488355328) (hok : bytesOk l) : Ev (fun k => types_Parse.f k l) (pAll l) := by
  unfold pAll
  by_cases he : (takeNum l).2.2 = 0
  · rw [if_pos he]
    have hf := takeNum_facts l hok he
    by_cases hb : (takeNum l).1 > 32
    · rw [if_pos hb]
      refine Ev.congr (f := fun k => some _) (fun k => ?_) (Ev.now _)
      unfold types_Parse.f
      rw [f_num l hl hok, Option.bind_some, if_pos he, if_pos hb]
    · rw [if_neg hb]
      refine Ev.congr (f := fun k => types_Parse.l0 k l (takeNum l).2.1 [] ((takeNum l).1.toNat : Nat) ((0 : Nat) : Int)) (fun k => ?_) (ev_parseL l hl hok _ (by omega) _ 0 _ [] (by omega) (by omega) (by omega) rfl (fun t ht => by simp at ht))
      unfold types_Parse.f
      rw [f_num l hl hok, Option.bind_some, if_pos he, if_neg hb, Int.toNat_of_nonneg (by omega)]
      rfl
  · rw [if_neg he]
    refine Ev.congr (f := fun k => some _) (fun k => ?_) (Ev.now _)
    unfold types_Parse.f
    rw [f_num l hl hok, Option.bind_some, if_neg he]
theorem pLoop_good (l : List Int) (hok : bytesOk l) : ∀ (m : Nat) (a : Int) (acc : List S41), acc.length + m ≤ 32 → Good acc → Good (pLoop l m a acc).1 ∧ (pLoop l m a acc).1.length ≤ 32
  | 0, a, acc, h1, h2 => by
    unfold pLoop
    split
    · exact ⟨h2, by simpa using h1⟩
    · exact ⟨fun t ht => by simp at ht, by simp⟩
  | m + 1, a, acc, h1, h2 => by
    unfold pLoop
    split
    · rename_i he
      exact pLoop_good l hok m _ _ (by simp; omega) (h2.more _ (bytesOk_drop hok _) he)
    · exact ⟨fun t ht => by simp at ht, by simp⟩
theorem pAll_good (l : List Int) (hok : bytesOk l) : Good (pAll l).1 ∧ (pAll l).1.length ≤ 32 := by
  unfold pAll
  split
  · split
    · exact ⟨fun t ht => by simp at ht, by simp⟩
    · exact pLoop_good l hok _ _ [] (by simp; omega) (fun t ht => by simp at ht)
  · exact ⟨fun t ht => by simp at ht, by simp⟩
theorem ev_same1 (l : List S41) (i : Nat) (hi : i < l.length) (hl : l.length ≤ 32) (h12 : (rd_T41 l i).f3.length ≤ 1000) (r : Bool) (h : Ev (fun k => turnbuckleref05_Same.l0 k l l ((i + 1 : Nat) : Int)) r) : ∀ (m q : Nat), (rd_T41 l i).f3.length = q + m → Ev (fun k => turnbuckleref05_Same.l1 k l l i q) r := by
  intro m
  induction m with
  | zero =>
    intro q hq
    refine Ev.step (f := fun k => turnbuckleref05_Same.l0 k l l ((i + 1 : Nat) : Int)) (fun k => ?_) h
    simp only [turnbuckleref05_Same.l1]
    rw [if_pos (by omega), if_pos (by omega), if_neg (by omega), wrap64_small ((i : Int) + 1) (by omega) (by omega)]
    rfl
  | succ m ih =>
    intro q hq
    refine Ev.step (f := fun k => turnbuckleref05_Same.l1 k l l i ((q + 1 : Nat) : Int)) (fun k => ?_) (ih (q + 1) (by omega))
    simp only [turnbuckleref05_Same.l1]
    rw [if_pos (by omega), if_pos (by omega), if_pos (by omega), if_pos (by omega), if_pos (by omega), if_pos (by omega), if_neg (by simp), wrap64_small ((q : Int) + 1) (by omega) (by omega)]
    rfl
theorem ev_same0 (l : List S41) (hl : l.length ≤ 32) (hg : Good l) : ∀ (m i : Nat), l.length = i + m → Ev (fun k => turnbuckleref05_Same.l0 k l l i) true := by
  intro m
  induction m with
  | zero =>
    intro i hi
    refine Ev.step (f := fun k => some true) (fun k => ?_) (Ev.now _)
    simp only [turnbuckleref05_Same.l0]
    rw [if_neg (by omega)]
  | succ m ih =>
    intro i hi
    have hgi := (hg _ (rd41_in l i (by omega))).2
    refine Ev.step (f := fun k => turnbuckleref05_Same.j1 k l l i false) (fun k => ?_) (Ev.step (f := fun k => turnbuckleref05_Same.l1 k l l i ((0 : Nat) : Int)) (fun k => ?_) (ev_same1 l i (by omega) hl hgi true (ih (i + 1) (by omega)) (rd_T41 l i).f3.length 0 (by omega)))
    · simp only [turnbuckleref05_Same.l0]
      rw [if_pos (by omega), if_pos (by omega), if_pos (by omega)]
      simp
    · simp only [turnbuckleref05_Same.j1]
      rw [if_neg (by simp)]
      rfl
theorem ev_same (l : List S41) (hl : l.length ≤ 32) (hg : Good l) : Ev (fun k => turnbuckleref05_Same.f k l l) true := by
  refine Ev.congr (f := fun k => turnbuckleref05_Same.l0 k l l ((0 : Nat) : Int)) (fun k => ?_) (ev_same0 l hl hg l.length 0 (by omega))
  unfold turnbuckleref05_Same.f
  rw [if_pos rfl]
  rfl
theorem p128_pos (i : Nat) : (0 : Int) < 128 ^ i := Int.pow_pos (by omega)
theorem p128_succ (i : Nat) : (128 : Int) ^ (i + 1) = 128 * 128 ^ i := by rw [Int.pow_succ, Int.mul_comm]
theorem p128_nine : (128 : Int) ^ 9 = 9223372036854775808 := by decide
theorem tn_enc (rest : List Int) : ∀ (k i : Nat) (v n : Int), i + k = 10 → 0 < k → 0 ≤ v → (0 < i → 0 < v) → 0 ≤ n → n + v * 128 ^ i < 18446744073709551616 →
    tnGo (numB k v ++ rest) i n = (n + v * 128 ^ i, (i : Int) + ((numB k v).length : Int), (0 : Int)) := by
  intro k
  induction k with
  | zero => intro i v n _ h; omega
  | succ k ih =>
    intro i v n h1 _ h2 h3 h4 h5
    have hp := p128_pos i
    by_cases hv : v ≥ 128
    · have e : numB (k + 1) v = (v % 128 + 128) :: numB k (v / 128) := by simp only [numB]; rw [if_pos hv]
      rw [e, List.cons_append]
      simp only [tnGo]
      have hi : i ≠ 9 := by
        rintro rfl
        rw [p128_nine] at h5
        omega
      rw [if_neg hi, if_neg (by omega)]
      have hsplit : n + (v % 128 + 128 - 128) * 128 ^ i + v / 128 * 128 ^ (i + 1) = n + v * 128 ^ i := by
        rw [p128_succ]
        have hv' : v = 128 * (v / 128) + v % 128 := by omega
        generalize v / 128 = q at *
        generalize v % 128 = r at *
        subst hv'
        generalize (128 : Int) ^ i = p
        have e1 : (r + 128 - 128) = r := by omega
        rw [e1, Int.add_mul, ← Int.mul_assoc, Int.mul_comm q 128]
        omega
      have hnn : 0 ≤ n + (v % 128 + 128 - 128) * 128 ^ i := by
        have := Int.mul_nonneg (show (0 : Int) ≤ v % 128 + 128 - 128 by omega) (Int.le_of_lt hp)
        omega
      have := ih (i + 1) (v / 128) (n + (v % 128 + 128 - 128) * 128 ^ i) (by omega) (by omega) (by omega) (by omega) hnn (by rw [hsplit]; exact h5)
      rw [this, hsplit]
      simp only [List.length_cons, Prod.mk.injEq, true_and, and_true]
      push_cast
      omega
    · have e : numB (k + 1) v = [v] := by simp only [numB]; rw [if_neg hv]
      rw [e, List.cons_append, List.nil_append]
      simp only [tnGo]
      by_cases hi : i = 9
      · subst hi
        rw [p128_nine] at h5
        have hv3 := h3 (by omega)
        rw [if_pos rfl, if_neg (by omega), if_neg (by omega)]
        simp
      · rw [if_neg hi, if_pos (by omega), if_neg (by omega)]
        simp
theorem tn_dec : ∀ (l : List Int) (i : Nat) (n : Int), bytesOk l → i ≤ 9 → (tnGo l i n).2.2 = 0 → ∃ v, 0 ≤ v ∧ (0 < i → 0 < v) ∧ (tnGo l i n).1 = n + v * 128 ^ i ∧ (tnGo l i n).2.1 = i + (numB (10 - i) v).length ∧ l.take (numB (10 - i) v).length = numB (10 - i) v := by
  intro l
  induction l with
  | nil => intro i n _ _ h; simp [tnGo] at h
  | cons c r ih =>
    intro i n hok hi h
    have hc := hok c (by simp)
    simp only [tnGo] at h ⊢
    by_cases h9 : i = 9
    · rw [if_pos h9] at h ⊢
      by_cases ha : c ≥ 128 ∨ c = 0
      · rw [if_pos ha] at h; simp at h
      · rw [if_neg ha] at h ⊢
        by_cases hb : c > 1
        · rw [if_pos hb] at h; simp at h
        · rw [if_neg hb]
          subst h9
          have e : numB (10 - 9) c = [c] := by simp only [numB]; rw [if_neg (by omega)]
          refine ⟨c, by omega, by omega, rfl, by rw [e]; rfl, by rw [e]; rfl⟩
    · rw [if_neg h9] at h ⊢
      obtain ⟨k, hk⟩ : ∃ k, 10 - i = k + 1 := ⟨9 - i, by omega⟩
      by_cases ha : c < 128
      · rw [if_pos ha] at h ⊢
        by_cases hb : c = 0 ∧ 0 < i
        · rw [if_pos hb] at h; simp at h
        · rw [if_neg hb]
          have e : numB (10 - i) c = [c] := by rw [hk]; simp only [numB]; rw [if_neg (by omega)]
          refine ⟨c, by omega, by omega, rfl, by rw [e]; rfl, by rw [e]; rfl⟩
      · rw [if_neg ha] at h ⊢
        obtain ⟨v, v0, v1, e1, e2, e3⟩ := ih (i + 1) (n + (c - 128) * 128 ^ i) (fun x hx => hok x (by simp [hx])) (by omega) h
        have hv := v1 (by omega)
        have hk2 : 10 - (i + 1) = k := by omega
        rw [hk2] at e2 e3
        have e : numB (10 - i) (128 * v + (c - 128)) = c :: numB k v := by
          rw [hk]
          simp only [numB]
          rw [if_pos (by omega)]
          have q1 : (128 * v + (c - 128)) % 128 + 128 = c := by omega
          have q2 : (128 * v + (c - 128)) / 128 = v := by omega
          rw [q1, q2]
        refine ⟨128 * v + (c - 128), by omega, by omega, ?_, ?_, ?_⟩
        · rw [e1, p128_succ]
          generalize (128 : Int) ^ i = p
          rw [Int.add_mul, ← Int.mul_assoc, Int.mul_comm v 128]
          omega
        · rw [e2, e, List.length_cons]
          push_cast
          omega
        · rw [e, List.length_cons, List.take_succ_cons, e3]
/-- a number laid down is read again -/
theorem take_numB (v : Int) (rest : List Int) (h0 : 0 ≤ v) (h1 : v < 18446744073709551616) : takeNum (numB 10 v ++ rest) = (v, ((numB 10 v).length : Int), (0 : Int)) := by
  unfold takeNum
  have := tn_enc rest 10 0 v 0 rfl (by omega) h0 (by omega) (by omega) (by simpa using h1)
  rw [this]
  simp
/-- a number that was read is laid down as its bytes -/
theorem numB_take (l : List Int) (hok : bytesOk l) (h : (takeNum l).2.2 = 0) : (takeNum l).2.1 = (numB 10 (takeNum l).1).length ∧ l.take (numB 10 (takeNum l).1).length = numB 10 (takeNum l).1 := by
  obtain ⟨v, v0, _, e1, e2, e3⟩ := tn_dec l 0 0 hok (by omega) h
  have ev : (takeNum l).1 = v := by unfold takeNum; rw [e1]; simp
  rw [ev]
  refine ⟨?_, e3⟩
  unfold takeNum
  rw [e2]
  simp
/-- a name's bytes, numbers' bytes, a type's bytes, types' bytes -/
def textB (s : ByteArray) : List Int := numB 10 (s.size : Int) ++ bytesOf s
def encs (l : List Int) : List Int := l.flatMap (numB 10)
def intsB (l : List Int) : List Int := numB 10 (l.length : Int) ++ encs l
def flat : List S38 → List Int
  | [] => []
  | f :: r => f.f0 :: f.f1 :: f.f2 :: f.f3 :: f.f4 :: flat r
def flagsOf (t : S41) : Int := (if t.f1 then 1 else 0) + (if t.f2 then 2 else 0)
def oneB (t : S41) : List Int := textB t.f0 ++ intsB (flagsOf t :: flat t.f3)
def manyB (l : List S41) : List Int := l.flatMap oneB
def allB (l : List S41) : List Int := numB 10 (l.length : Int) ++ manyB l
def Small (x : Int) : Prop := 0 ≤ x ∧ x ≤ 2147483647

theorem bytesOk_app {a b : List Int} (ha : bytesOk a) (hb : bytesOk b) : bytesOk (a ++ b) := fun x hx => by
  rcases List.mem_append.1 hx with h | h
  · exact ha x h
  · exact hb x h
theorem numB_ok : ∀ (k : Nat) (v : Int), 0 ≤ v → v < 128 ^ k → bytesOk (numB k v)
  | 0, v, _, _ => fun x hx => by simp [numB] at hx
  | k + 1, v, h0, h1 => by
    intro x hx
    simp only [numB] at hx
    split at hx
    · rcases List.mem_cons.1 hx with rfl | h
      · omega
      · refine numB_ok k (v / 128) (by omega) ?_ x h
        rw [Int.pow_succ] at h1
        omega
    · simp only [List.mem_singleton] at hx
      subst hx
      omega
theorem numB_ok10 (v : Int) (h0 : 0 ≤ v) (h1 : v < 18446744073709551616) : bytesOk (numB 10 v) := by
  refine numB_ok 10 v h0 ?_
  have e : (128 : Int) ^ 10 = 1180591620717411303424 := by decide
  rw [e]
  omega
theorem numB_pos (v : Int) : 0 < (numB 10 v).length := by
  simp only [numB]
  split <;> simp
theorem bytesOf_ok (s : ByteArray) : bytesOk (bytesOf s) := fun x hx => by
  simp only [bytesOf, List.mem_map] at hx
  obtain ⟨b, _, rfl⟩ := hx
  have := b.toNat_lt
  omega
theorem str_bytes (s : ByteArray) : strOfNums (bytesOf s) = s := by
  unfold strOfNums bytesOf
  rw [List.map_map]
  have : (s.data.toList.map ((fun n => UInt8.ofNat n.toNat) ∘ fun b => ((b.toNat : Nat) : Int))) = s.data.toList := by
    conv => rhs; rw [← List.map_id s.data.toList]
    refine List.map_congr_left fun b _ => ?_
    simp
  rw [this]
theorem bytes_str (xs : List Int) (h : bytesOk xs) : bytesOf (strOfNums xs) = xs := by
  unfold strOfNums bytesOf
  simp only [List.map_map]
  conv => rhs; rw [← List.map_id xs]
  refine List.map_congr_left fun b hb => ?_
  have := h b hb
  simp only [Function.comp, UInt8.toNat_ofNat', id]
  omega
theorem take_len {α : Type} (a b : List α) : (a ++ b).take a.length = a := by simp
theorem drop_len {α : Type} (a b : List α) : (a ++ b).drop a.length = b := by simp

/-- a name that was laid down is read again -/
theorem takeText_textB (s : ByteArray) (rest : List Int) (hs : nameAll s = true) : takeText (textB s ++ rest) = (s, ((textB s).length : Int), (0 : Int)) := by
  have hsz : 0 < s.size ∧ s.size ≤ 16 := by
    unfold nameAll at hs
    simp only [Bool.and_eq_true, decide_eq_true_eq] at hs
    exact ⟨hs.1.2, hs.2⟩
  have hn : takeNum (textB s ++ rest) = ((s.size : Int), ((numB 10 (s.size : Int)).length : Int), (0 : Int)) := by
    unfold textB
    rw [List.append_assoc]
    exact take_numB _ _ (by omega) (by omega)
  have hl : (textB s).length = (numB 10 (s.size : Int)).length + s.size := by unfold textB; rw [List.length_append, bytesOf_length]
  unfold takeText
  rw [hn]
  simp only []
  rw [if_neg (by omega), if_neg (by omega), if_neg (by rw [List.length_append, hl]; push_cast; omega)]
  have e : (((textB s ++ rest).take (((numB 10 (s.size : Int)).length : Int) + (s.size : Int)).toNat).drop (((numB 10 (s.size : Int)).length : Int)).toNat) = bytesOf s := by
    rw [show (((numB 10 (s.size : Int)).length : Int) + (s.size : Int)).toNat = (textB s).length by omega, take_len, Int.toNat_natCast]
    unfold textB
    rw [drop_len]
  rw [e, str_bytes, if_pos hs, hl]
  push_cast
  rfl
theorem tLoop_encs (rest : List Int) : ∀ (ys : List Int) (pre acc : List Int), (∀ y ∈ ys, Small y) → tLoop (pre ++ (encs ys ++ rest)) ys.length (pre.length : Int) acc = (acc ++ ys, ((pre.length + (encs ys).length : Nat) : Int), (0 : Int)) := by
  intro ys
  induction ys with
  | nil => intro pre acc h; simp [tLoop, encs]
  | cons y ys ih =>
    intro pre acc h
    have hy := h y (by simp)
    have hn : takeNum ((pre ++ (encs (y :: ys) ++ rest)).drop (pre.length : Int).toNat) = (y, ((numB 10 y).length : Int), (0 : Int)) := by
      rw [Int.toNat_natCast, drop_len]
      show takeNum ((numB 10 y ++ encs ys) ++ rest) = _
      rw [List.append_assoc]
      exact take_numB _ _ hy.1 (by have := hy.2; omega)
    rw [List.length_cons]
    unfold tLoop
    rw [hn]
    simp only []
    have hlt : ¬ y > 2147483647 := by have := hy.2; omega
    rw [if_pos trivial, if_neg hlt]
    have e : pre ++ (encs (y :: ys) ++ rest) = (pre ++ numB 10 y) ++ (encs ys ++ rest) := by
      show pre ++ ((numB 10 y ++ encs ys) ++ rest) = _
      simp only [List.append_assoc]
    have := ih (pre ++ numB 10 y) (acc ++ [y]) (fun z hz => h z (by simp [hz]))
    rw [← e] at this
    rw [show ((pre.length : Int) + ((numB 10 y).length : Int)) = (((pre ++ numB 10 y).length : Nat) : Int) by rw [List.length_append]; push_cast; rfl, this]
    rw [List.append_assoc, List.singleton_append]
    have e2 : (encs (y :: ys)).length = (numB 10 y).length + (encs ys).length := by
      show (numB 10 y ++ encs ys).length = _
      rw [List.length_append]
    rw [e2, List.length_append, Nat.add_assoc]
/-- numbers that were laid down are read again -/
theorem tInts_intsB (xs rest : List Int) (hl : xs.length ≤ 1000) (h : ∀ y ∈ xs, Small y) : tInts (intsB xs ++ rest) = (xs, ((intsB xs).length : Int), (0 : Int)) := by
  have hn : takeNum (intsB xs ++ rest) = ((xs.length : Int), ((numB 10 (xs.length : Int)).length : Int), (0 : Int)) := by
    unfold intsB
    rw [List.append_assoc]
    exact take_numB _ _ (by omega) (by omega)
  unfold tInts
  rw [hn]
  simp only []
  rw [if_pos trivial, if_neg (by omega), Int.toNat_natCast]
  have := tLoop_encs rest xs (numB 10 (xs.length : Int)) [] h
  rw [← List.append_assoc] at this
  unfold intsB
  rw [this, List.nil_append, List.length_append]
theorem flat_length : ∀ (l : List S38), (flat l).length = 5 * l.length
  | [] => rfl
  | f :: r => by simp only [flat, List.length_cons, flat_length r]; omega
theorem flds_flat : ∀ (l : List S38), flds (flat l) = l
  | [] => rfl
  | f :: r => by simp only [flat, flds, flds_flat r]
theorem flat_flds : ∀ (l : List Int), l.length % 5 = 0 → flat (flds l) = l := by
  intro l
  fun_induction flds l with
  | case1 a b c d e r ih => intro h; simp only [flat]; rw [ih (by simp only [List.length_cons] at h; omega)]
  | case2 l hl =>
    intro h
    match l, h with
    | [], _ => rfl
    | [_], h => simp at h
    | [_, _], h => simp at h
    | [_, _, _], h => simp at h
    | [_, _, _, _], h => simp at h
    | a :: b :: c :: d :: e :: r, _ => exact absurd rfl (hl a b c d e r)
def GoodT (t : S41) : Prop := nameAll t.f0 = true ∧ t.f3.length ≤ 12 ∧ ∀ x ∈ flat t.f3, Small x
theorem flags_small (t : S41) : 0 ≤ flagsOf t ∧ flagsOf t ≤ 3 := by
  unfold flagsOf
  split <;> split <;> omega
theorem flags_one (t : S41) : (Int.tmod (flagsOf t) 2 == 1) = t.f1 := by
  unfold flagsOf
  cases t.f1 <;> cases t.f2 <;> decide
theorem flags_two (t : S41) : decide (flagsOf t > 1) = t.f2 := by
  unfold flagsOf
  cases t.f1 <;> cases t.f2 <;> decide
theorem flags_of (x : Int) (h0 : 0 ≤ x) (h3 : x ≤ 3) (s : ByteArray) (l : List S38) : flagsOf ⟨s, Int.tmod x 2 == 1, decide (x > 1), l⟩ = x := by
  have : x = 0 ∨ x = 1 ∨ x = 2 ∨ x = 3 := by omega
  rcases this with rfl | rfl | rfl | rfl <;> rfl
/-- a type that was laid down is read again -/
theorem pOne_oneB (t : S41) (rest : List Int) (h : GoodT t) : pOne (oneB t ++ rest) = (t.f0, t.f1, t.f2, t.f3, ((oneB t).length : Int), (0 : Int)) := by
  obtain ⟨h1, h2, h3⟩ := h
  have ht : takeText (oneB t ++ rest) = (t.f0, ((textB t.f0).length : Int), (0 : Int)) := by
    unfold oneB
    rw [List.append_assoc]
    exact takeText_textB _ _ h1
  have hd : (oneB t ++ rest).drop ((textB t.f0).length : Int).toNat = intsB (flagsOf t :: flat t.f3) ++ rest := by
    unfold oneB
    rw [List.append_assoc, Int.toNat_natCast, drop_len]
  have hfl := flags_small t
  have hi := tInts_intsB (flagsOf t :: flat t.f3) rest (by rw [List.length_cons, flat_length]; omega) (by
    intro y hy
    rcases List.mem_cons.1 hy with rfl | hy
    · exact ⟨hfl.1, by omega⟩
    · exact h3 y hy)
  unfold pOne
  rw [ht]
  simp only []
  rw [hd, hi]
  simp only []
  have hr : rd (flagsOf t :: flat t.f3) 0 = flagsOf t := rfl
  rw [if_pos trivial, if_pos trivial, if_pos (by rw [List.length_cons, flat_length]; push_cast; omega), hr, if_neg (by omega), flags_one, flags_two, List.drop_one, List.tail_cons, flds_flat]
  unfold oneB
  rw [List.length_append]
  push_cast
  rfl
theorem encs_ok (l : List Int) (h : ∀ y ∈ l, Small y) : bytesOk (encs l) := fun x hx => by
  obtain ⟨y, hy, hm⟩ := List.mem_flatMap.1 hx
  have := h y hy
  exact numB_ok10 y this.1 (by have := this.2; omega) x hm
theorem oneB_ok (t : S41) (h : GoodT t) : bytesOk (oneB t) := by
  obtain ⟨h1, h2, h3⟩ := h
  have hsz : t.f0.size ≤ 16 := by
    unfold nameAll at h1
    simp only [Bool.and_eq_true, decide_eq_true_eq] at h1
    exact h1.2
  have hfl := flags_small t
  unfold oneB textB intsB
  refine bytesOk_app (bytesOk_app (numB_ok10 _ (by omega) (by omega)) (bytesOf_ok _)) (bytesOk_app (numB_ok10 _ (by omega) (by rw [List.length_cons, flat_length]; omega)) (encs_ok _ ?_))
  intro y hy
  rcases List.mem_cons.1 hy with rfl | hy
  · exact ⟨hfl.1, by omega⟩
  · exact h3 y hy
theorem allB_ok (l : List S41) (hl : l.length ≤ 32) (h : ∀ t ∈ l, GoodT t) : bytesOk (allB l) := by
  unfold allB manyB
  refine bytesOk_app (numB_ok10 _ (by omega) (by omega)) fun x hx => ?_
  obtain ⟨t, ht, hm⟩ := List.mem_flatMap.1 hx
  exact oneB_ok t (h t ht) x hm

/-! what was read is laid down as the very bytes -/
theorem text_back (l : List Int) (hok : bytesOk l) (h : (takeText l).2.2 = 0) : nameAll (takeText l).1 = true ∧ (takeText l).2.1 = ((textB (takeText l).1).length : Int) ∧ l.take (textB (takeText l).1).length = textB (takeText l).1 := by
  unfold takeText at h ⊢
  by_cases he : (takeNum l).2.2 ≠ 0
  · rw [if_pos he] at h; exact absurd h he
  · rw [if_neg he] at h ⊢
    have he0 : (takeNum l).2.2 = 0 := by omega
    have hf := takeNum_facts l hok he0
    obtain ⟨g1, g2⟩ := numB_take l hok he0
    by_cases h1 : (takeNum l).1 < 1 ∨ 16 < (takeNum l).1
    · rw [if_pos h1] at h; simp at h
    · rw [if_neg h1] at h ⊢
      by_cases h2 : (l.length : Int) - (takeNum l).2.1 < (takeNum l).1
      · rw [if_pos h2] at h; simp at h
      · rw [if_neg h2] at h ⊢
        split at h
        · rename_i h3
          rw [if_pos h3]
          simp only []
          generalize takeNum l = z at *
          obtain ⟨n, a, e⟩ := z
          simp only at *
          obtain ⟨N, rfl⟩ : ∃ N : Nat, n = N := ⟨n.toNat, by omega⟩
          subst g1
          have e1 : (((numB 10 (N : Int)).length : Int) + (N : Int)).toNat = (numB 10 (N : Int)).length + N := by omega
          rw [e1, Int.toNat_natCast] at h3 ⊢
          generalize hx : List.drop (numB 10 (N : Int)).length (List.take ((numB 10 (N : Int)).length + N) l) = xs at *
          have hxl : xs.length = N := by rw [← hx, List.length_drop, List.length_take]; omega
          have hxo : bytesOk xs := by rw [← hx]; intro y hy; exact hok y (List.mem_of_mem_take (List.mem_of_mem_drop hy))
          have htx : textB (strOfNums xs) = numB 10 (N : Int) ++ xs := by
            unfold textB
            rw [strOfNums_size, bytes_str xs hxo, hxl]
          refine ⟨h3, ?_, ?_⟩
          · rw [htx, List.length_append, hxl]; push_cast; rfl
          · rw [htx, List.length_append, hxl]
            conv => lhs; rw [← List.take_append_drop (numB 10 (N : Int)).length (List.take ((numB 10 (N : Int)).length + N) l)]
            rw [hx, List.take_take, Nat.min_eq_left (by omega), g2]
        · simp at h
theorem take_add {α : Type} (l : List α) (i j : Nat) : l.take (i + j) = l.take i ++ (l.drop i).take j := by
  rw [List.take_add]
theorem tLoop_back (l : List Int) (hok : bytesOk l) : ∀ (m : Nat) (a : Int) (acc : List Int), 0 ≤ a → a ≤ l.length → (tLoop l m a acc).2.2 = 0 → ∃ ys, (tLoop l m a acc).1 = acc ++ ys ∧ ys.length = m ∧ (∀ y ∈ ys, Small y) ∧ (tLoop l m a acc).2.1 = a + (encs ys).length ∧ (l.drop a.toNat).take (encs ys).length = encs ys := by
  intro m
  induction m with
  | zero => intro a acc h0 h1 h; exact ⟨[], by simp [tLoop], rfl, by simp, by simp [tLoop, encs], by simp [encs]⟩
  | succ m ih =>
    intro a acc h0 h1 h
    unfold tLoop at h ⊢
    by_cases he : (takeNum (l.drop a.toNat)).2.2 = 0
    · rw [if_pos he] at h ⊢
      by_cases hb : (takeNum (l.drop a.toNat)).1 > 2147483647
      · rw [if_pos hb] at h; simp at h
      · rw [if_neg hb] at h ⊢
        have hf := takeNum_drop l hok a h0 h1 he
        obtain ⟨g1, g2⟩ := numB_take (l.drop a.toNat) (bytesOk_drop hok _) he
        obtain ⟨ys, y1, y2, y3, y4, y5⟩ := ih (a + (takeNum (l.drop a.toNat)).2.1) (acc ++ [(takeNum (l.drop a.toNat)).1]) (by omega) (by omega) h
        have ee : encs ((takeNum (l.drop a.toNat)).1 :: ys) = numB 10 (takeNum (l.drop a.toNat)).1 ++ encs ys := rfl
        refine ⟨(takeNum (l.drop a.toNat)).1 :: ys, by rw [y1, List.append_assoc]; rfl, by rw [List.length_cons, y2], ?_, ?_, ?_⟩
        · intro y hy
          rcases List.mem_cons.1 hy with rfl | hy
          · exact ⟨hf.1, by omega⟩
          · exact y3 y hy
        · rw [y4, ee, List.length_append, g1]; push_cast; omega
        · rw [ee, List.length_append, take_add, g2]
          congr 1
          rw [List.drop_drop]
          have e2 : a.toNat + (numB 10 (takeNum (l.drop a.toNat)).1).length = (a + (takeNum (l.drop a.toNat)).2.1).toNat := by rw [g1]; omega
          rw [e2]
          exact y5
    · rw [if_neg he] at h
      exact absurd h he
theorem ints_back (l : List Int) (hok : bytesOk l) (h : (tInts l).2.2 = 0) : (tInts l).1.length ≤ 1000 ∧ (∀ y ∈ (tInts l).1, Small y) ∧ (tInts l).2.1 = ((intsB (tInts l).1).length : Int) ∧ l.take (intsB (tInts l).1).length = intsB (tInts l).1 := by
  unfold tInts at h ⊢
  by_cases he : (takeNum l).2.2 = 0
  · rw [if_pos he] at h ⊢
    by_cases hb : (takeNum l).1 > 1000
    · rw [if_pos hb] at h; simp at h
    · rw [if_neg hb] at h ⊢
      have hf := takeNum_facts l hok he
      obtain ⟨g1, g2⟩ := numB_take l hok he
      obtain ⟨ys, y1, y2, y3, y4, y5⟩ := tLoop_back l hok _ _ [] (by omega) (by omega) h
      rw [List.nil_append] at y1
      rw [y1, y4]
      have en : ((ys.length : Nat) : Int) = (takeNum l).1 := by omega
      have ei : intsB ys = numB 10 (takeNum l).1 ++ encs ys := by unfold intsB; rw [en]
      refine ⟨by omega, y3, ?_, ?_⟩
      · rw [ei, List.length_append, g1]; push_cast; rfl
      · rw [ei, List.length_append, take_add, g2]
        congr 1
        have e2 : (numB 10 (takeNum l).1).length = (takeNum l).2.1.toNat := by rw [g1]; omega
        rw [e2]
        exact y5
  · rw [if_neg he] at h
    exact absurd h he
theorem rd0_mem (xs : List Int) (h : 0 < xs.length) : xs = rd xs 0 :: xs.drop 1 := by
  match xs, h with
  | x :: r, _ => rfl
theorem one_back (l : List Int) (hok : bytesOk l) (h : (pOne l).2.2.2.2.2 = 0) : nameAll (pOne l).1 = true ∧ (∀ x ∈ flat (pOne l).2.2.2.1, Small x) ∧ (pOne l).2.2.2.2.1 = ((oneB ⟨(pOne l).1, (pOne l).2.1, (pOne l).2.2.1, (pOne l).2.2.2.1⟩).length : Int) ∧ l.take (oneB ⟨(pOne l).1, (pOne l).2.1, (pOne l).2.2.1, (pOne l).2.2.2.1⟩).length = oneB ⟨(pOne l).1, (pOne l).2.1, (pOne l).2.2.1, (pOne l).2.2.2.1⟩ := by
  unfold pOne at h ⊢
  by_cases h1 : (takeText l).2.2 = 0
  · rw [if_pos h1] at h ⊢
    obtain ⟨t1, t2, t3⟩ := text_back l hok h1
    by_cases h2 : (tInts (l.drop (takeText l).2.1.toNat)).2.2 = 0
    · rw [if_pos h2] at h ⊢
      obtain ⟨i1, i2, i3, i4⟩ := ints_back _ (bytesOk_drop hok _) h2
      generalize hI : tInts (l.drop (takeText l).2.1.toNat) = I at *
      by_cases h3 : (I.1.length : Int) % 5 = 1
      · rw [if_pos h3] at h ⊢
        by_cases h4 : rd I.1 0 > 3
        · rw [if_pos h4] at h; simp at h
        · rw [if_neg h4]
          simp only []
          have hpos : 0 < I.1.length := by omega
          have hsp := rd0_mem I.1 hpos
          have h0 : Small (rd I.1 0) := i2 _ (by rw [hsp]; simp [rd])
          have hfl : flat (flds (I.1.drop 1)) = I.1.drop 1 := flat_flds _ (by rw [List.length_drop]; omega)
          have hone : oneB ⟨(takeText l).1, Int.tmod (rd I.1 0) 2 == 1, decide (rd I.1 0 > 1), flds (I.1.drop 1)⟩ = textB (takeText l).1 ++ intsB I.1 := by
            unfold oneB
            rw [flags_of _ h0.1 (by omega)]
            simp only [hfl]
            rw [← hsp]
          rw [hone]
          refine ⟨t1, ?_, ?_, ?_⟩
          · rw [hfl]
            intro x hx
            exact i2 x (List.mem_of_mem_drop hx)
          · rw [t2, i3, List.length_append]; push_cast; rfl
          · rw [List.length_append, take_add, t3]
            congr 1
            have e2 : (textB (takeText l).1).length = (takeText l).2.1.toNat := by rw [t2]; omega
            rw [e2]
            exact i4
      · rw [if_neg h3] at h; simp at h
    · rw [if_neg h2] at h; exact absurd h h2
  · rw [if_neg h1] at h; exact absurd h h1
theorem pLoop_zero (l : List Int) (at_ : Int) (acc : List S41) : pLoop l 0 at_ acc = if (allErrC acc).2 = 0 then (acc, at_, 0) else ([], 0, (allErrC acc).2) := rfl
theorem pLoop_succ (l : List Int) (m : Nat) (at_ : Int) (acc : List S41) : pLoop l (m + 1) at_ acc = if (pOne (l.drop at_.toNat)).2.2.2.2.2 = 0 then pLoop l m (at_ + (pOne (l.drop at_.toNat)).2.2.2.2.1) (acc ++ [⟨(pOne (l.drop at_.toNat)).1, (pOne (l.drop at_.toNat)).2.1, (pOne (l.drop at_.toNat)).2.2.1, (pOne (l.drop at_.toNat)).2.2.2.1⟩]) else ([], 0, (pOne (l.drop at_.toNat)).2.2.2.2.2) := rfl
theorem manyB_cons (t : S41) (r : List S41) : manyB (t :: r) = oneB t ++ manyB r := rfl
theorem pLoop_manyB (rest : List Int) : ∀ (ys : List S41) (pre : List Int) (acc : List S41), (∀ t ∈ ys, GoodT t) → (allErrC (acc ++ ys)).2 = 0 → pLoop (pre ++ (manyB ys ++ rest)) ys.length (pre.length : Int) acc = (acc ++ ys, ((pre.length + (manyB ys).length : Nat) : Int), (0 : Int)) := by
  intro ys
  induction ys with
  | nil =>
    intro pre acc h h0
    rw [List.append_nil] at h0 ⊢
    rw [List.length_nil, pLoop_zero, if_pos h0]
    simp [manyB]
  | cons y ys ih =>
    intro pre acc h h0
    have hn : pOne ((pre ++ (manyB (y :: ys) ++ rest)).drop (pre.length : Int).toNat) = (y.f0, y.f1, y.f2, y.f3, ((oneB y).length : Int), (0 : Int)) := by
      rw [Int.toNat_natCast, drop_len, manyB_cons, List.append_assoc]
      exact pOne_oneB y _ (h y (by simp))
    have hy : (⟨y.f0, y.f1, y.f2, y.f3⟩ : S41) = y := rfl
    rw [List.length_cons, pLoop_succ, hn]
    simp only []
    rw [if_pos trivial, hy]
    have e : pre ++ (manyB (y :: ys) ++ rest) = (pre ++ oneB y) ++ (manyB ys ++ rest) := by
      rw [manyB_cons]
      simp only [List.append_assoc]
    have := ih (pre ++ oneB y) (acc ++ [y]) (fun z hz => h z (by simp [hz])) (by rw [List.append_assoc]; exact h0)
    rw [← e] at this
    rw [show ((pre.length : Int) + ((oneB y).length : Int)) = (((pre ++ oneB y).length : Nat) : Int) by rw [List.length_append]; push_cast; rfl, this]
    rw [List.append_assoc, List.singleton_append, manyB_cons, List.length_append, List.length_append, Nat.add_assoc]
/-- types that were laid down are read again, whatever stands behind -/
theorem pAll_allB (l : List S41) (rest : List Int) (hl : l.length ≤ 32) (h : ∀ t ∈ l, GoodT t) (h0 : (allErrC l).2 = 0) : pAll (allB l ++ rest) = (l, ((allB l).length : Int), (0 : Int)) := by
  have hn : takeNum (allB l ++ rest) = ((l.length : Int), ((numB 10 (l.length : Int)).length : Int), (0 : Int)) := by
    unfold allB
    rw [List.append_assoc]
    exact take_numB _ _ (by omega) (by omega)
  unfold pAll
  rw [hn]
  simp only []
  rw [if_pos trivial, if_neg (by omega), Int.toNat_natCast]
  have := pLoop_manyB rest l (numB 10 (l.length : Int)) [] h (by rw [List.nil_append]; exact h0)
  rw [← List.append_assoc] at this
  unfold allB
  rw [this, List.nil_append, List.length_append]
theorem pLoop_back (l : List Int) (hok : bytesOk l) : ∀ (m : Nat) (a : Int) (acc : List S41), 0 ≤ a → a ≤ l.length → (pLoop l m a acc).2.2 = 0 → ∃ ys, (pLoop l m a acc).1 = acc ++ ys ∧ ys.length = m ∧ (allErrC (acc ++ ys)).2 = 0 ∧ (pLoop l m a acc).2.1 = a + (manyB ys).length ∧ (l.drop a.toNat).take (manyB ys).length = manyB ys ∧ a + (manyB ys).length ≤ l.length := by
  intro m
  induction m with
  | zero =>
    intro a acc h0 h1 h
    rw [pLoop_zero] at h ⊢
    by_cases he : (allErrC acc).2 = 0
    · rw [if_pos he]
      exact ⟨[], by simp, rfl, by simpa using he, by simp [manyB], by simp [manyB], by simpa [manyB] using h1⟩
    · rw [if_neg he] at h
      exact absurd h he
  | succ m ih =>
    intro a acc h0 h1 h
    rw [pLoop_succ] at h ⊢
    by_cases he : (pOne (l.drop a.toNat)).2.2.2.2.2 = 0
    · rw [if_pos he] at h ⊢
      have hf := pOne_drop l hok a h0 h1 he
      obtain ⟨g0, g3, g1, g2⟩ := one_back (l.drop a.toNat) (bytesOk_drop hok _) he
      obtain ⟨ys, y1, y2, y3, y4, y5, y6⟩ := ih (a + (pOne (l.drop a.toNat)).2.2.2.2.1) (acc ++ [⟨(pOne (l.drop a.toNat)).1, (pOne (l.drop a.toNat)).2.1, (pOne (l.drop a.toNat)).2.2.1, (pOne (l.drop a.toNat)).2.2.2.1⟩]) (by omega) (by omega) h
      generalize (⟨(pOne (l.drop a.toNat)).1, (pOne (l.drop a.toNat)).2.1, (pOne (l.drop a.toNat)).2.2.1, (pOne (l.drop a.toNat)).2.2.2.1⟩ : S41) = t at *
      generalize (pOne (l.drop a.toNat)).2.2.2.2.1 = n at *
      rw [List.append_assoc, List.singleton_append] at y1 y3
      refine ⟨t :: ys, y1, by rw [List.length_cons, y2], y3, ?_, ?_, ?_⟩
      · rw [y4, manyB_cons, List.length_append, g1]; push_cast; omega
      · rw [manyB_cons, List.length_append, take_add, g2]
        congr 1
        rw [List.drop_drop]
        have e2 : a.toNat + (oneB t).length = (a + n).toNat := by rw [g1]; omega
        rw [e2]
        exact y5
      · rw [manyB_cons, List.length_append]; push_cast; omega
    · rw [if_neg he] at h
      exact absurd h he
/-- what was read is laid down as the very bytes -/
theorem pAll_back (l : List Int) (hok : bytesOk l) (h : (pAll l).2.2 = 0) : (allErrC (pAll l).1).2 = 0 ∧ (pAll l).2.1 = ((allB (pAll l).1).length : Int) ∧ (allB (pAll l).1).length ≤ l.length ∧ l.take (allB (pAll l).1).length = allB (pAll l).1 := by
  unfold pAll at h ⊢
  by_cases he : (takeNum l).2.2 = 0
  · rw [if_pos he] at h ⊢
    by_cases hb : (takeNum l).1 > 32
    · rw [if_pos hb] at h; simp at h
    · rw [if_neg hb] at h ⊢
      have hf := takeNum_facts l hok he
      obtain ⟨g1, g2⟩ := numB_take l hok he
      obtain ⟨ys, y1, y2, y3, y4, y5, y6⟩ := pLoop_back l hok _ _ [] (by omega) (by omega) h
      rw [List.nil_append] at y1 y3
      rw [y1, y4]
      have en : ((ys.length : Nat) : Int) = (takeNum l).1 := by omega
      have ei : allB ys = numB 10 (takeNum l).1 ++ manyB ys := by unfold allB; rw [en]
      rw [ei, List.length_append]
      refine ⟨y3, ?_, ?_, ?_⟩
      · rw [g1]; push_cast; rfl
      · omega
      · rw [take_add, g2]
        congr 1
        have e2 : (numB 10 (takeNum l).1).length = (takeNum l).2.1.toNat := by rw [g1]; omega
        rw [e2]
        exact y5
  · rw [if_neg he] at h
    exact absurd h he
theorem pAll_err (l : List Int) (h : (pAll l).2.2 ≠ 0) : (pAll l).1 = [] ∧ (pAll l).2.1 = 0 := by
  have key : ∀ (m : Nat) (a : Int) (acc : List S41), (pLoop l m a acc).2.2 ≠ 0 → (pLoop l m a acc).1 = [] ∧ (pLoop l m a acc).2.1 = 0 := by
    intro m
    induction m with
    | zero =>
      intro a acc h
      rw [pLoop_zero] at h ⊢
      split at h
      · simp at h
      · rename_i c; rw [if_neg c]; exact ⟨rfl, rfl⟩
    | succ m ih =>
      intro a acc h
      rw [pLoop_succ] at h ⊢
      split at h
      · rename_i c; rw [if_pos c]; exact ih _ _ h
      · rename_i c; rw [if_neg c]; exact ⟨rfl, rfl⟩
  unfold pAll at h ⊢
  split at h
  · rename_i c
    rw [if_pos c]
    split at h
    · rename_i c2; rw [if_pos c2]; exact ⟨rfl, rfl⟩
    · rename_i c2; rw [if_neg c2]; exact key _ _ _ h
  · rename_i c; rw [if_neg c]; exact ⟨rfl, rfl⟩
theorem firstBad_zero (P : Nat → Int) : ∀ (n s : Nat), (firstBad P n s).2 = 0 → ∀ j, s ≤ j → j < s + n → P j = 0
  | 0, s, _, j, h1, h2 => by omega
  | n + 1, s, h, j, h1, h2 => by
    unfold firstBad at h
    by_cases hs : P s = 0
    · rw [if_neg (by simpa using hs)] at h
      by_cases e : j = s
      · rw [e]; exact hs
      · exact firstBad_zero P n (s + 1) h j (by omega) (by omega)
    · rw [if_pos hs] at h
      exact absurd h hs
theorem all_ok (l : List S41) (h : (allErrC l).2 = 0) : l.length ≤ 32 ∧ ∀ j, j < l.length → typeErr l j = 0 := by
  rw [allErrC_eq] at h
  unfold allErr at h
  by_cases h32 : 32 < l.length
  · rw [if_pos h32] at h
    simp at h
  · rw [if_neg h32] at h
    refine ⟨by omega, ?_⟩
    by_cases ha : ∀ j, j < l.length → typeErr l j = 0
    · exact ha
    · rw [if_neg ha] at h
      exact fun j hj => firstBad_zero _ _ _ h j (by omega) (by omega)
theorem type_ok (l : List S41) (i : Nat) (h : typeErr l i = 0) : nameAll (rd_T41 l i).f0 = true ∧ (rd_T41 l i).f3.length ≤ 12 ∧ ∀ k, k < (rd_T41 l i).f3.length → fieldErr l (rd_T41 l i).f1 (rd_T38 (rd_T41 l i).f3 k) = 0 := by
  unfold typeErr at h
  split at h
  · simp at h
  · rename_i h1
    split at h
    · simp at h
    · rename_i h2
      split at h
      · simp at h
      · refine ⟨?_, by omega, fieldsGo_zero _ _ _ _ _ _ h⟩
        cases hn : nameAll (rd_T41 l i).f0 with
        | true => rfl
        | false => exact absurd (.inl hn) h1
theorem zeros_ok (l : List Int) (h : zeros l = true) : ∀ x ∈ l, x = 0 := by
  unfold zeros at h
  simpa using h
theorem target_ok (l : List S41) (ty : Int) (g : S41 → Int) (h : target l ty g = 0) : 0 ≤ ty ∧ ty < l.length ∧ g (rd_T41 l ty) = 0 := by
  unfold target at h
  split at h
  · simp at h
  · split at h
    · simp at h
    · exact ⟨by omega, by omega, h⟩
theorem kindOf_in (fs : List S38) (i : Int) (h : kindOf fs i ≠ 0) : 0 ≤ i ∧ i < fs.length := by
  unfold kindOf at h
  split at h
  · assumption
  · exact absurd rfl h
def Tiny (x : Int) : Prop := 0 ≤ x ∧ x < 128
theorem field_ok (l : List S41) (tv : Bool) (f : S38) (hl : l.length ≤ 32) (h12 : ∀ q : Nat, q < l.length → (rd_T41 l q).f3.length ≤ 12) (h : fieldErr l tv f = 0) : Tiny f.f0 ∧ Tiny f.f1 ∧ Tiny f.f2 ∧ Tiny f.f3 ∧ Tiny f.f4 := by
  unfold fieldErr at h
  unfold Tiny
  by_cases c1 : f.f0 = 1
  · rw [if_pos c1] at h
    split at h
    · rename_i hz
      have := zeros_ok _ hz
      simp at this
      split at h
      · omega
      · simp at h
    · simp at h
  · rw [if_neg c1] at h
    by_cases c2 : f.f0 = 2
    · rw [if_pos c2] at h
      split at h
      · rename_i hz
        have := zeros_ok _ hz
        simp at this
        have := target_ok _ _ _ h
        omega
      · simp at h
    · rw [if_neg c2] at h
      by_cases c3 : f.f0 = 3 ∨ f.f0 = 4
      · rw [if_pos c3] at h
        split at h
        · rename_i hz
          rw [Bool.and_eq_true] at hz
          have := zeros_ok _ hz.1
          simp at this
          omega
        · simp at h
      · rw [if_neg c3] at h
        by_cases c5 : f.f0 = 5
        · rw [if_pos c5] at h
          split at h
          · rename_i hz
            rw [Bool.and_eq_true] at hz
            have := zeros_ok _ hz.1
            simp at this
            obtain ⟨t0, t1, t2⟩ := target_ok _ _ _ h
            obtain ⟨q, hq⟩ : ∃ q : Nat, f.f2 = q := ⟨f.f2.toNat, by omega⟩
            rw [hq] at t2 t1
            split at t2
            · rename_i hk
              have := kindOf_in _ _ (by rw [hk]; omega)
              have := h12 q (by omega)
              omega
            · simp at t2
          · simp at h
        · rw [if_neg c5] at h
          by_cases c6 : f.f0 = 6
          · rw [if_pos c6] at h
            split at h
            · rename_i hz
              rw [Bool.and_eq_true] at hz
              have := zeros_ok _ hz.1
              simp at this
              obtain ⟨t0, t1, t2⟩ := target_ok _ _ _ h
              obtain ⟨q, hq⟩ : ∃ q : Nat, f.f2 = q := ⟨f.f2.toNat, by omega⟩
              rw [hq] at t2 t1
              split at t2
              · rename_i hk
                simp only [Bool.and_eq_true, beq_iff_eq] at hk
                have := kindOf_in _ _ (show kindOf (rd_T41 l q).f3 f.f3 ≠ 0 by rw [hk.1.2]; omega)
                have := kindOf_in _ _ (show kindOf (rd_T41 l q).f3 f.f4 ≠ 0 by rw [hk.2]; omega)
                have := h12 q (by omega)
                omega
              · simp at t2
            · simp at h
          · rw [if_neg c6] at h
            split at h
            · rename_i c7
              split at h
              · rename_i hz
                rw [Bool.and_eq_true] at hz
                have := zeros_ok _ hz.1
                simp at this
                omega
              · simp at h
            · simp at h
theorem flat_mem : ∀ (l : List S38) (x : Int), x ∈ flat l → ∃ k, k < l.length ∧ (x = (rd_T38 l k).f0 ∨ x = (rd_T38 l k).f1 ∨ x = (rd_T38 l k).f2 ∨ x = (rd_T38 l k).f3 ∨ x = (rd_T38 l k).f4)
  | [], x, h => by simp [flat] at h
  | f :: r, x, h => by
    simp only [flat, List.mem_cons] at h
    have e0 : rd_T38 (f :: r) ((0 : Nat) : Int) = f := by simp [rd_T38]
    rcases h with h | h | h | h | h | h
    · exact ⟨0, by simp, by rw [e0]; simp [h]⟩
    · exact ⟨0, by simp, by rw [e0]; simp [h]⟩
    · exact ⟨0, by simp, by rw [e0]; simp [h]⟩
    · exact ⟨0, by simp, by rw [e0]; simp [h]⟩
    · exact ⟨0, by simp, by rw [e0]; simp [h]⟩
    · obtain ⟨k, hk, he⟩ := flat_mem r x h
      refine ⟨k + 1, by simp; omega, ?_⟩
      have e : rd_T38 (f :: r) ((k + 1 : Nat) : Int) = rd_T38 r (k : Int) := by simp [rd_T38]
      rw [e]
      exact he
def TinyT (t : S41) : Prop := nameAll t.f0 = true ∧ t.f3.length ≤ 12 ∧ ∀ x ∈ flat t.f3, Tiny x
theorem TinyT.good {t : S41} (h : TinyT t) : GoodT t := ⟨h.1, h.2.1, fun x hx => ⟨(h.2.2 x hx).1, by have := (h.2.2 x hx).2; omega⟩⟩
theorem all_tiny (l : List S41) (h : (allErrC l).2 = 0) : ∀ t ∈ l, TinyT t := by
  obtain ⟨h32, hall⟩ := all_ok l h
  intro t ht
  obtain ⟨i, hi, rfl⟩ := List.getElem_of_mem ht
  have e : rd_T41 l (i : Int) = l[i] := by simp [rd_T41, hi]
  have h12 : ∀ q : Nat, q < l.length → (rd_T41 l q).f3.length ≤ 12 := fun q hq => (type_ok l q (hall q hq)).2.1
  obtain ⟨a, b, c⟩ := type_ok l i (hall i hi)
  rw [e] at a b c
  refine ⟨a, b, fun x hx => ?_⟩
  obtain ⟨k, hk, hx⟩ := flat_mem _ x hx
  have := field_ok l _ _ h32 h12 (c k hk)
  rcases hx with rfl | rfl | rfl | rfl | rfl
  · exact this.1
  · exact this.2.1
  · exact this.2.2.1
  · exact this.2.2.2.1
  · exact this.2.2.2.2
/-! sizes -/
theorem numB_one (x : Int) (h : Tiny x) : numB 10 x = [x] := by
  have := h.2
  simp only [numB]
  rw [if_neg (by omega)]
theorem encs_tiny (l : List Int) (h : ∀ x ∈ l, Tiny x) : encs l = l := by
  induction l with
  | nil => rfl
  | cons x r ih =>
    have e : encs (x :: r) = numB 10 x ++ encs r := rfl
    rw [e, numB_one x (h x (by simp)), ih (fun y hy => h y (by simp [hy]))]
    rfl
theorem oneB_len (t : S41) (h : TinyT t) : (oneB t).length ≤ 79 := by
  obtain ⟨h1, h2, h3⟩ := h
  have hsz : t.f0.size ≤ 16 := by
    unfold nameAll at h1
    simp only [Bool.and_eq_true, decide_eq_true_eq] at h1
    exact h1.2
  have hfl := flags_small t
  unfold oneB textB intsB
  have ha : ∀ x ∈ flagsOf t :: flat t.f3, Tiny x := by
    intro x hx
    rcases List.mem_cons.1 hx with rfl | hx
    · exact ⟨hfl.1, by omega⟩
    · exact h3 x hx
  rw [encs_tiny _ ha, numB_one _ ⟨by omega, by omega⟩, numB_one _ ⟨by omega, by rw [List.length_cons, flat_length]; omega⟩]
  simp only [List.length_append, List.length_cons, List.length_nil, bytesOf_length, flat_length]
  omega
theorem manyB_len : ∀ (l : List S41), (∀ t ∈ l, TinyT t) → (manyB l).length ≤ 79 * l.length
  | [], _ => by simp [manyB]
  | t :: r, h => by
    have e : manyB (t :: r) = oneB t ++ manyB r := rfl
    have h1 := oneB_len t (h t (by simp))
    have h2 := manyB_len r (fun y hy => h y (by simp [hy]))
    rw [e, List.length_append, List.length_cons]
    omega
theorem allB_len (l : List S41) (hl : l.length ≤ 32) (h : ∀ t ∈ l, TinyT t) : (allB l).length ≤ 2529 := by
  have := manyB_len l h
  unfold allB
  rw [List.length_append, numB_one _ ⟨by omega, by omega⟩, List.length_singleton]
  omega
/-! Ints, Text, Bytes, reckoned -/
theorem u64_small (x : Int) (h0 : 0 ≤ x) (h1 : x < 18446744073709551616) : IntKind.u64.wrap x = x := by simp [IntKind.wrap, IntKind.bits, IntKind.signed]; omega
theorem f_wnum (x : Int) (h0 : 0 ≤ x) (h1 : x < 18446744073709551616) : wire_Number.f (IntKind.u64.wrap x) = some (numB 10 x) := by
  rw [u64_small x h0 h1]
  unfold wire_Number.f
  rw [if_pos ⟨h0, h1⟩]
theorem encs_append (a b : List Int) : encs (a ++ b) = encs a ++ encs b := by unfold encs; rw [List.flatMap_append]
theorem rd_nat (xs : List Int) (i : Nat) (h : i < xs.length) : rd xs (i : Int) = xs[i] := by simp [rd, h]
theorem ev_wIntsL (xs : List Int) (hl : xs.length ≤ 1000) (hs : ∀ x ∈ xs, Small x) : ∀ (m i : Nat) (acc : List Int), xs.length = i + m → acc.length ≤ 10 + 10 * i →
    Ev (fun k => wire_Ints.l0 k acc xs (xs.length : Int) i) (acc ++ encs (xs.drop i), 0) := by
  intro m
  induction m with
  | zero =>
    intro i acc h1 h2
    rw [List.drop_of_length_le (by omega)]
    refine Ev.step (f := fun k => some (acc, 0)) (fun k => ?_) (by simpa [encs] using Ev.now _)
    simp only [wire_Ints.l0]
    rw [if_neg (by omega)]
  | succ m ih =>
    intro i acc h1 h2
    have hi : i < xs.length := by omega
    have hx := hs (xs[i]) (List.getElem_mem hi)
    have hnl := numB_length 10 xs[i]
    have hd : xs.drop i = xs[i] :: xs.drop (i + 1) := List.drop_eq_getElem_cons hi
    have e : acc ++ encs (xs.drop i) = (acc ++ numB 10 xs[i]) ++ encs (xs.drop (i + 1)) := by
      rw [hd, List.append_assoc]
      rfl
    rw [e]
    refine Ev.step (f := fun k => wire_Ints.l0 k (acc ++ numB 10 xs[i]) xs (xs.length : Int) ((i + 1 : Nat) : Int)) (fun k => ?_) (ih (i + 1) (acc ++ numB 10 xs[i]) (by omega) (by rw [List.length_append]; omega))
    simp only [wire_Ints.l0]
    rw [rd_nat xs i hi, if_pos (by omega), if_pos (by omega), if_pos (by omega), if_neg (by have := hx.1; omega), if_neg (by have := hx.2; omega), f_wnum _ hx.1 (by have := hx.2; omega), Option.bind_some, if_pos (show acc.length + (numB 10 xs[i]).length < 140737488355328 by omega), wrap64_small _ (by omega) (by omega)]
    rfl
theorem ev_wInts (xs : List Int) (hl : xs.length ≤ 1000) (hs : ∀ x ∈ xs, Small x) : Ev (fun k => wire_Ints.f k xs) (intsB xs, 0) := by
  refine Ev.congr (f := fun k => wire_Ints.l0 k (numB 10 (xs.length : Int)) xs (xs.length : Int) ((0 : Nat) : Int)) (fun k => ?_) ?_
  · unfold wire_Ints.f
    rw [if_neg (by omega), f_wnum _ (by omega) (by omega), Option.bind_some]
    rfl
  · have := ev_wIntsL xs hl hs xs.length 0 (numB 10 (xs.length : Int)) (by omega) (by have := numB_length 10 (xs.length : Int); omega)
    rw [List.drop_zero] at this
    exact this
theorem f_wtext (s : ByteArray) (h : nameAll s = true) : wire_Text.f s = some (textB s, 0) := by
  have hsz : s.size ≤ 16 := by
    unfold nameAll at h
    simp only [Bool.and_eq_true, decide_eq_true_eq] at h
    exact h.2
  have hnl := numB_length 10 (s.size : Int)
  unfold wire_Text.f wire_name.f
  rw [if_pos (by omega), Option.bind_some, if_pos h, f_wnum _ (by omega) (by omega), Option.bind_some, if_pos (by omega)]
  rfl
theorem rd38_nat (xs : List S38) (i : Nat) (h : i < xs.length) : rd_T38 xs (i : Int) = xs[i] := by simp [rd_T38, h]
theorem rd41_nat (xs : List S41) (i : Nat) (h : i < xs.length) : rd_T41 xs (i : Int) = xs[i] := by simp [rd_T41, h]
theorem flat_snoc (a : List S38) (f : S38) : flat (a ++ [f]) = flat a ++ [f.f0, f.f1, f.f2, f.f3, f.f4] := by
  induction a with
  | nil => rfl
  | cons g r ih => simp only [List.cons_append, flat, ih]
theorem ev_bytesF (l : List S41) (i : Nat) (x6 tx : List Int) (t : S41) (ht : GoodT t) (h6 : x6.length ≤ 100000) (htx : tx.length ≤ 1000) (r : List Int × Int) (h : Ev (fun k => types_Bytes.l0 k ((x6 ++ tx) ++ intsB (flagsOf t :: flat t.f3)) l (l.length : Int) (wrap64 ((i : Int) + 1))) r) : ∀ (m q : Nat), t.f3.length = q + m →
    Ev (fun k => types_Bytes.l1 k x6 tx (flagsOf t :: flat (t.f3.take q)) l (l.length : Int) i t.f3 (t.f3.length : Int) q) r := by
  have hfl := flags_small t
  have hsm : ∀ y ∈ flagsOf t :: flat t.f3, Small y := by
    intro y hy
    rcases List.mem_cons.1 hy with rfl | hy
    · exact ⟨hfl.1, by omega⟩
    · exact ht.2.2 y hy
  have h12 := ht.2.1
  have hfll : (flagsOf t :: flat t.f3).length ≤ 61 := by rw [List.length_cons, flat_length]; omega
  have hib : (intsB (flagsOf t :: flat t.f3)).length ≤ 10 + 610 := by
    have h1 := numB_length 10 ((flagsOf t :: flat t.f3).length : Int)
    have h2 : ∀ l : List Int, (encs l).length ≤ 10 * l.length := by
      intro l
      induction l with
      | nil => simp [encs]
      | cons x r ih =>
        have e : encs (x :: r) = numB 10 x ++ encs r := rfl
        have := numB_length 10 x
        rw [e, List.length_append, List.length_cons]
        omega
    have := h2 (flagsOf t :: flat t.f3)
    unfold intsB
    rw [List.length_append]
    omega
  intro m
  induction m with
  | zero =>
    intro q hq
    rw [List.take_of_length_le (by omega)]
    refine Ev.step (f := fun k => (wire_Ints.f k (flagsOf t :: flat t.f3)).bind fun bt216 => (if x6.length + tx.length < 140737488355328 then ((some (x6 ++ tx : List Int)).bind fun y220 => (if y220.length + bt216.1.length < 140737488355328 then (types_Bytes.l0 k (y220 ++ bt216.1) l (l.length : Int) (wrap64 ((i : Int) + 1))) else (none))) else (none))) (fun k => ?_) (Ev.bind (f := fun k bt216 => (if x6.length + tx.length < 140737488355328 then ((some (x6 ++ tx : List Int)).bind fun y220 => (if y220.length + bt216.1.length < 140737488355328 then (types_Bytes.l0 k (y220 ++ bt216.1) l (l.length : Int) (wrap64 ((i : Int) + 1))) else (none))) else (none))) (ev_wInts _ (by omega) hsm) ?_)
    · simp only [types_Bytes.l1]
      rw [if_neg (by omega)]
    · refine Ev.congr (f := fun k => types_Bytes.l0 k ((x6 ++ tx) ++ intsB (flagsOf t :: flat t.f3)) l (l.length : Int) (wrap64 ((i : Int) + 1))) (fun k => ?_) h
      rw [if_pos (by omega), Option.bind_some, if_pos (by rw [List.length_append]; simp only []; omega)]
  | succ m ih =>
    intro q hq
    have hql : q < t.f3.length := by omega
    have hl5 : (flagsOf t :: flat (t.f3.take q)).length ≤ 61 := by rw [List.length_cons, flat_length, List.length_take]; omega
    refine Ev.step (f := fun k => types_Bytes.l1 k x6 tx (flagsOf t :: flat (t.f3.take (q + 1))) l (l.length : Int) i t.f3 (t.f3.length : Int) ((q + 1 : Nat) : Int)) (fun k => ?_) (ih (q + 1) (by omega))
    simp only [types_Bytes.l1]
    rw [if_pos (by omega), if_pos (by omega), if_pos (by omega), Option.bind_some, if_pos (by simp only [List.length_cons, List.length_nil] at hl5 ⊢; omega), rd38_nat _ q hql, List.take_succ_eq_append_getElem hql, flat_snoc, wrap64_small _ (by omega) (by omega)]
    rfl
theorem ev_bytesL (l : List S41) (hl : l.length ≤ 32) (hg : ∀ t ∈ l, TinyT t) : ∀ (m i : Nat) (acc : List Int), l.length = i + m → acc.length ≤ 10 + 79 * i →
    Ev (fun k => types_Bytes.l0 k acc l (l.length : Int) i) (acc ++ manyB (l.drop i), 0) := by
  intro m
  induction m with
  | zero =>
    intro i acc h1 h2
    rw [List.drop_of_length_le (by omega)]
    refine Ev.step (f := fun k => some (acc, 0)) (fun k => ?_) (by simpa [manyB] using Ev.now _)
    simp only [types_Bytes.l0]
    rw [if_neg (by omega)]
  | succ m ih =>
    intro i acc h1 h2
    have hi : i < l.length := by omega
    have ht := hg (l[i]) (List.getElem_mem hi)
    have hol := oneB_len _ ht
    have hd : l.drop i = l[i] :: l.drop (i + 1) := List.drop_eq_getElem_cons hi
    have e : acc ++ manyB (l.drop i) = (acc ++ oneB l[i]) ++ manyB (l.drop (i + 1)) := by
      rw [hd, List.append_assoc]
      rfl
    rw [e]
    have hnext := ih (i + 1) (acc ++ oneB l[i]) (by omega) (by rw [List.length_append]; omega)
    have e2 : acc ++ oneB l[i] = (acc ++ textB l[i].f0) ++ intsB (flagsOf l[i] :: flat l[i].f3) := by
      rw [List.append_assoc]
      rfl
    have htxl : (textB l[i].f0).length ≤ 79 := by
      have : (oneB l[i]).length = (textB l[i].f0).length + (intsB (flagsOf l[i] :: flat l[i].f3)).length := by
        unfold oneB
        rw [List.length_append]
      omega
    have hwi : wrap64 ((i : Int) + 1) = ((i + 1 : Nat) : Int) := wrap64_small _ (by omega) (by omega)
    have hf := ev_bytesF l i acc (textB l[i].f0) l[i] ht.good (by omega) (by omega) _ (by rw [← e2, hwi]; exact hnext) l[i].f3.length 0 (by omega)
    have hrd := rd41_nat l i hi
    generalize hT : l[i] = t at *
    have f0 : flat (t.f3.take 0) = [] := by simp [flat]
    rw [f0] at hf
    cases hb1 : t.f1 with
    | true =>
      cases hb2 : t.f2 with
      | true =>
        have hfl : flagsOf t = 3 := by unfold flagsOf; rw [hb1, hb2]; rfl
        rw [hfl] at hf
        refine Ev.step (f := fun k => types_Bytes.j1 k acc (textB t.f0) 1 l (l.length : Int) i t.f0 true true t.f3) (fun k => ?_) (Ev.step (f := fun k => types_Bytes.j2 k acc (textB t.f0) 3 l (l.length : Int) i t.f0 true true t.f3) (fun k => ?_) (Ev.step (f := fun k => types_Bytes.l1 k acc (textB t.f0) [3] l (l.length : Int) i t.f3 (t.f3.length : Int) ((0 : Nat) : Int)) (fun k => ?_) hf))
        · simp only [types_Bytes.l0]
          rw [if_pos (by omega), if_pos (by omega), if_pos (by omega), hrd, f_wtext _ ht.1, Option.bind_some, if_pos hb1, hb1, hb2]
          rfl
        · simp only [types_Bytes.j1]
          rw [if_pos trivial, wrap64_small (1 + 2) (by omega) (by omega)]
          rfl
        · simp only [types_Bytes.j2]
          rfl
      | false =>
        have hfl : flagsOf t = 1 := by unfold flagsOf; rw [hb1, hb2]; rfl
        rw [hfl] at hf
        refine Ev.step (f := fun k => types_Bytes.j1 k acc (textB t.f0) 1 l (l.length : Int) i t.f0 true false t.f3) (fun k => ?_) (Ev.step (f := fun k => types_Bytes.j2 k acc (textB t.f0) 1 l (l.length : Int) i t.f0 true false t.f3) (fun k => ?_) (Ev.step (f := fun k => types_Bytes.l1 k acc (textB t.f0) [1] l (l.length : Int) i t.f3 (t.f3.length : Int) ((0 : Nat) : Int)) (fun k => ?_) hf))
        · simp only [types_Bytes.l0]
          rw [if_pos (by omega), if_pos (by omega), if_pos (by omega), hrd, f_wtext _ ht.1, Option.bind_some, if_pos hb1, hb1, hb2]
          rfl
        · simp only [types_Bytes.j1]
          rfl
        · simp only [types_Bytes.j2]
          rfl
    | false =>
      cases hb2 : t.f2 with
      | true =>
        have hfl : flagsOf t = 2 := by unfold flagsOf; rw [hb1, hb2]; rfl
        rw [hfl] at hf
        refine Ev.step (f := fun k => types_Bytes.j1 k acc (textB t.f0) 0 l (l.length : Int) i t.f0 false true t.f3) (fun k => ?_) (Ev.step (f := fun k => types_Bytes.j2 k acc (textB t.f0) 2 l (l.length : Int) i t.f0 false true t.f3) (fun k => ?_) (Ev.step (f := fun k => types_Bytes.l1 k acc (textB t.f0) [2] l (l.length : Int) i t.f3 (t.f3.length : Int) ((0 : Nat) : Int)) (fun k => ?_) hf))
        · simp only [types_Bytes.l0]
          rw [if_pos (by omega), if_pos (by omega), if_pos (by omega), hrd, f_wtext _ ht.1, Option.bind_some, if_neg (by rw [hb1]; simp), hb1, hb2]
        · simp only [types_Bytes.j1]
          rw [if_pos trivial, wrap64_small (0 + 2) (by omega) (by omega)]
          rfl
        · simp only [types_Bytes.j2]
          rfl
      | false =>
        have hfl : flagsOf t = 0 := by unfold flagsOf; rw [hb1, hb2]; rfl
        rw [hfl] at hf
        refine Ev.step (f := fun k => types_Bytes.j1 k acc (textB t.f0) 0 l (l.length : Int) i t.f0 false false t.f3) (fun k => ?_) (Ev.step (f := fun k => types_Bytes.j2 k acc (textB t.f0) 0 l (l.length : Int) i t.f0 false false t.f3) (fun k => ?_) (Ev.step (f := fun k => types_Bytes.l1 k acc (textB t.f0) [0] l (l.length : Int) i t.f3 (t.f3.length : Int) ((0 : Nat) : Int)) (fun k => ?_) hf))
        · simp only [types_Bytes.l0]
          rw [if_pos (by omega), if_pos (by omega), if_pos (by omega), hrd, f_wtext _ ht.1, Option.bind_some, if_neg (by rw [hb1]; simp), hb1, hb2]
        · simp only [types_Bytes.j1]
          rfl
        · simp only [types_Bytes.j2]
          rfl
/-- what Bytes tells -/
def bAll (l : List S41) : List Int × Int := if (allErrC l).2 = 0 then (allB l, 0) else ([], (allErrC l).2)
def Names (l : List S41) : Prop := ∀ i, i < l.length → (rd_T41 l i).f0.size ≤ 9223372036854775807
theorem f_checkN (l : List S41) (h : Names l) : types_Check.f l = some (allErrC l) := by
  unfold types_Check.f
  exact if_pos h
theorem ev_bytes (l : List S41) (h : Names l) : Ev (fun k => types_Bytes.f k l) (bAll l) := by
  unfold bAll
  by_cases he : (allErrC l).2 = 0
  · rw [if_pos he]
    have h32 := (all_ok l he).1
    refine Ev.congr (f := fun k => types_Bytes.l0 k (numB 10 (l.length : Int)) l (l.length : Int) ((0 : Nat) : Int)) (fun k => ?_) ?_
    · unfold types_Bytes.f
      rw [f_checkN l h, Option.bind_some, if_pos he, f_wnum _ (by omega) (by omega), Option.bind_some]
      rfl
    · have := ev_bytesL l h32 (all_tiny l he) l.length 0 (numB 10 (l.length : Int)) (by omega) (by have := numB_length 10 (l.length : Int); omega)
      rw [List.drop_zero] at this
      exact this
  · rw [if_neg he]
    refine Ev.congr (f := fun k => some _) (fun k => ?_) (Ev.now _)
    unfold types_Bytes.f
    rw [f_checkN l h, Option.bind_some, if_neg he]
theorem good_names {l : List S41} (h : Good l) : Names l := fun i hi => by
  have := (h _ (rd41_in l i hi)).1
  omega
theorem ev_j0 (l2 : List Int) (hl : l2.length ≤ 140737488355328) (hok : bytesOk l2) : Ev (fun k => turnbucklelaw05_TypesBack.j0 k l2 true) true := by
  have hg := pAll_good l2 hok
  refine Ev.step (f := fun k => (types_Parse.f k l2).bind fun bt248 => (if bt248.2.2 = 0 then ((types_Bytes.f k bt248.1).bind fun bt253 => (if true = true then (if bt253.2 = 0 then (if bt248.2.1 ≥ 0 then (if bt248.2.1 ≤ (l2.length : Int) then (if 0 ≤ bt248.2.1 then (some ((strOfNums bt253.1).toList == (strOfNums (l2.take (bt248.2.1 : Int).toNat)).toList)) else (none)) else (some false)) else (some false)) else (some false)) else (some false))) else (if true = true then (if (bt248.1.length : Int) = 0 then (some (bt248.2.1 == 0)) else (some false)) else (some false)))) (fun k => by simp only [turnbucklelaw05_TypesBack.j0]) ?_
  refine Ev.bind (f := fun k bt248 => (if bt248.2.2 = 0 then ((types_Bytes.f k bt248.1).bind fun bt253 => (if true = true then (if bt253.2 = 0 then (if bt248.2.1 ≥ 0 then (if bt248.2.1 ≤ (l2.length : Int) then (if 0 ≤ bt248.2.1 then (some ((strOfNums bt253.1).toList == (strOfNums (l2.take (bt248.2.1 : Int).toNat)).toList)) else (none)) else (some false)) else (some false)) else (some false)) else (some false))) else (if true = true then (if (bt248.1.length : Int) = 0 then (some (bt248.2.1 == 0)) else (some false)) else (some false)))) (ev_parse l2 hl hok) ?_
  by_cases he : (pAll l2).2.2 = 0
  · obtain ⟨b1, b2, b3, b4⟩ := pAll_back l2 hok he
    refine Ev.congr (f := fun k => (types_Bytes.f k (pAll l2).1).bind fun bt253 => (if true = true then (if bt253.2 = 0 then (if (pAll l2).2.1 ≥ 0 then (if (pAll l2).2.1 ≤ (l2.length : Int) then (if 0 ≤ (pAll l2).2.1 then (some ((strOfNums bt253.1).toList == (strOfNums (l2.take ((pAll l2).2.1 : Int).toNat)).toList)) else (none)) else (some false)) else (some false)) else (some false)) else (some false))) (fun k => by rw [if_pos he]) ?_
    refine Ev.bind (f := fun k bt253 => (if true = true then (if bt253.2 = 0 then (if (pAll l2).2.1 ≥ 0 then (if (pAll l2).2.1 ≤ (l2.length : Int) then (if 0 ≤ (pAll l2).2.1 then (some ((strOfNums bt253.1).toList == (strOfNums (l2.take ((pAll l2).2.1 : Int).toNat)).toList)) else (none)) else (some false)) else (some false)) else (some false)) else (some false))) (ev_bytes (pAll l2).1 (good_names hg.1)) ?_
    have hb : bAll (pAll l2).1 = (allB (pAll l2).1, 0) := by unfold bAll; rw [if_pos b1]
    rw [hb]
    refine Ev.congr (f := fun k => some true) (fun k => ?_) (Ev.now _)
    rw [if_pos rfl, if_pos rfl, if_pos (by omega), if_pos (by omega), if_pos (by omega), b2, Int.toNat_natCast, b4]
    simp
  · obtain ⟨p1, p2⟩ := pAll_err l2 he
    refine Ev.congr (f := fun k => some true) (fun k => ?_) (Ev.now _)
    rw [if_neg he, if_pos rfl, p1, p2]
    simp
/-- the law, without memory -/
theorem TypesBack (l0 : List S41) (l1 l2 : List Int) (hn : Names l0) (h1 : l1.length ≤ 140737488351232) (h2 : l2.length ≤ 140737488351232) (hok1 : bytesOk l1) (hok2 : bytesOk l2) : ∃ k, turnbucklelaw05_TypesBack.f k l0 l1 l2 = some true := by
  have hj := ev_j0 l2 (by omega) hok2
  have hev : Ev (fun k => turnbucklelaw05_TypesBack.f k l0 l1 l2) true := by
    refine Ev.congr (f := fun k => (types_Bytes.f k l0).bind fun bt227 => ((types_Check.f l0).bind fun bt231 => (if bt227.2 = bt231.2 then (if bt227.2 = 0 then ((some (([] : List Int) : List Int)).bind fun y233 => (if y233.length + bt227.1.length < 140737488355328 then ((some (y233 ++ bt227.1 : List Int)).bind fun y236 => (if y236.length + l1.length < 140737488355328 then ((types_Parse.f k (y236 ++ l1)).bind fun bt242 => ((turnbuckleref05_Same.f k bt242.1 l0).bind fun t247 => (if t247 = true then (if bt242.2.1 = (bt227.1.length : Int) then (if bt242.2.2 = 0 then (turnbucklelaw05_TypesBack.j0 k l2 true) else (some false)) else (some false)) else (some false)))) else (none))) else (none))) else (turnbucklelaw05_TypesBack.j0 k l2 true)) else (some false)))) (fun k => by unfold turnbucklelaw05_TypesBack.f turnbucklelaw05_shown.f; rfl) ?_
    refine Ev.bind (f := fun k bt227 => ((types_Check.f l0).bind fun bt231 => (if bt227.2 = bt231.2 then (if bt227.2 = 0 then ((some (([] : List Int) : List Int)).bind fun y233 => (if y233.length + bt227.1.length < 140737488355328 then ((some (y233 ++ bt227.1 : List Int)).bind fun y236 => (if y236.length + l1.length < 140737488355328 then ((types_Parse.f k (y236 ++ l1)).bind fun bt242 => ((turnbuckleref05_Same.f k bt242.1 l0).bind fun t247 => (if t247 = true then (if bt242.2.1 = (bt227.1.length : Int) then (if bt242.2.2 = 0 then (turnbucklelaw05_TypesBack.j0 k l2 true) else (some false)) else (some false)) else (some false)))) else (none))) else (none))) else (turnbucklelaw05_TypesBack.j0 k l2 true)) else (some false)))) (ev_bytes l0 hn) ?_
    by_cases he : (allErrC l0).2 = 0
    · have hb : bAll l0 = (allB l0, 0) := by unfold bAll; rw [if_pos he]
      rw [hb]
      obtain ⟨h32, _⟩ := all_ok l0 he
      have htn := all_tiny l0 he
      have hlen := allB_len l0 h32 htn
      have hgt : ∀ t ∈ l0, GoodT t := fun t ht => (htn t ht).good
      have hokA : bytesOk (allB l0 ++ l1) := bytesOk_app (allB_ok l0 h32 hgt) hok1
      have hp := pAll_allB l0 l1 h32 hgt he
      have hgood : Good l0 := fun t ht => by
        obtain ⟨a, b, _⟩ := htn t ht
        unfold nameAll at a
        simp only [Bool.and_eq_true, decide_eq_true_eq] at a
        exact ⟨a.2, by omega⟩
      refine Ev.congr (f := fun k => (types_Parse.f k (allB l0 ++ l1)).bind fun bt242 => ((turnbuckleref05_Same.f k bt242.1 l0).bind fun t247 => (if t247 = true then (if bt242.2.1 = ((allB l0).length : Int) then (if bt242.2.2 = 0 then (turnbucklelaw05_TypesBack.j0 k l2 true) else (some false)) else (some false)) else (some false)))) (fun k => ?_) ?_
      · rw [f_checkN l0 hn, Option.bind_some, if_pos he.symm, if_pos rfl, Option.bind_some, if_pos (by simp only [List.length_nil]; omega), Option.bind_some, List.nil_append, if_pos (by simp only []; omega)]
      · refine Ev.bind (f := fun k bt242 => ((turnbuckleref05_Same.f k bt242.1 l0).bind fun t247 => (if t247 = true then (if bt242.2.1 = ((allB l0).length : Int) then (if bt242.2.2 = 0 then (turnbucklelaw05_TypesBack.j0 k l2 true) else (some false)) else (some false)) else (some false)))) (ev_parse (allB l0 ++ l1) (by rw [List.length_append]; omega) hokA) ?_
        rw [hp]
        refine Ev.bind (f := fun k t247 => (if t247 = true then (if ((allB l0).length : Int) = ((allB l0).length : Int) then (if (0 : Int) = 0 then (turnbucklelaw05_TypesBack.j0 k l2 true) else (some false)) else (some false)) else (some false))) (ev_same l0 h32 hgood) ?_
        refine Ev.congr (fun k => ?_) hj
        rw [if_pos rfl, if_pos rfl, if_pos rfl]
    · have hb : bAll l0 = ([], (allErrC l0).2) := by unfold bAll; rw [if_neg he]
      rw [hb]
      refine Ev.congr (fun k => ?_) hj
      rw [f_checkN l0 hn, Option.bind_some, if_pos rfl, if_neg he]
  exact hev.rounds
end Go.Proofs.Ytckijljnomojiaa.PureBack
