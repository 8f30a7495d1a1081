/- TypesBack: types that Bytes laid down are read by Parse again, all of their bytes, whatever stands behind; what Parse read is laid down as the very bytes; no condition but those of the given statement. -/
import Derived.Test.YtckijljnomojiaaRows
import Derived.Test.YtckijljnomojiaaPTypesBackx9
import Derived.Test.YtckijljnomojiaaPureTypesBack
import Derived.WalkKit
import Derived.ProofKit
import Derived.OpenShut
import Derived.ShutString
import Derived.ChangeOld
import Derived.Below
import Derived.SizedLaws
import Derived.ChangeArms
import Derived.DataReads
import Derived.Test.YtckijljnomojiaaWSized
namespace Go.Proofs.Ytckijljnomojiaa.PTypesBack
open Go.RowKit Go.Proofs.YtckijljnomojiaaW.PrintWords Go.Proofs.YtckijljnomojiaaW.PrintLast Go.Proofs.YtckijljnomojiaaW.PrintMore
set_option linter.unusedVariables false
set_option linter.unusedSimpArgs false
/-- a slice that came in, element by element -/
theorem slice_in {α H : Type} {enc : TypeId × Value → H} {W : World} {base : Nat} {spare : Nat → Bool} {held : Bool} (d : Kd α) (e t : TypeId) (ht : Try.prog.underlying t = some (.slice e)) (hsz : Try.prog.cellsOf e = d.sz)
    (G : α → Prop) (hel : ∀ n cs y, DataW.trod enc Try.prog W base spare held n e cs = some y → ∃ a, d.K W a cs ∧ G a) {fuel : Nat} {cs : List Value} {x : DataW H × List MemPlace} (h : DataW.trod enc Try.prog W base spare held fuel t cs = some x) :
    ∃ A n c l, cs = [.slice A n c] ∧ l.length = n ∧ n ≤ c ∧ d.C W A n l ∧ ∀ x ∈ l, G x := by
  rcases DataW.trod_slice ht h with ⟨rfl, _⟩ | ⟨a, len, cap, elems, rest, n, _, rfl, _, hb, hl, hm, hlen, hall, _, _⟩
  · exact ⟨none, 0, 0, [], rfl, rfl, Nat.le_refl _, Kd.C_nil d W, by simp⟩
  · have hch : ∀ i : Fin len, ∃ p : α, G p ∧ ∃ c, c.length = d.sz ∧ d.K W p c ∧ ∀ j u, c[j]? = some u → W.cell? (a.add (i.1 * d.sz + j)) = some u := by
      intro i
      have h1 := hall i.1 i.2
      have hie : i.1 < elems.length := by rw [hlen]; exact i.2
      rw [List.getElem?_eq_getElem hie] at h1
      obtain ⟨c, hc, htr⟩ := Option.bind_eq_some_iff.1 h1
      obtain ⟨p, hp, hGp⟩ := hel _ _ _ htr
      obtain ⟨_, hcl, hcell⟩ := World.cells?_some hc
      refine ⟨p, hGp, c, by rw [hcl, hsz], hp, fun j u hj => ?_⟩
      have hjl := (List.getElem?_eq_some_iff.1 hj).1
      have h2 := hcell j (by omega)
      rw [Addr.add_add, hsz] at h2
      rw [h2]
      exact hj
    obtain ⟨f, hf⟩ := Classical.axiomOfChoice hch
    refine ⟨some a, len, cap, List.ofFn f, rfl, by simp, hl, ⟨by simp, by have := hm; unfold maxLen at this; omega, fun _ => ⟨a, rfl, fun j p hj => ?_⟩⟩, fun x hx => by obtain ⟨i, rfl⟩ := List.mem_ofFn.1 hx; exact (hf i).1⟩
    rw [List.getElem?_ofFn] at hj
    split at hj
    · rename_i hjl
      cases hj
      exact (hf ⟨j, hjl⟩).2
    · cases hj
theorem one_of {cs : List Value} {k n : Nat} {v : Value} (h : (cs.drop k).take n = [v]) : cs[k]? = some v := by
  have h1 : ((cs.drop k).take n)[0]? = some v := by rw [h]; rfl
  rw [List.getElem?_take] at h1
  split at h1
  · rwa [List.getElem?_drop, Nat.add_zero] at h1
  · cases h1
theorem elem38 {H : Type} {enc : TypeId × Value → H} {W : World} {base : Nat} {spare : Nat → Bool} {held : Bool} : ∀ n cs y, DataW.trod (H := H) enc Try.prog W base spare held n 38 cs = some y → ∃ a, k38.K W a cs ∧ True := by
  intro n cs y h
  obtain ⟨xs, m, _, _, hl, hxl, hf⟩ := DataW.trod_struct Try.underlying38 h
  have hlen : cs.length = 5 := hl
  have key : ∀ i, i < 5 → ∃ z, cs[i]? = some (.int .i64 z) := by
    intro i hi
    have hx : i < xs.length := by rw [hxl]; exact hi
    match i, hi with
    | 0, _ => have h0 := hf 0 _ rfl; rw [List.getElem?_eq_getElem hx] at h0; obtain ⟨z, hz, _⟩ := DataW.trod_int Try.underlying3 h0; exact ⟨z, one_of hz⟩
    | 1, _ => have h0 := hf 1 _ rfl; rw [List.getElem?_eq_getElem hx] at h0; obtain ⟨z, hz, _⟩ := DataW.trod_int Try.underlying3 h0; exact ⟨z, one_of hz⟩
    | 2, _ => have h0 := hf 2 _ rfl; rw [List.getElem?_eq_getElem hx] at h0; obtain ⟨z, hz, _⟩ := DataW.trod_int Try.underlying3 h0; exact ⟨z, one_of hz⟩
    | 3, _ => have h0 := hf 3 _ rfl; rw [List.getElem?_eq_getElem hx] at h0; obtain ⟨z, hz, _⟩ := DataW.trod_int Try.underlying3 h0; exact ⟨z, one_of hz⟩
    | 4, _ => have h0 := hf 4 _ rfl; rw [List.getElem?_eq_getElem hx] at h0; obtain ⟨z, hz, _⟩ := DataW.trod_int Try.underlying3 h0; exact ⟨z, one_of hz⟩
  obtain ⟨z0, k0⟩ := key 0 (by omega)
  obtain ⟨z1, k1⟩ := key 1 (by omega)
  obtain ⟨z2, k2⟩ := key 2 (by omega)
  obtain ⟨z3, k3⟩ := key 3 (by omega)
  obtain ⟨z4, k4⟩ := key 4 (by omega)
  obtain ⟨c0, c1, c2, c3, c4, rfl⟩ : ∃ c0 c1 c2 c3 c4, cs = [c0, c1, c2, c3, c4] := by
    clear key hf hl h k0 k1 k2 k3 k4
    match cs, hlen with
    | [c0, c1, c2, c3, c4], _ => exact ⟨_, _, _, _, _, rfl⟩
  ·
    obtain rfl := Option.some.inj (show some c0 = some _ from k0)
    obtain rfl := Option.some.inj (show some c1 = some _ from k1)
    obtain rfl := Option.some.inj (show some c2 = some _ from k2)
    obtain rfl := Option.some.inj (show some c3 = some _ from k3)
    obtain rfl := Option.some.inj (show some c4 = some _ from k4)
    exact ⟨⟨z0, z1, z2, z3, z4⟩, k38_mk W ⟨z0, z1, z2, z3, z4⟩, trivial⟩
theorem elem41 {H : Type} {enc : TypeId × Value → H} {W : World} {base : Nat} {spare : Nat → Bool} {held : Bool} : ∀ n cs y, DataW.trod (H := H) enc Try.prog W base spare held n 41 cs = some y → ∃ a, k41.K W a cs ∧ a.f0.size ≤ 9223372036854775807 := by
  intro n cs y h
  obtain ⟨xs, m, _, _, hl, hxl, hf⟩ := DataW.trod_struct Try.underlying41 h
  have hlen : cs.length = 4 := hl
  have hx : ∀ i, i < 4 → i < xs.length := fun i hi => by rw [hxl]; exact hi
  have h0 := hf 0 _ rfl
  have h1 := hf 1 _ rfl
  have h2 := hf 2 _ rfl
  have h3 := hf 3 _ rfl
  rw [List.getElem?_eq_getElem (hx 0 (by omega))] at h0
  rw [List.getElem?_eq_getElem (hx 1 (by omega))] at h1
  rw [List.getElem?_eq_getElem (hx 2 (by omega))] at h2
  rw [List.getElem?_eq_getElem (hx 3 (by omega))] at h3
  obtain ⟨s, hs, _, hsl⟩ := DataW.trod_string Try.underlying9 h0
  obtain ⟨b1, hb1, _⟩ := DataW.trod_bool Try.underlying4 h1
  obtain ⟨b2, hb2, _⟩ := DataW.trod_bool Try.underlying4 h2
  obtain ⟨A, q, c, l, hA, hq, hc, hC, _⟩ := slice_in k38 38 39 Try.underlying39 (by kernel_rfl) (fun _ => True) elem38 h3
  have k0 := one_of hs
  have k1 := one_of hb1
  have k2 := one_of hb2
  have k3 := one_of hA
  obtain ⟨c0, c1, c2, c3, rfl⟩ : ∃ c0 c1 c2 c3, cs = [c0, c1, c2, c3] := by
    clear hf hl h h0 h1 h2 h3 hs hb1 hb2 hA k0 k1 k2 k3
    match cs, hlen with
    | [c0, c1, c2, c3], _ => exact ⟨_, _, _, _, rfl⟩
  ·
    obtain rfl := Option.some.inj (show some c0 = some _ from k0)
    obtain rfl := Option.some.inj (show some c1 = some _ from k1)
    obtain rfl := Option.some.inj (show some c2 = some _ from k2)
    obtain rfl := Option.some.inj (show some c3 = some _ from k3)
    subst hq
    exact ⟨⟨s, b1, b2, l⟩, k41_mk W ⟨s, b1, b2, l⟩ hc hC, by unfold maxLen at hsl; exact hsl⟩
/-- []api.Type that came in -/
theorem types_in {H : Type} {enc : TypeId × Value → H} {W : World} {base : Nat} {spare : Nat → Bool} {held : Bool} {fuel : Nat} {cs : List Value} {x : DataW H × List MemPlace} (h : DataW.trod enc Try.prog W base spare held fuel 24 cs = some x) :
    ∃ A n c l, cs = [.slice A n c] ∧ l.length = n ∧ n ≤ c ∧ Kd.C k41 W A n l ∧ ∀ x ∈ l, x.f0.size ≤ 9223372036854775807 := slice_in k41 41 24 Try.underlying24 (by kernel_rfl) (fun x => x.f0.size ≤ 9223372036854775807) elem41 h
end Go.Proofs.Ytckijljnomojiaa.PTypesBack
namespace Go.Proofs.Ytckijljnomojiaa.typesBack
open Go.ChangeShapes Go.WideShapes Go.ChangeAt Go.RowKit
open Go.ChangeMaps (open_string shut_string)
open Go.Proofs.YtckijljnomojiaaW.PrintWords
set_option linter.unusedVariables false
theorem own : ownKnob Try.prog.godebug = none := by kernel_rfl
theorem laidOut : laidOutB Try.prog = true := by kernel_rfl
theorem bytes_ok {zs : List Int} (h : ∀ n ∈ zs, (Lit.int .u8 n).wf = true) : PTypesBack.bytesOk zs := fun x hx => by
  have := h x hx
  simp [Lit.wf, IntKind.min, IntKind.max, IntKind.signed, IntKind.bits] at this
  omega
/-- bytes that came in -/
theorem bytes_in {H : Type} {enc : TypeId × Value → H} {W : World} {base : Nat} {spare : Nat → Bool} {held : Bool} {fuel : Nat} {cs : List Value} {x : DataW H × List MemPlace} (h : DataW.trod enc Try.prog W base spare held fuel 22 cs = some x) :
    ∃ A c l, cs = [.slice A l.length c] ∧ l.length ≤ c ∧ Kd.C (Kd.int .u8) W A l.length l ∧ PTypesBack.bytesOk l := by
  rcases open_ints Try.underlying22 Try.underlying5 (by kernel_rfl) h with ⟨hcs, _⟩ | ⟨a, l, c, zs, hcs, _, hl, hm, hz, _, hcell, hwz⟩
  · exact ⟨none, 0, [], hcs, Nat.le_refl _, Kd.C_nil _ _, fun x hx => by simp at hx⟩
  · have hll : l ≤ zs.length := by rw [hz]; split <;> omega
    have hzl : (zs.take l).length = l := by rw [List.length_take]; omega
    refine ⟨some a, c, zs.take l, by rw [hzl]; exact hcs, by rw [hzl]; exact hl, ?_, bytes_ok (fun n hn => hwz n (List.mem_of_mem_take hn))⟩
    refine Kd.C_of_reads (d := (0 : Int)) (h1 := fun _ => rfl) ⟨rfl, by rw [hzl]; unfold maxLen at hm; omega, fun _ => ⟨a, rfl, fun j hj => ?_⟩⟩
    have hjl : j < l := by omega
    rw [hcell j (by omega)]
    simp [List.getD_eq_getElem?_getD, hjl]
set_option maxRecDepth 100000 in
theorem lifted (os : Os) (started : os.Started) (H : Type) (enc : TypeId × Value → H) :
    ReturnsInHanded {} Try.checked os 4 .any (Rows.typesBackSpec.pre6 enc Try.prog Try.f4 Rows.typesBackRow.domain false) (Rows.typesBackSpec.post enc Try.prog Try.f4 false true false false) := by
  refine returnsInHanded_of_change_sized (C := Try.checked) own started (by kernel_rfl) Try.func4
    (ChangeSpec.witness6 (enc := enc) (C := Try.checked) false ⟨#[], #[.slice none 0 0, .slice none 0 0, .slice none 0 0], []⟩ 8 (by kernel_rfl) (by kernel_rfl) (by kernel_rfl) (by kernel_rfl)) ?_
  intro W base args ds gs before hval0 hW hcnd hsz0 _
  have hsz : (DataW.weightsEach Try.prog (Try.f4.params.toList ++ Rows.typesBackSpec.plain.varTypes Try.prog) (ds ++ gs)).all (· ≤ reachBytes) = true := hsz0
  have hW' := hW
  obtain ⟨p, q, hA0, hV, rfl, hfz, hnd⟩ := hW
  have hA : DataW.TrodAll enc Try.prog W 0 (fun _ => true) true Try.f4.params.toList args.toList ds p := hA0
  rw [Try.params4] at hA hsz
  obtain ⟨v0, vs0, d0, ds0, p0, q0, hargs, rfl, rfl, h0, r0⟩ := trodAll_cons hA
  obtain ⟨v1, vs1, d1, ds1, p1, q1, rfl, rfl, rfl, h1, r1⟩ := trodAll_cons r0
  obtain ⟨v2, vs2, d2, ds2, p2, q2, rfl, rfl, rfl, h2, r2⟩ := trodAll_cons r1
  obtain ⟨rfl, rfl, rfl⟩ := trodAll_nil r2
  obtain rfl : args = #[v0, v1, v2] := by cases args; simp_all
  obtain ⟨rfl, rfl⟩ := trodVars_none hV
  have k0 := h0
  have k1 := h1
  have k2 := h2
  have lt0 : ∀ x ∈ p0, x.block < W.heap.size := by obtain ⟨m, hm⟩ := k0; exact DataW.trod_lt m _ _ _ hm
  have lt1 : ∀ x ∈ p1, x.block < W.heap.size := by obtain ⟨m, hm⟩ := k1; exact DataW.trod_lt m _ _ _ hm
  have lt2 : ∀ x ∈ p2, x.block < W.heap.size := by obtain ⟨m, hm⟩ := k2; exact DataW.trod_lt m _ _ _ hm
  obtain ⟨A0, c0, l0, rfl, hc0, hC0, hn0⟩ : ∃ A c l, v0 = .slice A l.length c ∧ l.length ≤ c ∧ Kd.C PTypesBack.k41 W A l.length l ∧ ∀ x ∈ l, x.f0.size ≤ 9223372036854775807 := by
    obtain ⟨fuel, hf⟩ := h0
    obtain ⟨A, n, c, l, hcs, rfl, hc, hC, hG⟩ := PTypesBack.types_in hf
    obtain ⟨a0, len0, cap0, rfl⟩ := okWide_slice Try.underlying24 (hval0 0 24 v0 rfl rfl)
    simp [Value.cells] at hcs
    obtain ⟨rfl, rfl, rfl⟩ := hcs
    exact ⟨_, _, l, rfl, hc, hC, hG⟩
  obtain ⟨A1, c1, l1, rfl, hc1, hC1, hok1⟩ : ∃ A c l, v1 = .slice A l.length c ∧ l.length ≤ c ∧ Kd.C (Kd.int .u8) W A l.length l ∧ PTypesBack.bytesOk l := by
    obtain ⟨fuel, hf⟩ := h1
    obtain ⟨A, c, l, hcs, hc, hC, hok⟩ := bytes_in hf
    obtain ⟨a0, len0, cap0, rfl⟩ := okWide_slice Try.underlying22 (hval0 1 22 v1 rfl rfl)
    simp [Value.cells] at hcs
    obtain ⟨rfl, rfl, rfl⟩ := hcs
    exact ⟨_, _, l, rfl, hc, hC, hok⟩
  obtain ⟨A2, c2, l2, rfl, hc2, hC2, hok2⟩ : ∃ A c l, v2 = .slice A l.length c ∧ l.length ≤ c ∧ Kd.C (Kd.int .u8) W A l.length l ∧ PTypesBack.bytesOk l := by
    obtain ⟨fuel, hf⟩ := h2
    obtain ⟨A, c, l, hcs, hc, hC, hok⟩ := bytes_in hf
    obtain ⟨a0, len0, cap0, rfl⟩ := okWide_slice Try.underlying22 (hval0 2 22 v2 rfl rfl)
    simp [Value.cells] at hcs
    obtain ⟨rfl, rfl, rfl⟩ := hcs
    exact ⟨_, _, l, rfl, hc, hC, hok⟩
  have y1 : l1.length * 1 ≤ 140737488351232 := sized_ints hsz (j := 1) (t := 22) rfl rfl Try.underlying22 Try.underlying5 (by kernel_rfl) (by kernel_rfl) h1
  have y2 : l2.length * 1 ≤ 140737488351232 := sized_ints hsz (j := 2) (t := 22) rfl rfl Try.underlying22 Try.underlying5 (by kernel_rfl) (by kernel_rfl) h2
  clear hA0 hsz0 hsz
  obtain ⟨k, hk⟩ := PureBack.TypesBack l0 l1 l2 (fun i hi => hn0 _ (PureBack.rd41_in l0 i hi)) (by omega) (by omega) hok1 hok2
  refine (PTypesBack.turnbucklelaw05_TypesBack.calls k A0 c0 l0 A1 c1 l1 A2 c2 l2 true W hC0 hc0 hC1 hc1 hC2 hc2 hk).mono fun e W' ⟨he, bel⟩ => ?_
  subst he
  exact ⟨_, rfl, _, _, _, [], _, [], hW', trodAll_mk1 (shut_bool Try.underlying4 _), (trodAll_cons_mk (Below.trod laidOut (by kernel_rfl) (of_decide_eq_true (by kernel_rfl)) k0 bel lt0) (trodAll_cons_mk (Below.trod laidOut (by kernel_rfl) (of_decide_eq_true (by kernel_rfl)) k1 bel lt1) (trodAll_cons_mk (Below.trod laidOut (by kernel_rfl) (of_decide_eq_true (by kernel_rfl)) k2 bel lt2) trodAll_mk0))), rfl, bel.frame _, fun h => by cases h⟩
theorem over : Rows.typesBackRow.holds Try.pinned (OpenSpec.ofChange Rows.typesBackSpec) :=
  OpenClaim.holds_of_wide 4 Try.f4 rfl rfl rfl rfl rfl rfl rfl ⟨rfl, rfl, rfl, rfl, rfl⟩ rfl rfl rfl rfl rfl (by kernel_rfl) Try.func4 (by kernel_rfl)
    (of_decide_eq_true (by kernel_rfl)) (by unfold Func.isWrapper; first | (rw [if_pos (by decide +kernel)]; kernel_rfl) | (rw [if_neg (by decide +kernel)]; exact ⟨rfl, rfl⟩))
    (fun os started H enc _ => lifted os started H enc)
theorem proved : Rows.TypesBackSaid := over
#print axioms proved
end Go.Proofs.Ytckijljnomojiaa.typesBack
namespace Go.Proofs.Ytckijljnomojiaa
/-- The row, under a short name, for the claim. -/
theorem typesBack_holds : Rows.TypesBackSaid := typesBack.proved
end Go.Proofs.Ytckijljnomojiaa
