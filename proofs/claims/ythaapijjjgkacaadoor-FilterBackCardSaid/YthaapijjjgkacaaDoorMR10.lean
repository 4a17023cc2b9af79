/-
  Texts of this claim, one behind the other: what each one proves, and its conditions, stand at its head.
-/
import Derived.Test.YthaapijjjgkacaaDoorMR9
import Derived.Deep.Slices
import Derived.Deep.Fields
import Derived.ChangeSame
set_option linter.unusedSimpArgs false
set_option linter.unusedVariables false
section
/-
  An argument that is a slice of attributes, or of predicates: opened to a list of records. No condition. (The first theorem is the kit's page on structs, turned to this seat.)
-/
namespace Go.Proofs.YthaapijjjgkacaaDoor.Mine
open Go.ChangeShapes Go.WideShapes Go.ChangeAt Go.Deep Go.RowKit Go.Proofs.YthaapijjjgkacaaDoorW.PrintWords Go.Proofs.YthaapijjjgkacaaDoorW.PrintLast Go.Proofs.YthaapijjjgkacaaDoorW.PrintMore
open Go.Proofs.YthaapijjjgkacaaDoor.PFilterReads
section
variable {H : Type} {enc : TypeId × Value → H} {P : Program} {w : World} {base : Nat} {spare : Nat → Bool} {held : Bool}
theorem open_slice_fields {t e : TypeId} {fs : Array Field} {fuel : Nat} {cs : List Value} {x : DataW H × List MemPlace} (ht : P.underlying t = some (.slice e)) (he : P.underlying e = some (.struct fs))
    (hone : oneCellFields P fs = true) (hC : P.cellsOf e = fs.size) (h : DataW.trod enc P w base spare held fuel t cs = some x) :
    (cs = [.slice none 0 0] ∧ x = (.nil, [])) ∨
    ∃ (a : Addr) (len cap m : Nat) (D : Nat → DataW H) (Pl : Nat → List MemPlace), cs = [.slice (some a) len cap] ∧ base ≤ a.block ∧ len ≤ cap ∧ cap ≤ maxLen ∧ m = (if spare a.block then cap else len) ∧
      x = (.slice ((List.range len).map D) ((List.range (m - len)).map fun j => D (len + j)), MemPlace.row a (m * fs.size) ++ (List.range m).flatMap Pl) ∧
      ∀ i, i < m → ∃ (ys : List (DataW H × List MemPlace)) (n : Nat), D i = .agg (ys.map (·.1)) ∧ Pl i = ys.flatMap (·.2) ∧ ys.length = fs.size ∧
        ∀ (j : Nat) (f : Field), fs[j]? = some f → ∃ (v : Value) (y : DataW H × List MemPlace), w.cell? (a.add (i * fs.size + j)) = some v ∧ ys[j]? = some y ∧ DataW.trod enc P w base spare held n f.type [v] = some y := by
  rcases open_slice ht h with h0 | ⟨a, len, cap, m, n, D, Pl, hcs, hb, hl, hm, hmm, hx, hi⟩
  · exact .inl h0
  · refine .inr ⟨a, len, cap, m, D, Pl, hcs, hb, hl, hm, hmm, by rw [hC] at hx; exact hx, fun i him => ?_⟩
    obtain ⟨cs', hc, ht'⟩ := hi i him
    rw [hC] at hc
    obtain ⟨ys, n', hn', hy, hlen, hyl, hf⟩ := DataW.trod_struct he ht'
    obtain ⟨_, hcl, hat⟩ := World.cells?_some hc
    simp only [Prod.mk.injEq] at hy
    refine ⟨ys, n', hy.1, hy.2, hyl, fun j f hj => ?_⟩
    obtain ⟨ho, hk⟩ := hone_of hone j f hj
    have hjl : j < fs.size := (Array.getElem?_eq_some_iff.1 hj).1
    have hcell := hat j hjl
    have hv : cs'[j]? = some (cs'[j]'(by omega)) := List.getElem?_eq_getElem (by omega)
    have h1 := hf j f hj
    rw [ho, hk] at h1
    have hone' : (cs'.drop j).take 1 = [cs'[j]'(by omega)] := by
      rw [List.drop_eq_getElem_cons (by omega)]
      rfl
    rw [hone'] at h1
    have hys : ys[j]? = some (ys[j]'(by omega)) := List.getElem?_eq_getElem (by omega)
    refine ⟨_, _, ?_, hys, h1.trans hys⟩
    rw [← Go.Deep.add_add, hcell, hv]
end
theorem pick {α : Type} (P : Nat → α → Prop) (n : Nat) (h : ∀ i, i < n → ∃ x, P i x) : ∃ L : List α, L.length = n ∧ ∀ i x, L[i]? = some x → P i x := by
  induction n with
  | zero => exact ⟨[], rfl, by simp⟩
  | succ n ih =>
    obtain ⟨L, hl, hL⟩ := ih (fun i hi => h i (by omega))
    obtain ⟨x, hx⟩ := h n (by omega)
    refine ⟨L ++ [x], by simp [hl], fun i y hy => ?_⟩
    by_cases hi : i < n
    · rw [List.getElem?_append_left (by omega)] at hy
      exact hL i y hy
    · have hlt := (List.getElem?_eq_some_iff.1 hy).1
      have hin : i = n := by simp [hl] at hlt; omega
      subst hin
      rw [List.getElem?_append_right (by omega), hl] at hy
      simp at hy
      subst hy
      exact hx
set_option maxRecDepth 100000 in
theorem open_schema {H : Type} {enc : TypeId × Value → H} {W : World} {v : Value} {d : DataW H} {p : List MemPlace} {r : Reach} {b0 : Nat} (hv : Value.okWide Tryd.prog W r b0 50 v) (h : DataW.Trod enc Tryd.prog W 0 (fun _ => true) true 50 v d p) :
    ∃ (A : Option Addr) (n c : Nat) (L : List S95), v = .slice A n c ∧ L.length = n ∧ n ≤ c ∧ c ≤ maxLen ∧ Kd.C k95 W A n L ∧ ∀ x ∈ L, x.f0.size ≤ maxLen ∧ (Lit.int .i64 x.f1).wf = true ∧ (Lit.int .i64 x.f2).wf = true ∧ (Lit.int .i64 x.f3).wf = true := by
  obtain ⟨A, n, c, rfl⟩ := okWide_slice Tryd.underlying50 hv
  obtain ⟨fuel, hf⟩ := h
  rcases open_slice_fields Tryd.underlying50 Tryd.underlying95 (by kernel_rfl) (by kernel_rfl) hf with ⟨hcs, _⟩ | ⟨a, len, cap, m, D, Pl, hcs, _, hl, hm, hmm, hx, hi⟩
  · simp [Value.cells] at hcs
    obtain ⟨rfl, rfl, rfl⟩ := hcs
    exact ⟨none, 0, 0, [], rfl, rfl, Nat.le_refl _, Nat.zero_le _, Kd.C_nil _ _, by simp⟩
  · simp [Value.cells] at hcs
    obtain ⟨rfl, rfl, rfl⟩ := hcs
    rw [if_pos rfl] at hmm
    subst hmm
    obtain ⟨L, hL, hat⟩ := pick (fun i (x : S95) => (x.f0.size ≤ maxLen ∧ (Lit.int .i64 x.f1).wf = true ∧ (Lit.int .i64 x.f2).wf = true ∧ (Lit.int .i64 x.f3).wf = true) ∧ ∀ j u, ([Value.string x.f0, .int .i64 x.f1, .int .i64 x.f2, .int .i64 x.f3])[j]? = some u → W.cell? (a.add (i * ([Value.string x.f0, .int .i64 x.f1, .int .i64 x.f2, .int .i64 x.f3]).length + j)) = some u) n (fun i hin => by
      obtain ⟨ys, q, _, _, _, hfl⟩ := hi i (by omega)
      obtain ⟨v0, y0, c0, _, t0⟩ := hfl 0 _ rfl; obtain ⟨v1, y1, c1, _, t1⟩ := hfl 1 _ rfl; obtain ⟨v2, y2, c2, _, t2⟩ := hfl 2 _ rfl; obtain ⟨v3, y3, c3, _, t3⟩ := hfl 3 _ rfl; obtain ⟨s0, e0, _, z0⟩ := DataW.trod_string Tryd.underlying9 t0; obtain ⟨s1, e1, _, z1⟩ := DataW.trod_int Tryd.underlying3 t1; obtain ⟨s2, e2, _, z2⟩ := DataW.trod_int Tryd.underlying3 t2; obtain ⟨s3, e3, _, z3⟩ := DataW.trod_int Tryd.underlying3 t3; obtain rfl := List.singleton_inj.1 e0; obtain rfl := List.singleton_inj.1 e1; obtain rfl := List.singleton_inj.1 e2; obtain rfl := List.singleton_inj.1 e3; refine ⟨⟨s0, s1, s2, s3⟩, ⟨z0, z1, z2, z3⟩, fun j u hj => ?_⟩; match j, hj with | 0, hj => (obtain rfl := Option.some.inj hj; exact c0) | 1, hj => (obtain rfl := Option.some.inj hj; exact c1) | 2, hj => (obtain rfl := Option.some.inj hj; exact c2) | 3, hj => (obtain rfl := Option.some.inj hj; exact c3))
    refine ⟨some a, n, m, L, rfl, hL, hl, hm, ⟨hL, by have : maxLen = 9223372036854775807 := rfl; omega, fun _ => ⟨a, rfl, fun j x hj => ?_⟩⟩, fun x hx => ?_⟩
    · exact ⟨[Value.string x.f0, .int .i64 x.f1, .int .i64 x.f2, .int .i64 x.f3], rfl, k95_mk W x, (hat j x hj).2⟩
    · obtain ⟨j, hj, rfl⟩ := List.getElem_of_mem hx
      exact (hat j _ (List.getElem?_eq_getElem hj)).1
set_option maxRecDepth 100000 in
theorem open_filter {H : Type} {enc : TypeId × Value → H} {W : World} {v : Value} {d : DataW H} {p : List MemPlace} {r : Reach} {b0 : Nat} (hv : Value.okWide Tryd.prog W r b0 26 v) (h : DataW.Trod enc Tryd.prog W 0 (fun _ => true) true 26 v d p) :
    ∃ (A : Option Addr) (n c : Nat) (L : List S46), v = .slice A n c ∧ L.length = n ∧ n ≤ c ∧ c ≤ maxLen ∧ Kd.C k46 W A n L ∧ ∀ x ∈ L, x.f0.size ≤ maxLen ∧ (Lit.int .i64 x.f1).wf = true ∧ (Lit.int .i64 x.f2).wf = true ∧ (Lit.int .i64 x.f3).wf = true ∧ x.f4.size ≤ maxLen := by
  obtain ⟨A, n, c, rfl⟩ := okWide_slice Tryd.underlying26 hv
  obtain ⟨fuel, hf⟩ := h
  rcases open_slice_fields Tryd.underlying26 Tryd.underlying46 (by kernel_rfl) (by kernel_rfl) hf with ⟨hcs, _⟩ | ⟨a, len, cap, m, D, Pl, hcs, _, hl, hm, hmm, hx, hi⟩
  · simp [Value.cells] at hcs
    obtain ⟨rfl, rfl, rfl⟩ := hcs
    exact ⟨none, 0, 0, [], rfl, rfl, Nat.le_refl _, Nat.zero_le _, Kd.C_nil _ _, by simp⟩
  · simp [Value.cells] at hcs
    obtain ⟨rfl, rfl, rfl⟩ := hcs
    rw [if_pos rfl] at hmm
    subst hmm
    obtain ⟨L, hL, hat⟩ := pick (fun i (x : S46) => (x.f0.size ≤ maxLen ∧ (Lit.int .i64 x.f1).wf = true ∧ (Lit.int .i64 x.f2).wf = true ∧ (Lit.int .i64 x.f3).wf = true ∧ x.f4.size ≤ maxLen) ∧ ∀ j u, ([Value.string x.f0, .int .i64 x.f1, .int .i64 x.f2, .int .i64 x.f3, .string x.f4])[j]? = some u → W.cell? (a.add (i * ([Value.string x.f0, .int .i64 x.f1, .int .i64 x.f2, .int .i64 x.f3, .string x.f4]).length + j)) = some u) n (fun i hin => by
      obtain ⟨ys, q, _, _, _, hfl⟩ := hi i (by omega)
      obtain ⟨v0, y0, c0, _, t0⟩ := hfl 0 _ rfl; obtain ⟨v1, y1, c1, _, t1⟩ := hfl 1 _ rfl; obtain ⟨v2, y2, c2, _, t2⟩ := hfl 2 _ rfl; obtain ⟨v3, y3, c3, _, t3⟩ := hfl 3 _ rfl; obtain ⟨v4, y4, c4, _, t4⟩ := hfl 4 _ rfl; obtain ⟨s0, e0, _, z0⟩ := DataW.trod_string Tryd.underlying9 t0; obtain ⟨s1, e1, _, z1⟩ := DataW.trod_int Tryd.underlying3 t1; obtain ⟨s2, e2, _, z2⟩ := DataW.trod_int Tryd.underlying3 t2; obtain ⟨s3, e3, _, z3⟩ := DataW.trod_int Tryd.underlying3 t3; obtain ⟨s4, e4, _, z4⟩ := DataW.trod_string Tryd.underlying9 t4; obtain rfl := List.singleton_inj.1 e0; obtain rfl := List.singleton_inj.1 e1; obtain rfl := List.singleton_inj.1 e2; obtain rfl := List.singleton_inj.1 e3; obtain rfl := List.singleton_inj.1 e4; refine ⟨⟨s0, s1, s2, s3, s4⟩, ⟨z0, z1, z2, z3, z4⟩, fun j u hj => ?_⟩; match j, hj with | 0, hj => (obtain rfl := Option.some.inj hj; exact c0) | 1, hj => (obtain rfl := Option.some.inj hj; exact c1) | 2, hj => (obtain rfl := Option.some.inj hj; exact c2) | 3, hj => (obtain rfl := Option.some.inj hj; exact c3) | 4, hj => (obtain rfl := Option.some.inj hj; exact c4))
    refine ⟨some a, n, m, L, rfl, hL, hl, hm, ⟨hL, by have : maxLen = 9223372036854775807 := rfl; omega, fun _ => ⟨a, rfl, fun j x hj => ?_⟩⟩, fun x hx => ?_⟩
    · exact ⟨[Value.string x.f0, .int .i64 x.f1, .int .i64 x.f2, .int .i64 x.f3, .string x.f4], rfl, k46_mk W x, (hat j x hj).2⟩
    · obtain ⟨j, hj, rfl⟩ := List.getElem_of_mem hx
      exact (hat j _ (List.getElem?_eq_getElem hj)).1
end Go.Proofs.YthaapijjjgkacaaDoor.Mine
end
