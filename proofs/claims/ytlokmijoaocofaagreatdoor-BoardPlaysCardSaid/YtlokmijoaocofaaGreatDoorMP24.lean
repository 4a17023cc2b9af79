/- Texts of one claim, one behind the other, made short by a program. -/
import Derived.Test.YtlokmijoaocofaaGreatDoorMP10
import Derived.Deep.Slices
import Derived.Deep.Fields
import Derived.ChangeSame
import Derived.Lib.SmallJoins
set_option linter.unusedSimpArgs false
set_option linter.unusedVariables false
set_option maxRecDepth 100000
section
namespace Go.Proofs.YtlokmijoaocofaaGreatDoor.Mine
open Go.ChangeShapes Go.WideShapes Go.ChangeAt Go.Deep Go.RowKit YtlokmijoaocofaaGreatDoorW.PrintWords YtlokmijoaocofaaGreatDoorW.PrintLast YtlokmijoaocofaaGreatDoorW.PrintMore
open PBoardPlays
section
variable {H : Type} {enc : TypeId × Value → H} {P : Program} {w : World} {base : Nat} {spare : Nat → Bool} {held : Bool}
theorem open_slice_fields {t e : TypeId} {fs : Array Field} {fuel : Nat} {cs : List Value} {x : DataW H × List MemPlace} (ht : P.underlying t = some (.slice e)) (he : P.underlying e = some (.struct fs))
 (hone : oneCellFields P fs = true) (hC : P.cellsOf e = fs.size) (h : DataW.trod enc P w base spare held fuel t cs = some x) :
 (cs = [.slice none 0 0] ∧ x = (.nil, [])) ∨
 ∃ (a : Addr) (len cap m : Nat) (D : Nat → DataW H) (Pl : Nat → List MemPlace), cs = [.slice (some a) len cap] ∧ base ≤ a.block ∧ len ≤ cap ∧ cap ≤ maxLen ∧ m = (if spare a.block then cap else len) ∧
  x = (.slice ((List.range len).map D) ((List.range (m - len)).map fun j => D (len + j)), MemPlace.row a (m * fs.size) ++ (List.range m).flatMap Pl) ∧
  ∀ i, i < m → ∃ (ys : List (DataW H × List MemPlace)) (n : Nat), D i = .agg (ys.map (·.1)) ∧ Pl i = ys.flatMap (·.2) ∧ ys.length = fs.size ∧
   ∀ (j : Nat) (f : Field), fs[j]? = some f → ∃ (v : Value) (y : DataW H × List MemPlace), w.cell? (a.add (i * fs.size + j)) = some v ∧ ys[j]? = some y ∧ DataW.trod enc P w base spare held n f.type [v] = some y := by
 rcases open_slice ht h with h0 | ⟨a, len, cap, m, n, D, Pl, hcs, hb, hl, hm, hmm, hx, hi⟩
 ·
  exact .inl h0
 ·
  refine .inr ⟨a, len, cap, m, D, Pl, hcs, hb, hl, hm, hmm, by rw [hC] at hx; exact hx, fun i him => ?_⟩
  obtain ⟨cs', hc, ht'⟩ := hi i him
  rw [hC] at hc
  obtain ⟨ys, n', hn', hy, hlen, hyl, hf⟩ := DataW.trod_struct he ht'
  obtain ⟨_, hcl, hat⟩ := World.cells?_some hc
  simp only [Prod.mk.injEq] at hy
  refine ⟨ys, n', hy.1, hy.2, hyl, fun j f hj => ?_⟩
  obtain ⟨ho, hk⟩ := hone_of hone j f hj
  have hjl : j < fs.size := (Array.getElem?_eq_some_iff.1 hj).1
  have hcell := hat j hjl
  have hv : cs'[j]? = some (cs'[j]'(by omega)) := List.getElem?_eq_getElem (by omega)
  have h1 := hf j f hj
  rw [ho, hk] at h1
  have hone' : (cs'.drop j).take 1 = [cs'[j]'(by omega)] := by
   rw [List.drop_eq_getElem_cons (by omega)]
   rfl
  rw [hone'] at h1
  have hys : ys[j]? = some (ys[j]'(by omega)) := List.getElem?_eq_getElem (by omega)
  refine ⟨_, _, ?_, hys, h1.trans hys⟩
  rw [← Go.Deep.add_add, hcell, hv]
end
theorem pick {α : Type} (P : Nat → α → Prop) (n : Nat) (h : ∀ i, i < n → ∃ x, P i x) : ∃ L : List α, L.length = n ∧ ∀ i x, L[i]? = some x → P i x := by
 induction n with
 | zero => exact ⟨[], rfl, by simp⟩
 | succ n ih =>
  obtain ⟨L, hl, hL⟩ := ih (fun i hi => h i (by omega))
  obtain ⟨x, hx⟩ := h n (by omega)
  refine ⟨L ++ [x], by simp [hl], fun i y hy => ?_⟩
  by_cases hi : i < n
  ·
   rw [List.getElem?_append_left (by omega)] at hy
   exact hL i y hy
  ·
   have hlt := (List.getElem?_eq_some_iff.1 hy).1
   have hin : i = n := by simp [hl] at hlt; omega
   subst hin
   rw [List.getElem?_append_right (by omega), hl] at hy
   simp at hy
   subst hy
   exact hx
theorem open_vals {H : Type} {enc : TypeId × Value → H} {W : World} {v : Value} {fuel : Nat} {y : DataW H × List MemPlace} (hf : DataW.trod enc Tryz.prog W 0 (fun _ => true) true fuel 42 [v] = some y) :
 ∃ (A : Option Addr) (n c : Nat) (L : List SV), v = .slice A n c ∧ L.length = n ∧ n ≤ c ∧ c ≤ maxLen ∧ Kd.C k72 W A n L ∧ ∀ x ∈ L, x.f1.size ≤ maxLen := by
 rcases open_slice_fields Tryz.underlying42 Tryz.underlying72 (by kernel_rfl) (by kernel_rfl) hf with ⟨hcs, _⟩ | ⟨a, len, cap, m, D, Pl, hcs, _, hl, hm, hmm, hx, hi⟩
 ·
  simp at hcs
  subst hcs
  exact ⟨none, 0, 0, [], rfl, rfl, Nat.le_refl _, Nat.zero_le _, Kd.C_nil _ _, by simp⟩
 ·
  simp at hcs
  subst hcs
  rw [if_pos rfl] at hmm
  subst hmm
  obtain ⟨L, hL, hat⟩ := pick (fun i (x : SV) => (x.f1.size ≤ maxLen) ∧ ∀ j u, ([Value.int .i64 x.f0, .string x.f1])[j]? = some u → W.cell? (a.add (i * 2 + j)) = some u) len (fun i hin => by
   obtain ⟨ys, q, _, _, _, hfl⟩ := hi i (by omega)
   obtain ⟨v0, y0, c0, _, t0⟩ := hfl 0 _ rfl
   obtain ⟨v1, y1, c1, _, t1⟩ := hfl 1 _ rfl
   obtain ⟨s0, e0, _, z0⟩ := DataW.trod_int Tryz.underlying3 t0
   obtain ⟨s1, e1, _, z1⟩ := DataW.trod_string Tryz.underlying9 t1
   obtain rfl := List.singleton_inj.1 e0
   obtain rfl := List.singleton_inj.1 e1
   refine ⟨⟨s0, s1⟩, z1, fun j u hj => ?_⟩
   match j, hj with
   | 0, hj => cases hj; exact c0
   | 1, hj => cases hj; exact c1)
  refine ⟨some a, len, m, L, rfl, hL, hl, hm, ⟨hL, by have : maxLen = 9223372036854775807 := rfl; omega, fun _ => ⟨a, rfl, fun j x hj => ?_⟩⟩, fun x hx => ?_⟩
  ·
   exact ⟨[Value.int .i64 x.f0, .string x.f1], rfl, k72_mk W x, (hat j x hj).2⟩
  ·
   obtain ⟨j, hj, rfl⟩ := List.getElem_of_mem hx
   exact (hat j _ (List.getElem?_eq_getElem hj)).1
structure ActR where
 kind : Int
 pub : Int
 seq : Int
 node : Int
 sub : Int
 text : ByteArray
 A : Option Addr
 n : Nat
 c : Nat
 V : List SV
 pay : ByteArray
def actCells (a : ActR) : List Value := [.int .i64 a.kind, .int .i64 a.pub, .int .i64 a.seq, .int .i64 a.node, .int .i64 a.sub, .string a.text, .slice a.A a.n a.c, .string a.pay]
structure ActOk (w : World) (a : ActR) : Prop where
 kind : (Lit.int .i64 a.kind).wf = true
 pub : (Lit.int .i64 a.pub).wf = true
 seq : (Lit.int .i64 a.seq).wf = true
 node : (Lit.int .i64 a.node).wf = true
 sub : (Lit.int .i64 a.sub).wf = true
 text : a.text.size ≤ maxLen
 len : a.V.length = a.n
 cap : a.n ≤ a.c
 big : a.c ≤ maxLen
 vals : Kd.C k72 w a.A a.n a.V
 size : ∀ x ∈ a.V, x.f1.size ≤ maxLen
 pay : a.pay.size ≤ maxLen
theorem ActOk.below {w w' : World} {a : ActR} (h : ActOk w a) (hb : Below w.heap.size w w') : ActOk w' a := ⟨h.kind, h.pub, h.seq, h.node, h.sub, h.text, h.len, h.cap, h.big, Kd.C_below h.vals hb, h.size, h.pay⟩
def ActsIs (w : World) (A : Option Addr) (n : Nat) (L : List ActR) : Prop :=
 L.length = n ∧ n ≤ maxLen ∧ (0 < n → ∃ ad, A = some ad ∧ ∀ i a, L[i]? = some a → ∀ j u, (actCells a)[j]? = some u → w.cell? (ad.add (i * 8 + j)) = some u) ∧ ∀ a ∈ L, ActOk w a
theorem cell_below {w w' : World} (hb : Below w.heap.size w w') {a : Addr} {u : Value} (h : w.cell? a = some u) : w'.cell? a = some u := (hb.cell (World.block_lt_of_cell? w _ h)).trans h
theorem ActsIs.below {w w' : World} {A : Option Addr} {n : Nat} {L : List ActR} (h : ActsIs w A n L) (hb : Below w.heap.size w w') : ActsIs w' A n L :=
 ⟨h.1, h.2.1, fun hn => by
  obtain ⟨ad, e, hc⟩ := h.2.2.1 hn
  exact ⟨ad, e, fun i a hi j u hj => cell_below hb (hc i a hi j u hj)⟩, fun a ha => (h.2.2.2 a ha).below hb⟩
theorem at_act {w : World} {A : Option Addr} {n : Nat} {L : List ActR} (h : ActsIs w A n L) (i : Nat) (hi : i < n) :
 ∃ ad a, A = some ad ∧ L[i]? = some a ∧ ActOk w a ∧ w.cell? (ad.add ((i : Int).toNat * 8)) = some (.int .i64 a.kind) ∧ w.cell? ⟨(ad.add ((i : Int).toNat * 8)).block, (ad.add ((i : Int).toNat * 8)).off + 1, none⟩ = some (.int .i64 a.pub) ∧ w.cell? ⟨(ad.add ((i : Int).toNat * 8)).block, (ad.add ((i : Int).toNat * 8)).off + 2, none⟩ = some (.int .i64 a.seq) ∧
  w.cell? ⟨(ad.add ((i : Int).toNat * 8)).block, (ad.add ((i : Int).toNat * 8)).off + 3, none⟩ = some (.int .i64 a.node) ∧ w.cell? ⟨(ad.add ((i : Int).toNat * 8)).block, (ad.add ((i : Int).toNat * 8)).off + 4, none⟩ = some (.int .i64 a.sub) ∧ w.cell? ⟨(ad.add ((i : Int).toNat * 8)).block, (ad.add ((i : Int).toNat * 8)).off + 5, none⟩ = some (.string a.text) ∧
  w.cell? ⟨(ad.add ((i : Int).toNat * 8)).block, (ad.add ((i : Int).toNat * 8)).off + 6, none⟩ = some (.slice a.A a.n a.c) ∧ w.cell? ⟨(ad.add ((i : Int).toNat * 8)).block, (ad.add ((i : Int).toNat * 8)).off + 7, none⟩ = some (.string a.pay) := by
 obtain ⟨ad, e, hc⟩ := h.2.2.1 (by omega)
 have hl : i < L.length := by rw [h.1]; exact hi
 have ha : L[i]? = some L[i] := List.getElem?_eq_getElem hl
 have hcs := hc i _ ha
 have e1 : (i : Int).toNat = i := rfl
 rw [e1]
 exact ⟨ad, L[i], e, ha, h.2.2.2 _ (List.getElem_mem hl), hcs 0 _ rfl, by rw [← add_field _ _ 1 (by omega)]; exact hcs 1 _ rfl, by rw [← add_field _ _ 2 (by omega)]; exact hcs 2 _ rfl, by rw [← add_field _ _ 3 (by omega)]; exact hcs 3 _ rfl, by rw [← add_field _ _ 4 (by omega)]; exact hcs 4 _ rfl, by rw [← add_field _ _ 5 (by omega)]; exact hcs 5 _ rfl, by rw [← add_field _ _ 6 (by omega)]; exact hcs 6 _ rfl, by rw [← add_field _ _ 7 (by omega)]; exact hcs 7 _ rfl⟩
theorem open_acts {H : Type} {enc : TypeId × Value → H} {W : World} {v : Value} {d : DataW H} {p : List MemPlace} {r : Reach} {b0 : Nat} (hv : Value.okWide Tryz.prog W r b0 24 v) (h : DataW.Trod enc Tryz.prog W 0 (fun _ => true) true 24 v d p) :
 ∃ (A : Option Addr) (n c : Nat) (L : List ActR), v = .slice A n c ∧ n ≤ c ∧ c ≤ maxLen ∧ ActsIs W A n L := by
 obtain ⟨A, n, c, rfl⟩ := okWide_slice Tryz.underlying24 hv
 obtain ⟨fuel, hf⟩ := h
 rcases open_slice Tryz.underlying24 hf with ⟨hcs, _⟩ | ⟨a, len, cap, m, q, D, Pl, hcs, _, hl, hm, hmm, hx, hi⟩
 ·
  simp [Value.cells] at hcs
  obtain ⟨rfl, rfl, rfl⟩ := hcs
  exact ⟨none, 0, 0, [], rfl, Nat.le_refl _, Nat.zero_le _, rfl, Nat.zero_le _, fun h => absurd h (by omega), by simp⟩
 ·
  simp [Value.cells] at hcs
  obtain ⟨rfl, rfl, rfl⟩ := hcs
  rw [if_pos rfl] at hmm
  subst hmm
  have hC : Tryz.prog.cellsOf 46 = 8 := by kernel_rfl
  have hCe : Tryz.prog.cellsOf 44 = 2 := by kernel_rfl
  have hC3 : Tryz.prog.cellsOf 3 = 1 := by kernel_rfl
  have hC9 : Tryz.prog.cellsOf 9 = 1 := by kernel_rfl
  have hCv : Tryz.prog.cellsOf 42 = 1 := by kernel_rfl
  obtain ⟨L, hL, hat⟩ := pick (fun i (x : ActR) => ActOk W x ∧ ∀ j u, (actCells x)[j]? = some u → W.cell? (a.add (i * 8 + j)) = some u) n (fun i hin => by
   obtain ⟨cs', hc, ht'⟩ := hi i (by omega)
   rw [hC] at hc
   obtain ⟨_, hcl, hcat⟩ := World.cells?_some hc
   obtain ⟨ys, n', hn', hy, hlen, hyl, hfd⟩ := DataW.trod_struct Tryz.underlying46 ht'
   match cs', hcl with
   | [u0, u1, u2, u3, u4, u5, u6, u7], _ =>
    have g0 : DataW.trod enc Tryz.prog W 0 (fun _ => true) true n' 3 (([u0, u1, u2, u3, u4, u5, u6, u7].drop 0).take (Tryz.prog.cellsOf 3)) = ys[0]? := hfd 0 _ rfl
    have g1 : DataW.trod enc Tryz.prog W 0 (fun _ => true) true n' 3 (([u0, u1, u2, u3, u4, u5, u6, u7].drop 1).take (Tryz.prog.cellsOf 3)) = ys[1]? := hfd 1 _ rfl
    have g2 : DataW.trod enc Tryz.prog W 0 (fun _ => true) true n' 3 (([u0, u1, u2, u3, u4, u5, u6, u7].drop 2).take (Tryz.prog.cellsOf 3)) = ys[2]? := hfd 2 _ rfl
    have g3 : DataW.trod enc Tryz.prog W 0 (fun _ => true) true n' 3 (([u0, u1, u2, u3, u4, u5, u6, u7].drop 3).take (Tryz.prog.cellsOf 3)) = ys[3]? := hfd 3 _ rfl
    have g4 : DataW.trod enc Tryz.prog W 0 (fun _ => true) true n' 3 (([u0, u1, u2, u3, u4, u5, u6, u7].drop 4).take (Tryz.prog.cellsOf 3)) = ys[4]? := hfd 4 _ rfl
    have g5 : DataW.trod enc Tryz.prog W 0 (fun _ => true) true n' 9 (([u0, u1, u2, u3, u4, u5, u6, u7].drop 5).take (Tryz.prog.cellsOf 9)) = ys[5]? := hfd 5 _ rfl
    have g6 : DataW.trod enc Tryz.prog W 0 (fun _ => true) true n' 44 (([u0, u1, u2, u3, u4, u5, u6, u7].drop 6).take (Tryz.prog.cellsOf 44)) = ys[6]? := hfd 6 _ rfl
    rw [hC3, List.getElem?_eq_getElem (by rw [hyl]; decide)] at g0 g1 g2 g3 g4
    rw [hC9, List.getElem?_eq_getElem (by rw [hyl]; decide)] at g5
    rw [hCe, List.getElem?_eq_getElem (by rw [hyl]; decide)] at g6
    obtain ⟨s0, q0, _, z0⟩ := DataW.trod_int Tryz.underlying3 g0
    obtain ⟨s1, q1, _, z1⟩ := DataW.trod_int Tryz.underlying3 g1
    obtain ⟨s2, q2, _, z2⟩ := DataW.trod_int Tryz.underlying3 g2
    obtain ⟨s3, q3, _, z3⟩ := DataW.trod_int Tryz.underlying3 g3
    obtain ⟨s4, q4, _, z4⟩ := DataW.trod_int Tryz.underlying3 g4
    obtain ⟨s5, q5, _, z5⟩ := DataW.trod_string Tryz.underlying9 g5
    obtain ⟨ys6, n6, _, _, _, hyl6, hfd6⟩ := DataW.trod_struct Tryz.underlying44 g6
    have g60 : DataW.trod enc Tryz.prog W 0 (fun _ => true) true n6 42 (([u6, u7].drop 0).take (Tryz.prog.cellsOf 42)) = ys6[0]? := hfd6 0 _ rfl
    have g61 : DataW.trod enc Tryz.prog W 0 (fun _ => true) true n6 9 (([u6, u7].drop 1).take (Tryz.prog.cellsOf 9)) = ys6[1]? := hfd6 1 _ rfl
    rw [hCv] at g60
    rw [List.getElem?_eq_getElem (by rw [hyl6]; decide)] at g60
    rw [hC9, List.getElem?_eq_getElem (by rw [hyl6]; decide)] at g61
    obtain ⟨A6, n7, c6, L6, q6, h1, h2, h3, h4, h5⟩ := open_vals g60
    obtain ⟨s7, q7, _, z7⟩ := DataW.trod_string Tryz.underlying9 g61
    obtain rfl := List.singleton_inj.1 q0
    obtain rfl := List.singleton_inj.1 q1
    obtain rfl := List.singleton_inj.1 q2
    obtain rfl := List.singleton_inj.1 q3
    obtain rfl := List.singleton_inj.1 q4
    obtain rfl := List.singleton_inj.1 q5
    obtain rfl := q6
    obtain rfl := List.singleton_inj.1 q7
    refine ⟨⟨s0, s1, s2, s3, s4, s5, A6, n7, c6, L6, s7⟩, ⟨z0, z1, z2, z3, z4, z5, h1, h2, h3, h4, h5, z7⟩, fun j u hj => ?_⟩
    have hj8 : j < 8 := (List.getElem?_eq_some_iff.1 hj).1
    have := hcat j hj8
    rw [Go.Deep.add_add] at this
    exact this.trans hj)
  refine ⟨some a, n, m, L, rfl, hl, hm, hL, by omega, fun _ => ⟨a, rfl, fun i x hx => (hat i x hx).2⟩, fun x hx => ?_⟩
  obtain ⟨j, hj, rfl⟩ := List.getElem_of_mem hx
  exact (hat j _ (List.getElem?_eq_getElem hj)).1
end Go.Proofs.YtlokmijoaocofaaGreatDoor.Mine
end
