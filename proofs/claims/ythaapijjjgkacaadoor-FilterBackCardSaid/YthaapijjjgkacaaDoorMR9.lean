/-
  Texts of this claim, one behind the other: what each one proves, and its conditions, stand at its head.
-/
import Derived.Test.YthaapijjjgkacaaDoorMR8
import Derived.Deep.RegionHeld3
set_option linter.unusedSimpArgs false
set_option linter.unusedVariables false
section
/-
  The reference's check of a predicate, walked. Condition: the text at most 10^9 bytes.
-/
namespace Go.Proofs.YthaapijjjgkacaaDoor.Mine
open Go.RowKit Go.Proofs.YthaapijjjgkacaaDoorW.PrintWords Go.Proofs.YthaapijjjgkacaaDoorW.PrintLast Go.Proofs.YthaapijjjgkacaaDoorW.PrintMore
open Go.Proofs.YthaapijjjgkacaaDoor.PFilterReads
set_option maxHeartbeats 4000000 in
set_option maxRecDepth 100000 in
theorem rpredOk_calls (a : S95) (p : S46) (w : World) (hs : p.f4.size ≤ 1000000000) :
    Calls Tryd.prog 47 #[.agg #[.string a.f0, .int .i64 a.f1, .int .i64 a.f2, .int .i64 a.f3], .agg #[.string p.f0, .int .i64 p.f1, .int .i64 p.f2, .int .i64 p.f3, .string p.f4]] w fun e w' => e = .returned (.bool (predOk a p)) ∧ Below w.heap.size w w' := by
  by_cases hf1 : p.f1 = 1
  · have o1 : (p.f1 == 1) = true := by simpa using hf1
    have hpo : predOk a p = ((a.f1 == 1) && decide (a.f2 ≤ p.f2) && decide (p.f3 ≤ a.f3) && decide (p.f2 ≤ p.f3) && (p.f4.toList == [])) := by unfold predOk; rw [if_pos hf1]
    have HPO := Aside0.mk hpo
    clear hpo hf1
    by_cases t1 : a.f1 = 1
    · have e1 : (a.f1 == 1) = true := by simpa using t1
      by_cases t2 : a.f2 ≤ p.f2
      · have e2 : decide (a.f2 ≤ p.f2) = true := decide_eq_true t2
        by_cases t4 : p.f2 ≤ p.f3
        · have e4 : decide (p.f2 ≤ p.f3) = true := decide_eq_true t4
          by_cases t3 : p.f3 ≤ a.f3
          · have e3 : decide (p.f3 ≤ a.f3) = true := decide_eq_true t3
            by_cases t5 : p.f4.toList = []
            · have e5 : (p.f4.toList == []) = true := by simpa using t5
              have HV := Aside0.mk (show predOk a p = true by rw [HPO.out, e1, e2, e3, e4, e5]; rfl)
              generalize predOk a p = b at HV ⊢
              clear t1 t2 t3 t4 HPO
              go_enter Tryd.func47, Tryd.ntmps47
              go_wp2
              go_ret
              exact ⟨by rw [HV.out]; rfl, below_alloc (below_alloc (Below.refl _ _) _) _⟩
            · have e5 : (p.f4.toList == []) = false := by simpa using t5
              have HV := Aside0.mk (show predOk a p = false by rw [HPO.out, e1, e2, e3, e4, e5]; rfl)
              generalize predOk a p = b at HV ⊢
              clear t1 t2 t3 t4 HPO
              go_enter Tryd.func47, Tryd.ntmps47
              go_wp2
              go_ret
              exact ⟨by rw [HV.out]; rfl, below_alloc (below_alloc (Below.refl _ _) _) _⟩
          · have e3 : decide (p.f3 ≤ a.f3) = false := decide_eq_false t3
            have HV := Aside0.mk (show predOk a p = false by rw [HPO.out, e1, e2, e3]; rfl)
            generalize predOk a p = b at HV ⊢
            clear t1 t2 t3 t4 HPO
            go_enter Tryd.func47, Tryd.ntmps47
            go_wp2
            go_ret
            exact ⟨by rw [HV.out]; rfl, below_alloc (below_alloc (Below.refl _ _) _) _⟩
        · have e4 : decide (p.f2 ≤ p.f3) = false := decide_eq_false t4
          have HV := Aside0.mk (show predOk a p = false by rw [HPO.out, e1, e2, e4]; simp)
          generalize predOk a p = b at HV ⊢
          clear t1 t2 t4 HPO
          go_enter Tryd.func47, Tryd.ntmps47
          go_wp2
          go_ret
          exact ⟨by rw [HV.out]; rfl, below_alloc (below_alloc (Below.refl _ _) _) _⟩
      · have e2 : decide (a.f2 ≤ p.f2) = false := decide_eq_false t2
        have HV := Aside0.mk (show predOk a p = false by rw [HPO.out, e1, e2]; rfl)
        generalize predOk a p = b at HV ⊢
        clear t1 t2 HPO
        go_enter Tryd.func47, Tryd.ntmps47
        go_wp2
        go_ret
        exact ⟨by rw [HV.out]; rfl, below_alloc (below_alloc (Below.refl _ _) _) _⟩
    · have e1 : (a.f1 == 1) = false := by simpa using t1
      have HV := Aside0.mk (show predOk a p = false by rw [HPO.out, e1]; rfl)
      generalize predOk a p = b at HV ⊢
      clear t1 HPO
      go_enter Tryd.func47, Tryd.ntmps47
      go_wp2
      go_ret
      exact ⟨by rw [HV.out]; rfl, below_alloc (below_alloc (Below.refl _ _) _) _⟩
  · have o1 : (p.f1 == 1) = false := by simpa using hf1
    by_cases hf2 : p.f1 = 2
    · have o2 : (p.f1 == 2) = true := by simpa using hf2
      have HPO := Aside0.mk (show predOk a p = ((a.f1 == 2) && (p.f2 == 0) && (p.f3 == 0) && strOk p.f4) by unfold predOk; rw [if_neg hf1, if_pos (Or.inl hf2)])
      clear hf1 hf2
      by_cases t1 : a.f1 = 2
      · have e1 : (a.f1 == 2) = true := by simpa using t1
        by_cases t2 : p.f2 = 0
        · have e2 : (p.f2 == 0) = true := by simpa using t2
          by_cases t3 : p.f3 = 0
          · have e3 : (p.f3 == 0) = true := by simpa using t3
            have HV := Aside0.mk (show predOk a p = strOk p.f4 by rw [HPO.out, e1, e2, e3]; rfl)
            generalize predOk a p = b at HV ⊢
            clear t1 t2 t3 HPO
            go_enter Tryd.func47, Tryd.ntmps47
            go_wp2_with fail
            refine (rstrOk_calls p.f4 _ hs).mono ?_
            rintro e w5 ⟨rfl, rfl⟩
            go_wp2
            go_ret
            exact ⟨by rw [HV.out]; rfl, below_alloc (below_alloc (Below.refl _ _) _) _⟩
          · have e3 : (p.f3 == 0) = false := by simpa using t3
            have HV := Aside0.mk (show predOk a p = false by rw [HPO.out, e1, e2, e3]; rfl)
            generalize predOk a p = b at HV ⊢
            clear t1 t2 t3 HPO
            go_enter Tryd.func47, Tryd.ntmps47
            go_wp2
            go_ret
            exact ⟨by rw [HV.out]; rfl, below_alloc (below_alloc (Below.refl _ _) _) _⟩
        · have e2 : (p.f2 == 0) = false := by simpa using t2
          have HV := Aside0.mk (show predOk a p = false by rw [HPO.out, e1, e2]; rfl)
          generalize predOk a p = b at HV ⊢
          clear t1 t2 HPO
          go_enter Tryd.func47, Tryd.ntmps47
          go_wp2
          go_ret
          exact ⟨by rw [HV.out]; rfl, below_alloc (below_alloc (Below.refl _ _) _) _⟩
      · have e1 : (a.f1 == 2) = false := by simpa using t1
        have HV := Aside0.mk (show predOk a p = false by rw [HPO.out, e1]; rfl)
        generalize predOk a p = b at HV ⊢
        clear t1 HPO
        go_enter Tryd.func47, Tryd.ntmps47
        go_wp2
        go_ret
        exact ⟨by rw [HV.out]; rfl, below_alloc (below_alloc (Below.refl _ _) _) _⟩
    · have o2 : (p.f1 == 2) = false := by simpa using hf2
      by_cases hf3 : p.f1 = 3
      · have o3 : (p.f1 == 3) = true := by simpa using hf3
        by_cases hs5 : p.f4.toList = []
        · have q5 : (p.f4.toList == []) = true := by simpa using hs5
          have HV := Aside0.mk (show predOk a p = false by unfold predOk; rw [if_neg hf1, if_neg (by rw [hf3, hs5]; simp)])
          generalize predOk a p = b at HV ⊢
          clear hf1 hf3 hf2
          go_enter Tryd.func47, Tryd.ntmps47
          go_wp2
          go_ret
          exact ⟨by rw [HV.out]; rfl, below_alloc (below_alloc (Below.refl _ _) _) _⟩
        · have q5 : (p.f4.toList == []) = false := by simpa using hs5
          have HPO := Aside0.mk (show predOk a p = ((a.f1 == 2) && (p.f2 == 0) && (p.f3 == 0) && strOk p.f4) by unfold predOk; rw [if_neg hf1, if_pos (Or.inr ⟨hf3, hs5⟩)])
          clear hf1 hf3 hf2
          by_cases t1 : a.f1 = 2
          · have e1 : (a.f1 == 2) = true := by simpa using t1
            by_cases t2 : p.f2 = 0
            · have e2 : (p.f2 == 0) = true := by simpa using t2
              by_cases t3 : p.f3 = 0
              · have e3 : (p.f3 == 0) = true := by simpa using t3
                have HV := Aside0.mk (show predOk a p = strOk p.f4 by rw [HPO.out, e1, e2, e3]; rfl)
                generalize predOk a p = b at HV ⊢
                clear t1 t2 t3 HPO
                go_enter Tryd.func47, Tryd.ntmps47
                go_wp2_with fail
                refine (rstrOk_calls p.f4 _ hs).mono ?_
                rintro e w5 ⟨rfl, rfl⟩
                go_wp2
                go_ret
                exact ⟨by rw [HV.out]; rfl, below_alloc (below_alloc (Below.refl _ _) _) _⟩
              · have e3 : (p.f3 == 0) = false := by simpa using t3
                have HV := Aside0.mk (show predOk a p = false by rw [HPO.out, e1, e2, e3]; rfl)
                generalize predOk a p = b at HV ⊢
                clear t1 t2 t3 HPO
                go_enter Tryd.func47, Tryd.ntmps47
                go_wp2
                go_ret
                exact ⟨by rw [HV.out]; rfl, below_alloc (below_alloc (Below.refl _ _) _) _⟩
            · have e2 : (p.f2 == 0) = false := by simpa using t2
              have HV := Aside0.mk (show predOk a p = false by rw [HPO.out, e1, e2]; rfl)
              generalize predOk a p = b at HV ⊢
              clear t1 t2 HPO
              go_enter Tryd.func47, Tryd.ntmps47
              go_wp2
              go_ret
              exact ⟨by rw [HV.out]; rfl, below_alloc (below_alloc (Below.refl _ _) _) _⟩
          · have e1 : (a.f1 == 2) = false := by simpa using t1
            have HV := Aside0.mk (show predOk a p = false by rw [HPO.out, e1]; rfl)
            generalize predOk a p = b at HV ⊢
            clear t1 HPO
            go_enter Tryd.func47, Tryd.ntmps47
            go_wp2
            go_ret
            exact ⟨by rw [HV.out]; rfl, below_alloc (below_alloc (Below.refl _ _) _) _⟩
      · have o3 : (p.f1 == 3) = false := by simpa using hf3
        have HV := Aside0.mk (show predOk a p = false by unfold predOk; rw [if_neg hf1, if_neg (by rintro (h | h); exact hf2 h; exact hf3 h.1)])
        generalize predOk a p = b at HV ⊢
        clear hf1 hf3 hf2
        go_enter Tryd.func47, Tryd.ntmps47
        go_wp2
        go_ret
        exact ⟨by rw [HV.out]; rfl, below_alloc (below_alloc (Below.refl _ _) _) _⟩
end Go.Proofs.YthaapijjjgkacaaDoor.Mine
end
section
/-
  The reference's check of a filter, walked: it tells the same place as the program's. Conditions: the slices at most 100000 long, each text at most 10^9 bytes.
-/
namespace Go.Proofs.YthaapijjjgkacaaDoor.Mine
open Go.RowKit Go.Proofs.YthaapijjjgkacaaDoorW.PrintWords Go.Proofs.YthaapijjjgkacaaDoorW.PrintLast Go.Proofs.YthaapijjjgkacaaDoorW.PrintMore
open Go.Proofs.YthaapijjjgkacaaDoor.PFilterReads
def toA (x : S95) : S96 := ⟨x.f0, x.f1, x.f2, x.f3⟩
theorem idxFrom_map {α β : Type} (p : β → Bool) (f : α → β) : ∀ (l : List α) (i : Nat), idxFrom p (l.map f) i = idxFrom (fun x => p (f x)) l i
  | [], _ => rfl
  | x :: r, i => by
    show (if p (f x) then _ else idxFrom p (r.map f) (i + 1)) = _
    rw [idxFrom_map p f r (i + 1)]
    rfl
theorem findR_map (nm : ByteArray) (S : List S95) : findR nm (S.map toA) = findB nm S := idxFrom_map _ toA S 0
def badI2 : Option Nat → Int
  | none => -1
  | some i => (i : Int)
theorem getD_toQ (F : List S46) (i : Nat) : (F.map toQ).getD i z77 = toQ (F.getD i z46) := by
  rw [List.getD_eq_getElem?_getD, List.getD_eq_getElem?_getD, List.getElem?_map]
  cases F[i]? <;> rfl
theorem getD_toA (S : List S95) (i : Nat) : (S.map toA).getD i z96 = toA (S.getD i z95) := by
  rw [List.getD_eq_getElem?_getD, List.getD_eq_getElem?_getD, List.getElem?_map]
  cases S[i]? <;> rfl
theorem any_snoc {α : Type} (F : List α) (z : α) (p : α → Bool) (j : Nat) (h : j < F.length) : (F.take (j + 1)).any p = ((F.take j).any p || p (F.getD j z)) := by
  rw [List.take_succ_eq_append_getElem h, List.any_append, List.getD_eq_getElem?_getD, List.getElem?_eq_getElem h]
  simp
set_option maxHeartbeats 8000000 in
set_option maxRecDepth 100000 in
theorem rfilter_calls (A B : Option Addr) (n m c d : Nat) (S : List S95) (F : List S46) (w : World) (hn : S.length = n) (hm : F.length = m) (hr : Kd.C k96 w A n (S.map toA)) (hr2 : Kd.C k77 w B m (F.map toQ)) (hl : n ≤ 100000) (hl2 : m ≤ 100000) (hcd : m ≤ d) (hst : ∀ p ∈ F, p.f4.size ≤ 1000000000) :
    Calls Tryd.prog 24 #[.slice A n c, .slice B m d] w fun e w' => e = .returned (.int .i64 (badI2 (filterBad S F))) ∧ Below w.heap.size w w' := by
  have HRS := Aside0.mk hr
  have HRF := Aside0.mk hr2
  have HN := Aside0.mk hn
  have HM := Aside0.mk hm
  have HST4 := Aside0.mk hst
  clear hr hr2 hn hm hst
  obtain ⟨z, hz⟩ : ∃ z, z = badI2 (filterBad S F) := ⟨_, rfl⟩
  rw [← hz]
  have HZ := Aside0.mk hz
  clear hz
  by_cases hlen : m < 1 ∨ 4 < m
  · have HB := Aside0.mk (show z = 0 by rw [HZ.out]; unfold filterBad; rw [if_pos (by have := HM.out; omega)]; rfl)
    by_cases h1 : m < 1
    · have q1 : decide ((m : Int) < 1) = true := decide_eq_true (by omega)
      clear hlen
      obtain rfl : m = 0 := by omega
      go_enter Tryd.func24, Tryd.ntmps24
      go_wp2
      go_ret
      exact ⟨by rw [HB.out]; rfl, Below.refl _ _⟩
    · have q1 : decide ((m : Int) < 1) = false := decide_eq_false (by omega)
      have q2 : decide (4 < (m : Int)) = true := decide_eq_true (by omega)
      clear hlen
      go_enter Tryd.func24, Tryd.ntmps24
      go_wp2
      go_ret
      exact ⟨by rw [HB.out]; rfl, Below.refl _ _⟩
  · have q1 : decide ((m : Int) < 1) = false := decide_eq_false (by omega)
    have q2 : decide (4 < (m : Int)) = false := decide_eq_false (by omega)
    have HFB := Aside0.mk (show filterBad S F = badFrom S F m 0 by unfold filterBad; rw [if_neg (by have := HM.out; omega), HM.out])
    clear hlen
    go_enter Tryd.func24, Tryd.ntmps24
    go_wp2_with fail
    go_loopg [5, 6, 7, 8, 10, 21, 36] (m + 1) (fun k v5 v6 v7 v8 v10 v21 v36 W => ∃ i : Nat, Aside0 (i ≤ m ∧ k + i = m + 1 ∧ filterBad S F = badFrom S F (m - i) i) ∧ v21 = .int .i64 (i : Int) ∧ Aside0 (Below w.heap.size w W))
    case atStart => exact ⟨0, ⟨by omega, by omega, HFB.out⟩, rfl, ⟨Below.refl _ _⟩⟩
    case round =>
      obtain ⟨i, HI, rfl, HB⟩ := hrel
      by_cases hi : i < m
      · have b1 : decide ((i : Int) < (m : Int)) = true := decide_eq_true (by omega)
        have b2 : decide (i < m) = true := decide_eq_true (by omega)
        have p1 : (0 : Int) ≤ (i : Int) := by omega
        have p2 : (i : Int) < (m : Int) := by omega
        have hstep : badFrom S F (m - i) i = if okAt S F i then badFrom S F (m - (i + 1)) (i + 1) else some i := by
          rw [show m - i = (m - (i + 1)) + 1 by omega]
          rfl
        have HST := Aside0.mk hstep
        clear hstep
        obtain ⟨ad, e, h0, h1, h2, h3, h4⟩ := at_T77 HRF.out i p1 p2
        cases e
        rw [Int.toNat_natCast] at h0 h1 h2 h3 h4
        replace h0 := (HB.out.cell (World.block_lt_of_cell? w _ h0)).trans h0
        replace h1 := (HB.out.cell (World.block_lt_of_cell? w _ h1)).trans h1
        replace h2 := (HB.out.cell (World.block_lt_of_cell? w _ h2)).trans h2
        replace h3 := (HB.out.cell (World.block_lt_of_cell? w _ h3)).trans h3
        replace h4 := (HB.out.cell (World.block_lt_of_cell? w _ h4)).trans h4
        have hrd : rd_T77 (F.map toQ) (i : Int) = toQ (F.getD i z46) := getD_toQ F i
        rw [hrd] at h0 h1 h2 h3 h4
        obtain ⟨p, hp⟩ : ∃ p, p = F.getD i z46 := ⟨_, rfl⟩
        rw [← hp] at h0 h1 h2 h3 h4
        have HP := Aside0.mk hp
        clear hrd hp
        change wr.cell? _ = some (.string p.f0) at h0
        change wr.cell? _ = some (.int .i64 p.f1) at h1
        change wr.cell? _ = some (.int .i64 p.f2) at h2
        change wr.cell? _ = some (.int .i64 p.f3) at h3
        change wr.cell? _ = some (.string p.f4) at h4
        go_wp2_with fail
        refine (rfind_calls A n c (S.map toA) p.f0 _ (by rw [List.length_map]; exact HN.out) (Kd.C_below HRS.out (below_alloc HB.out _)) hl).mono ?_
        rintro e w1 ⟨rfl, hb⟩
        rw [findR_map]
        have hnew := heap_alloc_new wr (.cells #[.string p.f0, .int .i64 p.f1, .int .i64 p.f2, .int .i64 p.f3, .string p.f4] 77 (0, 0))
        have KB6 := Aside0.mk ((hb.block _ (blk_lt hnew)).trans hnew)
        have n_ := Aside0.mk (below_then (below_alloc HB.out (.cells #[.string p.f0, .int .i64 p.f1, .int .i64 p.f2, .int .i64 p.f3, .string p.f4] 77)) (below_size (below_alloc HB.out _)) hb)
        clear HB hb hnew h0 h1 h2 h3 h4
        have HB := n_
        clear n_
        generalize wr.heap.size = g6 at KB6 ⊢
        have HLT := Aside0.mk (findB_lt p.f0 S)
        obtain ⟨kk, hkk⟩ : ∃ k, k = findB p.f0 S := ⟨_, rfl⟩
        rw [← hkk] at HLT ⊢
        have HK := Aside0.mk hkk
        clear hkk
        have p3 : (i : Int) ≤ (d : Int) := by omega
        obtain ⟨b0, hb0⟩ : ∃ b, b = decide (0 ≤ kk) := ⟨_, rfl⟩
        have q4 : decide (0 ≤ kk) = b0 := hb0.symm
        have HB0 := Aside0.mk hb0
        clear hb0
        go_wp2_with fail
        obtain ⟨gko, rfl⟩ : ∃ g, g = gk := ⟨gk, rfl⟩
        go_loopg [8, 10, 36] (i + 1) (fun k v8 v10 v36 W => ∃ (j : Nat) (bj : Bool), Aside0 (j ≤ i ∧ k + j = i + 1 ∧ bj = (decide (0 ≤ kk) && !((F.take j).any fun x => x.f0.toList == p.f0.toList))) ∧ v8 = .bool bj ∧ v36 = .int .i64 (j : Int) ∧ Aside0 (W.heap[g6]? = some (.cells #[.string p.f0, .int .i64 p.f1, .int .i64 p.f2, .int .i64 p.f3, .string p.f4] 77 (0, 0))) ∧ Aside0 (Below w.heap.size w W))
        case atStart => exact ⟨0, b0, ⟨by omega, by omega, by rw [HB0.out]; simp⟩, rfl, rfl, KB6, HB⟩
        case round =>
          clear KB6 HB
          obtain ⟨j, bj, HJ, rfl, rfl, KB6, HB⟩ := hrel
          have y0 := (blk_cell KB6.out 0).trans (show _ = some (Value.string p.f0) from rfl)
          have y1 := (blk_cell KB6.out 1).trans (show _ = some (Value.int .i64 p.f1) from rfl)
          have y2 := (blk_cell KB6.out 2).trans (show _ = some (Value.int .i64 p.f2) from rfl)
          have y3 := (blk_cell KB6.out 3).trans (show _ = some (Value.int .i64 p.f3) from rfl)
          have y4 := (blk_cell KB6.out 4).trans (show _ = some (Value.string p.f4) from rfl)
          by_cases hj : j < i
          · have d1 : decide ((j : Int) < (i : Int)) = true := decide_eq_true (by omega)
            have d2 : decide (j < i) = true := decide_eq_true (by omega)
            have s1 : (0 : Int) ≤ (j : Int) := by omega
            have s2 : (j : Int) < (i : Int) := by omega
            obtain ⟨ad3, e, h0, h1, h2, h3, h4⟩ := at_T77 HRF.out j s1 (by omega)
            cases e
            rw [Int.toNat_natCast] at h0 h1 h2 h3 h4
            replace h0 := (HB.out.cell (World.block_lt_of_cell? w _ h0)).trans h0
            replace h1 := (HB.out.cell (World.block_lt_of_cell? w _ h1)).trans h1
            replace h2 := (HB.out.cell (World.block_lt_of_cell? w _ h2)).trans h2
            replace h3 := (HB.out.cell (World.block_lt_of_cell? w _ h3)).trans h3
            replace h4 := (HB.out.cell (World.block_lt_of_cell? w _ h4)).trans h4
            have hrd : rd_T77 (F.map toQ) (j : Int) = toQ (F.getD j z46) := getD_toQ F j
            rw [hrd] at h0 h1 h2 h3 h4
            have hany := any_snoc F z46 (fun x => x.f0.toList == p.f0.toList) j (by have := HM.out; omega)
            have HANY := Aside0.mk hany
            clear hany hrd
            generalize F.getD j z46 = x at h0 h1 h2 h3 h4 HANY
            change wr.cell? _ = some (.string x.f0) at h0
            change wr.cell? _ = some (.int .i64 x.f1) at h1
            change wr.cell? _ = some (.int .i64 x.f2) at h2
            change wr.cell? _ = some (.int .i64 x.f3) at h3
            change wr.cell? _ = some (.string x.f4) at h4
            have ln := blk_lt KB6.out
            have ln2 : ¬ (g6 = wr.heap.size) := by omega
            have HKA := Aside0.mk ((Below.heap_alloc wr (.cells #[.string x.f0, .int .i64 x.f1, .int .i64 x.f2, .int .i64 x.f3, .string x.f4] 77) _ ln).trans KB6.out)
            have HBA := Aside0.mk (below_alloc HB.out (.cells #[.string x.f0, .int .i64 x.f1, .int .i64 x.f2, .int .i64 x.f3, .string x.f4] 77))
            cases bj with
            | false =>
              have HF := Aside0.mk (show false = (decide (0 ≤ kk) && !((F.take (j + 1)).any fun x => x.f0.toList == p.f0.toList)) by
                have h := HJ.out.2.2
                rw [HANY.out]
                cases hA : decide (0 ≤ kk) with
                | false => rfl
                | true =>
                  rw [hA] at h
                  cases hC : ((F.take j).any fun x => x.f0.toList == p.f0.toList) with
                  | true => rfl
                  | false => rw [hC] at h; cases h)
              go_wp2_with fail
              go_roundg (gk - 1)
              case measure => have := HJ.out; omega
              case rel => exact ⟨j + 1, false, ⟨by omega, by have := HJ.out; omega, HF.out⟩, rfl, rfl, HKA, HBA⟩
            | true =>
              cases hq : (p.f0.toList == x.f0.toList) with
              | true =>
                have HF := Aside0.mk (show false = (decide (0 ≤ kk) && !((F.take (j + 1)).any fun x => x.f0.toList == p.f0.toList)) by
                  rw [HANY.out, show (x.f0.toList == p.f0.toList) = true by rw [beq_iff_eq] at hq ⊢; exact hq.symm]
                  simp)
                go_wp2_with fail
                go_roundg (gk - 1)
                case measure => have := HJ.out; omega
                case rel => exact ⟨j + 1, false, ⟨by omega, by have := HJ.out; omega, HF.out⟩, rfl, rfl, HKA, HBA⟩
              | false =>
                have HF := Aside0.mk (show true = (decide (0 ≤ kk) && !((F.take (j + 1)).any fun x => x.f0.toList == p.f0.toList)) by
                  rw [HANY.out, show (x.f0.toList == p.f0.toList) = false by rw [beq_eq_false_iff_ne] at hq ⊢; exact fun h => hq h.symm, Bool.or_false]
                  exact HJ.out.2.2)
                go_wp2_with fail
                go_roundg (gk - 1)
                case measure => have := HJ.out; omega
                case rel => exact ⟨j + 1, true, ⟨by omega, by have := HJ.out; omega, HF.out⟩, rfl, rfl, HKA, HBA⟩
          · have d1 : decide ((j : Int) < (i : Int)) = false := decide_eq_false (by omega)
            have d2 : decide (j < i) = false := decide_eq_false (by omega)
            have hji : j = i := by have := HJ.out; omega
            have hbj := HJ.out.2.2
            rw [hji] at hbj
            cases bj with
            | false =>
              have hno : okAt S F i = false := by
                unfold okAt
                rw [← HP.out, ← HK.out, ← hbj]
                rfl
              have HE := Aside0.mk (show z = (i : Int) by rw [HZ.out, HI.out.2.2, HST.out, hno]; rfl)
              clear hji hbj hno
              go_wp2_with fail
              go_quiet (fail)
              go_wp2
              go_ret
              exact ⟨by rw [HE.out]; rfl, pw_below_drewN HB.out _⟩
            | true =>
              have h0k : 0 ≤ kk := by
                cases hA : decide (0 ≤ kk) with
                | true => exact of_decide_eq_true hA
                | false => rw [hA] at hbj; cases hbj
              obtain ⟨k2, rfl⟩ := Int.eq_ofNat_of_zero_le h0k
              have hkn : k2 < n := by have := HLT.out; have := HN.out; omega
              obtain ⟨a, ha⟩ : ∃ a, a = S.getD k2 z95 := ⟨_, rfl⟩
              have hok : okAt S F i = predOk a p := by
                unfold okAt
                rw [← HP.out, ← HK.out, ← hbj, Int.toNat_natCast, ha]
                rfl
              obtain ⟨ad2, e, s0, s1, s2, s3⟩ := at_T96 (Kd.C_below HRS.out HB.out) (k2 : Int) (by omega) (by omega)
              cases e
              rw [Int.toNat_natCast] at s0 s1 s2 s3
              have hrd : rd_T96 (S.map toA) (k2 : Int) = toA (S.getD k2 z95) := getD_toA S k2
              rw [hrd, ← ha] at s0 s1 s2 s3
              change wr.cell? _ = some (.string a.f0) at s0
              change wr.cell? _ = some (.int .i64 a.f1) at s1
              change wr.cell? _ = some (.int .i64 a.f2) at s2
              change wr.cell? _ = some (.int .i64 a.f3) at s3
              have hp4 : p.f4.size ≤ 1000000000 := HST4.out p (by rw [HP.out, List.getD_eq_getElem?_getD, List.getElem?_eq_getElem (by have := HM.out; omega)]; exact List.getElem_mem _)
              have HPC := Aside0.mk (fun W => rpredOk_calls a p W hp4)
              have pk0 : (0 : Int) ≤ (k2 : Int) := by omega
              have pk1 : (k2 : Int) < (n : Int) := by omega
              have HOKE := Aside0.mk hok
              clear hji hbj hok ha hrd h0k hp4
              have t0 : ∀ q : BelowP wr, q.w.cell? _ = _ := fun q => q.cell s0
              have t1 : ∀ q : BelowP wr, q.w.cell? _ = _ := fun q => q.cell s1
              have t2 : ∀ q : BelowP wr, q.w.cell? _ = _ := fun q => q.cell s2
              have t3 : ∀ q : BelowP wr, q.w.cell? _ = _ := fun q => q.cell s3
              have r0 : ∀ q : BelowP wr, q.w.cell? _ = _ := fun q => q.cell y0
              have r1 : ∀ q : BelowP wr, q.w.cell? _ = _ := fun q => q.cell y1
              have r2 : ∀ q : BelowP wr, q.w.cell? _ = _ := fun q => q.cell y2
              have r3 : ∀ q : BelowP wr, q.w.cell? _ = _ := fun q => q.cell y3
              have r4 : ∀ q : BelowP wr, q.w.cell? _ = _ := fun q => q.cell y4
              cases hbp : predOk a p with
              | true =>
                rw [hbp] at HPC HOKE
                have HE := Aside0.mk (show filterBad S F = badFrom S F (m - (i + 1)) (i + 1) by rw [HI.out.2.2, HST.out, HOKE.out]; rfl)
                clear hbp HOKE
                go_wp2_with fail
                refine wp_region_quiet_below (by kernel_rfl) (by kernel_rfl) ?_
                repeat (quiet_step ((go_at_call 47; (with_reducible refine Calls.below_of (HPC.out _)))))
                refine wpQuiet_nil ?_
                rintro _ ⟨pq, rfl⟩
                go_wp2_with fail
                go_roundg (gko - 1)
                case measure => have := HI.out; omega
                case rel => exact ⟨i + 1, ⟨by omega, by have := HI.out; omega, HE.out⟩, rfl, ⟨below_then HB.out HB.out.size pq.h⟩⟩
              | false =>
                rw [hbp] at HPC HOKE
                have HE := Aside0.mk (show z = (i : Int) by rw [HZ.out, HI.out.2.2, HST.out, HOKE.out]; rfl)
                clear hbp HOKE
                go_wp2_with fail
                refine wp_region_quiet_below (by kernel_rfl) (by kernel_rfl) ?_
                repeat (quiet_step ((go_at_call 47; (with_reducible refine Calls.below_of (HPC.out _)))))
                refine wpQuiet_nil ?_
                rintro _ ⟨pq, rfl⟩
                go_wp2
                go_ret
                exact ⟨by rw [HE.out]; rfl, below_then HB.out HB.out.size pq.h⟩
      · have b1 : decide ((i : Int) < (m : Int)) = false := decide_eq_false (by omega)
        have b2 : decide (i < m) = false := decide_eq_false (by omega)
        have HE := Aside0.mk (show z = -1 by rw [HZ.out, HI.out.2.2, show m - i = 0 by omega]; rfl)
        go_wp2
        go_ret
        exact ⟨by rw [HE.out]; rfl, HB.out⟩
end Go.Proofs.YthaapijjjgkacaaDoor.Mine
end
section
/-
  wigwaglaw05.Attrs, walked: a schema of at most 6 attributes, their names cut. Condition: the names at most 2^63 - 1 bytes.
-/
namespace Go.Proofs.YthaapijjjgkacaaDoor.Mine
open Go.RowKit Go.Proofs.YthaapijjjgkacaaDoorW.PrintWords Go.Proofs.YthaapijjjgkacaaDoorW.PrintLast Go.Proofs.YthaapijjjgkacaaDoorW.PrintMore
open Go.Proofs.YthaapijjjgkacaaDoor.PFilterReads
def cutA (x : S95) : S95 := ⟨cutB x.f0 20, x.f1, x.f2, x.f3⟩
def attrsOf (L : List S95) : List S95 := (L.take 6).map cutA
theorem attrs_snoc (L : List S95) (i : Nat) (h : i < L.length) : (L.take (i + 1)).map cutA = (L.take i).map cutA ++ [cutA (L.getD i z95)] := by
  rw [List.take_succ_eq_append_getElem h, List.map_append, List.getD_eq_getElem?_getD, List.getElem?_eq_getElem h]
  rfl
set_option maxHeartbeats 4000000 in
set_option maxRecDepth 100000 in
theorem attrs_calls (A : Option Addr) (n c : Nat) (L : List S95) (w : World) (hn : L.length = n) (hr : Kd.C k95 w A n L) (hc : n ≤ c) (hnm : ∀ p ∈ L, p.f0.size ≤ 9223372036854775807) (hn2 : n ≤ 9223372036854775807) :
    Calls Tryd.prog 22 #[.slice A n c] w fun e w' => ∃ v0 v1, e = .returned (.tuple #[v0, v1]) ∧ Kd.R k95 95 w' w.heap.size (fun _ => True) v0 (attrsOf L) ∧ Kd.R k96 96 w' w.heap.size (fun _ => True) v1 ((attrsOf L).map toA) ∧ Below w.heap.size w w' := by
  have HR := Aside0.mk hr
  have HN := Aside0.mk hn
  have HNM := Aside0.mk hnm
  clear hr hn hnm
  go_enter Tryd.func22, Tryd.ntmps22
  go_wp2_with fail
  have HB := Aside0.mk (below_alloc (below_alloc (Below.refl w.heap.size w) (.cells #[] 95)) (.cells #[] 96))
  have HO4 : Aside0 (Kd.R k95 95 ((w.alloc (.cells #[] 95)).alloc (.cells #[] 96)) w.heap.size (fun _ => True) (.slice (some ⟨w.heap.size, 0, none⟩) 0 0) (([] : List S95))) :=
    ⟨Kd.R_alloc (show Kd.R k95 95 (w.alloc (.cells #[] 95)) w.heap.size (fun _ => True) (.slice (some ⟨w.heap.size, 0, none⟩) 0 0) ([] : List S95) from ⟨fun _ _ => trivial, [], World.ownsRow_lit w #[] 0 (Nat.le_refl _) (by decide) rfl, Reps.none _ _⟩) _⟩
  have HO5 : Aside0 (Kd.R k96 96 ((w.alloc (.cells #[] 95)).alloc (.cells #[] 96)) w.heap.size (fun _ => True) (.slice (some ⟨w.heap.size + 1, 0, none⟩) 0 0) (([] : List S96))) :=
    ⟨⟨fun _ _ => trivial, [], by
      have := World.ownsRow_lit (base := w.heap.size) (e := 96) (size := 4) (w.alloc (.cells #[] 95)) #[] 0 (by show _ ≤ (w.heap.push _).size; rw [Array.size_push]; omega) (by decide) rfl
      have e : (w.alloc (.cells #[] 95)).heap.size = w.heap.size + 1 := by show (w.heap.push _).size = _; exact Array.size_push _
      rw [e] at this
      exact this, Reps.none _ _⟩⟩
  generalize (w.alloc (.cells #[] 95)).alloc (.cells #[] 96) = w0 at HB HO4 HO5 ⊢
  generalize Value.slice (some { block := w.heap.size, off := 0 }) 0 0 = v40 at HO4 ⊢
  generalize Value.slice (some { block := w.heap.size + 1, off := 0 }) 0 0 = v50 at HO5 ⊢
  go_loopg [4, 5, 6, 7] 8 (fun k v4 v5 v6 v7 W => ∃ i : Nat, Aside0 (i ≤ n ∧ i ≤ 6 ∧ k + i = 8) ∧ v6 = .int .i64 (i : Int) ∧ Aside0 (Kd.R k95 95 W w.heap.size (fun _ => True) v4 ((L.take i).map cutA)) ∧ Aside0 (Kd.R k96 96 W w.heap.size (fun _ => True) v5 (((L.take i).map cutA).map toA)) ∧ Aside0 (Below w.heap.size w W))
  case atStart => exact ⟨0, ⟨by omega, by omega, by omega⟩, rfl, HO4, HO5, HB⟩
  case round =>
    clear HO4 HO5 HB
    obtain ⟨i, HI, rfl, HO4, HO5, HB⟩ := hrel
    by_cases hi : i < n
    · have b1 : decide ((i : Int) < (n : Int)) = true := decide_eq_true (by omega)
      have b2 : decide (i < n) = true := decide_eq_true (by omega)
      have p1 : (0 : Int) ≤ (i : Int) := by omega
      have p2 : (i : Int) < (n : Int) := by omega
      by_cases h6 : i < 6
      · have b3 : decide ((i : Int) < 6) = true := decide_eq_true (by omega)
        obtain ⟨ad, e, h0, h1, h2, h3⟩ := at_T95 HR.out i p1 p2
        cases e
        rw [Int.toNat_natCast] at h0 h1 h2 h3
        replace h0 := (HB.out.cell (World.block_lt_of_cell? w _ h0)).trans h0
        replace h1 := (HB.out.cell (World.block_lt_of_cell? w _ h1)).trans h1
        replace h2 := (HB.out.cell (World.block_lt_of_cell? w _ h2)).trans h2
        replace h3 := (HB.out.cell (World.block_lt_of_cell? w _ h3)).trans h3
        have hrd : rd_T95 L (i : Int) = L.getD i z95 := rfl
        rw [hrd] at h0 h1 h2 h3
        have hs := attrs_snoc L i (by have := HN.out; omega)
        have hz : (L.getD i z95).f0.size ≤ 9223372036854775807 := HNM.out _ (by rw [List.getD_eq_getElem?_getD, List.getElem?_eq_getElem (by have := HN.out; omega)]; exact List.getElem_mem _)
        have HS := Aside0.mk hs
        clear hrd hs
        generalize L.getD i z95 = p at h0 h1 h2 h3 hz HS
        go_wp2_with fail
        refine (cut_P p.f0 20 _ hz (by omega)).mono ?_
        rintro e w1 ⟨rfl, rfl⟩
        generalize hcut : cutB p.f0 20 = nm
        have HC := Aside0.mk (show cutA p = ⟨nm, p.f1, p.f2, p.f3⟩ by unfold cutA; rw [hcut])
        clear hcut
        go_upto_region 7 with (fail)
        have KB7 : Aside0 ((wr.alloc (.cells #[.string nm, .int .i64 p.f1, .int .i64 p.f2, .int .i64 p.f3] 95)).heap[wr.heap.size]? = some (.cells #[.string nm, .int .i64 p.f1, .int .i64 p.f2, .int .i64 p.f3] 95 (0, 0))) := ⟨heap_alloc_new wr _⟩
        have HLV := Aside0.mk (fun k (hk : u4.ownBlock = some k) => (Kd.R_bound HO4.out).1 k hk |>.2.2.1)
        have n1_ := Aside0.mk (below_alloc HB.out (.cells #[.string nm, .int .i64 p.f1, .int .i64 p.f2, .int .i64 p.f3] 95))
        have n2_ := Aside0.mk (Kd.R_alloc HO4.out (.cells #[.string nm, .int .i64 p.f1, .int .i64 p.f2, .int .i64 p.f3] 95))
        have n3_ := Aside0.mk (Kd.R_alloc HO5.out (.cells #[.string nm, .int .i64 p.f1, .int .i64 p.f2, .int .i64 p.f3] 95))
        clear HB HO4 HO5 h0 h1 h2 h3
        have HB := n1_
        have HO4 := n2_
        have HO5 := n3_
        clear n1_ n2_ n3_
        generalize wr.alloc (.cells #[.string nm, .int .i64 p.f1, .int .i64 p.f2, .int .i64 p.f3] 95) = w2 at KB7 HB HO4 HO5 ⊢
        generalize wr.heap.size = g7 at KB7 HLV ⊢
        have y0 := (blk_cell KB7.out 0).trans (show _ = some (Value.string nm) from rfl)
        have y1 := (blk_cell KB7.out 1).trans (show _ = some (Value.int .i64 p.f1) from rfl)
        have y2 := (blk_cell KB7.out 2).trans (show _ = some (Value.int .i64 p.f2) from rfl)
        have y3 := (blk_cell KB7.out 3).trans (show _ = some (Value.int .i64 p.f3) from rfl)
        have hbd : ((L.take i).map cutA).length ≤ 6 := by simp; omega
        have hbd2 : (((L.take i).map cutA).map toA).length ≤ 6 := by simp; omega
        have HBD := Aside0.mk (And.intro hbd hbd2)
        clear hbd hbd2
        go_wp2_with (first
          | ((with_reducible refine gate_builtin (b := .append) (xs := #[.tmp 28, .tmp 30]) rfl ?_); at_builtin; go_loud (refine Kd.R_append k95 (w0 := w) w.heap.size rfl (.tmp 28) (.tmp 30) 50 95 (.agg #[(.string ⟨#[]⟩), (.int .i64 0), (.int .i64 0), (.int .i64 0)]) 40 rfl Tryd.underlying50 info95 rfl (by decide) (by omega) _ _ (⟨nm, p.f1, p.f2, p.f3⟩ : S95) [.string nm, .int .i64 p.f1, .int .i64 p.f2, .int .i64 p.f3] (fun _ => True) (fun _ => False) rfl ?aX ?aP (fun _ hk => hk.elim) ?aF HO4.out HB.out HB.out.size ?aL ?_; (case aX => first | rfl | (go_simp; done) | (go_simp; rfl)); (case aP => exact k95_mkM _ _ _ (⟨nm, p.f1, p.f2, p.f3⟩ : S95)); (case aF => exact (fun k hk => trivial)); (case aL => have := HBD.out; omega); intro v9 w9 ho hb hg hat; have n0_ := Aside0.mk ho; have n1_ := Aside0.mk hb; have n2_ := Aside0.mk ((hg.block _ (blk_lt KB7.out) (fun e => absurd (HLV.out _ e.symm) (Nat.lt_irrefl _))).trans KB7.out); have n3_ := Aside0.mk (Kd.R_mono (Kd.R_grown (Kd.R_apartR HO5.out HO4.out (by decide)) hg (fun k hk => hk.2)) (ok' := fun _ => True) (fun _ _ => trivial)); clear HO4 HO5 HB KB7 ho hb hg hat y0 y1 y2 y3; have HO4 := n0_; have HB := n1_; have KB7 := n2_; have HO5 := n3_; clear n0_ n1_ n2_ n3_; have y0 := (blk_cell KB7.out 0).trans (show _ = some (Value.string nm) from rfl); have y1 := (blk_cell KB7.out 1).trans (show _ = some (Value.int .i64 p.f1) from rfl); have y2 := (blk_cell KB7.out 2).trans (show _ = some (Value.int .i64 p.f2) from rfl); have y3 := (blk_cell KB7.out 3).trans (show _ = some (Value.int .i64 p.f3) from rfl)))
          | ((with_reducible refine gate_builtin (b := .append) (xs := #[.tmp 32, .tmp 34]) rfl ?_); at_builtin; go_loud (refine Kd.R_append k96 (w0 := w) w.heap.size rfl (.tmp 32) (.tmp 34) 51 96 (.agg #[(.string ⟨#[]⟩), (.int .i64 0), (.int .i64 0), (.int .i64 0)]) 40 rfl Tryd.underlying51 info96 rfl (by decide) (by omega) _ _ (⟨nm, p.f1, p.f2, p.f3⟩ : S96) [.string nm, .int .i64 p.f1, .int .i64 p.f2, .int .i64 p.f3] (fun _ => True) (fun _ => False) rfl ?aX ?aP (fun _ hk => hk.elim) ?aF HO5.out HB.out HB.out.size ?aL ?_; (case aX => first | rfl | (go_simp; done) | (go_simp; rfl)); (case aP => exact k96_mkM _ _ _ (⟨nm, p.f1, p.f2, p.f3⟩ : S96)); (case aF => exact (fun k hk => trivial)); (case aL => have := HBD.out; omega); intro v9 w9 ho hb hg hat; have n0_ := Aside0.mk ho; have n1_ := Aside0.mk hb; have n3_ := Aside0.mk (Kd.R_mono (Kd.R_grown (Kd.R_apartR HO4.out HO5.out (by decide)) hg (fun k hk => hk.2)) (ok' := fun _ => True) (fun _ _ => trivial)); clear HO4 HO5 HB KB7 ho hb hg hat y0 y1 y2 y3; have HO5 := n0_; have HB := n1_; have HO4 := n3_; clear n0_ n1_ n3_)))
        go_roundg (gk - 1)
        case measure => have := HI.out; omega
        case rel => exact ⟨i + 1, ⟨by omega, by omega, by have := HI.out; omega⟩, rfl, ⟨by rw [HS.out, HC.out]; exact HO4.out⟩, ⟨by rw [HS.out, HC.out, List.map_append]; exact HO5.out⟩, HB⟩
      · have b3 : decide ((i : Int) < 6) = false := decide_eq_false (by omega)
        have hE : attrsOf L = (L.take i).map cutA := by unfold attrsOf; rw [show i = 6 by have := HI.out; omega]
        have HE := Aside0.mk hE
        clear hE
        rw [← HE.out] at HO4 HO5
        have hfin := And.intro HO4.out (And.intro HO5.out HB.out)
        go_wp2
        go_ret2
        exact ⟨_, _, rfl, hfin⟩
    · have b1 : decide ((i : Int) < (n : Int)) = false := decide_eq_false (by omega)
      have b2 : decide (i < n) = false := decide_eq_false (by omega)
      have hE : attrsOf L = (L.take i).map cutA := by
        unfold attrsOf
        have h1 : L.length ≤ i := by have := HN.out; omega
        rw [List.take_of_length_le h1, List.take_of_length_le (by have := HI.out; omega)]
      have HE := Aside0.mk hE
      clear hE
      rw [← HE.out] at HO4 HO5
      have hfin := And.intro HO4.out (And.intro HO5.out HB.out)
      clear hi
      go_wp2
      go_ret2
      exact ⟨_, _, rfl, hfin⟩
end Go.Proofs.YthaapijjjgkacaaDoor.Mine
end
section
/-
  The reference's Number and Text of bytes, walked. Conditions: a number below 2^62, a text at most 10^9 bytes.
-/
namespace Go.Proofs.YthaapijjjgkacaaDoor.Mine
open Go.RowKit Go.Proofs.YthaapijjjgkacaaDoorW.PrintWords Go.Proofs.YthaapijjjgkacaaDoorW.PrintLast Go.Proofs.YthaapijjjgkacaaDoorW.PrintMore
open Go.Proofs.YthaapijjjgkacaaDoor.PFilterReads
def num7 (n : Nat) : List UInt8 := if h : n < 128 then [UInt8.ofNat n] else UInt8.ofNat (128 + n % 128) :: num7 (n / 128)
theorem num7_lo {n : Nat} (h : n < 128) : num7 n = [UInt8.ofNat n] := by rw [num7, dif_pos h]
theorem num7_hi {n : Nat} (h : ¬ n < 128) : num7 n = UInt8.ofNat (128 + n % 128) :: num7 (n / 128) := by rw [num7, dif_neg h]
theorem wrapU64 (x : Int) (h0 : 0 ≤ x) (h1 : x ≤ 1000000000) : IntKind.u64.wrap x = x := by
  have h : (2 : Int) ^ IntKind.u64.bits = 18446744073709551616 := by decide
  show x % (2 : Int) ^ IntKind.u64.bits = x
  rw [h]
  omega
theorem wrapU8 (x : Int) (h0 : 0 ≤ x) (h1 : x < 256) : IntKind.u8.wrap x = x := by
  have h : (2 : Int) ^ IntKind.u8.bits = 256 := by decide
  show x % (2 : Int) ^ IntKind.u8.bits = x
  rw [h]
  omega
theorem conv1d (W : World) (c : Int) : (convert 24 9 (.slice (some ⟨W.heap.size, 0, none⟩) 1 1)).run Tryd.prog (W.alloc (.cells #[.int .u8 c] 5)).drew = .ok (.string ⟨#[UInt8.ofNat c.toNat]⟩) (W.alloc (.cells #[.int .u8 c] 5)).drew := by
  have e : (⟨#[UInt8.ofNat c.toNat]⟩ : ByteArray) = strOfNums [c] := rfl
  rw [e]
  refine run_convert_bytes_arg _ 24 5 Tryd.underlying24 Tryd.underlying5 W.heap.size 0 1 1 [c] rfl (fun i hi => ?_) 9 Tryd.underlying9
  obtain rfl : i = 0 := by omega
  go_simp
  try rfl
theorem conv_at {W : World} {b : Nat} {c : Int} (h : W.cell? ⟨b, 0, none⟩ = some (.int .u8 c)) : (convert 24 9 (.slice (some ⟨b, 0, none⟩) 1 1)).run Tryd.prog W = .ok (.string ⟨#[UInt8.ofNat c.toNat]⟩) W := by
  have e : (⟨#[UInt8.ofNat c.toNat]⟩ : ByteArray) = strOfNums [c] := rfl
  rw [e]
  refine run_convert_bytes_arg _ 24 5 Tryd.underlying24 Tryd.underlying5 b 0 1 1 [c] rfl (fun i hi => ?_) 9 Tryd.underlying9
  obtain rfl : i = 0 := by omega
  exact h
theorem newcell (w : World) (c : Int) : w.heap.size < (w.alloc (.cells #[.int .u8 c] 5)).drew.heap.size ∧ (w.alloc (.cells #[.int .u8 c] 5)).drew.cell? ⟨w.heap.size, 0, none⟩ = some (.int .u8 c) := by
  constructor
  · show w.heap.size < (w.heap.push _).size
    rw [Array.size_push]
    omega
  · exact cell_of_row (w.alloc (.cells #[.int .u8 c] 5)) w.heap.size 0 _ _ _ (heap_alloc_new w _)
theorem num7_len (n : Nat) : (num7 n).length ≤ n + 1 := by
  induction n using Nat.strongRecOn with
  | _ n ih =>
    by_cases h : n < 128
    · rw [num7_lo h]; simp
    · rw [num7_hi h, List.length_cons]
      have := ih (n / 128) (by omega)
      omega
set_option maxHeartbeats 1000000 in
set_option maxRecDepth 100000 in
theorem rnum_calls : ∀ (n : Nat) (w : World), n < 1000000000 → Calls Tryd.prog 79 #[.int .u64 (n : Int)] w fun e w' => e = .returned (.string ⟨(num7 n).toArray⟩) ∧ Below w.heap.size w w' := by
  intro n
  induction n using Nat.strongRecOn with
  | _ n ih =>
    intro w hn
    by_cases h : n < 128
    · have b1 : decide ((n : Int) < 128) = true := decide_eq_true (by omega)
      have p1 : (0 : Int) ≤ (n : Int) := by omega
      have p2 : (n : Int) < 256 := by omega
      have hcv := fun W => conv1 W (n : Int)
      have HV := Aside0.mk (num7_lo h)
      clear ih h
      go_enter Tryd.func79, Tryd.ntmps79
      go_wp2
      go_ret
      exact ⟨by rw [HV.out]; rfl, below_alloc (Below.refl _ _) _⟩
    · have b1 : decide ((n : Int) < 128) = false := decide_eq_false (by omega)
      have p1 : (0 : Int) ≤ (n : Int) := by omega
      have HV := Aside0.mk (num7_hi h)
      have HI := Aside0.mk (fun W => ih (n / 128) (by omega) W (by omega))
      obtain ⟨r, hr⟩ : ∃ r : Nat, n % 128 = r := ⟨_, rfl⟩
      obtain ⟨q, hq⟩ : ∃ q : Nat, n / 128 = q := ⟨_, rfl⟩
      rw [hr, hq] at HV
      rw [hq] at HI
      have hr2 : r < 128 := by omega
      have e1 : ((n : Int)).tmod 128 = (r : Int) := by rw [Int.tmod_eq_emod_of_nonneg (by omega)]; omega
      have e2 : IntKind.u64.wrap (128 + (r : Int)) = 128 + (r : Int) := wrapU64 _ (by omega) (by omega)
      have e3 : IntKind.u8.wrap (128 + (r : Int)) = 128 + (r : Int) := wrapU8 _ (by omega) (by omega)
      have e5 : (n : Int) / 128 = (q : Int) := by omega
      have e4 : IntKind.u64.wrap (q : Int) = (q : Int) := wrapU64 _ (by omega) (by omega)
      have hcv := fun (W : World) => conv1d W (128 + (r : Int))
      have hcvb := fun (W : World) => conv1 W (128 + (r : Int))
      have HNC := Aside0.mk (newcell w (128 + (r : Int)))
      obtain ⟨bq, hbq⟩ : ∃ b : ByteArray, b = ⟨(num7 q).toArray⟩ := ⟨_, rfl⟩
      have hbs : bq.size ≤ 1000000000 := by
        rw [hbq]
        show (num7 q).toArray.size ≤ _
        rw [List.size_toArray]
        have := num7_len q
        omega
      have z1 : (9223372036854775807 < 1 + bq.size) = False := eq_false (by omega)
      have HBQ := Aside0.mk hbq
      rw [← hbq] at HI
      clear hbq hbs
      clear ih hr hq
      go_enter Tryd.func79, Tryd.ntmps79
      go_wp2_with fail
      go_region_with (first
        | (go_at_call 79; (with_reducible refine (HI.out _).mono ?_); rintro e w5 ⟨rfl, hb⟩; first | (have hx5 := conv_at ((hb.cell (p := ⟨w.heap.size, 0, none⟩) HNC.out.1).trans HNC.out.2); have HB5 := Aside0.mk (below_then (below_drew1 (below_alloc (Below.refl w.heap.size w) (.cells #[.int .u8 (128 + (r : Int))] 5))) (below_drew1 (below_alloc (Below.refl w.heap.size w) (.cells #[.int .u8 (128 + (r : Int))] 5))).size hb); clear hb) | (have HB5 := Aside0.mk (below_then (below_drew1 (Below.refl w.heap.size w)) (below_drew1 (Below.refl w.heap.size w)).size hb); clear hb)))
      all_goals
        go_wp2
        go_ret
        refine ⟨?_, by first | exact HB5.out | exact below_alloc HB5.out _ | exact below_drew1 (below_alloc HB5.out _)⟩
        rw [HV.out]
        have hres : (⟨#[UInt8.ofNat (128 + (r : Int)).toNat]⟩ ++ bq : ByteArray) = ⟨(UInt8.ofNat (128 + r) :: num7 q).toArray⟩ := by
          rw [HBQ.out, show (128 + (r : Int)).toNat = 128 + r by omega]
          exact ba_ext (by rw [ByteArray.data_append, Array.toList_append]; rfl)
        rw [← hres]
        rfl
set_option maxRecDepth 100000 in
theorem rtext_calls (s : ByteArray) (w : World) (hs : s.size < 1000000000) : Calls Tryd.prog 54 #[.string s] w fun e w' => e = .returned (.string (⟨(num7 s.size).toArray⟩ ++ s)) ∧ Below w.heap.size w w' := by
  have e4 : IntKind.u64.wrap (s.size : Int) = (s.size : Int) := wrapU64 _ (by omega) (by omega)
  obtain ⟨bq, hbq⟩ : ∃ b : ByteArray, b = ⟨(num7 s.size).toArray⟩ := ⟨_, rfl⟩
  have hbs : bq.size ≤ 1000000001 := by
    rw [hbq]
    show (num7 s.size).toArray.size ≤ _
    rw [List.size_toArray]
    have := num7_len s.size
    omega
  have z1 : (9223372036854775807 < bq.size + s.size) = False := eq_false (by omega)
  have HC := Aside0.mk (fun W => rnum_calls s.size W hs)
  rw [← hbq] at HC ⊢
  clear hbq
  go_enter Tryd.func54, Tryd.ntmps54
  go_wp2_with fail
  refine (HC.out _).mono ?_
  rintro e w1 ⟨rfl, hb⟩
  go_wp2
  go_ret
  exact ⟨rfl, hb⟩
end Go.Proofs.YthaapijjjgkacaaDoor.Mine
end
section
/-
  code.Writer's Number, Text and Bytes, walked. Conditions: a number below 10^9, a text and what was gathered at most 10^9 bytes.
-/
namespace Go.Proofs.YthaapijjjgkacaaDoor.Mine
open Go.RowKit Go.Proofs.YthaapijjjgkacaaDoorW.PrintWords Go.Proofs.YthaapijjjgkacaaDoorW.PrintLast Go.Proofs.YthaapijjjgkacaaDoorW.PrintMore
open Go.Proofs.YthaapijjjgkacaaDoor.PFilterReads
/-- A writer at block g that has gathered acc. -/
def IsW (w : World) (g : Nat) (acc : List UInt8) : Prop := ∃ v, w.heap[g]? = some (.cells #[v] 57 (0, 0)) ∧ w.ownsRow g 5 1 v acc.length (nums .u8 (numsB acc))
theorem own_slice {w : World} {base n : Nat} {e : TypeId} {v : Value} {xs : List Value} (ho : w.ownsRow base e 1 v n xs) : ∃ A m c, v = .slice A m c := by
  rcases ho.2 with ⟨rfl, _⟩ | ⟨g, cap, cur, rfl, _⟩
  · exact ⟨none, 0, 0, rfl⟩
  · exact ⟨_, _, _, rfl⟩
theorem own_ne57 {w : World} {g base n : Nat} {u v : Value} {xs : List Value} (h : w.heap[g]? = some (.cells #[u] 57 (0, 0))) (ho : w.ownsRow base 5 1 v n xs) : some g ≠ v.ownBlock := fun e => by
  obtain ⟨cells, hc⟩ := own_typed ho g e.symm
  rw [h] at hc
  injection hc with hc
  injection hc with _ hc
  cases hc
theorem IsW.below {w w' : World} {g : Nat} {acc : List UInt8} (h : IsW w g acc) (hb : Below w.heap.size w w') : IsW w' g acc := by
  obtain ⟨v, h1, h2⟩ := h
  exact ⟨v, (hb.block g (blk_lt h1)).trans h1, own_move h2 (fun k hk => hb.block k (own_lt h2 k hk))⟩
theorem IsW.set {w : World} {g : Nat} {acc : List UInt8} {u v : Value} (h : w.heap[g]? = some (.cells #[u] 57 (0, 0))) (ho : w.ownsRow g 5 1 v acc.length (nums .u8 (numsB acc))) : IsW (w.setCell ⟨g, 0, none⟩ v) g acc :=
  ⟨v, by simpa using blk_set h 0 v, own_move ho (fun k hk => Below.heap_setCell w ⟨g, 0, none⟩ v k (fun e => own_ne57 h ho (by rw [hk, e])))⟩
theorem IsW.new (w : World) : IsW (w.alloc (.cells #[.slice none 0 0] 57)) w.heap.size [] := ⟨.slice none 0 0, heap_alloc_new w _, ⟨rfl, .inl ⟨rfl, rfl⟩⟩⟩
theorem own_snoc {w : World} {g : Nat} {v : Value} {acc : List UInt8} {c : UInt8} (h : w.ownsRow g 5 1 v (acc.length + 1) (nums .u8 (numsB acc) ++ [.int .u8 (c.toNat : Int)])) : w.ownsRow g 5 1 v (acc ++ [c]).length (nums .u8 (numsB (acc ++ [c]))) := by
  rw [numsB_snoc, nums_append, List.length_append]
  exact h
theorem or128 (n : Nat) (h : n < 256) : bits BinOp.or IntKind.u8 (n : Int) 128 = 128 + ((n % 128 : Nat) : Int) := by
  have : ∀ m : Fin 256, bits BinOp.or IntKind.u8 (m.val : Int) 128 = 128 + ((m.val % 128 : Nat) : Int) := by decide +kernel
  exact this ⟨n, h⟩
set_option maxHeartbeats 4000000 in
set_option maxRecDepth 100000 in
theorem wnum_calls (n g : Nat) (acc0 : List UInt8) (w : World) (hi : IsW w g acc0) (hn : n < 1000000000) (hl : acc0.length ≤ 1000000000) :
    Calls Tryd.prog 48 #[.pointer (some ⟨g, 0, none⟩), .int .u64 (n : Int)] w fun e w' => e = .returned (.tuple #[]) ∧ IsW w' g (acc0 ++ num7 n) ∧ Below g w w' := by
  have HI0 := Aside0.mk hi
  clear hi
  go_enter Tryd.func48, Tryd.ntmps48
  go_wp2_with fail
  go_loopg [1] (n + 1) (fun k v1 W => ∃ (m : Nat) (acc : List UInt8), Aside0 (m ≤ n ∧ k = m + 1 ∧ acc.length + m ≤ 1000000000 + n ∧ acc ++ num7 m = acc0 ++ num7 n) ∧ v1 = .int .u64 (m : Int) ∧ Aside0 (IsW W g acc) ∧ Aside0 (Below g w W))
  case atStart => exact ⟨n, acc0, ⟨by omega, by omega, by omega, rfl⟩, rfl, HI0, ⟨Below.refl _ _⟩⟩
  case round =>
    obtain ⟨m, acc, HM, rfl, HI, HB⟩ := hrel
    have hm9 : m < 1000000000 := by have := HM.out; omega
    have HLN := Aside0.mk (show acc.length ≤ 2000000000 by have := HM.out; omega)
    by_cases h : m < 128
    · have b1 : decide (127 < (m : Int)) = false := decide_eq_false (by omega)
      have e1 : IntKind.u8.wrap (m : Int) = (m : Int) := wrapU8 _ (by omega) (by omega)
      have HV := Aside0.mk (num7_lo h)
      have HC := Aside0.mk (show ((UInt8.ofNat m).toNat : Int) = (m : Int) by rw [UInt8.toNat_ofNat']; congr 1; omega)
      clear h hm9
      obtain ⟨v, HG, HR⟩ := HI.out
      have HGA := Aside0.mk HG
      have HOA := Aside0.mk HR
      have hc0 := (blk_cell HG 0).trans (show _ = some v from rfl)
      have hf0 := blk_frozen HG 0
      have hlt := blk_lt HG
      clear HG HR HI
      go_wp2_with ((with_reducible refine gate_builtin (b := .append) (xs := #[.tmp 24, .tmp 27]) rfl ?_); at_builtin; go_loud (refine print_append_cells g rfl (.tmp 24) (.tmp 27) 24 5 (.int .u8 0) 1 1 rfl Tryd.underlying24 info5 rfl (by decide) (by omega) v _ (nums .u8 (numsB acc)) [.int .u8 (m : Int)] rfl ?aX rfl (by intro u hu; rw [List.mem_singleton.1 hu]; rfl) HOA.out HB.out (Nat.le_of_lt hlt) ?aL ?_; (case aX => first | rfl | (go_simp; done) | (go_simp; rfl)); (case aL => (have := HLN.out; omega)); intro v3 w3 hown hb hg hat; obtain ⟨A3, m3, c3, rfl⟩ := own_slice hown; have n0_ := Aside0.mk (blk_grown HGA.out hg (own_ne57 HGA.out HOA.out)); have n1_ := Aside0.mk hown; have n2_ := Aside0.mk hb; clear HGA HOA HB hown hb hg hat hc0 hf0 hlt; have HGA := n0_; have HOA := n1_; have HB := n2_; clear n0_ n1_ n2_; have hc0 := (blk_cell HGA.out 0).trans (show _ = some v from rfl); have hf0 := blk_frozen HGA.out 0; have hlt := blk_lt HGA.out))
      first | go_end0 | ((try simp only [Exit.inBlock, Exit.then]); refine bodyPost_ret (results_none rfl _ _ _) rfl ?_)
      rw [← HC.out] at HOA
      exact ⟨rfl, by rw [← HM.out.2.2.2, HV.out]; exact IsW.set HGA.out (own_snoc HOA.out), HB.out.setCell (p := ⟨g, 0, none⟩) (Nat.le_refl g) _⟩
    · have b1 : decide (127 < (m : Int)) = true := decide_eq_true (by omega)
      have HV := Aside0.mk (num7_hi h)
      obtain ⟨r, hr⟩ : ∃ r : Nat, m % 128 = r := ⟨_, rfl⟩
      obtain ⟨q, hq⟩ : ∃ q : Nat, m / 128 = q := ⟨_, rfl⟩
      rw [hr, hq] at HV
      have HQ := Aside0.mk (show q < m ∧ q + 1 ≤ m by omega)
      have e5 : (m : Int) / 128 = (q : Int) := by omega
      obtain ⟨z, hz⟩ : ∃ z : Nat, m % 256 = z := ⟨_, rfl⟩
      have hz2 : z < 256 := by omega
      have e1 : IntKind.u8.wrap (m : Int) = (z : Int) := by
        have h2 : (2 : Int) ^ IntKind.u8.bits = 256 := by decide
        show (m : Int) % (2 : Int) ^ IntKind.u8.bits = _
        rw [h2]
        omega
      have e2 : bits BinOp.or IntKind.u8 (z : Int) 128 = 128 + (r : Int) := by
        rw [or128 z hz2]
        congr 2
        omega
      have HC := Aside0.mk (show ((UInt8.ofNat (128 + r)).toNat : Int) = 128 + (r : Int) by rw [UInt8.toNat_ofNat']; omega)
      clear h hm9 hr hq hz
      obtain ⟨v, HG, HR⟩ := HI.out
      have HGA := Aside0.mk HG
      have HOA := Aside0.mk HR
      have hc0 := (blk_cell HG 0).trans (show _ = some v from rfl)
      have hf0 := blk_frozen HG 0
      have hlt := blk_lt HG
      clear HG HR HI
      go_wp2_with ((with_reducible refine gate_builtin (b := .append) (xs := #[.tmp 10, .tmp 14]) rfl ?_); at_builtin; go_loud (refine print_append_cells g rfl (.tmp 10) (.tmp 14) 24 5 (.int .u8 0) 1 1 rfl Tryd.underlying24 info5 rfl (by decide) (by omega) v _ (nums .u8 (numsB acc)) [.int .u8 (128 + (r : Int))] rfl ?aX rfl (by intro u hu; rw [List.mem_singleton.1 hu]; rfl) HOA.out HB.out (Nat.le_of_lt hlt) ?aL ?_; (case aX => first | rfl | (go_simp; done) | (go_simp; rfl)); (case aL => (have := HLN.out; omega)); intro v3 w3 hown hb hg hat; obtain ⟨A3, m3, c3, rfl⟩ := own_slice hown; have n0_ := Aside0.mk (blk_grown HGA.out hg (own_ne57 HGA.out HOA.out)); have n1_ := Aside0.mk hown; have n2_ := Aside0.mk hb; clear HGA HOA HB hown hb hg hat hc0 hf0 hlt; have HGA := n0_; have HOA := n1_; have HB := n2_; clear n0_ n1_ n2_; have hc0 := (blk_cell HGA.out 0).trans (show _ = some v from rfl); have hf0 := blk_frozen HGA.out 0; have hlt := blk_lt HGA.out))
      rw [← HC.out] at HOA
      go_roundg (q + 1)
      case measure => have := HM.out; have := HQ.out; omega
      case rel => exact ⟨q, acc ++ [UInt8.ofNat (128 + r)], ⟨by have := HM.out; have := HQ.out; omega, rfl, by have := HM.out; have := HQ.out; rw [List.length_append, List.length_singleton]; omega, by rw [← HM.out.2.2.2, HV.out, List.append_assoc]; rfl⟩, rfl, ⟨IsW.set HGA.out (own_snoc HOA.out)⟩, ⟨HB.out.setCell (p := ⟨g, 0, none⟩) (Nat.le_refl g) _⟩⟩
set_option maxHeartbeats 4000000 in
set_option maxRecDepth 100000 in
theorem wtext_calls (s : ByteArray) (g : Nat) (w : World) (hi : IsW w g []) (hs : s.size < 1000000000) :
    Calls Tryd.prog 25 #[.pointer (some ⟨g, 0, none⟩), .string s] w fun e w' => e = .returned (.tuple #[]) ∧ IsW w' g (num7 s.size ++ s.data.toList) ∧ Below g w w' := by
  have e4 : IntKind.u64.wrap (s.size : Int) = (s.size : Int) := wrapU64 _ (by omega) (by omega)
  have HC := Aside0.mk (wnum_calls s.size g [] w hi hs (Nat.zero_le _))
  have hl := num7_len s.size
  clear hi
  generalize num7 s.size = acc at HC hl ⊢
  go_enter Tryd.func25, Tryd.ntmps25
  go_wp2_with fail
  refine HC.out.mono ?_
  rintro e w1 ⟨rfl, HI, hb⟩
  rw [List.nil_append] at HI
  have HB := Aside0.mk hb
  have HI := Aside0.mk HI
  clear hb HC
  obtain ⟨v, HG, HR⟩ := HI.out
  have HGA := Aside0.mk HG
  have HOA := Aside0.mk HR
  have hc0 := (blk_cell HG 0).trans (show _ = some v from rfl)
  have hf0 := blk_frozen HG 0
  have hlt := blk_lt HG
  clear HG HR HI
  go_wp2_with ((with_reducible refine gate_builtin (b := .append) (xs := #[.tmp 13, .tmp 14]) rfl ?_); at_builtin; go_loud (refine print_append_str g rfl (.tmp 13) (.tmp 14) 24 9 5 rfl Tryd.underlying24 Tryd.underlying9 info5 v (numsB acc) s rfl rfl (by rw [numsB, List.length_map]; exact HOA.out) HB.out (Nat.le_of_lt hlt) (by rw [numsB, List.length_map]; omega) ?_; intro v3 w3 hown hb hg; obtain ⟨A3, m3, c3, rfl⟩ := own_slice hown; have n0_ := Aside0.mk (blk_grown HGA.out hg (own_ne57 HGA.out HOA.out)); have n1_ := Aside0.mk hown; have n2_ := Aside0.mk hb; clear HGA HOA HB hown hb hg hc0 hf0 hlt; have HGA := n0_; have HOA := n1_; have HB := n2_; clear n0_ n1_ n2_; have hc0 := (blk_cell HGA.out 0).trans (show _ = some v from rfl); have hf0 := blk_frozen HGA.out 0; have hlt := blk_lt HGA.out))
  first | go_end0 | ((try simp only [Exit.inBlock, Exit.then]); refine bodyPost_ret (results_none rfl _ _ _) rfl ?_)
  refine ⟨rfl, IsW.set HGA.out ?_, HB.out.setCell (p := ⟨g, 0, none⟩) (Nat.le_refl g) _⟩
  have h1 := HOA.out
  have e : numsB acc ++ bytesOf s = numsB (acc ++ s.data.toList) := by simp [numsB, bytesOf]
  rw [e] at h1
  rw [show (numsB (acc ++ s.data.toList)).length = (acc ++ s.data.toList).length by rw [numsB, List.length_map]] at h1
  exact h1
theorem wbytes_calls (g : Nat) (acc : List UInt8) (w : World) (hi : IsW w g acc) :
    Calls Tryd.prog 28 #[.pointer (some ⟨g, 0, none⟩)] w fun e w' => e = .returned (.string ⟨acc.toArray⟩) ∧ Below w.heap.size w w' := by
  have HI := Aside0.mk hi
  clear hi
  obtain ⟨v, HG, HR⟩ := HI.out
  have hc0 := (blk_cell HG 0).trans (show _ = some v from rfl)
  have hlt := blk_lt HG
  have hcv := own_string (P := Tryd.prog) Tryd.underlying24 Tryd.underlying5 Tryd.underlying9 HR
  rw [str_numsB] at hcv
  clear HG HR HI
  go_enter Tryd.func28, Tryd.ntmps28
  go_wp2
  go_ret
  exact ⟨rfl, Below.refl _ _⟩
end Go.Proofs.YthaapijjjgkacaaDoor.Mine
end
section
/-
  The reference's Digits, walked: it writes a number as the library does. Conditions: the number is an int64.
-/
namespace Go.Proofs.YthaapijjjgkacaaDoor.Mine
open Go.RowKit Go.Proofs.YthaapijjjgkacaaDoorW.PrintWords Go.Proofs.YthaapijjjgkacaaDoorW.PrintLast Go.Proofs.YthaapijjjgkacaaDoorW.PrintMore
open Go.Proofs.YthaapijjjgkacaaDoor.PFilterReads Go.Lib
/-- Where the loop stands: what is left of U, and the digits so far. -/
def DG (U i v : Nat) (S : List UInt8) : Prop := v * 10 ^ i ≤ U ∧ S.length = i ∧ ((i = 0 ∧ v = U ∧ S = []) ∨ (0 < i ∧ 0 < v ∧ decDigits U = decDigits v ++ S) ∨ (0 < i ∧ v = 0 ∧ decDigits U = S))
theorem dg_start (U : Nat) : DG U 0 U [] := ⟨by simp, rfl, Or.inl ⟨rfl, rfl, rfl⟩⟩
theorem dig_lo {v : Nat} (h : v < 10) : decDigits v = [UInt8.ofNat (48 + v % 10)] := by rw [decDigits, dif_pos h, Nat.mod_eq_of_lt h]
theorem dig_hi {v : Nat} (h : ¬ v < 10) : decDigits v = decDigits (v / 10) ++ [UInt8.ofNat (48 + v % 10)] := by rw [decDigits, dif_neg h]
theorem dg_step {U i v : Nat} {S : List UInt8} (h : DG U i v S) (h2 : i = 0 ∨ 0 < v) : DG U (i + 1) (v / 10) (UInt8.ofNat (48 + v % 10) :: S) := by
  obtain ⟨h1, hl, h⟩ := h
  refine ⟨?_, by rw [List.length_cons, hl], ?_⟩
  · have e : v / 10 * 10 ^ (i + 1) = (v / 10 * 10) * 10 ^ i := by rw [Nat.pow_succ, Nat.mul_comm (10 ^ i) 10, Nat.mul_assoc]
    rw [e]
    exact Nat.le_trans (Nat.mul_le_mul_right _ (by omega)) h1
  · have key : (0 < v / 10 ∧ decDigits v = decDigits (v / 10) ++ [UInt8.ofNat (48 + v % 10)]) ∨ (v / 10 = 0 ∧ decDigits v = [UInt8.ofNat (48 + v % 10)]) := by
      by_cases hv : v < 10
      · exact Or.inr ⟨by omega, dig_lo hv⟩
      · exact Or.inl ⟨by omega, dig_hi hv⟩
    have hd : decDigits U = decDigits v ++ S := by
      rcases h with ⟨_, rfl, rfl⟩ | ⟨_, _, h⟩ | ⟨hi, h0, _⟩
      · rw [List.append_nil]
      · exact h
      · omega
    rcases key with ⟨k1, k2⟩ | ⟨k1, k2⟩
    · exact Or.inr (Or.inl ⟨by omega, k1, by rw [hd, k2]; simp⟩)
    · exact Or.inr (Or.inr ⟨by omega, k1, by rw [hd, k2]; rfl⟩)
theorem dg_lt {U i v : Nat} {S : List UInt8} (h : DG U i v S) (hU : U < 10 ^ 20) (hv : 0 < v) : i < 20 := by
  have h1 : 10 ^ i ≤ v * 10 ^ i := Nat.le_mul_of_pos_left _ hv
  have h2 : 10 ^ i < 10 ^ 20 := Nat.lt_of_le_of_lt (Nat.le_trans h1 h.1) hU
  exact (Nat.pow_lt_pow_iff_right (by omega)).1 h2
theorem dg_end {U i v : Nat} {S : List UInt8} (h : DG U i v S) (h1 : 0 < i) (h2 : v = 0) : decDigits U = S := by
  obtain ⟨_, _, h | h | h⟩ := h
  · omega
  · omega
  · exact h.2.2
theorem wrapU64b (x : Int) (h0 : 0 ≤ x) (h1 : x < 18446744073709551616) : IntKind.u64.wrap x = x := by
  have h : (2 : Int) ^ IntKind.u64.bits = 18446744073709551616 := by decide
  show x % (2 : Int) ^ IntKind.u64.bits = x
  rw [h]
  omega
theorem wrapU64n (x : Int) (h0 : x < 0) (h1 : -18446744073709551616 ≤ x) : IntKind.u64.wrap x = 18446744073709551616 + x := by
  have h : (2 : Int) ^ IntKind.u64.bits = 18446744073709551616 := by decide
  show x % (2 : Int) ^ IntKind.u64.bits = _
  rw [h]
  omega
set_option maxHeartbeats 4000000 in
set_option maxRecDepth 100000 in
theorem digits_calls (n : Int) (h0 : -9223372036854775808 ≤ n) (h1 : n ≤ 9223372036854775807) (w : World) : Calls Tryd.prog 49 #[.int .i64 n] w fun e w' => e = .returned (.string ⟨(itoa n).toArray⟩) ∧ Below w.heap.size w w' := by
  by_cases hn : n < 0
  · obtain ⟨U, hU⟩ : ∃ U : Nat, n = -(U : Int) := ⟨n.natAbs, by omega⟩
    subst hU
    have HU := Aside0.mk (show U < 10 ^ 20 by omega)
    have HU2 := Aside0.mk (show U < 18446744073709551616 by omega)
    have d1 : decide (-(U : Int) < 0) = true := decide_eq_true hn
    have d2 : decide (0 < (U : Int)) = true := decide_eq_true (by omega)
    have d3 : decide (0 < U) = true := decide_eq_true (by omega)
    have f1 : IntKind.u64.wrap (-(U : Int)) = 18446744073709551616 + -(U : Int) := wrapU64n _ hn (by omega)
    have f2 : IntKind.u64.wrap (-(18446744073709551616 + -(U : Int))) = (U : Int) := by rw [wrapU64n _ (by omega) (by omega)]; omega
    have HFIN := Aside0.mk (fun (S : ByteArray) (h : decDigits U = S.data.toList) => show (⟨#[45]⟩ ++ S : ByteArray) = ⟨(itoa (-(U : Int))).toArray⟩ by
      refine ba_ext ?_
      rw [ByteArray.data_append, Array.toList_append]
      unfold itoa
      rw [if_pos hn, Int.natAbs_neg, Int.natAbs_natCast, h]
      rfl)
    clear hn h0 h1
    go_enter Tryd.func49, Tryd.ntmps49
    go_wp2_with fail
    go_loopg [3, 4, 5] 21 (fun k v3 v4 v5 W => ∃ (i v : Nat) (S : ByteArray), Aside0 (i ≤ 20 ∧ k + i = 20 + 1 ∧ DG U i v S.data.toList) ∧ v3 = .int .u64 (v : Int) ∧ v4 = .string S ∧ v5 = .int .i64 (i : Int) ∧ Aside0 (Below w.heap.size w W))
    case atStart => exact ⟨0, U, ⟨#[]⟩, ⟨by omega, by omega, dg_start U⟩, rfl, rfl, rfl, ⟨Below.refl _ _⟩⟩
    case round =>
      obtain ⟨i, v, S, HI, rfl, rfl, rfl, HB⟩ := hrel
      by_cases hi : i = 0 ∨ 0 < v
      · have h20 : i < 20 := by
          rcases hi with h | h
          · omega
          · exact dg_lt HI.out.2.2 HU.out h
        have b1 : decide ((i : Int) < 20) = true := decide_eq_true (by omega)
        have HS := Aside0.mk (dg_step HI.out.2.2 hi)
        obtain ⟨r, hr⟩ : ∃ r : Nat, v % 10 = r := ⟨_, rfl⟩
        obtain ⟨q, hq⟩ : ∃ q : Nat, v / 10 = q := ⟨_, rfl⟩
        rw [hr, hq] at HS
        have hv : (v : Int) < 18446744073709551616 := by
          have h1 := HI.out.2.2.1
          have h2 : v ≤ v * 10 ^ i := Nat.le_mul_of_pos_right _ (Nat.pow_pos (by omega))
          have h3 := HU2.out
          omega
        have hr2 : r < 10 := by omega
        have e1 : ((v : Int)).tmod 10 = (r : Int) := by rw [Int.tmod_eq_emod_of_nonneg (by omega)]; omega
        have e1b : ((v : Int)) % 10 = (r : Int) := by omega
        have e2 : IntKind.u64.wrap (r : Int) = (r : Int) := wrapU64 _ (by omega) (by omega)
        have e3 : IntKind.u64.wrap (48 + (r : Int)) = 48 + (r : Int) := wrapU64 _ (by omega) (by omega)
        have e4 : IntKind.u8.wrap (48 + (r : Int)) = 48 + (r : Int) := wrapU8 _ (by omega) (by omega)
        have e5 : (v : Int) / 10 = (q : Int) := by omega
        have e6 : ((v : Int)).tdiv 10 = (q : Int) := by rw [Int.tdiv_eq_ediv_of_nonneg (by omega)]; omega
        have e7 : IntKind.u64.wrap (q : Int) = (q : Int) := wrapU64b _ (by omega) (by omega)
        have hcv := fun W => conv1 W (48 + (r : Int))
        have hSz : S.size = i := by
          have : S.size = S.data.toList.length := by rw [Array.length_toList]; rfl
          rw [this]
          exact HI.out.2.2.2.1
        have z1 : (9223372036854775807 < 1 + S.size) = False := eq_false (by omega)
        have HN := Aside0.mk (And.intro h20 hSz)
        have wi : wrap64 ((i : Int) + 1) = ((i + 1 : Nat) : Int) := by rw [wrap_in (by omega) (by omega)]; rfl
        have b2 : ((i : Int) == 0) = decide (i = 0) := by rw [Bool.eq_iff_iff]; simp
        have b3 : decide (0 < (v : Int)) = decide (0 < v) := by rw [Bool.eq_iff_iff]; simp
        clear hr hq hv h20 hSz
        by_cases hi0 : i = 0
        · have c2 : decide (i = 0) = true := decide_eq_true hi0
          have b2' : ((i : Int) == 0) = true := by simp [hi0]
          clear hi hi0
          go_wp2_with fail
          go_roundg (gk - 1)
          case measure => have := HI.out; have := HN.out; omega
          case rel => exact ⟨i + 1, q, _, ⟨by have := HN.out; omega, by have := HI.out; have := HN.out; omega, by have := HS.out; simpa [ByteArray.data_append, Array.toList_append, show (48 + (r : Int)).toNat = 48 + r by omega] using this⟩, rfl, rfl, (by rw [wi]), ⟨below_alloc HB.out _⟩⟩
        · have c2 : decide (i = 0) = false := decide_eq_false hi0
          have b2' : ((i : Int) == 0) = false := by simp [hi0]
          have b3' : decide (0 < (v : Int)) = true := decide_eq_true (by omega)
          have b3'' : decide (0 < v) = true := decide_eq_true (by omega)
          clear hi hi0
          go_wp2_with fail
          go_roundg (gk - 1)
          case measure => have := HI.out; have := HN.out; omega
          case rel => exact ⟨i + 1, q, _, ⟨by have := HN.out; omega, by have := HI.out; have := HN.out; omega, by have := HS.out; simpa [ByteArray.data_append, Array.toList_append, show (48 + (r : Int)).toNat = 48 + r by omega] using this⟩, rfl, rfl, (by rw [wi]), ⟨below_alloc HB.out _⟩⟩
      · have hi1 : 0 < i := by omega
        have hv0 : v = 0 := by omega
        subst hv0
        have HE := Aside0.mk (dg_end HI.out.2.2 hi1 rfl)
        have hSz : S.size = i := by
          have : S.size = S.data.toList.length := by rw [Array.length_toList]; rfl
          rw [this]
          exact HI.out.2.2.2.1
        have z1 : (9223372036854775807 < 1 + S.size) = False := eq_false (by have := HI.out; omega)
        have b2' : ((i : Int) == 0) = false := by simp; omega
        have b1 : (i : Int) < 20 ∨ ¬ (i : Int) < 20 := by omega
        clear hi hi1 hSz
        rcases b1 with b1 | b1
        · have b1 : decide ((i : Int) < 20) = true := decide_eq_true b1
          go_wp2
          go_ret
          exact ⟨by rw [← HFIN.out _ HE.out]; rfl, HB.out⟩
        · have b1 : decide ((i : Int) < 20) = false := decide_eq_false b1
          go_wp2
          go_ret
          exact ⟨by rw [← HFIN.out _ HE.out]; rfl, HB.out⟩
  · obtain ⟨U, hU⟩ : ∃ U : Nat, n = (U : Int) := ⟨n.toNat, by omega⟩
    subst hU
    have HU := Aside0.mk (show U < 10 ^ 20 by omega)
    have HU2 := Aside0.mk (show U < 18446744073709551616 by omega)
    have d1 : decide ((U : Int) < 0) = false := decide_eq_false hn
    have f1 : IntKind.u64.wrap (U : Int) = (U : Int) := wrapU64b _ (by omega) (by omega)
    have HFIN := Aside0.mk (fun (S : ByteArray) (h : decDigits U = S.data.toList) => show S = ⟨(itoa (U : Int)).toArray⟩ by
      refine ba_ext ?_
      unfold itoa
      rw [if_neg hn, Int.toNat_natCast, h])
    clear hn h0 h1
    go_enter Tryd.func49, Tryd.ntmps49
    go_wp2_with fail
    go_loopg [3, 4, 5] 21 (fun k v3 v4 v5 W => ∃ (i v : Nat) (S : ByteArray), Aside0 (i ≤ 20 ∧ k + i = 20 + 1 ∧ DG U i v S.data.toList) ∧ v3 = .int .u64 (v : Int) ∧ v4 = .string S ∧ v5 = .int .i64 (i : Int) ∧ Aside0 (Below w.heap.size w W))
    case atStart => exact ⟨0, U, ⟨#[]⟩, ⟨by omega, by omega, dg_start U⟩, rfl, rfl, rfl, ⟨Below.refl _ _⟩⟩
    case round =>
      obtain ⟨i, v, S, HI, rfl, rfl, rfl, HB⟩ := hrel
      by_cases hi : i = 0 ∨ 0 < v
      · have h20 : i < 20 := by
          rcases hi with h | h
          · omega
          · exact dg_lt HI.out.2.2 HU.out h
        have b1 : decide ((i : Int) < 20) = true := decide_eq_true (by omega)
        have HS := Aside0.mk (dg_step HI.out.2.2 hi)
        obtain ⟨r, hr⟩ : ∃ r : Nat, v % 10 = r := ⟨_, rfl⟩
        obtain ⟨q, hq⟩ : ∃ q : Nat, v / 10 = q := ⟨_, rfl⟩
        rw [hr, hq] at HS
        have hv : (v : Int) < 18446744073709551616 := by
          have h1 := HI.out.2.2.1
          have h2 : v ≤ v * 10 ^ i := Nat.le_mul_of_pos_right _ (Nat.pow_pos (by omega))
          have h3 := HU2.out
          omega
        have hr2 : r < 10 := by omega
        have e1 : ((v : Int)).tmod 10 = (r : Int) := by rw [Int.tmod_eq_emod_of_nonneg (by omega)]; omega
        have e1b : ((v : Int)) % 10 = (r : Int) := by omega
        have e2 : IntKind.u64.wrap (r : Int) = (r : Int) := wrapU64 _ (by omega) (by omega)
        have e3 : IntKind.u64.wrap (48 + (r : Int)) = 48 + (r : Int) := wrapU64 _ (by omega) (by omega)
        have e4 : IntKind.u8.wrap (48 + (r : Int)) = 48 + (r : Int) := wrapU8 _ (by omega) (by omega)
        have e5 : (v : Int) / 10 = (q : Int) := by omega
        have e6 : ((v : Int)).tdiv 10 = (q : Int) := by rw [Int.tdiv_eq_ediv_of_nonneg (by omega)]; omega
        have e7 : IntKind.u64.wrap (q : Int) = (q : Int) := wrapU64b _ (by omega) (by omega)
        have hcv := fun W => conv1 W (48 + (r : Int))
        have hSz : S.size = i := by
          have : S.size = S.data.toList.length := by rw [Array.length_toList]; rfl
          rw [this]
          exact HI.out.2.2.2.1
        have z1 : (9223372036854775807 < 1 + S.size) = False := eq_false (by omega)
        have HN := Aside0.mk (And.intro h20 hSz)
        have wi : wrap64 ((i : Int) + 1) = ((i + 1 : Nat) : Int) := by rw [wrap_in (by omega) (by omega)]; rfl
        have b2 : ((i : Int) == 0) = decide (i = 0) := by rw [Bool.eq_iff_iff]; simp
        have b3 : decide (0 < (v : Int)) = decide (0 < v) := by rw [Bool.eq_iff_iff]; simp
        clear hr hq hv h20 hSz
        by_cases hi0 : i = 0
        · have c2 : decide (i = 0) = true := decide_eq_true hi0
          have b2' : ((i : Int) == 0) = true := by simp [hi0]
          clear hi hi0
          go_wp2_with fail
          go_roundg (gk - 1)
          case measure => have := HI.out; have := HN.out; omega
          case rel => exact ⟨i + 1, q, _, ⟨by have := HN.out; omega, by have := HI.out; have := HN.out; omega, by have := HS.out; simpa [ByteArray.data_append, Array.toList_append, show (48 + (r : Int)).toNat = 48 + r by omega] using this⟩, rfl, rfl, (by rw [wi]), ⟨below_alloc HB.out _⟩⟩
        · have c2 : decide (i = 0) = false := decide_eq_false hi0
          have b2' : ((i : Int) == 0) = false := by simp [hi0]
          have b3' : decide (0 < (v : Int)) = true := decide_eq_true (by omega)
          have b3'' : decide (0 < v) = true := decide_eq_true (by omega)
          clear hi hi0
          go_wp2_with fail
          go_roundg (gk - 1)
          case measure => have := HI.out; have := HN.out; omega
          case rel => exact ⟨i + 1, q, _, ⟨by have := HN.out; omega, by have := HI.out; have := HN.out; omega, by have := HS.out; simpa [ByteArray.data_append, Array.toList_append, show (48 + (r : Int)).toNat = 48 + r by omega] using this⟩, rfl, rfl, (by rw [wi]), ⟨below_alloc HB.out _⟩⟩
      · have hi1 : 0 < i := by omega
        have hv0 : v = 0 := by omega
        subst hv0
        have HE := Aside0.mk (dg_end HI.out.2.2 hi1 rfl)
        have hSz : S.size = i := by
          have : S.size = S.data.toList.length := by rw [Array.length_toList]; rfl
          rw [this]
          exact HI.out.2.2.2.1
        have z1 : (9223372036854775807 < 1 + S.size) = False := eq_false (by have := HI.out; omega)
        have b2' : ((i : Int) == 0) = false := by simp; omega
        have b1 : (i : Int) < 20 ∨ ¬ (i : Int) < 20 := by omega
        clear hi hi1 hSz
        rcases b1 with b1 | b1
        · have b1 : decide ((i : Int) < 20) = true := decide_eq_true b1
          go_wp2
          go_ret
          exact ⟨by rw [← HFIN.out _ HE.out]; rfl, HB.out⟩
        · have b1 : decide ((i : Int) < 20) = false := decide_eq_false b1
          go_wp2
          go_ret
          exact ⟨by rw [← HFIN.out _ HE.out]; rfl, HB.out⟩
end Go.Proofs.YthaapijjjgkacaaDoor.Mine
end
section
/-
  The reference's Print of a filter, walked: it prints as the program does. Conditions: numbers within int64, the text at most 10^9 bytes.
-/
namespace Go.Proofs.YthaapijjjgkacaaDoor.Mine
open Go.RowKit Go.Proofs.YthaapijjjgkacaaDoorW.PrintWords Go.Proofs.YthaapijjjgkacaaDoorW.PrintLast Go.Proofs.YthaapijjjgkacaaDoorW.PrintMore
open Go.Proofs.YthaapijjjgkacaaDoor.PFilterReads
theorem extract_one (s : ByteArray) (j : Nat) (h : j < s.size) : s.extract j (j + 1) = ⟨#[s[j]'h]⟩ := by
  refine ba_ext ?_
  have h1 : j < s.data.toList.length := by rw [Array.length_toList]; exact h
  rw [ByteArray.data_extract, Array.toList_extract, List.extract_eq_take_drop, List.drop_eq_getElem_cons h1, show j + 1 - j = 1 by omega]
  rfl
set_option maxHeartbeats 8000000 in
set_option maxRecDepth 100000 in
theorem rprint_calls (A : Option Addr) (n c : Nat) (F : List S46) (w : World) (hn : F.length = n) (hr : Kd.C k77 w A n (F.map toQ)) (hb : ∀ p ∈ F, -9223372036854775808 ≤ p.f2 ∧ p.f2 ≤ 9223372036854775807 ∧ -9223372036854775808 ≤ p.f3 ∧ p.f3 ≤ 9223372036854775807)
    (hs : (printN F n).length ≤ 1000000000) (hn2 : n ≤ 1000000) :
    Calls Tryd.prog 26 #[.slice A n c] w fun e w' => e = .returned (.string ⟨(printN F n).toArray⟩) ∧ Below w.heap.size w w' := by
  have HR := Aside0.mk hr
  have HM := Aside0.mk hb
  have HS := Aside0.mk hs
  have HNL := Aside0.mk hn
  clear hr hb hs hn
  go_enter Tryd.func26, Tryd.ntmps26
  go_wp2_with fail
  go_loopg [3, 4, 5, 6, 9] (n + 1) (fun k v3 v4 v5 v6 v9 W => ∃ (i : Nat) (S : ByteArray), Aside0 (i ≤ n ∧ k + i = n + 1) ∧ Aside0 (S.data.toList = printN F i) ∧ v3 = .string S ∧ v9 = .int .i64 i ∧ Aside0 (Below w.heap.size w W))
  case atStart => exact ⟨0, ⟨#[]⟩, ⟨by omega, by omega⟩, ⟨rfl⟩, rfl, rfl, ⟨Below.refl _ _⟩⟩
  case round =>
    obtain ⟨i, S, HN, HE, rfl, rfl, HB⟩ := hrel
    by_cases hi : i < n
    · have b1 : decide ((i : Int) < (n : Int)) = true := decide_eq_true (by omega)
      have b2 : decide (i < n) = true := decide_eq_true (by omega)
      have p1 : (0 : Int) ≤ (i : Int) := by omega
      have p2 : (i : Int) < (n : Int) := by omega
      obtain ⟨ad, e, h0, h1, h2, h3, h4⟩ := at_T77 HR.out i p1 p2
      cases e
      rw [Int.toNat_natCast] at h0 h1 h2 h3 h4
      replace h0 := (HB.out.cell (World.block_lt_of_cell? w _ h0)).trans h0
      replace h1 := (HB.out.cell (World.block_lt_of_cell? w _ h1)).trans h1
      replace h2 := (HB.out.cell (World.block_lt_of_cell? w _ h2)).trans h2
      replace h3 := (HB.out.cell (World.block_lt_of_cell? w _ h3)).trans h3
      replace h4 := (HB.out.cell (World.block_lt_of_cell? w _ h4)).trans h4
      have hrd : rd_T77 (F.map toQ) (i : Int) = toQ (F.getD i z46) := getD_toQ F i
      rw [hrd] at h0 h1 h2 h3 h4
      have hmem : F.getD i z46 ∈ F := by
        rw [List.getD_eq_getElem?_getD, List.getElem?_eq_getElem (by have := HNL.out; omega)]
        exact List.getElem_mem _
      have hrange := HM.out _ hmem
      have hT : (printN F i).length + (pstep i (F.getD i z46)).length ≤ 1000000000 := by
        have h5 : (printN F (i + 1)).length ≤ _ := printN_mono F (show i + 1 ≤ n by omega)
        have h6 := HS.out
        have h7 : printN F (i + 1) = printN F i ++ pstep i (F.getD i z46) := rfl
        rw [h7, List.length_append] at h5
        omega
      have HN2 := Aside0.mk (show printN F (i + 1) = printN F i ++ pstep i (F.getD i z46) from rfl)
      generalize F.getD i z46 = p at h0 h1 h2 h3 h4 hrange hT HN2
      change wr.cell? _ = some (.string p.f0) at h0
      change wr.cell? _ = some (.int .i64 p.f1) at h1
      change wr.cell? _ = some (.int .i64 p.f2) at h2
      change wr.cell? _ = some (.int .i64 p.f3) at h3
      change wr.cell? _ = some (.string p.f4) at h4
      obtain ⟨r1, r2, r3, r4⟩ := hrange
      have hST : S.size ≤ 1000000000 := by
        have : S.size = S.data.toList.length := by rw [Array.length_toList]; rfl
        rw [HE.out] at this
        omega
      have hpl : (predL p).length ≤ 1000000000 := by
        unfold pstep at hT
        rw [List.length_append] at hT
        omega
      have hF0 : p.f0.size ≤ 1000000000 := Nat.le_trans (predL_name p) hpl
      have hRR := Aside0.mk (And.intro r1 (And.intro r2 (And.intro r3 r4)))
      have hPL := Aside0.mk hpl
      clear hT hpl r1 r2 r3 r4 hmem hrd
      have z0 : (9223372036854775807 < S.size + 5) = False := eq_false (by omega)
      have z0a : (9223372036854775807 < S.size + p.f0.size) = False := eq_false (by omega)
      have z0b : (9223372036854775807 < S.size + p.f0.size + 4) = False := eq_false (by omega)
      have z0c : (9223372036854775807 < S.size + p.f0.size + 5) = False := eq_false (by omega)
      have z0d : (9223372036854775807 < S.size + 5 + p.f0.size) = False := eq_false (by omega)
      have z0e : (9223372036854775807 < S.size + 5 + p.f0.size + 4) = False := eq_false (by omega)
      have z0f : (9223372036854775807 < S.size + 5 + p.f0.size + 5) = False := eq_false (by omega)
      by_cases hi0 : i = 0
      · have c1 : decide (0 < i) = false := decide_eq_false (by omega)
        have c2 : decide ((0 : Int) < (i : Int)) = false := decide_eq_false (by omega)
        have HI0 := Aside0.mk hi0
        clear hi0
        by_cases ho1 : p.f1 = 1
        · have d1 : (p.f1 == 1) = true := by simp [ho1]
          go_wp2_with fail
          generalize hW : wr.alloc (Obj.cells #[.string p.f0, .int .i64 1, .int .i64 p.f2, .int .i64 p.f3, .string p.f4] 77) = W2
          have HK : W2.heap[wr.heap.size]? = some (.cells #[.string p.f0, .int .i64 1, .int .i64 p.f2, .int .i64 p.f3, .string p.f4] 77 (0, 0)) := by rw [← hW]; exact blk_new wr _
          have n_ := Aside0.mk (show Below w.heap.size w W2 by rw [← hW]; exact below_alloc HB.out _)
          clear HB hW h0 h1 h2 h3 h4
          have HB := n_
          clear n_
          generalize wr.heap.size = gb at HK ⊢
          have q0 : ∀ q : BelowP W2, q.w.cell? ⟨gb, 0, none⟩ = some (.string p.f0) := fun q => q.cell ((blk_cell HK 0).trans rfl)
          have q2 : ∀ q : BelowP W2, q.w.cell? ⟨gb, 2, none⟩ = some (.int .i64 p.f2) := fun q => q.cell ((blk_cell HK 2).trans rfl)
          have q3 : ∀ q : BelowP W2, q.w.cell? ⟨gb, 3, none⟩ = some (.int .i64 p.f3) := fun q => q.cell ((blk_cell HK 3).trans rfl)
          clear HK
          obtain ⟨bLo, hLo, sLo, cLo⟩ : ∃ b : ByteArray, b.data.toList = Lib.itoa p.f2 ∧ b.size ≤ 21 ∧ ∀ q : BelowP W2, Calls Tryd.prog 49 #[.int .i64 p.f2] q.w fun e w' => e = .returned (.string b) ∧ Below q.w.heap.size q.w w' := ⟨⟨(Lib.itoa p.f2).toArray⟩, rfl, (by show (Lib.itoa p.f2).toArray.size ≤ 21; rw [List.size_toArray]; exact Lib.itoa_length_le p.f2 hRR.out.1 hRR.out.2.1), fun q => digits_calls _ hRR.out.1 hRR.out.2.1 _⟩
          obtain ⟨bHi, hHi, sHi, cHi⟩ : ∃ b : ByteArray, b.data.toList = Lib.itoa p.f3 ∧ b.size ≤ 21 ∧ ∀ q : BelowP W2, Calls Tryd.prog 49 #[.int .i64 p.f3] q.w fun e w' => e = .returned (.string b) ∧ Below q.w.heap.size q.w w' := ⟨⟨(Lib.itoa p.f3).toArray⟩, rfl, (by show (Lib.itoa p.f3).toArray.size ≤ 21; rw [List.size_toArray]; exact Lib.itoa_length_le p.f3 hRR.out.2.2.1 hRR.out.2.2.2), fun q => digits_calls _ hRR.out.2.2.1 hRR.out.2.2.2 _⟩
          have HLo := Aside0.mk hLo
          have HHi := Aside0.mk hHi
          have HCL := Aside0.mk cLo
          have HCH := Aside0.mk cHi
          clear hLo hHi cLo cHi
          generalize hS2 : S = S2
          have hSz2 : S2.size ≤ 1000000005 := (by rw [← hS2]; first | (rw [ByteArray.size_append]; exact Nat.add_le_add_right hST 5) | (exact Nat.le_trans hST (by decide)))
          have HE3 : Aside0 (S2.data.toList = printN F i ++ (if i = 0 then [] else [32, 97, 110, 100, 32])) := ⟨by rw [← hS2]; first | (rw [if_pos HI0.out, List.append_nil]; exact HE.out) | (rw [if_neg HI0.out, ByteArray.data_append, Array.toList_append, HE.out])⟩
          clear hS2
          have z1 : (9223372036854775807 < p.f0.size + 4) = False := eq_false (by omega)
          have z2 : (9223372036854775807 < p.f0.size + 4 + bLo.size) = False := eq_false (by omega)
          have z3 : (9223372036854775807 < p.f0.size + 4 + bLo.size + 2) = False := eq_false (by omega)
          have z4 : (9223372036854775807 < p.f0.size + 4 + bLo.size + 2 + bHi.size) = False := eq_false (by omega)
          have z5 : (9223372036854775807 < S2.size + (p.f0.size + 4 + bLo.size + 2 + bHi.size)) = False := eq_false (by omega)
          clear hF0 hSz2 sLo sHi
          refine wp_region_quiet_below (by kernel_rfl) (by kernel_rfl) ?_
          repeat (quiet_step ((go_at_call 49; first | (with_reducible refine Calls.below_of (HCL.out _)) | (with_reducible refine Calls.below_of (HCH.out _)))))
          refine wpQuiet_nil ?_
          rintro _ ⟨pq, rfl⟩
          go_wp2
          go_roundg (gk - 1)
          case measure => have := HN.out; omega
          case rel => exact ⟨i + 1, _, ⟨by have := HN.out; omega, by have := HN.out; omega⟩, ⟨by rw [ByteArray.data_append, Array.toList_append, HE3.out, HN2.out]; simp [pstep, predL, ho1, HLo.out, HHi.out, ByteArray.data_append]⟩, rfl, rfl, ⟨below_then HB.out HB.out.size pq.h⟩⟩
        · have d1 : (p.f1 == 1) = false := by simp [ho1]
          by_cases ho2 : p.f1 = 2
          · have d2 : (p.f1 == 2) = true := by simp [ho2]
            go_wp2_with fail
            generalize hW : wr.alloc (Obj.cells #[.string p.f0, .int .i64 2, .int .i64 p.f2, .int .i64 p.f3, .string p.f4] 77) = W2
            have HK : W2.heap[wr.heap.size]? = some (.cells #[.string p.f0, .int .i64 2, .int .i64 p.f2, .int .i64 p.f3, .string p.f4] 77 (0, 0)) := by rw [← hW]; exact blk_new wr _
            have n_ := Aside0.mk (show Below w.heap.size w W2 by rw [← hW]; exact below_alloc HB.out _)
            clear HB hW h0 h1 h2 h3 h4
            have HB := n_
            clear n_
            generalize wr.heap.size = gb at HK ⊢
            have hF4 : p.f4.size ≤ 1000000000 := Nat.le_trans (predL_str p ho1) hPL.out
            have HF := Aside0.mk (show S.size ≤ 1000000000 ∧ p.f0.size ≤ 1000000000 ∧ p.f4.size ≤ 1000000000 from ⟨hST, hF0, hF4⟩)
            have q4 := (blk_cell HK 4).trans (show _ = some (Value.string p.f4) from rfl)
            generalize hS2 : S ++ p.f0 ++ ⟨#[32, 61, 32, 34]⟩ = S2
            have hSz2 : S2.size ≤ 2000000015 := (by rw [← hS2]; simp only [ByteArray.size_append]; have := HF.out; have e5 : (⟨#[32, 97, 110, 100, 32]⟩ : ByteArray).size = 5 := rfl; have e4 : (⟨#[32, 61, 32, 34]⟩ : ByteArray).size ≤ 5 := (by decide); omega)
            have HE3 : Aside0 (S2.data.toList = printN F i ++ (if i = 0 then [] else [32, 97, 110, 100, 32]) ++ p.f0.data.toList ++ (⟨#[32, 61, 32, 34]⟩ : ByteArray).data.toList) := ⟨by rw [← hS2]; simp only [ByteArray.data_append, Array.toList_append, HE.out]; first | (rw [if_pos HI0.out, List.append_nil]) | (rw [if_neg HI0.out])⟩
            have HKB := Aside0.mk HK
            clear hS2 q4 HK
            obtain ⟨gko, rfl⟩ : ∃ g, g = gk := ⟨gk, rfl⟩
            go_loopg [3, 6] (p.f4.size + 1) (fun k v3 v6 W => ∃ (j : Nat) (T : ByteArray), Aside0 (j ≤ p.f4.size ∧ k + j = p.f4.size + 1 ∧ T.data.toList = S2.data.toList ++ quoteL (p.f4.data.toList.take j)) ∧ v3 = .string T ∧ v6 = .int .i64 (j : Int) ∧ W = W2)
            case atStart => exact ⟨0, S2, ⟨by omega, by omega, by simp [quoteL]⟩, rfl, rfl, rfl⟩
            case round =>
              obtain ⟨j, T, HJ, rfl, rfl, rfl⟩ := hrel
              have q4 := (blk_cell HKB.out 4).trans (show _ = some (Value.string p.f4) from rfl)
              have hT : T.size ≤ 5000000000 := by
                have e1 : T.size = T.data.toList.length := by rw [Array.length_toList]; rfl
                have e2 : S2.size = S2.data.toList.length := by rw [Array.length_toList]; rfl
                have e3 := quoteL_len (p.f4.data.toList.take j)
                have e4 : (p.f4.data.toList.take j).length ≤ p.f4.size := by rw [List.length_take, Array.length_toList]; exact Nat.min_le_right _ _
                rw [e1, HJ.out.2.2, List.length_append]
                omega
              have y1 : (9223372036854775807 < T.size + 1) = False := eq_false (by omega)
              have y2 : (9223372036854775807 < T.size + 1 + 1) = False := eq_false (by omega)
              by_cases hj : j < p.f4.size
              · have b4 : decide ((j : Int) < (p.f4.size : Int)) = true := decide_eq_true (by omega)
                have b5 : decide (j < p.f4.size) = true := decide_eq_true hj
                have s1 : (0 : Int) ≤ (j : Int) := by omega
                have s2 : (j : Int) < (p.f4.size : Int) := by omega
                have s3 : (j : Int) + 1 ≤ (p.f4.size : Int) := by omega
                have s4 : (j : Int) ≤ (j : Int) + 1 := by omega
                have wi : wrap64 ((j : Int) + 1) = (j : Int) + 1 := wrap_in (by omega) (by omega)
                have htk : quoteL (p.f4.data.toList.take (j + 1)) = quoteL (p.f4.data.toList.take j) ++ (if p.f4[j]'hj = 34 ∨ p.f4[j]'hj = 92 then [92, p.f4[j]'hj] else [p.f4[j]'hj]) := by
                  rw [List.take_succ_eq_append_getElem (by simpa using hj), quoteL_snoc]
                  rfl
                have hex : p.f4.extract j (j + 1) = ⟨#[p.f4[j]'hj]⟩ := extract_one p.f4 j hj
                obtain ⟨c, hc⟩ : ∃ c, p.f4[j]'hj = c := ⟨_, rfl⟩
                rw [hc] at htk hex
                have hx : ∀ h : j < p.f4.size, p.f4[j]'h = c := fun _ => hc
                have HT := Aside0.mk htk
                clear htk hc
                have e1 : ((c.toNat : Int) == (34 : Int)) = decide (c = 34) := c_eq (n := 34) (by decide)
                have e2 : ((c.toNat : Int) == (92 : Int)) = decide (c = 92) := c_eq (n := 92) (by decide)
                by_cases h34 : c = 34
                · subst h34
                  rw [decide_eq_true rfl] at e1
                  go_wp2_with fail
                  go_roundg (gk - 1)
                  case measure => have := HJ.out; omega
                  case rel => exact ⟨j + 1, _, ⟨by omega, by have := HJ.out; omega, by rw [HT.out]; simp only [ByteArray.data_append, Array.toList_append, HJ.out.2.2]; simp⟩, rfl, rfl, rfl⟩
                · by_cases h92 : c = 92
                  · subst h92
                    rw [decide_eq_false h34] at e1
                    rw [decide_eq_true rfl] at e2
                    go_wp2_with fail
                    go_roundg (gk - 1)
                    case measure => have := HJ.out; omega
                    case rel => exact ⟨j + 1, _, ⟨by omega, by have := HJ.out; omega, by rw [HT.out]; simp only [ByteArray.data_append, Array.toList_append, HJ.out.2.2]; simp⟩, rfl, rfl, rfl⟩
                  · rw [decide_eq_false h34] at e1
                    rw [decide_eq_false h92] at e2
                    go_wp2_with fail
                    go_roundg (gk - 1)
                    case measure => have := HJ.out; omega
                    case rel => exact ⟨j + 1, _, ⟨by omega, by have := HJ.out; omega, by rw [HT.out]; simp only [ByteArray.data_append, Array.toList_append, HJ.out.2.2]; simp [h34, h92]⟩, rfl, rfl, rfl⟩
              · have b4 : decide ((j : Int) < (p.f4.size : Int)) = false := decide_eq_false (by omega)
                have b5 : decide (j < p.f4.size) = false := decide_eq_false (by omega)
                go_wp2
                go_roundg (gko - 1)
                case measure => have := HN.out; omega
                case rel => exact ⟨i + 1, _, ⟨by have := HN.out; omega, by have := HN.out; omega⟩, ⟨by rw [HN2.out, ByteArray.data_append, Array.toList_append, HJ.out.2.2, show j = p.f4.size by have := HJ.out; omega, List.take_of_length_le (by rw [Array.length_toList]; exact Nat.le_refl _), HE3.out]; simp [pstep, predL, quotedL, ho1, ho2]⟩, rfl, rfl, HB⟩
          · have d2 : (p.f1 == 2) = false := by simp [ho2]
            go_wp2_with fail
            generalize hW : wr.alloc (Obj.cells #[.string p.f0, .int .i64 p.f1, .int .i64 p.f2, .int .i64 p.f3, .string p.f4] 77) = W2
            have HK : W2.heap[wr.heap.size]? = some (.cells #[.string p.f0, .int .i64 p.f1, .int .i64 p.f2, .int .i64 p.f3, .string p.f4] 77 (0, 0)) := by rw [← hW]; exact blk_new wr _
            have n_ := Aside0.mk (show Below w.heap.size w W2 by rw [← hW]; exact below_alloc HB.out _)
            clear HB hW h0 h1 h2 h3 h4
            have HB := n_
            clear n_
            generalize wr.heap.size = gb at HK ⊢
            have hF4 : p.f4.size ≤ 1000000000 := Nat.le_trans (predL_str p ho1) hPL.out
            have HF := Aside0.mk (show S.size ≤ 1000000000 ∧ p.f0.size ≤ 1000000000 ∧ p.f4.size ≤ 1000000000 from ⟨hST, hF0, hF4⟩)
            have q4 := (blk_cell HK 4).trans (show _ = some (Value.string p.f4) from rfl)
            generalize hS2 : S ++ p.f0 ++ ⟨#[32, 94, 61, 32, 34]⟩ = S2
            have hSz2 : S2.size ≤ 2000000015 := (by rw [← hS2]; simp only [ByteArray.size_append]; have := HF.out; have e5 : (⟨#[32, 97, 110, 100, 32]⟩ : ByteArray).size = 5 := rfl; have e4 : (⟨#[32, 94, 61, 32, 34]⟩ : ByteArray).size ≤ 5 := (by decide); omega)
            have HE3 : Aside0 (S2.data.toList = printN F i ++ (if i = 0 then [] else [32, 97, 110, 100, 32]) ++ p.f0.data.toList ++ (⟨#[32, 94, 61, 32, 34]⟩ : ByteArray).data.toList) := ⟨by rw [← hS2]; simp only [ByteArray.data_append, Array.toList_append, HE.out]; first | (rw [if_pos HI0.out, List.append_nil]) | (rw [if_neg HI0.out])⟩
            have HKB := Aside0.mk HK
            clear hS2 q4 HK
            obtain ⟨gko, rfl⟩ : ∃ g, g = gk := ⟨gk, rfl⟩
            go_loopg [3, 6] (p.f4.size + 1) (fun k v3 v6 W => ∃ (j : Nat) (T : ByteArray), Aside0 (j ≤ p.f4.size ∧ k + j = p.f4.size + 1 ∧ T.data.toList = S2.data.toList ++ quoteL (p.f4.data.toList.take j)) ∧ v3 = .string T ∧ v6 = .int .i64 (j : Int) ∧ W = W2)
            case atStart => exact ⟨0, S2, ⟨by omega, by omega, by simp [quoteL]⟩, rfl, rfl, rfl⟩
            case round =>
              obtain ⟨j, T, HJ, rfl, rfl, rfl⟩ := hrel
              have q4 := (blk_cell HKB.out 4).trans (show _ = some (Value.string p.f4) from rfl)
              have hT : T.size ≤ 5000000000 := by
                have e1 : T.size = T.data.toList.length := by rw [Array.length_toList]; rfl
                have e2 : S2.size = S2.data.toList.length := by rw [Array.length_toList]; rfl
                have e3 := quoteL_len (p.f4.data.toList.take j)
                have e4 : (p.f4.data.toList.take j).length ≤ p.f4.size := by rw [List.length_take, Array.length_toList]; exact Nat.min_le_right _ _
                rw [e1, HJ.out.2.2, List.length_append]
                omega
              have y1 : (9223372036854775807 < T.size + 1) = False := eq_false (by omega)
              have y2 : (9223372036854775807 < T.size + 1 + 1) = False := eq_false (by omega)
              by_cases hj : j < p.f4.size
              · have b4 : decide ((j : Int) < (p.f4.size : Int)) = true := decide_eq_true (by omega)
                have b5 : decide (j < p.f4.size) = true := decide_eq_true hj
                have s1 : (0 : Int) ≤ (j : Int) := by omega
                have s2 : (j : Int) < (p.f4.size : Int) := by omega
                have s3 : (j : Int) + 1 ≤ (p.f4.size : Int) := by omega
                have s4 : (j : Int) ≤ (j : Int) + 1 := by omega
                have wi : wrap64 ((j : Int) + 1) = (j : Int) + 1 := wrap_in (by omega) (by omega)
                have htk : quoteL (p.f4.data.toList.take (j + 1)) = quoteL (p.f4.data.toList.take j) ++ (if p.f4[j]'hj = 34 ∨ p.f4[j]'hj = 92 then [92, p.f4[j]'hj] else [p.f4[j]'hj]) := by
                  rw [List.take_succ_eq_append_getElem (by simpa using hj), quoteL_snoc]
                  rfl
                have hex : p.f4.extract j (j + 1) = ⟨#[p.f4[j]'hj]⟩ := extract_one p.f4 j hj
                obtain ⟨c, hc⟩ : ∃ c, p.f4[j]'hj = c := ⟨_, rfl⟩
                rw [hc] at htk hex
                have hx : ∀ h : j < p.f4.size, p.f4[j]'h = c := fun _ => hc
                have HT := Aside0.mk htk
                clear htk hc
                have e1 : ((c.toNat : Int) == (34 : Int)) = decide (c = 34) := c_eq (n := 34) (by decide)
                have e2 : ((c.toNat : Int) == (92 : Int)) = decide (c = 92) := c_eq (n := 92) (by decide)
                by_cases h34 : c = 34
                · subst h34
                  rw [decide_eq_true rfl] at e1
                  go_wp2_with fail
                  go_roundg (gk - 1)
                  case measure => have := HJ.out; omega
                  case rel => exact ⟨j + 1, _, ⟨by omega, by have := HJ.out; omega, by rw [HT.out]; simp only [ByteArray.data_append, Array.toList_append, HJ.out.2.2]; simp⟩, rfl, rfl, rfl⟩
                · by_cases h92 : c = 92
                  · subst h92
                    rw [decide_eq_false h34] at e1
                    rw [decide_eq_true rfl] at e2
                    go_wp2_with fail
                    go_roundg (gk - 1)
                    case measure => have := HJ.out; omega
                    case rel => exact ⟨j + 1, _, ⟨by omega, by have := HJ.out; omega, by rw [HT.out]; simp only [ByteArray.data_append, Array.toList_append, HJ.out.2.2]; simp⟩, rfl, rfl, rfl⟩
                  · rw [decide_eq_false h34] at e1
                    rw [decide_eq_false h92] at e2
                    go_wp2_with fail
                    go_roundg (gk - 1)
                    case measure => have := HJ.out; omega
                    case rel => exact ⟨j + 1, _, ⟨by omega, by have := HJ.out; omega, by rw [HT.out]; simp only [ByteArray.data_append, Array.toList_append, HJ.out.2.2]; simp [h34, h92]⟩, rfl, rfl, rfl⟩
              · have b4 : decide ((j : Int) < (p.f4.size : Int)) = false := decide_eq_false (by omega)
                have b5 : decide (j < p.f4.size) = false := decide_eq_false (by omega)
                go_wp2
                go_roundg (gko - 1)
                case measure => have := HN.out; omega
                case rel => exact ⟨i + 1, _, ⟨by have := HN.out; omega, by have := HN.out; omega⟩, ⟨by rw [HN2.out, ByteArray.data_append, Array.toList_append, HJ.out.2.2, show j = p.f4.size by have := HJ.out; omega, List.take_of_length_le (by rw [Array.length_toList]; exact Nat.le_refl _), HE3.out]; simp [pstep, predL, quotedL, ho1, ho2]⟩, rfl, rfl, HB⟩
      · have c1 : decide (0 < i) = true := decide_eq_true (by omega)
        have c2 : decide ((0 : Int) < (i : Int)) = true := decide_eq_true (by omega)
        have HI0 := Aside0.mk hi0
        clear hi0
        by_cases ho1 : p.f1 = 1
        · have d1 : (p.f1 == 1) = true := by simp [ho1]
          go_wp2_with fail
          generalize hW : wr.alloc (Obj.cells #[.string p.f0, .int .i64 1, .int .i64 p.f2, .int .i64 p.f3, .string p.f4] 77) = W2
          have HK : W2.heap[wr.heap.size]? = some (.cells #[.string p.f0, .int .i64 1, .int .i64 p.f2, .int .i64 p.f3, .string p.f4] 77 (0, 0)) := by rw [← hW]; exact blk_new wr _
          have n_ := Aside0.mk (show Below w.heap.size w W2 by rw [← hW]; exact below_alloc HB.out _)
          clear HB hW h0 h1 h2 h3 h4
          have HB := n_
          clear n_
          generalize wr.heap.size = gb at HK ⊢
          have q0 : ∀ q : BelowP W2, q.w.cell? ⟨gb, 0, none⟩ = some (.string p.f0) := fun q => q.cell ((blk_cell HK 0).trans rfl)
          have q2 : ∀ q : BelowP W2, q.w.cell? ⟨gb, 2, none⟩ = some (.int .i64 p.f2) := fun q => q.cell ((blk_cell HK 2).trans rfl)
          have q3 : ∀ q : BelowP W2, q.w.cell? ⟨gb, 3, none⟩ = some (.int .i64 p.f3) := fun q => q.cell ((blk_cell HK 3).trans rfl)
          clear HK
          obtain ⟨bLo, hLo, sLo, cLo⟩ : ∃ b : ByteArray, b.data.toList = Lib.itoa p.f2 ∧ b.size ≤ 21 ∧ ∀ q : BelowP W2, Calls Tryd.prog 49 #[.int .i64 p.f2] q.w fun e w' => e = .returned (.string b) ∧ Below q.w.heap.size q.w w' := ⟨⟨(Lib.itoa p.f2).toArray⟩, rfl, (by show (Lib.itoa p.f2).toArray.size ≤ 21; rw [List.size_toArray]; exact Lib.itoa_length_le p.f2 hRR.out.1 hRR.out.2.1), fun q => digits_calls _ hRR.out.1 hRR.out.2.1 _⟩
          obtain ⟨bHi, hHi, sHi, cHi⟩ : ∃ b : ByteArray, b.data.toList = Lib.itoa p.f3 ∧ b.size ≤ 21 ∧ ∀ q : BelowP W2, Calls Tryd.prog 49 #[.int .i64 p.f3] q.w fun e w' => e = .returned (.string b) ∧ Below q.w.heap.size q.w w' := ⟨⟨(Lib.itoa p.f3).toArray⟩, rfl, (by show (Lib.itoa p.f3).toArray.size ≤ 21; rw [List.size_toArray]; exact Lib.itoa_length_le p.f3 hRR.out.2.2.1 hRR.out.2.2.2), fun q => digits_calls _ hRR.out.2.2.1 hRR.out.2.2.2 _⟩
          have HLo := Aside0.mk hLo
          have HHi := Aside0.mk hHi
          have HCL := Aside0.mk cLo
          have HCH := Aside0.mk cHi
          clear hLo hHi cLo cHi
          generalize hS2 : S ++ ⟨#[32, 97, 110, 100, 32]⟩ = S2
          have hSz2 : S2.size ≤ 1000000005 := (by rw [← hS2]; first | (rw [ByteArray.size_append]; exact Nat.add_le_add_right hST 5) | (exact Nat.le_trans hST (by decide)))
          have HE3 : Aside0 (S2.data.toList = printN F i ++ (if i = 0 then [] else [32, 97, 110, 100, 32])) := ⟨by rw [← hS2]; first | (rw [if_pos HI0.out, List.append_nil]; exact HE.out) | (rw [if_neg HI0.out, ByteArray.data_append, Array.toList_append, HE.out])⟩
          clear hS2
          have z1 : (9223372036854775807 < p.f0.size + 4) = False := eq_false (by omega)
          have z2 : (9223372036854775807 < p.f0.size + 4 + bLo.size) = False := eq_false (by omega)
          have z3 : (9223372036854775807 < p.f0.size + 4 + bLo.size + 2) = False := eq_false (by omega)
          have z4 : (9223372036854775807 < p.f0.size + 4 + bLo.size + 2 + bHi.size) = False := eq_false (by omega)
          have z5 : (9223372036854775807 < S2.size + (p.f0.size + 4 + bLo.size + 2 + bHi.size)) = False := eq_false (by omega)
          clear hF0 hSz2 sLo sHi
          refine wp_region_quiet_below (by kernel_rfl) (by kernel_rfl) ?_
          repeat (quiet_step ((go_at_call 49; first | (with_reducible refine Calls.below_of (HCL.out _)) | (with_reducible refine Calls.below_of (HCH.out _)))))
          refine wpQuiet_nil ?_
          rintro _ ⟨pq, rfl⟩
          go_wp2
          go_roundg (gk - 1)
          case measure => have := HN.out; omega
          case rel => exact ⟨i + 1, _, ⟨by have := HN.out; omega, by have := HN.out; omega⟩, ⟨by rw [ByteArray.data_append, Array.toList_append, HE3.out, HN2.out]; simp [pstep, predL, ho1, HLo.out, HHi.out, ByteArray.data_append]⟩, rfl, rfl, ⟨below_then HB.out HB.out.size pq.h⟩⟩
        · have d1 : (p.f1 == 1) = false := by simp [ho1]
          by_cases ho2 : p.f1 = 2
          · have d2 : (p.f1 == 2) = true := by simp [ho2]
            go_wp2_with fail
            generalize hW : wr.alloc (Obj.cells #[.string p.f0, .int .i64 2, .int .i64 p.f2, .int .i64 p.f3, .string p.f4] 77) = W2
            have HK : W2.heap[wr.heap.size]? = some (.cells #[.string p.f0, .int .i64 2, .int .i64 p.f2, .int .i64 p.f3, .string p.f4] 77 (0, 0)) := by rw [← hW]; exact blk_new wr _
            have n_ := Aside0.mk (show Below w.heap.size w W2 by rw [← hW]; exact below_alloc HB.out _)
            clear HB hW h0 h1 h2 h3 h4
            have HB := n_
            clear n_
            generalize wr.heap.size = gb at HK ⊢
            have hF4 : p.f4.size ≤ 1000000000 := Nat.le_trans (predL_str p ho1) hPL.out
            have HF := Aside0.mk (show S.size ≤ 1000000000 ∧ p.f0.size ≤ 1000000000 ∧ p.f4.size ≤ 1000000000 from ⟨hST, hF0, hF4⟩)
            have q4 := (blk_cell HK 4).trans (show _ = some (Value.string p.f4) from rfl)
            generalize hS2 : S ++ ⟨#[32, 97, 110, 100, 32]⟩ ++ p.f0 ++ ⟨#[32, 61, 32, 34]⟩ = S2
            have hSz2 : S2.size ≤ 2000000015 := (by rw [← hS2]; simp only [ByteArray.size_append]; have := HF.out; have e5 : (⟨#[32, 97, 110, 100, 32]⟩ : ByteArray).size = 5 := rfl; have e4 : (⟨#[32, 61, 32, 34]⟩ : ByteArray).size ≤ 5 := (by decide); omega)
            have HE3 : Aside0 (S2.data.toList = printN F i ++ (if i = 0 then [] else [32, 97, 110, 100, 32]) ++ p.f0.data.toList ++ (⟨#[32, 61, 32, 34]⟩ : ByteArray).data.toList) := ⟨by rw [← hS2]; simp only [ByteArray.data_append, Array.toList_append, HE.out]; first | (rw [if_pos HI0.out, List.append_nil]) | (rw [if_neg HI0.out])⟩
            have HKB := Aside0.mk HK
            clear hS2 q4 HK
            obtain ⟨gko, rfl⟩ : ∃ g, g = gk := ⟨gk, rfl⟩
            go_loopg [3, 6] (p.f4.size + 1) (fun k v3 v6 W => ∃ (j : Nat) (T : ByteArray), Aside0 (j ≤ p.f4.size ∧ k + j = p.f4.size + 1 ∧ T.data.toList = S2.data.toList ++ quoteL (p.f4.data.toList.take j)) ∧ v3 = .string T ∧ v6 = .int .i64 (j : Int) ∧ W = W2)
            case atStart => exact ⟨0, S2, ⟨by omega, by omega, by simp [quoteL]⟩, rfl, rfl, rfl⟩
            case round =>
              obtain ⟨j, T, HJ, rfl, rfl, rfl⟩ := hrel
              have q4 := (blk_cell HKB.out 4).trans (show _ = some (Value.string p.f4) from rfl)
              have hT : T.size ≤ 5000000000 := by
                have e1 : T.size = T.data.toList.length := by rw [Array.length_toList]; rfl
                have e2 : S2.size = S2.data.toList.length := by rw [Array.length_toList]; rfl
                have e3 := quoteL_len (p.f4.data.toList.take j)
                have e4 : (p.f4.data.toList.take j).length ≤ p.f4.size := by rw [List.length_take, Array.length_toList]; exact Nat.min_le_right _ _
                rw [e1, HJ.out.2.2, List.length_append]
                omega
              have y1 : (9223372036854775807 < T.size + 1) = False := eq_false (by omega)
              have y2 : (9223372036854775807 < T.size + 1 + 1) = False := eq_false (by omega)
              by_cases hj : j < p.f4.size
              · have b4 : decide ((j : Int) < (p.f4.size : Int)) = true := decide_eq_true (by omega)
                have b5 : decide (j < p.f4.size) = true := decide_eq_true hj
                have s1 : (0 : Int) ≤ (j : Int) := by omega
                have s2 : (j : Int) < (p.f4.size : Int) := by omega
                have s3 : (j : Int) + 1 ≤ (p.f4.size : Int) := by omega
                have s4 : (j : Int) ≤ (j : Int) + 1 := by omega
                have wi : wrap64 ((j : Int) + 1) = (j : Int) + 1 := wrap_in (by omega) (by omega)
                have htk : quoteL (p.f4.data.toList.take (j + 1)) = quoteL (p.f4.data.toList.take j) ++ (if p.f4[j]'hj = 34 ∨ p.f4[j]'hj = 92 then [92, p.f4[j]'hj] else [p.f4[j]'hj]) := by
                  rw [List.take_succ_eq_append_getElem (by simpa using hj), quoteL_snoc]
                  rfl
                have hex : p.f4.extract j (j + 1) = ⟨#[p.f4[j]'hj]⟩ := extract_one p.f4 j hj
                obtain ⟨c, hc⟩ : ∃ c, p.f4[j]'hj = c := ⟨_, rfl⟩
                rw [hc] at htk hex
                have hx : ∀ h : j < p.f4.size, p.f4[j]'h = c := fun _ => hc
                have HT := Aside0.mk htk
                clear htk hc
                have e1 : ((c.toNat : Int) == (34 : Int)) = decide (c = 34) := c_eq (n := 34) (by decide)
                have e2 : ((c.toNat : Int) == (92 : Int)) = decide (c = 92) := c_eq (n := 92) (by decide)
                by_cases h34 : c = 34
                · subst h34
                  rw [decide_eq_true rfl] at e1
                  go_wp2_with fail
                  go_roundg (gk - 1)
                  case measure => have := HJ.out; omega
                  case rel => exact ⟨j + 1, _, ⟨by omega, by have := HJ.out; omega, by rw [HT.out]; simp only [ByteArray.data_append, Array.toList_append, HJ.out.2.2]; simp⟩, rfl, rfl, rfl⟩
                · by_cases h92 : c = 92
                  · subst h92
                    rw [decide_eq_false h34] at e1
                    rw [decide_eq_true rfl] at e2
                    go_wp2_with fail
                    go_roundg (gk - 1)
                    case measure => have := HJ.out; omega
                    case rel => exact ⟨j + 1, _, ⟨by omega, by have := HJ.out; omega, by rw [HT.out]; simp only [ByteArray.data_append, Array.toList_append, HJ.out.2.2]; simp⟩, rfl, rfl, rfl⟩
                  · rw [decide_eq_false h34] at e1
                    rw [decide_eq_false h92] at e2
                    go_wp2_with fail
                    go_roundg (gk - 1)
                    case measure => have := HJ.out; omega
                    case rel => exact ⟨j + 1, _, ⟨by omega, by have := HJ.out; omega, by rw [HT.out]; simp only [ByteArray.data_append, Array.toList_append, HJ.out.2.2]; simp [h34, h92]⟩, rfl, rfl, rfl⟩
              · have b4 : decide ((j : Int) < (p.f4.size : Int)) = false := decide_eq_false (by omega)
                have b5 : decide (j < p.f4.size) = false := decide_eq_false (by omega)
                go_wp2
                go_roundg (gko - 1)
                case measure => have := HN.out; omega
                case rel => exact ⟨i + 1, _, ⟨by have := HN.out; omega, by have := HN.out; omega⟩, ⟨by rw [HN2.out, ByteArray.data_append, Array.toList_append, HJ.out.2.2, show j = p.f4.size by have := HJ.out; omega, List.take_of_length_le (by rw [Array.length_toList]; exact Nat.le_refl _), HE3.out]; simp [pstep, predL, quotedL, ho1, ho2]⟩, rfl, rfl, HB⟩
          · have d2 : (p.f1 == 2) = false := by simp [ho2]
            go_wp2_with fail
            generalize hW : wr.alloc (Obj.cells #[.string p.f0, .int .i64 p.f1, .int .i64 p.f2, .int .i64 p.f3, .string p.f4] 77) = W2
            have HK : W2.heap[wr.heap.size]? = some (.cells #[.string p.f0, .int .i64 p.f1, .int .i64 p.f2, .int .i64 p.f3, .string p.f4] 77 (0, 0)) := by rw [← hW]; exact blk_new wr _
            have n_ := Aside0.mk (show Below w.heap.size w W2 by rw [← hW]; exact below_alloc HB.out _)
            clear HB hW h0 h1 h2 h3 h4
            have HB := n_
            clear n_
            generalize wr.heap.size = gb at HK ⊢
            have hF4 : p.f4.size ≤ 1000000000 := Nat.le_trans (predL_str p ho1) hPL.out
            have HF := Aside0.mk (show S.size ≤ 1000000000 ∧ p.f0.size ≤ 1000000000 ∧ p.f4.size ≤ 1000000000 from ⟨hST, hF0, hF4⟩)
            have q4 := (blk_cell HK 4).trans (show _ = some (Value.string p.f4) from rfl)
            generalize hS2 : S ++ ⟨#[32, 97, 110, 100, 32]⟩ ++ p.f0 ++ ⟨#[32, 94, 61, 32, 34]⟩ = S2
            have hSz2 : S2.size ≤ 2000000015 := (by rw [← hS2]; simp only [ByteArray.size_append]; have := HF.out; have e5 : (⟨#[32, 97, 110, 100, 32]⟩ : ByteArray).size = 5 := rfl; have e4 : (⟨#[32, 94, 61, 32, 34]⟩ : ByteArray).size ≤ 5 := (by decide); omega)
            have HE3 : Aside0 (S2.data.toList = printN F i ++ (if i = 0 then [] else [32, 97, 110, 100, 32]) ++ p.f0.data.toList ++ (⟨#[32, 94, 61, 32, 34]⟩ : ByteArray).data.toList) := ⟨by rw [← hS2]; simp only [ByteArray.data_append, Array.toList_append, HE.out]; first | (rw [if_pos HI0.out, List.append_nil]) | (rw [if_neg HI0.out])⟩
            have HKB := Aside0.mk HK
            clear hS2 q4 HK
            obtain ⟨gko, rfl⟩ : ∃ g, g = gk := ⟨gk, rfl⟩
            go_loopg [3, 6] (p.f4.size + 1) (fun k v3 v6 W => ∃ (j : Nat) (T : ByteArray), Aside0 (j ≤ p.f4.size ∧ k + j = p.f4.size + 1 ∧ T.data.toList = S2.data.toList ++ quoteL (p.f4.data.toList.take j)) ∧ v3 = .string T ∧ v6 = .int .i64 (j : Int) ∧ W = W2)
            case atStart => exact ⟨0, S2, ⟨by omega, by omega, by simp [quoteL]⟩, rfl, rfl, rfl⟩
            case round =>
              obtain ⟨j, T, HJ, rfl, rfl, rfl⟩ := hrel
              have q4 := (blk_cell HKB.out 4).trans (show _ = some (Value.string p.f4) from rfl)
              have hT : T.size ≤ 5000000000 := by
                have e1 : T.size = T.data.toList.length := by rw [Array.length_toList]; rfl
                have e2 : S2.size = S2.data.toList.length := by rw [Array.length_toList]; rfl
                have e3 := quoteL_len (p.f4.data.toList.take j)
                have e4 : (p.f4.data.toList.take j).length ≤ p.f4.size := by rw [List.length_take, Array.length_toList]; exact Nat.min_le_right _ _
                rw [e1, HJ.out.2.2, List.length_append]
                omega
              have y1 : (9223372036854775807 < T.size + 1) = False := eq_false (by omega)
              have y2 : (9223372036854775807 < T.size + 1 + 1) = False := eq_false (by omega)
              by_cases hj : j < p.f4.size
              · have b4 : decide ((j : Int) < (p.f4.size : Int)) = true := decide_eq_true (by omega)
                have b5 : decide (j < p.f4.size) = true := decide_eq_true hj
                have s1 : (0 : Int) ≤ (j : Int) := by omega
                have s2 : (j : Int) < (p.f4.size : Int) := by omega
                have s3 : (j : Int) + 1 ≤ (p.f4.size : Int) := by omega
                have s4 : (j : Int) ≤ (j : Int) + 1 := by omega
                have wi : wrap64 ((j : Int) + 1) = (j : Int) + 1 := wrap_in (by omega) (by omega)
                have htk : quoteL (p.f4.data.toList.take (j + 1)) = quoteL (p.f4.data.toList.take j) ++ (if p.f4[j]'hj = 34 ∨ p.f4[j]'hj = 92 then [92, p.f4[j]'hj] else [p.f4[j]'hj]) := by
                  rw [List.take_succ_eq_append_getElem (by simpa using hj), quoteL_snoc]
                  rfl
                have hex : p.f4.extract j (j + 1) = ⟨#[p.f4[j]'hj]⟩ := extract_one p.f4 j hj
                obtain ⟨c, hc⟩ : ∃ c, p.f4[j]'hj = c := ⟨_, rfl⟩
                rw [hc] at htk hex
                have hx : ∀ h : j < p.f4.size, p.f4[j]'h = c := fun _ => hc
                have HT := Aside0.mk htk
                clear htk hc
                have e1 : ((c.toNat : Int) == (34 : Int)) = decide (c = 34) := c_eq (n := 34) (by decide)
                have e2 : ((c.toNat : Int) == (92 : Int)) = decide (c = 92) := c_eq (n := 92) (by decide)
                by_cases h34 : c = 34
                · subst h34
                  rw [decide_eq_true rfl] at e1
                  go_wp2_with fail
                  go_roundg (gk - 1)
                  case measure => have := HJ.out; omega
                  case rel => exact ⟨j + 1, _, ⟨by omega, by have := HJ.out; omega, by rw [HT.out]; simp only [ByteArray.data_append, Array.toList_append, HJ.out.2.2]; simp⟩, rfl, rfl, rfl⟩
                · by_cases h92 : c = 92
                  · subst h92
                    rw [decide_eq_false h34] at e1
                    rw [decide_eq_true rfl] at e2
                    go_wp2_with fail
                    go_roundg (gk - 1)
                    case measure => have := HJ.out; omega
                    case rel => exact ⟨j + 1, _, ⟨by omega, by have := HJ.out; omega, by rw [HT.out]; simp only [ByteArray.data_append, Array.toList_append, HJ.out.2.2]; simp⟩, rfl, rfl, rfl⟩
                  · rw [decide_eq_false h34] at e1
                    rw [decide_eq_false h92] at e2
                    go_wp2_with fail
                    go_roundg (gk - 1)
                    case measure => have := HJ.out; omega
                    case rel => exact ⟨j + 1, _, ⟨by omega, by have := HJ.out; omega, by rw [HT.out]; simp only [ByteArray.data_append, Array.toList_append, HJ.out.2.2]; simp [h34, h92]⟩, rfl, rfl, rfl⟩
              · have b4 : decide ((j : Int) < (p.f4.size : Int)) = false := decide_eq_false (by omega)
                have b5 : decide (j < p.f4.size) = false := decide_eq_false (by omega)
                go_wp2
                go_roundg (gko - 1)
                case measure => have := HN.out; omega
                case rel => exact ⟨i + 1, _, ⟨by have := HN.out; omega, by have := HN.out; omega⟩, ⟨by rw [HN2.out, ByteArray.data_append, Array.toList_append, HJ.out.2.2, show j = p.f4.size by have := HJ.out; omega, List.take_of_length_le (by rw [Array.length_toList]; exact Nat.le_refl _), HE3.out]; simp [pstep, predL, quotedL, ho1, ho2]⟩, rfl, rfl, HB⟩
    · have b1 : decide ((i : Int) < (n : Int)) = false := decide_eq_false (by omega)
      have b2 : decide (i < n) = false := decide_eq_false (by omega)
      have hin : i = n := by have := HN.out; omega
      go_wp2
      go_ret
      refine ⟨?_, HB.out⟩
      have hS : S = ⟨(printN F n).toArray⟩ := by
        rw [← hin, ← HE.out]
      rw [← hS]
      rfl
end Go.Proofs.YthaapijjjgkacaaDoor.Mine
end
section
/-
  What a filter that is the schema's is like (plain law): at most four predicates, names of the schema, numbers between the schema's, texts of at most 40 printable bytes. No condition.
-/
namespace Go.Proofs.YthaapijjjgkacaaDoor.Mine
open Go.RowKit Go.Proofs.YthaapijjjgkacaaDoorW.PrintWords Go.Proofs.YthaapijjjgkacaaDoorW.PrintLast Go.Proofs.YthaapijjjgkacaaDoorW.PrintMore
open Go.Proofs.YthaapijjjgkacaaDoor.PFilterReads
theorem btl_loop (s : ByteArray) : ∀ (k i : Nat) (r : List UInt8), s.size - i = k → i ≤ s.size → ByteArray.toList.loop s i r = r.reverse ++ s.data.toList.drop i := by
  intro k
  induction k with
  | zero =>
    intro i r h hi
    rw [ByteArray.toList.loop.eq_1, if_neg (by omega)]
    have : s.data.toList.drop i = [] := List.drop_eq_nil_iff.2 (by rw [Array.length_toList]; show s.size ≤ i; omega)
    rw [this, List.append_nil]
  | succ k ih =>
    intro i r h hi
    rw [ByteArray.toList.loop.eq_1, if_pos (by omega), ih (i + 1) _ (by omega) (by omega)]
    have hlt : i < s.data.toList.length := by rw [Array.length_toList]; show i < s.size; omega
    rw [List.drop_eq_getElem_cons hlt, List.reverse_cons, List.append_assoc]
    congr 1
    show [s.get! i] ++ _ = _
    have : s.get! i = s.data.toList[i] := by
      have h2 : i < s.data.size := by rw [Array.length_toList] at hlt; exact hlt
      show s.data[i]! = _
      rw [getElem!_pos s.data i h2, Array.getElem_toList]
    rw [this]
    rfl
theorem btl (s : ByteArray) : s.toList = s.data.toList := by
  have := btl_loop s s.size 0 [] (by omega) (Nat.zero_le _)
  simpa [ByteArray.toList] using this
theorem bt_size (s : ByteArray) : s.toList.length = s.size := by rw [btl, Array.length_toList]; rfl
theorem badFrom_none {S : List S95} {F : List S46} : ∀ (k i : Nat), badFrom S F k i = none → ∀ j, i ≤ j → j < i + k → okAt S F j = true
  | 0, i, _, j, h1, h2 => by omega
  | k + 1, i, h, j, h1, h2 => by
    unfold badFrom at h
    split at h
    · by_cases hj : j = i
      · rw [hj]; assumption
      · exact badFrom_none k (i + 1) h j (by omega) (by omega)
    · cases h
theorem idxFrom_at {α : Type} (p : α → Bool) (z : α) : ∀ (l : List α) (i : Nat), 0 ≤ idxFrom p l i → ∃ k, idxFrom p l i = ((i + k : Nat) : Int) ∧ k < l.length ∧ p (l.getD k z) = true
  | [], i, h => by simp only [idxFrom] at h; omega
  | x :: r, i, h => by
    unfold idxFrom at h ⊢
    split
    · exact ⟨0, rfl, by simp, by simpa using ‹_›⟩
    · rename_i hx
      rw [if_neg hx] at h
      obtain ⟨k, e, hk, hp⟩ := idxFrom_at p z r (i + 1) h
      exact ⟨k + 1, by rw [e]; congr 1; omega, by simpa using hk, by simpa using hp⟩
theorem findB_at {nm : ByteArray} {S : List S95} (h : 0 ≤ findB nm S) : S.getD (findB nm S).toNat z95 ∈ S ∧ (S.getD (findB nm S).toNat z95).f0.toList = nm.toList := by
  obtain ⟨k, e, hk, hp⟩ := idxFrom_at (fun x : S95 => x.f0.toList == nm.toList) z95 S 0 h
  have e2 : (findB nm S).toNat = k := by
    show (idxFrom _ S 0).toNat = k
    rw [e]
    omega
  rw [e2]
  refine ⟨?_, by simpa using hp⟩
  rw [List.getD_eq_getElem?_getD, List.getElem?_eq_getElem hk]
  exact List.getElem_mem hk
theorem filterBad_none {S : List S95} {F : List S46} (h : filterBad S F = none) : 1 ≤ F.length ∧ F.length ≤ 4 ∧ ∀ p ∈ F, ∃ a ∈ S, a.f0.toList = p.f0.toList ∧ predOk a p = true := by
  unfold filterBad at h
  split at h
  · cases h
  · rename_i hl
    refine ⟨by omega, by omega, fun p hp => ?_⟩
    obtain ⟨i, hi, rfl⟩ := List.getElem_of_mem hp
    have := badFrom_none F.length 0 h i (Nat.zero_le _) (by omega)
    have e : F.getD i z46 = F[i] := by rw [List.getD_eq_getElem?_getD, List.getElem?_eq_getElem hi]; rfl
    unfold okAt at this
    rw [e] at this
    simp only [Bool.and_eq_true, decide_eq_true_eq] at this
    obtain ⟨⟨h0, _⟩, h2⟩ := this
    obtain ⟨m1, m2⟩ := findB_at h0
    exact ⟨_, m1, m2, h2⟩
/-- A predicate's parts. -/
theorem predOk_parts {a : S95} {p : S46} (h : predOk a p = true) : (p.f1 = 1 ∧ a.f1 = 1 ∧ a.f2 ≤ p.f2 ∧ p.f3 ≤ a.f3 ∧ p.f2 ≤ p.f3 ∧ p.f4.data.toList = []) ∨ ((p.f1 = 2 ∨ p.f1 = 3) ∧ p.f2 = 0 ∧ p.f3 = 0 ∧ p.f4.size ≤ 40 ∧ p.f4.data.toList.all isChar = true) := by
  unfold predOk at h
  split at h
  · rename_i h1
    simp only [Bool.and_eq_true, decide_eq_true_eq, beq_iff_eq] at h
    exact Or.inl ⟨h1, h.1.1.1.1, h.1.1.1.2, h.1.1.2, h.1.2, by rw [← btl]; exact h.2⟩
  · split at h
    · rename_i h1
      simp only [Bool.and_eq_true, decide_eq_true_eq, beq_iff_eq, strOk] at h
      exact Or.inr ⟨by rcases h1 with h1 | h1; exact Or.inl h1; exact Or.inr h1.1, h.1.1.2, h.1.2, h.2.1, h.2.2⟩
    · cases h
theorem okF_nums {S : List S95} {F : List S46} (h : filterBad S F = none) (l u : Int) (hl : l ≤ 0) (hu : 0 ≤ u) (hS : ∀ a ∈ S, l ≤ a.f2 ∧ a.f3 ≤ u) : ∀ p ∈ F, l ≤ p.f2 ∧ p.f2 ≤ u ∧ l ≤ p.f3 ∧ p.f3 ≤ u := by
  intro p hp
  obtain ⟨a, ha, _, ho⟩ := (filterBad_none h).2.2 p hp
  have := hS a ha
  rcases predOk_parts ho with ⟨_, _, h1, h2, h3, _⟩ | ⟨_, h1, h2, _⟩
  · exact ⟨by omega, by omega, by omega, by omega⟩
  · exact ⟨by omega, by omega, by omega, by omega⟩
theorem okF_strs {S : List S95} {F : List S46} (h : filterBad S F = none) (m : Nat) (hS : ∀ a ∈ S, a.f0.size ≤ m) : ∀ p ∈ F, p.f0.size ≤ m ∧ p.f4.size ≤ 40 := by
  intro p hp
  obtain ⟨a, ha, hn, ho⟩ := (filterBad_none h).2.2 p hp
  have h1 := hS a ha
  have h2 : p.f0.size = a.f0.size := by rw [← bt_size, ← bt_size, hn]
  refine ⟨by omega, ?_⟩
  rcases predOk_parts ho with ⟨_, _, _, _, _, h3⟩ | ⟨_, _, _, h3, _⟩
  · have : p.f4.size = p.f4.data.toList.length := by rw [Array.length_toList]; rfl
    rw [this, h3]
    exact Nat.zero_le _
  · exact h3
theorem predL_len (p : S46) (hn : -9223372036854775808 ≤ p.f2 ∧ p.f2 ≤ 9223372036854775807 ∧ -9223372036854775808 ≤ p.f3 ∧ p.f3 ≤ 9223372036854775807) : (predL p).length ≤ p.f0.size + 2 * p.f4.size + 60 := by
  have e : p.f0.size = p.f0.data.toList.length := by rw [Array.length_toList]; rfl
  have e4 : p.f4.size = p.f4.data.toList.length := by rw [Array.length_toList]; rfl
  have h1 := Lib.itoa_length_le p.f2 hn.1 hn.2.1
  have h2 := Lib.itoa_length_le p.f3 hn.2.2.1 hn.2.2.2
  have h3 := quoteL_len p.f4.data.toList
  unfold predL quotedL
  split
  · simp only [List.length_append, List.length_cons, List.length_nil]; omega
  · split
    · simp only [List.length_append, List.length_cons, List.length_nil]; omega
    · simp only [List.length_append, List.length_cons, List.length_nil]; omega
theorem printN_len (F : List S46) (m : Nat) (h : ∀ p ∈ F, (predL p).length ≤ m) : ∀ i, i ≤ F.length → (printN F i).length ≤ i * (m + 5)
  | 0, _ => by simp [printN]
  | i + 1, hi => by
    have h1 := printN_len F m h i (by omega)
    have h2 := h (F.getD i z46) (by rw [List.getD_eq_getElem?_getD, List.getElem?_eq_getElem (by omega)]; exact List.getElem_mem _)
    show (printN F i ++ pstep i (F.getD i z46)).length ≤ _
    unfold pstep
    rw [List.length_append, List.length_append, Nat.succ_mul]
    have : (if i = 0 then [] else ([32, 97, 110, 100, 32] : List UInt8)).length ≤ 5 := by split <;> simp
    omega
end Go.Proofs.YthaapijjjgkacaaDoor.Mine
end
section
/-
  A parsed filter's texts are no longer than what was parsed (plain law). No condition.
-/
namespace Go.Proofs.YthaapijjjgkacaaDoor.Mine
open Go.RowKit Go.Proofs.YthaapijjjgkacaaDoorW.PrintWords Go.Proofs.YthaapijjjgkacaaDoorW.PrintLast Go.Proofs.YthaapijjjgkacaaDoorW.PrintMore
open Go.Proofs.YthaapijjjgkacaaDoor.PFilterReads
theorem textL_len (l acc t : List UInt8) (h : (textL l acc).1 = some t) : t.length ≤ acc.length + l.length := by
  induction hn : l.length using Nat.strongRecOn generalizing l acc with
  | _ n ih =>
    match l with
    | [] => rw [textL_nil] at h; cases h
    | c :: r =>
      by_cases h1 : c = 34
      · rw [textL_q _ _ h1] at h; injection h with h; subst h; omega
      · by_cases h2 : c = 92
        · match r with
          | [] => rw [textL_b0 _ h2] at h; cases h
          | d :: r' =>
            by_cases h3 : d = 34 ∨ d = 92
            · rw [textL_b1 _ _ h2 h3] at h
              have := ih r'.length (by simp at hn; omega) r' _ h rfl
              simp at this hn
              omega
            · rw [textL_b2 _ _ h2 h3] at h; cases h
        · by_cases h3 : 32 ≤ c ∧ c ≤ 126
          · rw [textL_p _ _ h1 h2 h3] at h
            have := ih r.length (by simp at hn; omega) r _ h rfl
            simp at this hn
            omega
          · rw [textL_n _ _ h1 h2 h3] at h; cases h
theorem markS_le (m : List UInt8) (st : St) : (markS m st).l.length ≤ st.l.length := by
  unfold markS
  split
  · exact Nat.le_refl _
  · have := (skip_suf st.l).length_le
    unfold markL
    split
    · simp only [List.length_drop]; omega
    · exact this
theorem textS_len (st : St) : (textS st).1.length ≤ st.l.length := by
  have h1 := markS_le [34] st
  unfold textS
  split
  · exact Nat.zero_le _
  · cases ht : textL (markS [34] st).l [] with
    | mk a r =>
      cases a with
      | none => exact Nat.zero_le _
      | some t =>
        have := textL_len _ _ t (by rw [ht])
        simp only [textR]
        simp at this
        omega
theorem predS_len (l : List UInt8) : (predS ⟨l, none⟩).1.str.length ≤ l.length := by
  have h1 : (wordS ⟨l, none⟩).2.l.length ≤ l.length := (wordS_ok (w := l) (st := ⟨l, none⟩) ⟨List.suffix_refl _, fun n hn => by cases hn⟩).1.length_le
  have h2 := blanksS_le (wordS ⟨l, none⟩).2
  unfold predS
  simp only
  split
  · have := textS_len (markS [61] (blanksS (wordS ⟨l, none⟩).2))
    have := markS_le [61] (blanksS (wordS ⟨l, none⟩).2)
    simp only
    omega
  · split
    · have := textS_len (markS [94, 61] (blanksS (wordS ⟨l, none⟩).2))
      have := markS_le [94, 61] (blanksS (wordS ⟨l, none⟩).2)
      simp only
      omega
    · exact Nat.zero_le _
theorem PS_sizes : ∀ (n : Nat) (l : List UInt8) (acc xs : List Pr), l.length ≤ n → PS l acc = .inl xs → ∀ x ∈ xs, x ∈ acc ∨ x.str.length ≤ l.length
  | n, l, acc, xs, hn, h => by
    have h0 := predS_len l
    rw [PS_eq] at h
    cases hb : (blanksS (predS ⟨l, none⟩).2).bad with
    | some m => rw [hb] at h; cases h
    | none =>
      rw [hb] at h
      simp only at h
      by_cases hs : (blanksS (predS ⟨l, none⟩).2).l = []
      · rw [if_pos hs] at h
        cases h
        intro x hx
        rcases List.mem_append.1 hx with hx | hx
        · exact Or.inl hx
        · rw [List.mem_singleton.1 hx]
          exact Or.inr h0
      · rw [if_neg hs] at h
        unfold PN at h
        cases ha : (andS (blanksS (predS ⟨l, none⟩).2)).bad with
        | some m => rw [ha] at h; cases h
        | none =>
          rw [ha] at h
          have h1 := andS_lt hb ha
          have h2 := blanksS_le (predS ⟨l, none⟩).2
          have h3 : (predS ⟨l, none⟩).2.l.length ≤ l.length := predS_le (st := ⟨l, none⟩) rfl
          match n with
          | 0 => omega
          | n + 1 =>
            have h4 := PS_sizes n _ _ _ (by omega) h
            intro x hx
            rcases h4 x hx with h5 | h5
            · rcases List.mem_append.1 h5 with h6 | h6
              · exact Or.inl h6
              · rw [List.mem_singleton.1 h6]
                exact Or.inr h0
            · exact Or.inr (by omega)
theorem parse_sizes {s : ByteArray} {xs : List Pr} (h : parseR s = .inl xs) : ∀ x ∈ xs, x.str.length ≤ 300 := by
  obtain ⟨h1, h2⟩ := parseR_ok h
  intro x hx
  rcases PS_sizes _ _ _ _ (Nat.le_refl _) h2 x hx with h3 | h3
  · cases h3
  · rw [bytes_len] at h3
    omega
theorem parse_sizesP {s : ByteArray} {xs : List Pr} (h : parseR s = .inl xs) : ∀ p ∈ xs.map toP, p.f4.size ≤ 1000000000 := by
  intro p hp
  obtain ⟨x, hx, rfl⟩ := List.mem_map.1 hp
  have := parse_sizes h x hx
  have e : (toP x).f4.size = x.str.length := by
    show (x.str.toArray).size = _
    rw [List.size_toArray]
  omega
end Go.Proofs.YthaapijjjgkacaaDoor.Mine
end
section
/-
  wigwaglaw06.FilterReads, walked: true at every input. Conditions: errors.errorType holds what its initialiser lays; the library's table of tens lies as it should; the schema's numbers are int64.
-/
namespace Go.Proofs.YthaapijjjgkacaaDoor.Mine
open Go.RowKit Go.Proofs.YthaapijjjgkacaaDoorW.PrintWords Go.Proofs.YthaapijjjgkacaaDoorW.PrintLast Go.Proofs.YthaapijjjgkacaaDoorW.PrintMore
open Go.Proofs.YthaapijjjgkacaaDoor.PFilterReads
set_option maxRecDepth 100000 in
theorem rbytes_calls (A : Option Addr) (n c : Nat) (F : List S46) (w : World) (hn : F.length = n) (hr : Kd.C k77 w A n (F.map toQ)) (hb : ∀ p ∈ F, -9223372036854775808 ≤ p.f2 ∧ p.f2 ≤ 9223372036854775807 ∧ -9223372036854775808 ≤ p.f3 ∧ p.f3 ≤ 9223372036854775807)
    (hs : (printN F n).length < 1000000000) (hn2 : n ≤ 1000000) :
    Calls Tryd.prog 29 #[.slice A n c] w fun e w' => e = .returned (.string ⟨(num7 (printN F n).length ++ printN F n).toArray⟩) ∧ Below w.heap.size w w' := by
  have HC := Aside0.mk (rprint_calls A n c F w hn hr hb (Nat.le_of_lt hs) hn2)
  clear hr hb hn
  generalize printN F n = T at HC hs ⊢
  have hsz : (⟨T.toArray⟩ : ByteArray).size = T.length := by show T.toArray.size = _; rw [List.size_toArray]
  have hT := fun W => rtext_calls ⟨T.toArray⟩ W (by rw [hsz]; exact hs)
  have hres : (⟨(num7 (⟨T.toArray⟩ : ByteArray).size).toArray⟩ ++ ⟨T.toArray⟩ : ByteArray) = ⟨(num7 T.length ++ T).toArray⟩ := by
    rw [hsz]
    exact ba_ext (by rw [ByteArray.data_append, Array.toList_append])
  rw [hres] at hT
  have HT := Aside0.mk hT
  clear hT hres hsz
  generalize (⟨T.toArray⟩ : ByteArray) = B at HC HT ⊢
  go_enter Tryd.func29, Tryd.ntmps29
  go_wp2_with fail
  refine HC.out.mono ?_
  rintro e w1 ⟨rfl, hb⟩
  have HB := Aside0.mk hb
  clear hb
  go_wp2_with fail
  refine (HT.out _).mono ?_
  rintro e w2 ⟨rfl, hb⟩
  have n_ := Aside0.mk (below_then HB.out HB.out.size hb)
  clear HB hb
  have HB := n_
  clear n_
  go_wp2
  go_ret
  exact ⟨rfl, HB.out⟩
theorem cutA_ok (S0 : List S95) : ∀ a ∈ attrsOf S0, a.f0.size ≤ 20 := by
  intro a ha
  obtain ⟨x, hx, rfl⟩ := List.mem_map.1 ha
  exact cutB_le x.f0 20
theorem cutA_nums {S0 : List S95} {l u : Int} (h : ∀ p ∈ S0, l ≤ p.f2 ∧ p.f3 ≤ u) : ∀ a ∈ attrsOf S0, l ≤ a.f2 ∧ a.f3 ≤ u := by
  intro a ha
  obtain ⟨x, hx, rfl⟩ := List.mem_map.1 ha
  exact h x (List.mem_of_mem_take hx)
theorem attrsOf_len (S0 : List S95) : (attrsOf S0).length ≤ 6 := by
  unfold attrsOf
  rw [List.length_map, List.length_take]
  exact Nat.min_le_left _ _
theorem ErrIs.keepB {w w' : World} {c : Int} {n : Nat} {v : Value} (h : ErrIs w c n v) (hb : Below w.heap.size w w') : ErrIs w' c n v := h.below (fun b hl => hb.block b hl)
set_option maxHeartbeats 8000000 in
set_option maxRecDepth 100000 in
theorem reads_calls (A : Option Addr) (n c : Nat) (S0 : List S95) (t0 : ByteArray) (w : World) (hg : ErrTy w) (hT : TabI w) (hn : S0.length = n) (hr : Kd.C k95 w A n S0) (hc : n ≤ c) (hnm : ∀ p ∈ S0, p.f0.size ≤ 9223372036854775807) (hn2 : n ≤ 9223372036854775807)
    (hnum : ∀ p ∈ S0, -9223372036854775808 ≤ p.f2 ∧ p.f3 ≤ 9223372036854775807) (ht0 : t0.size ≤ 9223372036854775807) :
    Calls Tryd.prog 9 #[.slice A n c, .string t0] w fun e w' => e = .returned (.bool true) ∧ Below w.heap.size w w' := by
  have HG := Aside0.mk hg
  have HT := Aside0.mk hT
  have HNUM := Aside0.mk hnum
  have HA := Aside0.mk (attrs_calls A n c S0 w hn hr hc hnm hn2)
  clear hg hT hn hr hc hnm hn2 hnum
  go_enter Tryd.func9, Tryd.ntmps9
  go_wp2_with fail
  refine HA.out.mono ?_
  rintro e w1 ⟨v0, v1, rfl, ho0, ho1, hb1⟩
  clear HA
  have HB := Aside0.mk hb1
  obtain ⟨S, hS⟩ : ∃ S, S = attrsOf S0 := ⟨_, rfl⟩
  have HS := Aside0.mk (show S.length ≤ 6 ∧ (∀ a ∈ S, a.f0.size ≤ 20) ∧ (∀ a ∈ S, -9223372036854775808 ≤ a.f2 ∧ a.f3 ≤ 9223372036854775807) by rw [hS]; exact ⟨attrsOf_len S0, cutA_ok S0, cutA_nums HNUM.out⟩)
  rw [← hS] at ho0 ho1
  clear hS hb1
  obtain ⟨A1, c1, rfl, hc1, hC1⟩ := Kd.R_reads ho0
  obtain ⟨A2, c2, rfl, hc2, hC2⟩ := Kd.R_reads ho1
  obtain ⟨m, hm⟩ : ∃ m, S.length = m := ⟨_, rfl⟩
  have hm2 : (S.map toA).length = m := by rw [List.length_map]; exact hm
  have hm6 : m ≤ 6 := by have := HS.out.1; omega
  have HM := Aside0.mk hm
  rw [hm] at hc1 hC1 ⊢
  rw [hm2] at hc2 hC2 ⊢
  have HCS := Aside0.mk hC1
  have HCQ := Aside0.mk hC2
  clear ho0 ho1 hC1 hC2 hm hm2
  go_wp2_with fail
  refine (cut_P t0 400 _ ht0 (by omega)).mono ?_
  rintro e w' ⟨rfl, rfl⟩
  have hle := cutB_le t0 400
  generalize cutB t0 400 = a at hle ⊢
  go_wp2_with fail
  refine (read_calls A1 m c1 S a _ HM.out HCS.out (by omega) (by omega)).mono ?_
  rintro e w2 hq
  cases hp : parseR a with
  | inr z =>
    obtain ⟨at_, cd⟩ := z
    have hrd : readR S a = .inr cd := by unfold readR; rw [hp]
    obtain ⟨b, k, rfl, hei, hb⟩ := hq.no hrd
    have hcd := parseR_code hp
    have HP := Aside0.mk hp
    have HE := Aside0.mk hei
    have n_ := Aside0.mk (below_then HB.out HB.out.size hb)
    clear HB hb
    have HB := n_
    clear n_
    clear hq hrd hp hei HCS HCQ
    go_wp2_with fail
    refine (rparse_calls a _ (by omega)).mono ?_
    rintro e w3 hq
    obtain ⟨rfl, hb⟩ := rparse_no hq HP.out
    have n2_ := Aside0.mk (ErrIs.keepB HE.out hb)
    clear HE hq
    have HE := n2_
    clear n2_
    have n_ := Aside0.mk (below_then HB.out HB.out.size hb)
    clear HB hb
    have HB := n_
    clear n_
    go_wp2_with fail
    refine (awake_calls _ (ErrTy.below HG.out HB.out)).mono ?_
    rintro e w4 ⟨rfl, hb⟩
    have n2_ := Aside0.mk (ErrIs.keepB HE.out hb)
    clear HE
    have HE := n2_
    clear n2_
    have n_ := Aside0.mk (below_then HB.out HB.out.size hb)
    clear HB hb
    have HB := n_
    clear n_
    go_wp2_with fail
    refine (of_err cd k _ _ HE.out (ErrTy.below HG.out HB.out)).mono ?_
    rintro e w5 ⟨rfl, hb⟩
    have n_ := Aside0.mk (below_then HB.out HB.out.size hb)
    clear HB hb
    have HB := n_
    clear n_
    go_wp2
    go_ret
    exact ⟨by first | rfl | simp, HB.out⟩
  | inl xs =>
    have HSZ := Aside0.mk (parse_sizesP hp)
    have lx : (xs.map toP).length ≤ 301 := by simpa using parse_count hp
    have HP := Aside0.mk hp
    have HPQ := Aside0.mk (toPQ_map xs)
    obtain ⟨F, hF⟩ : ∃ F, F = xs.map toP := ⟨_, rfl⟩
    rw [← hF] at HSZ lx HPQ
    obtain ⟨n1, hn1⟩ : ∃ n, F.length = n := ⟨_, rfl⟩
    have hn1q : (F.map toQ).length = n1 := by rw [List.length_map]; exact hn1
    have HN1 := Aside0.mk hn1
    have HN1Q := Aside0.mk hn1q
    rw [hn1] at lx
    clear hn1 hn1q
    cases hfb : filterBad S F with
    | some i =>
      have hrd : readR S a = .inr 3 := by unfold readR; rw [hp]; simp only [← hF, hfb]
      obtain ⟨b, k, rfl, hei, hb⟩ := hq.no hrd
      have HE := Aside0.mk hei
      have HFB := Aside0.mk hfb
      have k_ := Aside0.mk (Kd.C_below HCQ.out hb)
      clear HCQ
      have HCQ := k_
      clear k_
      have n_ := Aside0.mk (below_then HB.out HB.out.size hb)
      clear HB hb
      have HB := n_
      clear n_
      clear hq hrd hp hei HCS hfb hF
      go_wp2_with fail
      refine (rparse_calls a _ (by omega)).mono ?_
      rintro e w3 hq
      obtain ⟨v2, rfl, ho2, hb⟩ := rparse_ok hq HP.out
      rw [HPQ.out] at ho2
      obtain ⟨A3, c3, rfl, hc3, hC3⟩ := Kd.R_reads ho2
      rw [HN1Q.out] at hc3 hC3 ⊢
      have HC3 := Aside0.mk hC3
      have n2_ := Aside0.mk (ErrIs.keepB HE.out hb)
      clear HE hq ho2 hC3
      have HE := n2_
      clear n2_
      have k_ := Aside0.mk (Kd.C_below HCQ.out hb)
      clear HCQ
      have HCQ := k_
      clear k_
      have n_ := Aside0.mk (below_then HB.out HB.out.size hb)
      clear HB hb
      have HB := n_
      clear n_
      go_wp2_with fail
      refine (rfilter_calls A2 A3 m n1 c2 c3 S F _ HM.out HN1.out HCQ.out HC3.out (by omega) (by omega) hc3 HSZ.out).mono ?_
      rw [HFB.out]
      rintro e w4 ⟨rfl, hb⟩
      have n2_ := Aside0.mk (ErrIs.keepB HE.out hb)
      clear HE
      have HE := n2_
      clear n2_
      have n_ := Aside0.mk (below_then HB.out HB.out.size hb)
      clear HB hb
      have HB := n_
      clear n_
      have hi0 : decide ((0 : Int) ≤ badI2 (some i)) = true := decide_eq_true (Int.natCast_nonneg i)
      generalize badI2 (some i) = z at hi0 ⊢
      go_wp2_with fail
      refine (awake_calls _ (ErrTy.below HG.out HB.out)).mono ?_
      rintro e w5 ⟨rfl, hb⟩
      have n2_ := Aside0.mk (ErrIs.keepB HE.out hb)
      clear HE
      have HE := n2_
      clear n2_
      have n_ := Aside0.mk (below_then HB.out HB.out.size hb)
      clear HB hb
      have HB := n_
      clear n_
      go_wp2_with fail
      refine (of_err 3 k _ _ HE.out (ErrTy.below HG.out HB.out)).mono ?_
      rintro e w6 ⟨rfl, hb⟩
      have n_ := Aside0.mk (below_then HB.out HB.out.size hb)
      clear HB hb
      have HB := n_
      clear n_
      go_wp2
      go_ret
      exact ⟨by first | rfl | simp, HB.out⟩
    | none =>
      have hrd : readR S a = .inl xs := by unfold readR; rw [hp]; simp only [← hF, hfb]
      obtain ⟨v2, rfl, ho2, hb⟩ := hq.ok hrd
      rw [← hF] at ho2
      obtain ⟨A3, c3, rfl, hc3, hC3⟩ := Kd.R_reads ho2
      rw [HN1.out] at hc3 hC3 ⊢
      have HCF := Aside0.mk hC3
      have hnums := okF_nums hfb _ _ (by omega) (by omega) HS.out.2.2
      have hstrs := okF_strs hfb 20 HS.out.2.1
      have hlen : (printN F n1).length ≤ 4 * 165 := by
        have h4 := (filterBad_none hfb).2.1
        have h5 := HN1.out
        have := printN_len F 160 (fun p hp => by have h6 := predL_len p (hnums p hp); have h7 := hstrs p hp; omega) n1 (by omega)
        exact Nat.le_trans this (by rw [show 160 + 5 = 165 by rfl]; exact Nat.mul_le_mul_right _ (by omega))
      have HPC := Aside0.mk (fun W (h1 : Kd.C k46 W A3 n1 F) (h2 : TabI W) => print_calls A3 n1 c3 F W HN1.out h1 h2 hnums (by omega) (by omega))
      have HRP := Aside0.mk (fun A c W (h1 : Kd.C k77 W A n1 (F.map toQ)) => rprint_calls A n1 c F W HN1.out h1 hnums (by omega) (by omega))
      have HRB := Aside0.mk (fun A c W (h1 : Kd.C k77 W A n1 (F.map toQ)) => rbytes_calls A n1 c F W HN1.out h1 hnums (by omega) (by omega))
      generalize printN F n1 = PN at hlen HPC HRP HRB
      have HFB := Aside0.mk hfb
      have k_ := Aside0.mk (Kd.C_below HCQ.out hb)
      clear HCQ
      have HCQ := k_
      clear k_
      have k_ := Aside0.mk (Kd.C_below HCS.out hb)
      clear HCS
      have HCS := k_
      clear k_
      have n_ := Aside0.mk (below_then HB.out HB.out.size hb)
      clear HB hb
      have HB := n_
      clear n_
      clear hq hrd hp hfb hF hC3 ho2 hnums hstrs
      go_wp2_with fail
      refine (rparse_calls a _ (by omega)).mono ?_
      rintro e w3 hq
      obtain ⟨v2, rfl, ho2, hb⟩ := rparse_ok hq HP.out
      rw [HPQ.out] at ho2
      obtain ⟨A4, c4, rfl, hc4, hC4⟩ := Kd.R_reads ho2
      rw [HN1Q.out] at hc4 hC4 ⊢
      have HCG := Aside0.mk hC4
      clear hq ho2 hC4
      have k_ := Aside0.mk (Kd.C_below HCQ.out hb)
      clear HCQ
      have HCQ := k_
      clear k_
      have k_ := Aside0.mk (Kd.C_below HCS.out hb)
      clear HCS
      have HCS := k_
      clear k_
      have k_ := Aside0.mk (Kd.C_below HCF.out hb)
      clear HCF
      have HCF := k_
      clear k_
      have n_ := Aside0.mk (below_then HB.out HB.out.size hb)
      clear HB hb
      have HB := n_
      clear n_
      go_wp2_with fail
      refine (rfilter_calls A2 A4 m n1 c2 c4 S F _ HM.out HN1.out HCQ.out HCG.out (by omega) (by omega) hc4 HSZ.out).mono ?_
      rw [HFB.out]
      rintro e w4 ⟨rfl, hb⟩
      have e1 : badI2 none = -1 := rfl
      rw [e1]
      have k_ := Aside0.mk (Kd.C_below HCS.out hb)
      clear HCS
      have HCS := k_
      clear k_
      have k_ := Aside0.mk (Kd.C_below HCF.out hb)
      clear HCF
      have HCF := k_
      clear k_
      have k_ := Aside0.mk (Kd.C_below HCG.out hb)
      clear HCG
      have HCG := k_
      clear k_
      have n_ := Aside0.mk (below_then HB.out HB.out.size hb)
      clear HB hb
      have HB := n_
      clear n_
      go_wp2_with fail
      refine (awake_calls _ (ErrTy.below HG.out HB.out)).mono ?_
      rintro e w5 ⟨rfl, hb⟩
      have k_ := Aside0.mk (Kd.C_below HCS.out hb)
      clear HCS
      have HCS := k_
      clear k_
      have k_ := Aside0.mk (Kd.C_below HCF.out hb)
      clear HCF
      have HCF := k_
      clear k_
      have k_ := Aside0.mk (Kd.C_below HCG.out hb)
      clear HCG
      have HCG := k_
      clear k_
      have n_ := Aside0.mk (below_then HB.out HB.out.size hb)
      clear HB hb
      have HB := n_
      clear n_
      go_wp2_with fail
      refine (of_nil _).mono ?_
      rintro e w6 ⟨rfl, hb⟩
      have k_ := Aside0.mk (Kd.C_below HCS.out hb)
      clear HCS
      have HCS := k_
      clear k_
      have k_ := Aside0.mk (Kd.C_below HCF.out hb)
      clear HCF
      have HCF := k_
      clear k_
      have k_ := Aside0.mk (Kd.C_below HCG.out hb)
      clear HCG
      have HCG := k_
      clear k_
      have n_ := Aside0.mk (below_then HB.out HB.out.size hb)
      clear HB hb
      have HB := n_
      clear n_
      have HT6 := Aside0.mk (TabI.below HT.out HB.out)
      have HW := Aside0.mk (IsW.new w6)
      have HB2 := Aside0.mk (below_alloc (Below.refl w6.heap.size w6) (.cells #[.slice none 0 0] 57))
      go_wp2_with fail
      refine (HPC.out _ (Kd.C_below HCF.out HB2.out) (TabI.below HT6.out HB2.out)).mono ?_
      rintro e w7 ⟨rfl, hb⟩
      have n_ := Aside0.mk (IsW.below HW.out hb)
      have n2_ := Aside0.mk (below_then HB2.out HB2.out.size hb)
      clear HW HB2 hb
      have HW := n_
      have HB2 := n2_
      clear n_ n2_
      have hTz : (⟨PN.toArray⟩ : ByteArray).size = PN.length := by show PN.toArray.size = _; rw [List.size_toArray]
      have HWT := Aside0.mk (wtext_calls ⟨PN.toArray⟩ w6.heap.size w7 HW.out (by rw [hTz]; omega))
      rw [hTz] at HWT
      have HWT2 : Aside0 (Calls Tryd.prog 25 #[.pointer (some ⟨w6.heap.size, 0, none⟩), .string ⟨PN.toArray⟩] w7 fun e w' => e = .returned (.tuple #[]) ∧ IsW w' w6.heap.size (num7 PN.length ++ PN) ∧ Below w6.heap.size w7 w') := HWT
      clear hTz HWT HW
      generalize (⟨PN.toArray⟩ : ByteArray) = T at HPC HRP HWT2 ⊢
      go_wp2_with fail
      refine HWT2.out.mono ?_
      rintro e w8 ⟨rfl, hw, hb⟩
      have HW := Aside0.mk hw
      have n2_ := Aside0.mk (below_weaken HB2.out (Nat.le_refl _) hb)
      clear HB2 hb hw HWT2
      have HB2 := n2_
      clear n2_
      go_wp2_with fail
      refine (told_R F A3 n1 c3 _ HN1.out (Kd.C_below HCF.out HB2.out) hc3 (by omega)).mono ?_
      rintro e w9 ⟨A5, c5, rfl, hc5, hC5, hb⟩
      have HC5 := Aside0.mk hC5
      have n_ := Aside0.mk (IsW.below HW.out hb)
      have n2_ := Aside0.mk (below_then HB2.out HB2.out.size hb)
      clear HW HB2 hb hC5
      have HW := n_
      have HB2 := n2_
      clear n_ n2_
      go_wp2_with fail
      refine (same_P A5 A4 n1 n1 c5 c4 _ _ HN1Q.out HN1Q.out HC5.out hc5 (Kd.C_below HCG.out HB2.out) hc4 (by omega)).mono ?_
      rintro e w10 ⟨rfl, hb⟩
      have n_ := Aside0.mk (IsW.below HW.out hb)
      have n2_ := Aside0.mk (below_then HB2.out HB2.out.size hb)
      clear HW HB2 hb
      have HW := n_
      have HB2 := n2_
      clear n_ n2_
      go_wp2_with fail
      refine (HPC.out _ (Kd.C_below HCF.out HB2.out) (TabI.below HT6.out HB2.out)).mono ?_
      rintro e w11 ⟨rfl, hb⟩
      have n_ := Aside0.mk (IsW.below HW.out hb)
      have n2_ := Aside0.mk (below_then HB2.out HB2.out.size hb)
      clear HW HB2 hb
      have HW := n_
      have HB2 := n2_
      clear n_ n2_
      go_wp2_with fail
      refine (HRP.out A4 c4 _ (Kd.C_below HCG.out HB2.out)).mono ?_
      rintro e w12 ⟨rfl, hb⟩
      have n_ := Aside0.mk (IsW.below HW.out hb)
      have n2_ := Aside0.mk (below_then HB2.out HB2.out.size hb)
      clear HW HB2 hb
      have HW := n_
      have HB2 := n2_
      clear n_ n2_
      go_wp2_with fail
      refine (filter_calls A1 A3 m n1 c1 c3 S F _ HM.out HN1.out (Kd.C_below HCS.out HB2.out) (Kd.C_below HCF.out HB2.out) (by omega) (by omega) hc3).mono ?_
      rintro e w13 hq
      obtain ⟨rfl, hb⟩ := hq.ok HFB.out
      have n_ := Aside0.mk (IsW.below HW.out hb)
      have n2_ := Aside0.mk (below_then HB2.out HB2.out.size hb)
      clear HW HB2 hb hq
      have HW := n_
      have HB2 := n2_
      clear n_ n2_
      go_wp2_with fail
      refine (wbytes_calls _ _ _ HW.out).mono ?_
      rintro e w14 ⟨rfl, hb⟩
      have n2_ := Aside0.mk (below_then HB2.out HB2.out.size hb)
      clear HW HB2 hb
      have HB2 := n2_
      clear n2_
      go_wp2_with fail
      refine (HRB.out A4 c4 _ (Kd.C_below HCG.out HB2.out)).mono ?_
      rintro e w15 ⟨rfl, hb⟩
      have n2_ := Aside0.mk (below_then HB.out HB.out.size (below_then HB2.out HB2.out.size hb))
      clear HB HB2 hb
      go_wp2
      go_ret
      exact ⟨by first | rfl | simp, n2_.out⟩
end Go.Proofs.YthaapijjjgkacaaDoor.Mine
end
