/-
  filter.Print by hand: a filter as a text. Conditions: the table that strconv.Itoa reads, int64 bounds, the text at most 10^9 bytes.
-/
import Derived.Test.YthaapijjjgkacaaDoorQuiet
import Derived.Test.YthaapijjjgkacaaDoorParse
import Derived.Lib.SmallJoins
import Derived.Lib.AppendIntMem
import Derived.Lib.ItoaLen
set_option linter.unusedSimpArgs false
set_option linter.unusedVariables false
namespace Go.Proofs.YthaapijjjgkacaaDoor.Mine
open Go.RowKit Go.Proofs.YthaapijjjgkacaaDoorW.PrintWords Go.Proofs.YthaapijjjgkacaaDoorW.PrintLast Go.Proofs.YthaapijjjgkacaaDoorW.PrintMore
open Go.Proofs.YthaapijjjgkacaaDoor.PFilterReads
def quotedL (s : ByteArray) : List UInt8 := 34 :: quoteL s.data.toList ++ [34]
def predL (p : S46) : List UInt8 :=
  if p.f1 = 1 then p.f0.data.toList ++ [32, 105, 110, 32] ++ Lib.itoa p.f2 ++ [46, 46] ++ Lib.itoa p.f3
  else if p.f1 = 2 then p.f0.data.toList ++ [32, 61, 32] ++ quotedL p.f4
  else p.f0.data.toList ++ [32, 94, 61, 32] ++ quotedL p.f4
def pstep (i : Nat) (p : S46) : List UInt8 := (if i = 0 then [] else [32, 97, 110, 100, 32]) ++ predL p
def printN (L : List S46) : Nat → List UInt8
  | 0 => []
  | i + 1 => printN L i ++ pstep i (L.getD i z46)
theorem printN_mono (L : List S46) {i j : Nat} (h : i ≤ j) : (printN L i).length ≤ (printN L j).length := by
  induction j with
  | zero => obtain rfl : i = 0 := by omega
            exact Nat.le_refl _
  | succ j ih =>
    by_cases hi : i = j + 1
    · rw [hi]
      exact Nat.le_refl _
    · have := ih (by omega)
      show _ ≤ (printN L j ++ _).length
      rw [List.length_append]
      omega
theorem quoteL_ge (l : List UInt8) : l.length ≤ (quoteL l).length := by
  induction l with
  | nil => simp
  | cons c r ih =>
    have : quoteL (c :: r) = (if c = 34 ∨ c = 92 then [92, c] else [c]) ++ quoteL r := rfl
    rw [this, List.length_append, List.length_cons]
    by_cases h : c = 34 ∨ c = 92
    · rw [if_pos h]; simp only [List.length_cons, List.length_nil]; omega
    · rw [if_neg h]; simp only [List.length_cons, List.length_nil]; omega
theorem predL_name (p : S46) : p.f0.size ≤ (predL p).length := by
  have e : p.f0.size = p.f0.data.toList.length := by rw [Array.length_toList]; rfl
  unfold predL
  split
  · simp only [List.length_append]; omega
  · split
    · simp only [List.length_append]; omega
    · simp only [List.length_append]; omega
theorem predL_str (p : S46) (h : p.f1 ≠ 1) : p.f4.size ≤ (predL p).length := by
  have e : p.f4.size = p.f4.data.toList.length := by rw [Array.length_toList]; rfl
  have := quoteL_ge p.f4.data.toList
  unfold predL quotedL
  rw [if_neg h]
  split
  · simp only [List.length_append, List.length_cons]; omega
  · simp only [List.length_append, List.length_cons]; omega
def TabI (w : World) : Prop := Lib.TabIs Tryd.prog w "internal/strconv.uint64pow10" .u64 Lib.pow10Tab
theorem TabI.below {w w' : World} (h : TabI w) (hb : Below w.heap.size w w') : TabI w' := Go.Joins.tab_stays (by kernel_rfl : Tryd.prog.globalNamed "internal/strconv.uint64pow10" = some 1) h hb (Nat.le_refl _)
theorem itoa_calls (n : Int) (h0 : -9223372036854775808 ≤ n) (h1 : n ≤ 9223372036854775807) (w : World) (hT : TabI w) : Calls Tryd.prog 42 #[.int .i64 n] w fun e w' => e = .returned (.string ⟨(Lib.itoa n).toArray⟩) ∧ Below w.heap.size w w' :=
  (Tryd.strconv_Itoa n h0 h1 w hT).mono fun _ _ ⟨he, k, os, hw⟩ => ⟨he, by rw [hw]; exact Lib.below_grow _ _ (Nat.le_refl _) _ _⟩
set_option maxHeartbeats 4000000 in
set_option maxRecDepth 100000 in
theorem print_calls (A : Option Addr) (n c : Nat) (L : List S46) (w : World) (hn : L.length = n) (hr : Kd.C k46 w A n L) (hT : TabI w) (hb : ∀ p ∈ L, -9223372036854775808 ≤ p.f2 ∧ p.f2 ≤ 9223372036854775807 ∧ -9223372036854775808 ≤ p.f3 ∧ p.f3 ≤ 9223372036854775807)
    (hs : (printN L n).length ≤ 1000000000) (hn2 : n ≤ 1000000) :
    Calls Tryd.prog 20 #[.slice A n c] w fun e w' => e = .returned (.string ⟨(printN L n).toArray⟩) ∧ Below w.heap.size w w' := by
  have HR := Aside0.mk hr
  have HT := Aside0.mk hT
  have HM := Aside0.mk hb
  have HS := Aside0.mk hs
  have HNL := Aside0.mk hn
  clear hr hT hb hs hn
  go_enter Tryd.func20, Tryd.ntmps20
  go_wp2_with fail
  go_loopg [3, 4, 5, 8] (n + 1) (fun k v3 v4 v5 v8 W => ∃ (i : Nat) (S : ByteArray), Aside0 (i ≤ n ∧ k + i = n + 1) ∧ Aside0 (S.data.toList = printN L i) ∧ v3 = .string S ∧ v8 = .int .i64 i ∧ Aside0 (Below w.heap.size w W))
  case atStart => exact ⟨0, ⟨#[]⟩, ⟨by omega, by omega⟩, ⟨rfl⟩, rfl, rfl, ⟨Below.refl _ _⟩⟩
  case round =>
    obtain ⟨i, S, HN, HE, rfl, rfl, HB⟩ := hrel
    by_cases hi : i < n
    · have b1 : decide ((i : Int) < (n : Int)) = true := decide_eq_true (by omega)
      have p1 : (0 : Int) ≤ (i : Int) := by omega
      have p2 : (i : Int) < (n : Int) := by omega
      obtain ⟨ad, e, h0, h1, h2, h3, h4⟩ := at_T46 HR.out i p1 p2
      cases e
      rw [Int.toNat_natCast] at h0 h1 h2 h3 h4
      replace h0 := (HB.out.cell (World.block_lt_of_cell? w _ h0)).trans h0
      replace h1 := (HB.out.cell (World.block_lt_of_cell? w _ h1)).trans h1
      replace h2 := (HB.out.cell (World.block_lt_of_cell? w _ h2)).trans h2
      replace h3 := (HB.out.cell (World.block_lt_of_cell? w _ h3)).trans h3
      replace h4 := (HB.out.cell (World.block_lt_of_cell? w _ h4)).trans h4
      have hrd : rd_T46 L (i : Int) = L.getD i z46 := rfl
      rw [hrd] at h0 h1 h2 h3 h4
      have hmem : L.getD i z46 ∈ L := by
        rw [List.getD_eq_getElem?_getD, List.getElem?_eq_getElem (by have := HNL.out; omega)]
        exact List.getElem_mem _
      have hrange := HM.out _ hmem
      have hT : (printN L i).length + (pstep i (L.getD i z46)).length ≤ 1000000000 := by
        have h5 : (printN L (i + 1)).length ≤ _ := printN_mono L (show i + 1 ≤ n by omega)
        have h6 := HS.out
        have h7 : printN L (i + 1) = printN L i ++ pstep i (L.getD i z46) := rfl
        rw [h7, List.length_append] at h5
        omega
      have HN2 := Aside0.mk (show printN L (i + 1) = printN L i ++ pstep i (L.getD i z46) from rfl)
      generalize L.getD i z46 = p at h0 h1 h2 h3 h4 hrange hT HN2
      obtain ⟨r1, r2, r3, r4⟩ := hrange
      have hST : S.size ≤ 1000000000 := by
        have : S.size = S.data.toList.length := by rw [Array.length_toList]; rfl
        rw [HE.out] at this
        omega
      have hpl : (predL p).length ≤ 1000000000 := by
        unfold pstep at hT
        rw [List.length_append] at hT
        omega
      have hF0 : p.f0.size ≤ 1000000000 := Nat.le_trans (predL_name p) hpl
      have hRR := Aside0.mk (And.intro r1 (And.intro r2 (And.intro r3 r4)))
      have hPL := Aside0.mk hpl
      clear hT hpl r1 r2 r3 r4 hmem hrd
      by_cases hi0 : i = 0
      · have c1 : decide (0 < i) = false := decide_eq_false (by omega)
        have c2 : decide ((0 : Int) < (i : Int)) = false := decide_eq_false (by omega)
        have HI0 := Aside0.mk hi0
        clear hi0
        by_cases ho1 : p.f1 = 1
        · have d1 : (p.f1 == 1) = true := by simp [ho1]
          go_wp2_with fail
          generalize hW : wr.alloc (Obj.cells #[.string p.f0, .int .i64 1, .int .i64 p.f2, .int .i64 p.f3, .string p.f4] 46) = W2
          have HK : W2.heap[wr.heap.size]? = some (.cells #[.string p.f0, .int .i64 1, .int .i64 p.f2, .int .i64 p.f3, .string p.f4] 46 (0, 0)) := by rw [← hW]; exact blk_new wr _
          have n_ := Aside0.mk (show Below w.heap.size w W2 by rw [← hW]; exact below_alloc HB.out _)
          clear HB hW h0 h1 h2 h3 h4
          have HB := n_
          clear n_
          have hTW : TabI W2 := TabI.below HT.out HB.out
          generalize wr.heap.size = gb at HK ⊢
          have q0 : ∀ q : BelowP W2, q.w.cell? ⟨gb, 0, none⟩ = some (.string p.f0) := fun q => q.cell ((blk_cell HK 0).trans rfl)
          have q2 : ∀ q : BelowP W2, q.w.cell? ⟨gb, 2, none⟩ = some (.int .i64 p.f2) := fun q => q.cell ((blk_cell HK 2).trans rfl)
          have q3 : ∀ q : BelowP W2, q.w.cell? ⟨gb, 3, none⟩ = some (.int .i64 p.f3) := fun q => q.cell ((blk_cell HK 3).trans rfl)
          have q4 : ∀ q : BelowP W2, q.w.cell? ⟨gb, 4, none⟩ = some (.string p.f4) := fun q => q.cell ((blk_cell HK 4).trans rfl)
          clear HK
          have hSz : S.size ≤ 1000000005 := (by omega); have HE2 : Aside0 (S.data.toList = printN L i ++ []) := ⟨by rw [List.append_nil]; exact HE.out⟩; clear hST HE; generalize S = S2 at HE2 hSz ⊢
          obtain ⟨bLo, hLo, sLo, cLo⟩ : ∃ b : ByteArray, b.data.toList = Lib.itoa p.f2 ∧ b.size ≤ 21 ∧ ∀ q : BelowP W2, Calls Tryd.prog 42 #[.int .i64 p.f2] q.w fun e w' => e = .returned (.string b) ∧ Below q.w.heap.size q.w w' := ⟨⟨(Lib.itoa p.f2).toArray⟩, rfl, (by show (Lib.itoa p.f2).toArray.size ≤ 21; rw [List.size_toArray]; exact Lib.itoa_length_le p.f2 hRR.out.1 hRR.out.2.1), fun q => itoa_calls _ hRR.out.1 hRR.out.2.1 _ (hTW.below q.h)⟩
          obtain ⟨bHi, hHi, sHi, cHi⟩ : ∃ b : ByteArray, b.data.toList = Lib.itoa p.f3 ∧ b.size ≤ 21 ∧ ∀ q : BelowP W2, Calls Tryd.prog 42 #[.int .i64 p.f3] q.w fun e w' => e = .returned (.string b) ∧ Below q.w.heap.size q.w w' := ⟨⟨(Lib.itoa p.f3).toArray⟩, rfl, (by show (Lib.itoa p.f3).toArray.size ≤ 21; rw [List.size_toArray]; exact Lib.itoa_length_le p.f3 hRR.out.2.2.1 hRR.out.2.2.2), fun q => itoa_calls _ hRR.out.2.2.1 hRR.out.2.2.2 _ (hTW.below q.h)⟩
          have HLo := Aside0.mk hLo
          have HHi := Aside0.mk hHi
          have HCL := Aside0.mk cLo
          have HCH := Aside0.mk cHi
          clear hLo hHi cLo cHi
          have z1 : (9223372036854775807 < p.f0.size + 4) = False := eq_false (by omega)
          have z2 : (9223372036854775807 < p.f0.size + 4 + bLo.size) = False := eq_false (by omega)
          have z3 : (9223372036854775807 < p.f0.size + 4 + bLo.size + 2) = False := eq_false (by omega)
          have z4 : (9223372036854775807 < p.f0.size + 4 + bLo.size + 2 + bHi.size) = False := eq_false (by omega)
          have z5 : (9223372036854775807 < S2.size + (p.f0.size + 4 + bLo.size + 2 + bHi.size)) = False := eq_false (by omega)
          clear hF0 hSz sLo sHi
          refine wp_region_quiet_below (by kernel_rfl) (by kernel_rfl) ?_
          repeat (quiet_step ((go_at_call 42; first | (with_reducible refine Calls.below_of (HCL.out _)) | (with_reducible refine Calls.below_of (HCH.out _)))))
          refine wpQuiet_nil ?_
          rintro _ ⟨pq, rfl⟩
          go_wp2
          go_roundg (gk - 1)
          case measure => have := HN.out; omega
          case rel => exact ⟨i + 1, _, ⟨by have := HN.out; omega, by have := HN.out; omega⟩, ⟨by rw [ByteArray.data_append, Array.toList_append, HE2.out, HN2.out]; simp [pstep, predL, ho1, HLo.out, HHi.out, ByteArray.data_append, HI0.out]⟩, rfl, rfl, ⟨below_then HB.out HB.out.size pq.h⟩⟩
        · have d1 : (p.f1 == 1) = false := by simp [ho1]
          by_cases ho2 : p.f1 = 2
          · have d2 : (p.f1 == 2) = true := by simp [ho2]
            go_wp2_with fail
            generalize hW : wr.alloc (Obj.cells #[.string p.f0, .int .i64 2, .int .i64 p.f2, .int .i64 p.f3, .string p.f4] 46) = W2
            have HK : W2.heap[wr.heap.size]? = some (.cells #[.string p.f0, .int .i64 2, .int .i64 p.f2, .int .i64 p.f3, .string p.f4] 46 (0, 0)) := by rw [← hW]; exact blk_new wr _
            have n_ := Aside0.mk (show Below w.heap.size w W2 by rw [← hW]; exact below_alloc HB.out _)
            clear HB hW h0 h1 h2 h3 h4
            have HB := n_
            clear n_
            have hTW : TabI W2 := TabI.below HT.out HB.out
            generalize wr.heap.size = gb at HK ⊢
            have q0 : ∀ q : BelowP W2, q.w.cell? ⟨gb, 0, none⟩ = some (.string p.f0) := fun q => q.cell ((blk_cell HK 0).trans rfl)
            have q2 : ∀ q : BelowP W2, q.w.cell? ⟨gb, 2, none⟩ = some (.int .i64 p.f2) := fun q => q.cell ((blk_cell HK 2).trans rfl)
            have q3 : ∀ q : BelowP W2, q.w.cell? ⟨gb, 3, none⟩ = some (.int .i64 p.f3) := fun q => q.cell ((blk_cell HK 3).trans rfl)
            have q4 : ∀ q : BelowP W2, q.w.cell? ⟨gb, 4, none⟩ = some (.string p.f4) := fun q => q.cell ((blk_cell HK 4).trans rfl)
            clear HK
            have hSz : S.size ≤ 1000000005 := (by omega); have HE2 : Aside0 (S.data.toList = printN L i ++ []) := ⟨by rw [List.append_nil]; exact HE.out⟩; clear hST HE; generalize S = S2 at HE2 hSz ⊢
            have hF4 : p.f4.size ≤ 1000000000 := Nat.le_trans (predL_str p ho1) hPL.out
            obtain ⟨bq, hq, sq, cq⟩ : ∃ b : ByteArray, b.data.toList = quotedL p.f4 ∧ b.size ≤ 2000000002 ∧ ∀ q : BelowP W2, Calls Tryd.prog 43 #[.string p.f4] q.w fun e w' => e = .returned (.string b) ∧ Below q.w.heap.size q.w w' := ⟨⟨(34 :: quoteL p.f4.data.toList ++ [34]).toArray⟩, rfl, (by show (34 :: quoteL p.f4.data.toList ++ [34]).toArray.size ≤ _; rw [List.size_toArray]; have h1 := quoteL_len p.f4.data.toList; have h2 : p.f4.size = p.f4.data.toList.length := (by rw [Array.length_toList]; rfl); simp only [List.length_append, List.length_cons, List.length_nil]; omega), fun q => quote_calls p.f4 q.w hF4⟩
            have HQ := Aside0.mk hq
            have HCQ := Aside0.mk cq
            clear hq cq hF4
            have z1 : (9223372036854775807 < p.f0.size + 3) = False := eq_false (by omega)
            have z2 : (9223372036854775807 < p.f0.size + 3 + bq.size) = False := eq_false (by omega)
            have z3 : (9223372036854775807 < S2.size + (p.f0.size + 3 + bq.size)) = False := eq_false (by omega)
            clear hF0 hSz sq
            refine wp_region_quiet_below (by kernel_rfl) (by kernel_rfl) ?_
            repeat (quiet_step ((go_at_call 43; (with_reducible refine Calls.below_of (HCQ.out _)))))
            refine wpQuiet_nil ?_
            rintro _ ⟨pq, rfl⟩
            go_wp2
            go_roundg (gk - 1)
            case measure => have := HN.out; omega
            case rel => exact ⟨i + 1, _, ⟨by have := HN.out; omega, by have := HN.out; omega⟩, ⟨by rw [ByteArray.data_append, Array.toList_append, HE2.out, HN2.out]; simp [pstep, predL, ho1, HQ.out, ByteArray.data_append, HI0.out, ho2]⟩, rfl, rfl, ⟨below_then HB.out HB.out.size pq.h⟩⟩
          · have d2 : (p.f1 == 2) = false := by simp [ho2]
            go_wp2_with fail
            generalize hW : wr.alloc (Obj.cells #[.string p.f0, .int .i64 p.f1, .int .i64 p.f2, .int .i64 p.f3, .string p.f4] 46) = W2
            have HK : W2.heap[wr.heap.size]? = some (.cells #[.string p.f0, .int .i64 p.f1, .int .i64 p.f2, .int .i64 p.f3, .string p.f4] 46 (0, 0)) := by rw [← hW]; exact blk_new wr _
            have n_ := Aside0.mk (show Below w.heap.size w W2 by rw [← hW]; exact below_alloc HB.out _)
            clear HB hW h0 h1 h2 h3 h4
            have HB := n_
            clear n_
            have hTW : TabI W2 := TabI.below HT.out HB.out
            generalize wr.heap.size = gb at HK ⊢
            have q0 : ∀ q : BelowP W2, q.w.cell? ⟨gb, 0, none⟩ = some (.string p.f0) := fun q => q.cell ((blk_cell HK 0).trans rfl)
            have q2 : ∀ q : BelowP W2, q.w.cell? ⟨gb, 2, none⟩ = some (.int .i64 p.f2) := fun q => q.cell ((blk_cell HK 2).trans rfl)
            have q3 : ∀ q : BelowP W2, q.w.cell? ⟨gb, 3, none⟩ = some (.int .i64 p.f3) := fun q => q.cell ((blk_cell HK 3).trans rfl)
            have q4 : ∀ q : BelowP W2, q.w.cell? ⟨gb, 4, none⟩ = some (.string p.f4) := fun q => q.cell ((blk_cell HK 4).trans rfl)
            clear HK
            have hSz : S.size ≤ 1000000005 := (by omega); have HE2 : Aside0 (S.data.toList = printN L i ++ []) := ⟨by rw [List.append_nil]; exact HE.out⟩; clear hST HE; generalize S = S2 at HE2 hSz ⊢
            have hF4 : p.f4.size ≤ 1000000000 := Nat.le_trans (predL_str p ho1) hPL.out
            obtain ⟨bq, hq, sq, cq⟩ : ∃ b : ByteArray, b.data.toList = quotedL p.f4 ∧ b.size ≤ 2000000002 ∧ ∀ q : BelowP W2, Calls Tryd.prog 43 #[.string p.f4] q.w fun e w' => e = .returned (.string b) ∧ Below q.w.heap.size q.w w' := ⟨⟨(34 :: quoteL p.f4.data.toList ++ [34]).toArray⟩, rfl, (by show (34 :: quoteL p.f4.data.toList ++ [34]).toArray.size ≤ _; rw [List.size_toArray]; have h1 := quoteL_len p.f4.data.toList; have h2 : p.f4.size = p.f4.data.toList.length := (by rw [Array.length_toList]; rfl); simp only [List.length_append, List.length_cons, List.length_nil]; omega), fun q => quote_calls p.f4 q.w hF4⟩
            have HQ := Aside0.mk hq
            have HCQ := Aside0.mk cq
            clear hq cq hF4
            have z1 : (9223372036854775807 < p.f0.size + 4) = False := eq_false (by omega)
            have z2 : (9223372036854775807 < p.f0.size + 4 + bq.size) = False := eq_false (by omega)
            have z3 : (9223372036854775807 < S2.size + (p.f0.size + 4 + bq.size)) = False := eq_false (by omega)
            clear hF0 hSz sq
            refine wp_region_quiet_below (by kernel_rfl) (by kernel_rfl) ?_
            repeat (quiet_step ((go_at_call 43; (with_reducible refine Calls.below_of (HCQ.out _)))))
            refine wpQuiet_nil ?_
            rintro _ ⟨pq, rfl⟩
            go_wp2
            go_roundg (gk - 1)
            case measure => have := HN.out; omega
            case rel => exact ⟨i + 1, _, ⟨by have := HN.out; omega, by have := HN.out; omega⟩, ⟨by rw [ByteArray.data_append, Array.toList_append, HE2.out, HN2.out]; simp [pstep, predL, ho1, HQ.out, ByteArray.data_append, HI0.out, ho2]⟩, rfl, rfl, ⟨below_then HB.out HB.out.size pq.h⟩⟩
      · have c1 : decide (0 < i) = true := decide_eq_true (by omega)
        have c2 : decide ((0 : Int) < (i : Int)) = true := decide_eq_true (by omega)
        have HI0 := Aside0.mk hi0
        clear hi0
        by_cases ho1 : p.f1 = 1
        · have d1 : (p.f1 == 1) = true := by simp [ho1]
          go_wp2_with fail
          generalize hW : wr.alloc (Obj.cells #[.string p.f0, .int .i64 1, .int .i64 p.f2, .int .i64 p.f3, .string p.f4] 46) = W2
          have HK : W2.heap[wr.heap.size]? = some (.cells #[.string p.f0, .int .i64 1, .int .i64 p.f2, .int .i64 p.f3, .string p.f4] 46 (0, 0)) := by rw [← hW]; exact blk_new wr _
          have n_ := Aside0.mk (show Below w.heap.size w W2 by rw [← hW]; exact below_alloc HB.out _)
          clear HB hW h0 h1 h2 h3 h4
          have HB := n_
          clear n_
          have hTW : TabI W2 := TabI.below HT.out HB.out
          generalize wr.heap.size = gb at HK ⊢
          have q0 : ∀ q : BelowP W2, q.w.cell? ⟨gb, 0, none⟩ = some (.string p.f0) := fun q => q.cell ((blk_cell HK 0).trans rfl)
          have q2 : ∀ q : BelowP W2, q.w.cell? ⟨gb, 2, none⟩ = some (.int .i64 p.f2) := fun q => q.cell ((blk_cell HK 2).trans rfl)
          have q3 : ∀ q : BelowP W2, q.w.cell? ⟨gb, 3, none⟩ = some (.int .i64 p.f3) := fun q => q.cell ((blk_cell HK 3).trans rfl)
          have q4 : ∀ q : BelowP W2, q.w.cell? ⟨gb, 4, none⟩ = some (.string p.f4) := fun q => q.cell ((blk_cell HK 4).trans rfl)
          clear HK
          generalize hS2 : S ++ ⟨#[32, 97, 110, 100, 32]⟩ = S2; have hSz : S2.size ≤ 1000000005 := (by rw [← hS2, ByteArray.size_append]; exact Nat.add_le_add_right hST 5); have HE2 : Aside0 (S2.data.toList = printN L i ++ [32, 97, 110, 100, 32]) := ⟨by rw [← hS2, ByteArray.data_append, Array.toList_append, HE.out]⟩; clear hS2 hST
          obtain ⟨bLo, hLo, sLo, cLo⟩ : ∃ b : ByteArray, b.data.toList = Lib.itoa p.f2 ∧ b.size ≤ 21 ∧ ∀ q : BelowP W2, Calls Tryd.prog 42 #[.int .i64 p.f2] q.w fun e w' => e = .returned (.string b) ∧ Below q.w.heap.size q.w w' := ⟨⟨(Lib.itoa p.f2).toArray⟩, rfl, (by show (Lib.itoa p.f2).toArray.size ≤ 21; rw [List.size_toArray]; exact Lib.itoa_length_le p.f2 hRR.out.1 hRR.out.2.1), fun q => itoa_calls _ hRR.out.1 hRR.out.2.1 _ (hTW.below q.h)⟩
          obtain ⟨bHi, hHi, sHi, cHi⟩ : ∃ b : ByteArray, b.data.toList = Lib.itoa p.f3 ∧ b.size ≤ 21 ∧ ∀ q : BelowP W2, Calls Tryd.prog 42 #[.int .i64 p.f3] q.w fun e w' => e = .returned (.string b) ∧ Below q.w.heap.size q.w w' := ⟨⟨(Lib.itoa p.f3).toArray⟩, rfl, (by show (Lib.itoa p.f3).toArray.size ≤ 21; rw [List.size_toArray]; exact Lib.itoa_length_le p.f3 hRR.out.2.2.1 hRR.out.2.2.2), fun q => itoa_calls _ hRR.out.2.2.1 hRR.out.2.2.2 _ (hTW.below q.h)⟩
          have HLo := Aside0.mk hLo
          have HHi := Aside0.mk hHi
          have HCL := Aside0.mk cLo
          have HCH := Aside0.mk cHi
          clear hLo hHi cLo cHi
          have z1 : (9223372036854775807 < p.f0.size + 4) = False := eq_false (by omega)
          have z2 : (9223372036854775807 < p.f0.size + 4 + bLo.size) = False := eq_false (by omega)
          have z3 : (9223372036854775807 < p.f0.size + 4 + bLo.size + 2) = False := eq_false (by omega)
          have z4 : (9223372036854775807 < p.f0.size + 4 + bLo.size + 2 + bHi.size) = False := eq_false (by omega)
          have z5 : (9223372036854775807 < S2.size + (p.f0.size + 4 + bLo.size + 2 + bHi.size)) = False := eq_false (by omega)
          clear hF0 hSz sLo sHi
          refine wp_region_quiet_below (by kernel_rfl) (by kernel_rfl) ?_
          repeat (quiet_step ((go_at_call 42; first | (with_reducible refine Calls.below_of (HCL.out _)) | (with_reducible refine Calls.below_of (HCH.out _)))))
          refine wpQuiet_nil ?_
          rintro _ ⟨pq, rfl⟩
          go_wp2
          go_roundg (gk - 1)
          case measure => have := HN.out; omega
          case rel => exact ⟨i + 1, _, ⟨by have := HN.out; omega, by have := HN.out; omega⟩, ⟨by rw [ByteArray.data_append, Array.toList_append, HE2.out, HN2.out]; simp [pstep, predL, ho1, HLo.out, HHi.out, ByteArray.data_append, HI0.out]⟩, rfl, rfl, ⟨below_then HB.out HB.out.size pq.h⟩⟩
        · have d1 : (p.f1 == 1) = false := by simp [ho1]
          by_cases ho2 : p.f1 = 2
          · have d2 : (p.f1 == 2) = true := by simp [ho2]
            go_wp2_with fail
            generalize hW : wr.alloc (Obj.cells #[.string p.f0, .int .i64 2, .int .i64 p.f2, .int .i64 p.f3, .string p.f4] 46) = W2
            have HK : W2.heap[wr.heap.size]? = some (.cells #[.string p.f0, .int .i64 2, .int .i64 p.f2, .int .i64 p.f3, .string p.f4] 46 (0, 0)) := by rw [← hW]; exact blk_new wr _
            have n_ := Aside0.mk (show Below w.heap.size w W2 by rw [← hW]; exact below_alloc HB.out _)
            clear HB hW h0 h1 h2 h3 h4
            have HB := n_
            clear n_
            have hTW : TabI W2 := TabI.below HT.out HB.out
            generalize wr.heap.size = gb at HK ⊢
            have q0 : ∀ q : BelowP W2, q.w.cell? ⟨gb, 0, none⟩ = some (.string p.f0) := fun q => q.cell ((blk_cell HK 0).trans rfl)
            have q2 : ∀ q : BelowP W2, q.w.cell? ⟨gb, 2, none⟩ = some (.int .i64 p.f2) := fun q => q.cell ((blk_cell HK 2).trans rfl)
            have q3 : ∀ q : BelowP W2, q.w.cell? ⟨gb, 3, none⟩ = some (.int .i64 p.f3) := fun q => q.cell ((blk_cell HK 3).trans rfl)
            have q4 : ∀ q : BelowP W2, q.w.cell? ⟨gb, 4, none⟩ = some (.string p.f4) := fun q => q.cell ((blk_cell HK 4).trans rfl)
            clear HK
            generalize hS2 : S ++ ⟨#[32, 97, 110, 100, 32]⟩ = S2; have hSz : S2.size ≤ 1000000005 := (by rw [← hS2, ByteArray.size_append]; exact Nat.add_le_add_right hST 5); have HE2 : Aside0 (S2.data.toList = printN L i ++ [32, 97, 110, 100, 32]) := ⟨by rw [← hS2, ByteArray.data_append, Array.toList_append, HE.out]⟩; clear hS2 hST
            have hF4 : p.f4.size ≤ 1000000000 := Nat.le_trans (predL_str p ho1) hPL.out
            obtain ⟨bq, hq, sq, cq⟩ : ∃ b : ByteArray, b.data.toList = quotedL p.f4 ∧ b.size ≤ 2000000002 ∧ ∀ q : BelowP W2, Calls Tryd.prog 43 #[.string p.f4] q.w fun e w' => e = .returned (.string b) ∧ Below q.w.heap.size q.w w' := ⟨⟨(34 :: quoteL p.f4.data.toList ++ [34]).toArray⟩, rfl, (by show (34 :: quoteL p.f4.data.toList ++ [34]).toArray.size ≤ _; rw [List.size_toArray]; have h1 := quoteL_len p.f4.data.toList; have h2 : p.f4.size = p.f4.data.toList.length := (by rw [Array.length_toList]; rfl); simp only [List.length_append, List.length_cons, List.length_nil]; omega), fun q => quote_calls p.f4 q.w hF4⟩
            have HQ := Aside0.mk hq
            have HCQ := Aside0.mk cq
            clear hq cq hF4
            have z1 : (9223372036854775807 < p.f0.size + 3) = False := eq_false (by omega)
            have z2 : (9223372036854775807 < p.f0.size + 3 + bq.size) = False := eq_false (by omega)
            have z3 : (9223372036854775807 < S2.size + (p.f0.size + 3 + bq.size)) = False := eq_false (by omega)
            clear hF0 hSz sq
            refine wp_region_quiet_below (by kernel_rfl) (by kernel_rfl) ?_
            repeat (quiet_step ((go_at_call 43; (with_reducible refine Calls.below_of (HCQ.out _)))))
            refine wpQuiet_nil ?_
            rintro _ ⟨pq, rfl⟩
            go_wp2
            go_roundg (gk - 1)
            case measure => have := HN.out; omega
            case rel => exact ⟨i + 1, _, ⟨by have := HN.out; omega, by have := HN.out; omega⟩, ⟨by rw [ByteArray.data_append, Array.toList_append, HE2.out, HN2.out]; simp [pstep, predL, ho1, HQ.out, ByteArray.data_append, HI0.out, ho2]⟩, rfl, rfl, ⟨below_then HB.out HB.out.size pq.h⟩⟩
          · have d2 : (p.f1 == 2) = false := by simp [ho2]
            go_wp2_with fail
            generalize hW : wr.alloc (Obj.cells #[.string p.f0, .int .i64 p.f1, .int .i64 p.f2, .int .i64 p.f3, .string p.f4] 46) = W2
            have HK : W2.heap[wr.heap.size]? = some (.cells #[.string p.f0, .int .i64 p.f1, .int .i64 p.f2, .int .i64 p.f3, .string p.f4] 46 (0, 0)) := by rw [← hW]; exact blk_new wr _
            have n_ := Aside0.mk (show Below w.heap.size w W2 by rw [← hW]; exact below_alloc HB.out _)
            clear HB hW h0 h1 h2 h3 h4
            have HB := n_
            clear n_
            have hTW : TabI W2 := TabI.below HT.out HB.out
            generalize wr.heap.size = gb at HK ⊢
            have q0 : ∀ q : BelowP W2, q.w.cell? ⟨gb, 0, none⟩ = some (.string p.f0) := fun q => q.cell ((blk_cell HK 0).trans rfl)
            have q2 : ∀ q : BelowP W2, q.w.cell? ⟨gb, 2, none⟩ = some (.int .i64 p.f2) := fun q => q.cell ((blk_cell HK 2).trans rfl)
            have q3 : ∀ q : BelowP W2, q.w.cell? ⟨gb, 3, none⟩ = some (.int .i64 p.f3) := fun q => q.cell ((blk_cell HK 3).trans rfl)
            have q4 : ∀ q : BelowP W2, q.w.cell? ⟨gb, 4, none⟩ = some (.string p.f4) := fun q => q.cell ((blk_cell HK 4).trans rfl)
            clear HK
            generalize hS2 : S ++ ⟨#[32, 97, 110, 100, 32]⟩ = S2; have hSz : S2.size ≤ 1000000005 := (by rw [← hS2, ByteArray.size_append]; exact Nat.add_le_add_right hST 5); have HE2 : Aside0 (S2.data.toList = printN L i ++ [32, 97, 110, 100, 32]) := ⟨by rw [← hS2, ByteArray.data_append, Array.toList_append, HE.out]⟩; clear hS2 hST
            have hF4 : p.f4.size ≤ 1000000000 := Nat.le_trans (predL_str p ho1) hPL.out
            obtain ⟨bq, hq, sq, cq⟩ : ∃ b : ByteArray, b.data.toList = quotedL p.f4 ∧ b.size ≤ 2000000002 ∧ ∀ q : BelowP W2, Calls Tryd.prog 43 #[.string p.f4] q.w fun e w' => e = .returned (.string b) ∧ Below q.w.heap.size q.w w' := ⟨⟨(34 :: quoteL p.f4.data.toList ++ [34]).toArray⟩, rfl, (by show (34 :: quoteL p.f4.data.toList ++ [34]).toArray.size ≤ _; rw [List.size_toArray]; have h1 := quoteL_len p.f4.data.toList; have h2 : p.f4.size = p.f4.data.toList.length := (by rw [Array.length_toList]; rfl); simp only [List.length_append, List.length_cons, List.length_nil]; omega), fun q => quote_calls p.f4 q.w hF4⟩
            have HQ := Aside0.mk hq
            have HCQ := Aside0.mk cq
            clear hq cq hF4
            have z1 : (9223372036854775807 < p.f0.size + 4) = False := eq_false (by omega)
            have z2 : (9223372036854775807 < p.f0.size + 4 + bq.size) = False := eq_false (by omega)
            have z3 : (9223372036854775807 < S2.size + (p.f0.size + 4 + bq.size)) = False := eq_false (by omega)
            clear hF0 hSz sq
            refine wp_region_quiet_below (by kernel_rfl) (by kernel_rfl) ?_
            repeat (quiet_step ((go_at_call 43; (with_reducible refine Calls.below_of (HCQ.out _)))))
            refine wpQuiet_nil ?_
            rintro _ ⟨pq, rfl⟩
            go_wp2
            go_roundg (gk - 1)
            case measure => have := HN.out; omega
            case rel => exact ⟨i + 1, _, ⟨by have := HN.out; omega, by have := HN.out; omega⟩, ⟨by rw [ByteArray.data_append, Array.toList_append, HE2.out, HN2.out]; simp [pstep, predL, ho1, HQ.out, ByteArray.data_append, HI0.out, ho2]⟩, rfl, rfl, ⟨below_then HB.out HB.out.size pq.h⟩⟩
    · have b1 : decide ((i : Int) < (n : Int)) = false := decide_eq_false (by omega)
      have hin : i = n := by have := HN.out; omega
      go_wp2
      go_ret
      refine ⟨?_, HB.out⟩
      have hS : S = ⟨(printN L n).toArray⟩ := by
        rw [← hin, ← HE.out]
      rw [← hS]
      rfl
end Go.Proofs.YthaapijjjgkacaaDoor.Mine
