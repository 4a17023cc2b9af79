/- Texts of one claim, one behind the other, made short by a program. -/
import Derived.Test.YtnmpijbcajclgaaGreatDoorMN13
import Derived.Lib.SmallJoins
import Derived.Lib.AppendIntMem
import Derived.Lib.ItoaLen
import Derived.StillTailTactics
import Derived.Sort.OwnSorted
import Derived.Lib.RowBridge
import Derived.Shelf.Slices.In.SortNone
set_option linter.unusedSimpArgs false
set_option linter.unusedVariables false
set_option maxRecDepth 100000
section
namespace Go.Proofs.YtnmpijbcajclgaaGreatDoor.Mine
open Go.RowKit YtnmpijbcajclgaaGreatDoorW.PrintWords YtnmpijbcajclgaaGreatDoorW.PrintLast YtnmpijbcajclgaaGreatDoorW.PrintMore
open PNodeAlone
def quotedL (s : ByteArray) : List UInt8 := 34 :: quoteL s.data.toList ++ [34]
def predL (p : S168) : List UInt8 :=
 if p.f1 = 1 then p.f0.data.toList ++ [32, 105, 110, 32] ++ Lib.itoa p.f2 ++ [46, 46] ++ Lib.itoa p.f3
 else if p.f1 = 2 then p.f0.data.toList ++ [32, 61, 32] ++ quotedL p.f4
 else p.f0.data.toList ++ [32, 94, 61, 32] ++ quotedL p.f4
def pstep (i : Nat) (p : S168) : List UInt8 := (if i = 0 then [] else [32, 97, 110, 100, 32]) ++ predL p
def printN (L : List S168) : Nat → List UInt8
 | 0 => []
 | i + 1 => printN L i ++ pstep i (L.getD i z168)
theorem printN_mono (L : List S168) {i j : Nat} (h : i ≤ j) : (printN L i).length ≤ (printN L j).length := by
 induction j with
 | zero =>
  obtain rfl : i = 0 := by omega
  exact Nat.le_refl _
 | succ j ih =>
  by_cases hi : i = j + 1
  ·
   rw [hi]
   exact Nat.le_refl _
  ·
   have := ih (by omega)
   show _ ≤ (printN L j ++ _).length
   rw [List.length_append]
   omega
theorem quoteL_ge (l : List UInt8) : l.length ≤ (quoteL l).length := by
 induction l with
 | nil => simp
 | cons c r ih =>
  have : quoteL (c :: r) = (if c = 34 ∨ c = 92 then [92, c] else [c]) ++ quoteL r := rfl
  rw [this, List.length_append, List.length_cons]
  by_cases h : c = 34 ∨ c = 92
  ·
   rw [if_pos h]; simp only [List.length_cons, List.length_nil]; omega
  ·
   rw [if_neg h]; simp only [List.length_cons, List.length_nil]; omega
theorem predL_name (p : S168) : p.f0.size ≤ (predL p).length := by
 have e : p.f0.size = p.f0.data.toList.length := by rw [Array.length_toList]; rfl
 unfold predL
 split
 ·
  simp only [List.length_append]; omega
 ·
  split
  ·
   simp only [List.length_append]; omega
  ·
   simp only [List.length_append]; omega
theorem predL_str (p : S168) (h : p.f1 ≠ 1) : p.f4.size ≤ (predL p).length := by
 have e : p.f4.size = p.f4.data.toList.length := by rw [Array.length_toList]; rfl
 have := quoteL_ge p.f4.data.toList
 unfold predL quotedL
 rw [if_neg h]
 split
 ·
  simp only [List.length_append, List.length_cons]; omega
 ·
  simp only [List.length_append, List.length_cons]; omega
def TabI (w : World) : Prop := Lib.TabIs Tryz.prog w "internal/strconv.uint64pow10" .u64 Lib.pow10Tab
theorem TabI.below {w w' : World} (h : TabI w) (hb : Below w.heap.size w w') : TabI w' := Go.Joins.tab_stays (by kernel_rfl : Tryz.prog.globalNamed "internal/strconv.uint64pow10" = some 1) h hb (Nat.le_refl _)
theorem itoa_calls (n : Int) (h0 : -9223372036854775808 ≤ n) (h1 : n ≤ 9223372036854775807) (w : World) (hT : TabI w) : Calls Tryz.prog 91 #[.int .i64 n] w fun e w' => e = .returned (.string ⟨(Lib.itoa n).toArray⟩) ∧ Below w.heap.size w w' :=
 (Any.strconv_Itoa Tryz.laysM171 n h0 h1 w hT).mono fun _ _ ⟨he, k, os, hw⟩ => ⟨he, by rw [hw]; exact Lib.below_grow _ _ (Nat.le_refl _) _ _⟩
set_option maxHeartbeats 4000000 in
theorem print_calls (A : Option Addr) (n c : Nat) (L : List S168) (w : World) (hn : L.length = n) (hr : Kd.C k168 w A n L) (hT : TabI w) (hb : ∀ p ∈ L, -9223372036854775808 ≤ p.f2 ∧ p.f2 ≤ 9223372036854775807 ∧ -9223372036854775808 ≤ p.f3 ∧ p.f3 ≤ 9223372036854775807)
 (hs : (printN L n).length ≤ 1000000000) (hn2 : n ≤ 1000000) :
 Calls Tryz.prog 43 #[.slice A n c] w fun e w' => e = .returned (.string ⟨(printN L n).toArray⟩) ∧ Below w.heap.size w w' := by
 have HR := mk0 hr
 have HT := mk0 hT
 have HM := mk0 hb
 have HS := mk0 hs
 have HNL := mk0 hn
 clear hr hT hb hs hn
 go_enter Tryz.func43, Tryz.ntmps43
 go_wp2_with fail
 go_loopg [3, 4, 5, 8] (n + 1) (fun k v3 v4 v5 v8 W => ∃ (i : Nat) (S : ByteArray), Aside0 (i ≤ n ∧ k + i = n + 1) ∧ Aside0 (S.data.toList = printN L i) ∧ v3 = .string S ∧ v8 = .int .i64 i ∧ Aside0 (Below w.heap.size w W))
 case atStart => exact ⟨0, ⟨#[]⟩, ⟨by omega, by omega⟩, ⟨rfl⟩, rfl, rfl, ⟨Below.refl _ _⟩⟩
 case round =>
  obtain ⟨i, S, HN, HE, rfl, rfl, HB⟩ := hrel
  by_cases hi : i < n
  ·
   have b1 : decide ((i : Int) < (n : Int)) = true := decide_eq_true (by omega)
   have p1 : (0 : Int) ≤ (i : Int) := by omega
   have p2 : (i : Int) < (n : Int) := by omega
   obtain ⟨ad, e, h0, h1, h2, h3, h4⟩ := at_T168 HR.out i p1 p2
   cases e
   rw [Int.toNat_natCast] at h0 h1 h2 h3 h4
   replace h0 := (HB.out.cell (World.block_lt_of_cell? w _ h0)).trans h0
   replace h1 := (HB.out.cell (World.block_lt_of_cell? w _ h1)).trans h1
   replace h2 := (HB.out.cell (World.block_lt_of_cell? w _ h2)).trans h2
   replace h3 := (HB.out.cell (World.block_lt_of_cell? w _ h3)).trans h3
   replace h4 := (HB.out.cell (World.block_lt_of_cell? w _ h4)).trans h4
   have hrd : rd_T168 L (i : Int) = L.getD i z168 := rfl
   rw [hrd] at h0 h1 h2 h3 h4
   have hmem : L.getD i z168 ∈ L := by
    rw [List.getD_eq_getElem?_getD, List.getElem?_eq_getElem (by have := HNL.out; omega)]
    exact List.getElem_mem _
   have hrange := HM.out _ hmem
   have hT : (printN L i).length + (pstep i (L.getD i z168)).length ≤ 1000000000 := by
    have h5 : (printN L (i + 1)).length ≤ _ := printN_mono L (show i + 1 ≤ n by omega)
    have h6 := HS.out
    have h7 : printN L (i + 1) = printN L i ++ pstep i (L.getD i z168) := rfl
    rw [h7, List.length_append] at h5
    omega
   have HN2 := mk0 (show printN L (i + 1) = printN L i ++ pstep i (L.getD i z168) from rfl)
   generalize L.getD i z168 = p at h0 h1 h2 h3 h4 hrange hT HN2
   obtain ⟨r1, r2, r3, r4⟩ := hrange
   have hST : S.size ≤ 1000000000 := by
    have : S.size = S.data.toList.length := by rw [Array.length_toList]; rfl
    rw [HE.out] at this
    omega
   have hpl : (predL p).length ≤ 1000000000 := by
    unfold pstep at hT
    rw [List.length_append] at hT
    omega
   have hF0 : p.f0.size ≤ 1000000000 := Nat.le_trans (predL_name p) hpl
   have hRR := mk0 (And.intro r1 (And.intro r2 (And.intro r3 r4)))
   have hPL := mk0 hpl
   clear hT hpl r1 r2 r3 r4 hmem hrd
   by_cases hi0 : i = 0
   ·
    have c1 : decide (0 < i) = false := decide_eq_false (by omega)
    have c2 : decide ((0 : Int) < (i : Int)) = false := decide_eq_false (by omega)
    have HI0 := mk0 hi0
    clear hi0
    by_cases ho1 : p.f1 = 1
    ·
     have d1 : (p.f1 == 1) = true := by simp [ho1]
     go_wp2_with fail
     generalize hW : wr.alloc (Obj.cells #[.string p.f0, .int .i64 1, .int .i64 p.f2, .int .i64 p.f3, .string p.f4] 168) = W2
     have HK : W2.heap[wr.heap.size]? = some (.cells #[.string p.f0, .int .i64 1, .int .i64 p.f2, .int .i64 p.f3, .string p.f4] 168 (0, 0)) := by rw [← hW]; exact blk_new wr _
     have n_ := mk0 (show Below w.heap.size w W2 by rw [← hW]; exact below_alloc HB.out _)
     clear HB hW h0 h1 h2 h3 h4
     have HB := n_
     clear n_
     have hTW : TabI W2 := TabI.below HT.out HB.out
     generalize wr.heap.size = gb at HK ⊢
     have q0 : ∀ q : BelowP W2, q.w.cell? ⟨gb, 0, none⟩ = some (.string p.f0) := fun q => q.cell ((blk_cell HK 0).trans rfl)
     have q2 : ∀ q : BelowP W2, q.w.cell? ⟨gb, 2, none⟩ = some (.int .i64 p.f2) := fun q => q.cell ((blk_cell HK 2).trans rfl)
     have q3 : ∀ q : BelowP W2, q.w.cell? ⟨gb, 3, none⟩ = some (.int .i64 p.f3) := fun q => q.cell ((blk_cell HK 3).trans rfl)
     have q4 : ∀ q : BelowP W2, q.w.cell? ⟨gb, 4, none⟩ = some (.string p.f4) := fun q => q.cell ((blk_cell HK 4).trans rfl)
     clear HK
     have hSz : S.size ≤ 1000000005 := (by omega); have HE2 : Aside0 (S.data.toList = printN L i ++ []) := ⟨by rw [List.append_nil]; exact HE.out⟩; clear hST HE; generalize S = S2 at HE2 hSz ⊢
     obtain ⟨bLo, hLo, sLo, cLo⟩ : ∃ b : ByteArray, b.data.toList = Lib.itoa p.f2 ∧ b.size ≤ 21 ∧ ∀ q : BelowP W2, Calls Tryz.prog 91 #[.int .i64 p.f2] q.w fun e w' => e = .returned (.string b) ∧ Below q.w.heap.size q.w w' := ⟨⟨(Lib.itoa p.f2).toArray⟩, rfl, (by show (Lib.itoa p.f2).toArray.size ≤ 21; rw [List.size_toArray]; exact Lib.itoa_length_le p.f2 hRR.out.1 hRR.out.2.1), fun q => itoa_calls _ hRR.out.1 hRR.out.2.1 _ (hTW.below q.h)⟩
     obtain ⟨bHi, hHi, sHi, cHi⟩ : ∃ b : ByteArray, b.data.toList = Lib.itoa p.f3 ∧ b.size ≤ 21 ∧ ∀ q : BelowP W2, Calls Tryz.prog 91 #[.int .i64 p.f3] q.w fun e w' => e = .returned (.string b) ∧ Below q.w.heap.size q.w w' := ⟨⟨(Lib.itoa p.f3).toArray⟩, rfl, (by show (Lib.itoa p.f3).toArray.size ≤ 21; rw [List.size_toArray]; exact Lib.itoa_length_le p.f3 hRR.out.2.2.1 hRR.out.2.2.2), fun q => itoa_calls _ hRR.out.2.2.1 hRR.out.2.2.2 _ (hTW.below q.h)⟩
     have HLo := mk0 hLo
     have HHi := mk0 hHi
     have HCL := mk0 cLo
     have HCH := mk0 cHi
     clear hLo hHi cLo cHi
     have z1 : (9223372036854775807 < p.f0.size + 4) = False := eq_false (by omega)
     have z2 : (9223372036854775807 < p.f0.size + 4 + bLo.size) = False := eq_false (by omega)
     have z3 : (9223372036854775807 < p.f0.size + 4 + bLo.size + 2) = False := eq_false (by omega)
     have z4 : (9223372036854775807 < p.f0.size + 4 + bLo.size + 2 + bHi.size) = False := eq_false (by omega)
     have z5 : (9223372036854775807 < S2.size + (p.f0.size + 4 + bLo.size + 2 + bHi.size)) = False := eq_false (by omega)
     clear hF0 hSz sLo sHi
     refine wp_region_quiet_below (by kernel_rfl) (by kernel_rfl) ?_
     repeat (quiet_step ((go_at_call 91; first | (with_reducible refine Calls.below_of (HCL.out _)) | (with_reducible refine Calls.below_of (HCH.out _)))))
     refine wpQuiet_nil ?_
     rintro _ ⟨pq, rfl⟩
     go_wp2
     go_roundg (gk - 1)
     case measure => have := HN.out; omega
     case rel => exact ⟨i + 1, _, ⟨by have := HN.out; omega, by have := HN.out; omega⟩, ⟨by rw [ByteArray.data_append, Array.toList_append, HE2.out, HN2.out]; simp [pstep, predL, ho1, HLo.out, HHi.out, ByteArray.data_append, HI0.out]⟩, rfl, rfl, ⟨below_then HB.out HB.out.size pq.h⟩⟩
    ·
     have d1 : (p.f1 == 1) = false := by simp [ho1]
     by_cases ho2 : p.f1 = 2
     ·
      have d2 : (p.f1 == 2) = true := by simp [ho2]
      go_wp2_with fail
      generalize hW : wr.alloc (Obj.cells #[.string p.f0, .int .i64 2, .int .i64 p.f2, .int .i64 p.f3, .string p.f4] 168) = W2
      have HK : W2.heap[wr.heap.size]? = some (.cells #[.string p.f0, .int .i64 2, .int .i64 p.f2, .int .i64 p.f3, .string p.f4] 168 (0, 0)) := by rw [← hW]; exact blk_new wr _
      have n_ := mk0 (show Below w.heap.size w W2 by rw [← hW]; exact below_alloc HB.out _)
      clear HB hW h0 h1 h2 h3 h4
      have HB := n_
      clear n_
      have hTW : TabI W2 := TabI.below HT.out HB.out
      generalize wr.heap.size = gb at HK ⊢
      have q0 : ∀ q : BelowP W2, q.w.cell? ⟨gb, 0, none⟩ = some (.string p.f0) := fun q => q.cell ((blk_cell HK 0).trans rfl)
      have q2 : ∀ q : BelowP W2, q.w.cell? ⟨gb, 2, none⟩ = some (.int .i64 p.f2) := fun q => q.cell ((blk_cell HK 2).trans rfl)
      have q3 : ∀ q : BelowP W2, q.w.cell? ⟨gb, 3, none⟩ = some (.int .i64 p.f3) := fun q => q.cell ((blk_cell HK 3).trans rfl)
      have q4 : ∀ q : BelowP W2, q.w.cell? ⟨gb, 4, none⟩ = some (.string p.f4) := fun q => q.cell ((blk_cell HK 4).trans rfl)
      clear HK
      have hSz : S.size ≤ 1000000005 := (by omega); have HE2 : Aside0 (S.data.toList = printN L i ++ []) := ⟨by rw [List.append_nil]; exact HE.out⟩; clear hST HE; generalize S = S2 at HE2 hSz ⊢
      have hF4 : p.f4.size ≤ 1000000000 := Nat.le_trans (predL_str p ho1) hPL.out
      obtain ⟨bq, hq, sq, cq⟩ : ∃ b : ByteArray, b.data.toList = quotedL p.f4 ∧ b.size ≤ 2000000002 ∧ ∀ q : BelowP W2, Calls Tryz.prog 92 #[.string p.f4] q.w fun e w' => e = .returned (.string b) ∧ Below q.w.heap.size q.w w' := ⟨⟨(34 :: quoteL p.f4.data.toList ++ [34]).toArray⟩, rfl, (by show (34 :: quoteL p.f4.data.toList ++ [34]).toArray.size ≤ _; rw [List.size_toArray]; have h1 := quoteL_len p.f4.data.toList; have h2 : p.f4.size = p.f4.data.toList.length := (by rw [Array.length_toList]; rfl); simp only [List.length_append, List.length_cons, List.length_nil]; omega), fun q => quote_calls p.f4 q.w hF4⟩
      have HQ := mk0 hq
      have HCQ := mk0 cq
      clear hq cq hF4
      have z1 : (9223372036854775807 < p.f0.size + 3) = False := eq_false (by omega)
      have z2 : (9223372036854775807 < p.f0.size + 3 + bq.size) = False := eq_false (by omega)
      have z3 : (9223372036854775807 < S2.size + (p.f0.size + 3 + bq.size)) = False := eq_false (by omega)
      clear hF0 hSz sq
      refine wp_region_quiet_below (by kernel_rfl) (by kernel_rfl) ?_
      repeat (quiet_step ((go_at_call 92; (with_reducible refine Calls.below_of (HCQ.out _)))))
      refine wpQuiet_nil ?_
      rintro _ ⟨pq, rfl⟩
      go_wp2
      go_roundg (gk - 1)
      case measure => have := HN.out; omega
      case rel => exact ⟨i + 1, _, ⟨by have := HN.out; omega, by have := HN.out; omega⟩, ⟨by rw [ByteArray.data_append, Array.toList_append, HE2.out, HN2.out]; simp [pstep, predL, ho1, HQ.out, ByteArray.data_append, HI0.out, ho2]⟩, rfl, rfl, ⟨below_then HB.out HB.out.size pq.h⟩⟩
     ·
      have d2 : (p.f1 == 2) = false := by simp [ho2]
      go_wp2_with fail
      generalize hW : wr.alloc (Obj.cells #[.string p.f0, .int .i64 p.f1, .int .i64 p.f2, .int .i64 p.f3, .string p.f4] 168) = W2
      have HK : W2.heap[wr.heap.size]? = some (.cells #[.string p.f0, .int .i64 p.f1, .int .i64 p.f2, .int .i64 p.f3, .string p.f4] 168 (0, 0)) := by rw [← hW]; exact blk_new wr _
      have n_ := mk0 (show Below w.heap.size w W2 by rw [← hW]; exact below_alloc HB.out _)
      clear HB hW h0 h1 h2 h3 h4
      have HB := n_
      clear n_
      have hTW : TabI W2 := TabI.below HT.out HB.out
      generalize wr.heap.size = gb at HK ⊢
      have q0 : ∀ q : BelowP W2, q.w.cell? ⟨gb, 0, none⟩ = some (.string p.f0) := fun q => q.cell ((blk_cell HK 0).trans rfl)
      have q2 : ∀ q : BelowP W2, q.w.cell? ⟨gb, 2, none⟩ = some (.int .i64 p.f2) := fun q => q.cell ((blk_cell HK 2).trans rfl)
      have q3 : ∀ q : BelowP W2, q.w.cell? ⟨gb, 3, none⟩ = some (.int .i64 p.f3) := fun q => q.cell ((blk_cell HK 3).trans rfl)
      have q4 : ∀ q : BelowP W2, q.w.cell? ⟨gb, 4, none⟩ = some (.string p.f4) := fun q => q.cell ((blk_cell HK 4).trans rfl)
      clear HK
      have hSz : S.size ≤ 1000000005 := (by omega); have HE2 : Aside0 (S.data.toList = printN L i ++ []) := ⟨by rw [List.append_nil]; exact HE.out⟩; clear hST HE; generalize S = S2 at HE2 hSz ⊢
      have hF4 : p.f4.size ≤ 1000000000 := Nat.le_trans (predL_str p ho1) hPL.out
      obtain ⟨bq, hq, sq, cq⟩ : ∃ b : ByteArray, b.data.toList = quotedL p.f4 ∧ b.size ≤ 2000000002 ∧ ∀ q : BelowP W2, Calls Tryz.prog 92 #[.string p.f4] q.w fun e w' => e = .returned (.string b) ∧ Below q.w.heap.size q.w w' := ⟨⟨(34 :: quoteL p.f4.data.toList ++ [34]).toArray⟩, rfl, (by show (34 :: quoteL p.f4.data.toList ++ [34]).toArray.size ≤ _; rw [List.size_toArray]; have h1 := quoteL_len p.f4.data.toList; have h2 : p.f4.size = p.f4.data.toList.length := (by rw [Array.length_toList]; rfl); simp only [List.length_append, List.length_cons, List.length_nil]; omega), fun q => quote_calls p.f4 q.w hF4⟩
      have HQ := mk0 hq
      have HCQ := mk0 cq
      clear hq cq hF4
      have z1 : (9223372036854775807 < p.f0.size + 4) = False := eq_false (by omega)
      have z2 : (9223372036854775807 < p.f0.size + 4 + bq.size) = False := eq_false (by omega)
      have z3 : (9223372036854775807 < S2.size + (p.f0.size + 4 + bq.size)) = False := eq_false (by omega)
      clear hF0 hSz sq
      refine wp_region_quiet_below (by kernel_rfl) (by kernel_rfl) ?_
      repeat (quiet_step ((go_at_call 92; (with_reducible refine Calls.below_of (HCQ.out _)))))
      refine wpQuiet_nil ?_
      rintro _ ⟨pq, rfl⟩
      go_wp2
      go_roundg (gk - 1)
      case measure => have := HN.out; omega
      case rel => exact ⟨i + 1, _, ⟨by have := HN.out; omega, by have := HN.out; omega⟩, ⟨by rw [ByteArray.data_append, Array.toList_append, HE2.out, HN2.out]; simp [pstep, predL, ho1, HQ.out, ByteArray.data_append, HI0.out, ho2]⟩, rfl, rfl, ⟨below_then HB.out HB.out.size pq.h⟩⟩
   ·
    have c1 : decide (0 < i) = true := decide_eq_true (by omega)
    have c2 : decide ((0 : Int) < (i : Int)) = true := decide_eq_true (by omega)
    have HI0 := mk0 hi0
    clear hi0
    by_cases ho1 : p.f1 = 1
    ·
     have d1 : (p.f1 == 1) = true := by simp [ho1]
     go_wp2_with fail
     generalize hW : wr.alloc (Obj.cells #[.string p.f0, .int .i64 1, .int .i64 p.f2, .int .i64 p.f3, .string p.f4] 168) = W2
     have HK : W2.heap[wr.heap.size]? = some (.cells #[.string p.f0, .int .i64 1, .int .i64 p.f2, .int .i64 p.f3, .string p.f4] 168 (0, 0)) := by rw [← hW]; exact blk_new wr _
     have n_ := mk0 (show Below w.heap.size w W2 by rw [← hW]; exact below_alloc HB.out _)
     clear HB hW h0 h1 h2 h3 h4
     have HB := n_
     clear n_
     have hTW : TabI W2 := TabI.below HT.out HB.out
     generalize wr.heap.size = gb at HK ⊢
     have q0 : ∀ q : BelowP W2, q.w.cell? ⟨gb, 0, none⟩ = some (.string p.f0) := fun q => q.cell ((blk_cell HK 0).trans rfl)
     have q2 : ∀ q : BelowP W2, q.w.cell? ⟨gb, 2, none⟩ = some (.int .i64 p.f2) := fun q => q.cell ((blk_cell HK 2).trans rfl)
     have q3 : ∀ q : BelowP W2, q.w.cell? ⟨gb, 3, none⟩ = some (.int .i64 p.f3) := fun q => q.cell ((blk_cell HK 3).trans rfl)
     have q4 : ∀ q : BelowP W2, q.w.cell? ⟨gb, 4, none⟩ = some (.string p.f4) := fun q => q.cell ((blk_cell HK 4).trans rfl)
     clear HK
     generalize hS2 : S ++ ⟨#[32, 97, 110, 100, 32]⟩ = S2; have hSz : S2.size ≤ 1000000005 := (by rw [← hS2, ByteArray.size_append]; exact Nat.add_le_add_right hST 5); have HE2 : Aside0 (S2.data.toList = printN L i ++ [32, 97, 110, 100, 32]) := ⟨by rw [← hS2, ByteArray.data_append, Array.toList_append, HE.out]⟩; clear hS2 hST
     obtain ⟨bLo, hLo, sLo, cLo⟩ : ∃ b : ByteArray, b.data.toList = Lib.itoa p.f2 ∧ b.size ≤ 21 ∧ ∀ q : BelowP W2, Calls Tryz.prog 91 #[.int .i64 p.f2] q.w fun e w' => e = .returned (.string b) ∧ Below q.w.heap.size q.w w' := ⟨⟨(Lib.itoa p.f2).toArray⟩, rfl, (by show (Lib.itoa p.f2).toArray.size ≤ 21; rw [List.size_toArray]; exact Lib.itoa_length_le p.f2 hRR.out.1 hRR.out.2.1), fun q => itoa_calls _ hRR.out.1 hRR.out.2.1 _ (hTW.below q.h)⟩
     obtain ⟨bHi, hHi, sHi, cHi⟩ : ∃ b : ByteArray, b.data.toList = Lib.itoa p.f3 ∧ b.size ≤ 21 ∧ ∀ q : BelowP W2, Calls Tryz.prog 91 #[.int .i64 p.f3] q.w fun e w' => e = .returned (.string b) ∧ Below q.w.heap.size q.w w' := ⟨⟨(Lib.itoa p.f3).toArray⟩, rfl, (by show (Lib.itoa p.f3).toArray.size ≤ 21; rw [List.size_toArray]; exact Lib.itoa_length_le p.f3 hRR.out.2.2.1 hRR.out.2.2.2), fun q => itoa_calls _ hRR.out.2.2.1 hRR.out.2.2.2 _ (hTW.below q.h)⟩
     have HLo := mk0 hLo
     have HHi := mk0 hHi
     have HCL := mk0 cLo
     have HCH := mk0 cHi
     clear hLo hHi cLo cHi
     have z1 : (9223372036854775807 < p.f0.size + 4) = False := eq_false (by omega)
     have z2 : (9223372036854775807 < p.f0.size + 4 + bLo.size) = False := eq_false (by omega)
     have z3 : (9223372036854775807 < p.f0.size + 4 + bLo.size + 2) = False := eq_false (by omega)
     have z4 : (9223372036854775807 < p.f0.size + 4 + bLo.size + 2 + bHi.size) = False := eq_false (by omega)
     have z5 : (9223372036854775807 < S2.size + (p.f0.size + 4 + bLo.size + 2 + bHi.size)) = False := eq_false (by omega)
     clear hF0 hSz sLo sHi
     refine wp_region_quiet_below (by kernel_rfl) (by kernel_rfl) ?_
     repeat (quiet_step ((go_at_call 91; first | (with_reducible refine Calls.below_of (HCL.out _)) | (with_reducible refine Calls.below_of (HCH.out _)))))
     refine wpQuiet_nil ?_
     rintro _ ⟨pq, rfl⟩
     go_wp2
     go_roundg (gk - 1)
     case measure => have := HN.out; omega
     case rel => exact ⟨i + 1, _, ⟨by have := HN.out; omega, by have := HN.out; omega⟩, ⟨by rw [ByteArray.data_append, Array.toList_append, HE2.out, HN2.out]; simp [pstep, predL, ho1, HLo.out, HHi.out, ByteArray.data_append, HI0.out]⟩, rfl, rfl, ⟨below_then HB.out HB.out.size pq.h⟩⟩
    ·
     have d1 : (p.f1 == 1) = false := by simp [ho1]
     by_cases ho2 : p.f1 = 2
     ·
      have d2 : (p.f1 == 2) = true := by simp [ho2]
      go_wp2_with fail
      generalize hW : wr.alloc (Obj.cells #[.string p.f0, .int .i64 2, .int .i64 p.f2, .int .i64 p.f3, .string p.f4] 168) = W2
      have HK : W2.heap[wr.heap.size]? = some (.cells #[.string p.f0, .int .i64 2, .int .i64 p.f2, .int .i64 p.f3, .string p.f4] 168 (0, 0)) := by rw [← hW]; exact blk_new wr _
      have n_ := mk0 (show Below w.heap.size w W2 by rw [← hW]; exact below_alloc HB.out _)
      clear HB hW h0 h1 h2 h3 h4
      have HB := n_
      clear n_
      have hTW : TabI W2 := TabI.below HT.out HB.out
      generalize wr.heap.size = gb at HK ⊢
      have q0 : ∀ q : BelowP W2, q.w.cell? ⟨gb, 0, none⟩ = some (.string p.f0) := fun q => q.cell ((blk_cell HK 0).trans rfl)
      have q2 : ∀ q : BelowP W2, q.w.cell? ⟨gb, 2, none⟩ = some (.int .i64 p.f2) := fun q => q.cell ((blk_cell HK 2).trans rfl)
      have q3 : ∀ q : BelowP W2, q.w.cell? ⟨gb, 3, none⟩ = some (.int .i64 p.f3) := fun q => q.cell ((blk_cell HK 3).trans rfl)
      have q4 : ∀ q : BelowP W2, q.w.cell? ⟨gb, 4, none⟩ = some (.string p.f4) := fun q => q.cell ((blk_cell HK 4).trans rfl)
      clear HK
      generalize hS2 : S ++ ⟨#[32, 97, 110, 100, 32]⟩ = S2; have hSz : S2.size ≤ 1000000005 := (by rw [← hS2, ByteArray.size_append]; exact Nat.add_le_add_right hST 5); have HE2 : Aside0 (S2.data.toList = printN L i ++ [32, 97, 110, 100, 32]) := ⟨by rw [← hS2, ByteArray.data_append, Array.toList_append, HE.out]⟩; clear hS2 hST
      have hF4 : p.f4.size ≤ 1000000000 := Nat.le_trans (predL_str p ho1) hPL.out
      obtain ⟨bq, hq, sq, cq⟩ : ∃ b : ByteArray, b.data.toList = quotedL p.f4 ∧ b.size ≤ 2000000002 ∧ ∀ q : BelowP W2, Calls Tryz.prog 92 #[.string p.f4] q.w fun e w' => e = .returned (.string b) ∧ Below q.w.heap.size q.w w' := ⟨⟨(34 :: quoteL p.f4.data.toList ++ [34]).toArray⟩, rfl, (by show (34 :: quoteL p.f4.data.toList ++ [34]).toArray.size ≤ _; rw [List.size_toArray]; have h1 := quoteL_len p.f4.data.toList; have h2 : p.f4.size = p.f4.data.toList.length := (by rw [Array.length_toList]; rfl); simp only [List.length_append, List.length_cons, List.length_nil]; omega), fun q => quote_calls p.f4 q.w hF4⟩
      have HQ := mk0 hq
      have HCQ := mk0 cq
      clear hq cq hF4
      have z1 : (9223372036854775807 < p.f0.size + 3) = False := eq_false (by omega)
      have z2 : (9223372036854775807 < p.f0.size + 3 + bq.size) = False := eq_false (by omega)
      have z3 : (9223372036854775807 < S2.size + (p.f0.size + 3 + bq.size)) = False := eq_false (by omega)
      clear hF0 hSz sq
      refine wp_region_quiet_below (by kernel_rfl) (by kernel_rfl) ?_
      repeat (quiet_step ((go_at_call 92; (with_reducible refine Calls.below_of (HCQ.out _)))))
      refine wpQuiet_nil ?_
      rintro _ ⟨pq, rfl⟩
      go_wp2
      go_roundg (gk - 1)
      case measure => have := HN.out; omega
      case rel => exact ⟨i + 1, _, ⟨by have := HN.out; omega, by have := HN.out; omega⟩, ⟨by rw [ByteArray.data_append, Array.toList_append, HE2.out, HN2.out]; simp [pstep, predL, ho1, HQ.out, ByteArray.data_append, HI0.out, ho2]⟩, rfl, rfl, ⟨below_then HB.out HB.out.size pq.h⟩⟩
     ·
      have d2 : (p.f1 == 2) = false := by simp [ho2]
      go_wp2_with fail
      generalize hW : wr.alloc (Obj.cells #[.string p.f0, .int .i64 p.f1, .int .i64 p.f2, .int .i64 p.f3, .string p.f4] 168) = W2
      have HK : W2.heap[wr.heap.size]? = some (.cells #[.string p.f0, .int .i64 p.f1, .int .i64 p.f2, .int .i64 p.f3, .string p.f4] 168 (0, 0)) := by rw [← hW]; exact blk_new wr _
      have n_ := mk0 (show Below w.heap.size w W2 by rw [← hW]; exact below_alloc HB.out _)
      clear HB hW h0 h1 h2 h3 h4
      have HB := n_
      clear n_
      have hTW : TabI W2 := TabI.below HT.out HB.out
      generalize wr.heap.size = gb at HK ⊢
      have q0 : ∀ q : BelowP W2, q.w.cell? ⟨gb, 0, none⟩ = some (.string p.f0) := fun q => q.cell ((blk_cell HK 0).trans rfl)
      have q2 : ∀ q : BelowP W2, q.w.cell? ⟨gb, 2, none⟩ = some (.int .i64 p.f2) := fun q => q.cell ((blk_cell HK 2).trans rfl)
      have q3 : ∀ q : BelowP W2, q.w.cell? ⟨gb, 3, none⟩ = some (.int .i64 p.f3) := fun q => q.cell ((blk_cell HK 3).trans rfl)
      have q4 : ∀ q : BelowP W2, q.w.cell? ⟨gb, 4, none⟩ = some (.string p.f4) := fun q => q.cell ((blk_cell HK 4).trans rfl)
      clear HK
      generalize hS2 : S ++ ⟨#[32, 97, 110, 100, 32]⟩ = S2; have hSz : S2.size ≤ 1000000005 := (by rw [← hS2, ByteArray.size_append]; exact Nat.add_le_add_right hST 5); have HE2 : Aside0 (S2.data.toList = printN L i ++ [32, 97, 110, 100, 32]) := ⟨by rw [← hS2, ByteArray.data_append, Array.toList_append, HE.out]⟩; clear hS2 hST
      have hF4 : p.f4.size ≤ 1000000000 := Nat.le_trans (predL_str p ho1) hPL.out
      obtain ⟨bq, hq, sq, cq⟩ : ∃ b : ByteArray, b.data.toList = quotedL p.f4 ∧ b.size ≤ 2000000002 ∧ ∀ q : BelowP W2, Calls Tryz.prog 92 #[.string p.f4] q.w fun e w' => e = .returned (.string b) ∧ Below q.w.heap.size q.w w' := ⟨⟨(34 :: quoteL p.f4.data.toList ++ [34]).toArray⟩, rfl, (by show (34 :: quoteL p.f4.data.toList ++ [34]).toArray.size ≤ _; rw [List.size_toArray]; have h1 := quoteL_len p.f4.data.toList; have h2 : p.f4.size = p.f4.data.toList.length := (by rw [Array.length_toList]; rfl); simp only [List.length_append, List.length_cons, List.length_nil]; omega), fun q => quote_calls p.f4 q.w hF4⟩
      have HQ := mk0 hq
      have HCQ := mk0 cq
      clear hq cq hF4
      have z1 : (9223372036854775807 < p.f0.size + 4) = False := eq_false (by omega)
      have z2 : (9223372036854775807 < p.f0.size + 4 + bq.size) = False := eq_false (by omega)
      have z3 : (9223372036854775807 < S2.size + (p.f0.size + 4 + bq.size)) = False := eq_false (by omega)
      clear hF0 hSz sq
      refine wp_region_quiet_below (by kernel_rfl) (by kernel_rfl) ?_
      repeat (quiet_step ((go_at_call 92; (with_reducible refine Calls.below_of (HCQ.out _)))))
      refine wpQuiet_nil ?_
      rintro _ ⟨pq, rfl⟩
      go_wp2
      go_roundg (gk - 1)
      case measure => have := HN.out; omega
      case rel => exact ⟨i + 1, _, ⟨by have := HN.out; omega, by have := HN.out; omega⟩, ⟨by rw [ByteArray.data_append, Array.toList_append, HE2.out, HN2.out]; simp [pstep, predL, ho1, HQ.out, ByteArray.data_append, HI0.out, ho2]⟩, rfl, rfl, ⟨below_then HB.out HB.out.size pq.h⟩⟩
  ·
   have b1 : decide ((i : Int) < (n : Int)) = false := decide_eq_false (by omega)
   have hin : i = n := by have := HN.out; omega
   go_wp2
   go_ret
   refine ⟨?_, HB.out⟩
   have hS : S = ⟨(printN L n).toArray⟩ := by
    rw [← hin, ← HE.out]
   rw [← hS]
   rfl
def Sm (xs : List ByteArray) : Prop := ∀ x ∈ xs, x.size ≤ 2000
theorem Sm.snoc {xs : List ByteArray} {x : ByteArray} (h : Sm xs) (hx : x.size ≤ 2000) : Sm (xs ++ [x]) := fun y hy => by
 rcases List.mem_append.1 hy with hy | hy
 ·
  exact h y hy
 ·
  rw [List.mem_singleton.1 hy]; exact hx
theorem Sm.app {xs ys : List ByteArray} (h : Sm xs) (h2 : Sm ys) : Sm (xs ++ ys) := fun y hy => by
 rcases List.mem_append.1 hy with hy | hy
 ·
  exact h y hy
 ·
  exact h2 y hy
theorem Sm.nil : Sm [] := fun y hy => by cases hy
theorem predL_le {S : List SA} {p : SP} (h : POk S p) : (predL p).length ≤ 150 := by
 have e0 : p.f0.data.toList.length = p.f0.size := by rw [Array.length_toList]; rfl
 have e4 : p.f4.data.toList.length = p.f4.size := by rw [Array.length_toList]; rfl
 have := h.name
 have := h.str
 have := quoteL_len p.f4.data.toList
 have i1 := Lib.itoa_length_le p.f2 (by have := h.lo; omega) (by have := h.lo; omega)
 have i2 := Lib.itoa_length_le p.f3 (by have := h.hi; omega) (by have := h.hi; omega)
 unfold predL quotedL
 split
 ·
  simp only [List.length_append, List.length_cons, List.length_nil]; omega
 ·
  split
  ·
   simp only [List.length_append, List.length_cons, List.length_nil]; omega
  ·
   simp only [List.length_append, List.length_cons, List.length_nil]; omega
theorem printN_le {S : List SA} {F : List SP} (h : ∀ p ∈ F, POk S p) : ∀ i, i ≤ F.length → (printN F i).length ≤ 200 * i := by
 intro i
 induction i with
 | zero => intro _; exact Nat.le_refl _
 | succ i ih =>
  intro hi
  have hm : F.getD i z168 ∈ F := by
   rw [List.getD_eq_getElem?_getD, List.getElem?_eq_getElem (by omega)]
   exact List.getElem_mem _
  have h1 := predL_le (h _ hm)
  have h2 := ih (by omega)
  show (printN F i ++ pstep i (F.getD i z168)).length ≤ _
  unfold pstep
  rw [List.length_append, List.length_append]
  split
  ·
   simp only [List.length_nil]; omega
  ·
   simp only [List.length_cons, List.length_nil]; omega
theorem print_ok (A : Option Addr) (n c : Nat) (S : List SA) (F : List SP) (w : World) (hn : F.length = n) (hr : Kd.C k168 w A n F) (hT : TabI w) (hF : ∀ p ∈ F, POk S p) (h4 : n ≤ 4) :
 ∃ s : ByteArray, ∀ W, Below w.heap.size w W → Calls Tryz.prog 43 #[.slice A n c] W fun e w' => e = .returned (.string s) ∧ Below W.heap.size W w' :=
 ⟨⟨(printN F n).toArray⟩, fun W hb => print_calls A n c F W hn (Kd.C_below hr hb) (hT.below hb) (fun p hp => by have := (hF p hp).lo; have := (hF p hp).hi; omega) (by have := printN_le hF n (by omega); omega) (by omega)⟩
theorem gcheck_calls (A : Option Addr) (n c : Nat) (S : List SA) (l : Int) (w : World) (h0 : 0 ≤ l) (h8 : l ≤ 8) (hn : S.length = n) (hr : Kd.C k30 w A n S) (hck : checkBad S = none) (hcd : n ≤ c) :
 Calls Tryz.prog 93 #[.slice A n c, .int .i64 l] w fun e w' => e = .returned .nilIface ∧ Below w.heap.size w w' := by
 have hl := (checkBad_none hck).2.1
 have HC := mk0 ((check_calls A n c S w hn hr (by omega) hcd).mono (fun e w' hq => CheckPost.ok hq hck))
 have b1 : decide (l < 0) = false := decide_eq_false (by omega)
 have b2 : decide (8 < l) = false := decide_eq_false (by omega)
 clear hr hck hn hl h0 h8
 go_enter Tryz.func93, Tryz.ntmps93
 go_wp2_with fail
 refine HC.out.mono ?_
 rintro e w1 ⟨rfl, hb⟩
 go_wp2
 go_ret
 exact ⟨rfl, hb⟩
theorem gname_calls (nm : ByteArray) (x : S194) (hx : IvOk x) (hn : nm.size ≤ 1000) : ∃ s : ByteArray, s.size ≤ 2000 ∧ ∀ w, TabI w → Calls Tryz.prog 90 #[.string nm, .agg #[.int .i64 x.f0, .int .i64 x.f1]] w fun e w' => e = .returned (.string s) ∧ Below w.heap.size w w' := by
 obtain ⟨b0, s0, c0⟩ : ∃ b : ByteArray, b.size ≤ 21 ∧ ∀ w, TabI w → Calls Tryz.prog 91 #[.int .i64 x.f0] w fun e w' => e = .returned (.string b) ∧ Below w.heap.size w w' := ⟨⟨(Lib.itoa x.f0).toArray⟩, (by show (Lib.itoa x.f0).toArray.size ≤ 21; rw [List.size_toArray]; exact Lib.itoa_length_le x.f0 hx.1.1 hx.1.2), fun w hT => itoa_calls x.f0 hx.1.1 hx.1.2 w hT⟩
 obtain ⟨b1, s1, c1⟩ : ∃ b : ByteArray, b.size ≤ 21 ∧ ∀ w, TabI w → Calls Tryz.prog 91 #[.int .i64 x.f1] w fun e w' => e = .returned (.string b) ∧ Below w.heap.size w w' := ⟨⟨(Lib.itoa x.f1).toArray⟩, (by show (Lib.itoa x.f1).toArray.size ≤ 21; rw [List.size_toArray]; exact Lib.itoa_length_le x.f1 hx.2.1 hx.2.2), fun w hT => itoa_calls x.f1 hx.2.1 hx.2.2 w hT⟩
 refine ⟨nm ++ ⟨#[46]⟩ ++ b0 ++ ⟨#[46]⟩ ++ b1, by (have e1 : (⟨#[46]⟩ : ByteArray).size = 1 := rfl); simp only [ByteArray.size_append, e1]; omega, fun w hT => ?_⟩
 have HC0 := mk0 c0
 have HC1 := mk0 c1
 have HT := mk0 hT
 clear c0 c1 hT hx
 have z1 : (9223372036854775807 < nm.size + 1) = False := eq_false (by omega)
 have z2 : (9223372036854775807 < nm.size + 1 + b0.size) = False := eq_false (by omega)
 have z3 : (9223372036854775807 < nm.size + 1 + b0.size + 1) = False := eq_false (by omega)
 have z4 : (9223372036854775807 < nm.size + 1 + b0.size + 1 + b1.size) = False := eq_false (by omega)
 clear s0 s1 hn
 go_enter Tryz.func90, Tryz.ntmps90
 go_wp2_with fail
 have hb := below_alloc (Below.refl w.heap.size w) (.cells #[.int .i64 x.f0, .int .i64 x.f1] 194)
 have hk := heap_alloc_new w (.cells #[.int .i64 x.f0, .int .i64 x.f1] 194)
 have hTW := TabI.below HT.out hb
 generalize w.alloc (.cells #[.int .i64 x.f0, .int .i64 x.f1] 194) = W2 at hb hk hTW ⊢
 have HB := mk0 hb
 generalize w.heap.size = gb at hk ⊢
 have q0 : ∀ q : BelowP W2, q.w.cell? ⟨gb, 0, none⟩ = some (.int .i64 x.f0) := fun q => q.cell ((blk_cell hk 0).trans rfl)
 have q1 : ∀ q : BelowP W2, q.w.cell? ⟨gb, 1, none⟩ = some (.int .i64 x.f1) := fun q => q.cell ((blk_cell hk 1).trans rfl)
 have HQ0 := mk0 (fun q : BelowP W2 => HC0.out q.w (TabI.below hTW q.h))
 have HQ1 := mk0 (fun q : BelowP W2 => HC1.out q.w (TabI.below hTW q.h))
 clear hb hk hTW HC0 HC1
 refine wp_region_quiet_below (by kernel_rfl) (by kernel_rfl) ?_
 repeat (quiet_step ((go_at_call 91; first | (with_reducible refine Calls.below_of (HQ0.out _)) | (with_reducible refine Calls.below_of (HQ1.out _)))))
 refine wpQuiet_nil ?_
 rintro _ ⟨pq, rfl⟩
 go_wp2
 go_ret
 exact ⟨rfl, below_then HB.out HB.out.size pq.h⟩
set_option maxHeartbeats 8000000 in
theorem choose_calls (A B : Option Addr) (n m c d : Nat) (S : List SA) (F : List SP) (l : Int) (w : World) (h0 : 0 ≤ l) (h8 : l ≤ 8) (hn : S.length = n) (hm : F.length = m) (hr : Kd.C k30 w A n S) (hr2 : Kd.C k168 w B m F) (hck : checkBad S = none) (hfb : filterBad S F = none) (hc : n ≤ c) (hd : m ≤ d) :
 Calls Tryz.prog 86 #[.slice A n c, .slice B m d, .int .i64 l] w fun e w' => (∃ i : Nat, i < m ∧ e = .returned (.tuple #[.int .i64 (i : Int), .nilIface])) ∧ Below w.heap.size w w' := by
 have hn4 := (checkBad_none hck).2.1
 obtain ⟨hm4, hP⟩ := fok hck hfb
 have HP := mk0 hP
 have HS := mk0 hr
 have HF := mk0 hr2
 have HN := mk0 hn
 have HM := mk0 hm
 have HM4 := mk0 (show 1 ≤ m ∧ m ≤ 4 by omega)
 have HN4 := mk0 (show n ≤ 4 by omega)
 have HC1 := mk0 (gcheck_calls A n c S l w h0 h8 hn hr hck hc)
 have HC2 := mk0 (fun W (hb : Below w.heap.size w W) => (filter_calls A B n m c d S F W hn hm (Kd.C_below hr hb) (Kd.C_below hr2 hb) (by omega) (by omega) hd).mono (fun e w' hq => FilterPost.ok hq hfb))
 have HRG := mk0 (fun (a : SA) (p : SP) (ha : AtOk a.f1 a.f2 a.f3) (hs : p.f4.size ≤ 1000000) => range_c a p l h0 h8 ha hs)
 clear hr hr2 hn hm hck hfb hc hd hP hn4 hm4 h0 h8
 go_enter Tryz.func86, Tryz.ntmps86
 go_wp2_with fail
 refine HC1.out.mono ?_
 rintro e w1 ⟨rfl, hb⟩
 have HB := mk0 hb
 clear hb HC1
 go_wp2_with fail
 refine (HC2.out _ HB.out).mono ?_
 rintro e w2 ⟨rfl, hb⟩
 have n_ := mk0 (below_then HB.out HB.out.size hb)
 clear HB hb HC2
 have HB := n_
 clear n_
 go_wp2_with fail
 go_loopg [10, 11, 12, 13, 14, 15, 30] (m + 1) (fun k v10 v11 v12 v13 v14 v15 v30 W => ∃ (i : Nat) (x : Int × Int), Aside0 (i ≤ m ∧ k + i = m + 1 ∧ -1 ≤ x.1 ∧ x.1 < i ∧ (0 < i → 0 ≤ x.1)) ∧ v10 = .int .i64 x.1 ∧ v11 = .int .i64 x.2 ∧ v30 = .int .i64 (i : Int) ∧ Aside0 (Below w.heap.size w W))
 case atStart => exact ⟨0, (-1, 0), ⟨by omega, by omega, by decide, by decide, by omega⟩, rfl, rfl, rfl, HB⟩
 case round =>
  clear HB
  obtain ⟨i, ⟨x1, x2⟩, HI, rfl, rfl, rfl, HB⟩ := hrel
  by_cases hi : i < m
  ·
   have b1 : decide ((i : Int) < (m : Int)) = true := decide_eq_true (by omega)
   have b2 : decide (i < m) = true := decide_eq_true (by omega)
   have p1 : (0 : Int) ≤ (i : Int) := by omega
   have p2 : (i : Int) < (m : Int) := by omega
   obtain ⟨ad, e, k0, k1, k2, k3, k4⟩ := at_T168 (Kd.C_below HF.out HB.out) (i : Int) p1 p2
   cases e
   rw [Int.toNat_natCast] at k0 k1 k2 k3 k4
   have hrd : rd_T168 F (i : Int) = F.getD i z168 := rfl
   rw [hrd] at k0 k1 k2 k3 k4
   have hmem : F.getD i z168 ∈ F := by
    rw [List.getD_eq_getElem?_getD, List.getElem?_eq_getElem (by have := HM.out; omega)]
    exact List.getElem_mem _
   have hp := HP.out _ hmem
   generalize F.getD i z168 = p at k0 k1 k2 k3 k4 hp
   obtain ⟨j, hj⟩ := Int.eq_ofNat_of_zero_le hp.find
   have hjn : j < n := by have := hp.lt; have := HN.out; omega
   have hat := hp.at_
   rw [hj, Int.toNat_natCast] at hat
   obtain ⟨r1, r2, hRG⟩ := HRG.out _ p hat (by have := hp.str; omega)
   have HRC := mk0 hRG
   have HJ := mk0 hj
   clear hmem hrd hp hat hRG hj
   go_wp2_with fail
   generalize hW : wr.alloc (Obj.cells #[.string p.f0, .int .i64 p.f1, .int .i64 p.f2, .int .i64 p.f3, .string p.f4] 168) = W2
   have hb2 : Below wr.heap.size wr W2 := by rw [← hW]; exact below_alloc (Below.refl _ _) _
   have HKP : W2.heap[wr.heap.size]? = some (.cells #[.string p.f0, .int .i64 p.f1, .int .i64 p.f2, .int .i64 p.f3, .string p.f4] 168 (0, 0)) := by rw [← hW]; exact blk_new wr _
   have n_ := mk0 (below_then HB.out HB.out.size hb2)
   clear HB hW hb2 k0 k1 k2 k3 k4
   have HB := n_
   clear n_
   generalize wr.heap.size = gp at HKP ⊢
   obtain ⟨ad2, e, s0, s1, s2, s3⟩ := at_T30 (Kd.C_below HS.out HB.out) (j : Int) (by omega) (by omega)
   cases e
   rw [Int.toNat_natCast] at s0 s1 s2 s3
   have hrd : rd_T30 S (j : Int) = S.getD j z30 := rfl
   rw [hrd] at s0 s1 s2 s3
   have HFC := mk0 (fun q : BelowP W2 => find_calls (some ad2) n c S p.f0 q.w HN.out (Kd.C_below (Kd.C_below HS.out HB.out) q.h) (by have := HN4.out; omega))
   rw [HJ.out] at HFC
   have HRQ := mk0 (fun q : BelowP W2 => HRC.out q.w)
   clear HRC hrd
   generalize S.getD j z30 = a at s0 s1 s2 s3 HRQ
   unfold enc95 enc46 at HRQ
   have q0 : ∀ q : BelowP W2, q.w.cell? ⟨gp, 0, none⟩ = some (.string p.f0) := fun q => q.cell ((blk_cell HKP 0).trans rfl)
   have q1 : ∀ q : BelowP W2, q.w.cell? ⟨gp, 1, none⟩ = some (.int .i64 p.f1) := fun q => q.cell ((blk_cell HKP 1).trans rfl)
   have q2 : ∀ q : BelowP W2, q.w.cell? ⟨gp, 2, none⟩ = some (.int .i64 p.f2) := fun q => q.cell ((blk_cell HKP 2).trans rfl)
   have q3 : ∀ q : BelowP W2, q.w.cell? ⟨gp, 3, none⟩ = some (.int .i64 p.f3) := fun q => q.cell ((blk_cell HKP 3).trans rfl)
   have q4 : ∀ q : BelowP W2, q.w.cell? ⟨gp, 4, none⟩ = some (.string p.f4) := fun q => q.cell ((blk_cell HKP 4).trans rfl)
   have t0 : ∀ q : BelowP W2, q.w.cell? _ = _ := fun q => q.cell s0
   have t1 : ∀ q : BelowP W2, q.w.cell? _ = _ := fun q => q.cell s1
   have t2 : ∀ q : BelowP W2, q.w.cell? _ = _ := fun q => q.cell s2
   have t3 : ∀ q : BelowP W2, q.w.cell? _ = _ := fun q => q.cell s3
   have u1 : (0 : Int) ≤ (j : Int) := by omega
   have u2 : (j : Int) < (n : Int) := by omega
   clear HKP s0 s1 s2 s3 HJ
   refine wp_region_quiet_below (by kernel_rfl) (by kernel_rfl) ?_
   repeat (quiet_step (first | (go_at_call 88; (with_reducible refine Calls.below_of (HFC.out _))) | (go_at_call 87; (with_reducible refine Calls.below_of (HRQ.out _)))))
   refine wpQuiet_nil ?_
   rintro _ ⟨pq, rfl⟩
   clear q0 q1 q2 q3 q4 t0 t1 t2 t3 HFC HRQ
   by_cases c1 : x1 < 0
   ·
    have d1 := decide_eq_true c1
    clear c1
    go_wp2_with fail
    go_roundg (gk - 1)
    case measure => have := HI.out; omega
    case rel => exact ⟨i + 1, ((i : Int), wrap64 (r2 - r1)), ⟨by have := HI.out; omega, by have := HI.out; omega, by have := HI.out; omega, by have := HI.out; omega, by have := HI.out; omega⟩, rfl, rfl, by rw [w64 (by have := HI.out; omega) (by have := HM4.out; have := HI.out; omega)]; rfl, ⟨below_then HB.out HB.out.size pq.h⟩⟩
   ·
    have d1 := decide_eq_false c1
    by_cases c2 : wrap64 (r2 - r1) < x2
    ·
     have d2 := decide_eq_true c2
     clear c2
     go_wp2_with fail
     go_roundg (gk - 1)
     case measure => have := HI.out; omega
     case rel => exact ⟨i + 1, ((i : Int), wrap64 (r2 - r1)), ⟨by have := HI.out; omega, by have := HI.out; omega, by have := HI.out; omega, by have := HI.out; omega, by have := HI.out; omega⟩, rfl, rfl, by rw [w64 (by have := HI.out; omega) (by have := HM4.out; have := HI.out; omega)]; rfl, ⟨below_then HB.out HB.out.size pq.h⟩⟩
    ·
     have d2 := decide_eq_false c2
     clear c2
     go_wp2_with fail
     go_roundg (gk - 1)
     case measure => have := HI.out; omega
     case rel => exact ⟨i + 1, (x1, x2), ⟨by have := HI.out; omega, by have := HI.out; omega, by have := HI.out; omega, by have := HI.out; omega, by have := HI.out; omega⟩, rfl, rfl, by rw [w64 (by have := HI.out; omega) (by have := HM4.out; have := HI.out; omega)]; rfl, ⟨below_then HB.out HB.out.size pq.h⟩⟩
  ·
   have b1 : decide ((i : Int) < (m : Int)) = false := decide_eq_false (by omega)
   have b2 : decide (i < m) = false := decide_eq_false (by omega)
   have hx := HI.out
   have hm1 := HM4.out
   obtain ⟨z, hz⟩ := Int.eq_ofNat_of_zero_le (show 0 ≤ x1 from hx.2.2.2.2 (by omega))
   have hzm : z < m := by omega
   subst hz
   clear hx hm1
   go_wp2
   go_ret2
   exact ⟨⟨z, hzm, rfl⟩, HB.out⟩
theorem infoS : (Tryz.prog.info? 9).map (fun i => (i.zero, i.size, i.bytes)) = some (some (.string ⟨#[]⟩), 1, 16) := by kernel_rfl
set_option maxHeartbeats 8000000 in
theorem of_grp (A B : Option Addr) (n m c d : Nat) (S : List SA) (F : List SP) (l : Int) (w : World) (h0 : 0 ≤ l) (h8 : l ≤ 8) (hn : S.length = n) (hm : F.length = m) (hr : Kd.C k30 w A n S) (hr2 : Kd.C k168 w B m F) (hck : checkBad S = none) (hfb : filterBad S F = none) (hc : n ≤ c) (hd : m ≤ d) (hT : TabI w) :
 Calls Tryz.prog 42 #[.slice A n c, .slice B m d, .int .i64 l] w fun e w' => ∃ v G, e = .returned (.tuple #[v, .nilIface]) ∧ G.length ≤ 256 ∧ Sm G ∧ Kd.R Kd.string 9 w' w.heap.size (fun _ => True) v G ∧ Below w.heap.size w w' := by
 have hn4 := (checkBad_none hck).2.1
 obtain ⟨hm4, hP⟩ := fok hck hfb
 have HP := mk0 hP
 have HS := mk0 hr
 have HF := mk0 hr2
 have HN := mk0 hn
 have HM := mk0 hm
 have HM4 := mk0 (show 1 ≤ m ∧ m ≤ 4 by omega)
 have HN4 := mk0 (show n ≤ 4 by omega)
 have HT := mk0 hT
 have HC1 := mk0 (choose_calls A B n m c d S F l w h0 h8 hn hm hr hr2 hck hfb hc hd)
 have HRG := mk0 (fun (a : SA) (p : SP) (ha : AtOk a.f1 a.f2 a.f3) (hs : p.f4.size ≤ 1000000) => range_c a p l h0 h8 ha hs)
 have HCV := mk0 (fun lo hi => cover_c lo hi l h0 h8)
 clear hr hr2 hn hm hck hfb hc hd hP hn4 hm4 h0 h8 hT
 go_enter Tryz.func42, Tryz.ntmps42
 go_wp2_with fail
 refine HC1.out.mono ?_
 rintro e w1 ⟨⟨i, hi, rfl⟩, hb⟩
 have HB := mk0 hb
 clear hb HC1
 have p1 : (0 : Int) ≤ (i : Int) := by omega
 have p2 : (i : Int) < (m : Int) := by omega
 obtain ⟨ad, e, k0, k1, k2, k3, k4⟩ := at_T168 (Kd.C_below HF.out HB.out) (i : Int) p1 p2
 cases e
 rw [Int.toNat_natCast] at k0 k1 k2 k3 k4
 have hrd : rd_T168 F (i : Int) = F.getD i z168 := rfl
 rw [hrd] at k0 k1 k2 k3 k4
 have hmem : F.getD i z168 ∈ F := by
  rw [List.getD_eq_getElem?_getD, List.getElem?_eq_getElem (by have := HM.out; omega)]
  exact List.getElem_mem _
 have hp := HP.out _ hmem
 generalize F.getD i z168 = p at k0 k1 k2 k3 k4 hp
 obtain ⟨j, hj⟩ := Int.eq_ofNat_of_zero_le hp.find
 have hjn : j < n := by have := hp.lt; have := HN.out; omega
 have hat := hp.at_
 rw [hj, Int.toNat_natCast] at hat
 obtain ⟨r1, r2, hRG⟩ := HRG.out _ p hat (by have := hp.str; omega)
 obtain ⟨ivs, hlen, hivs, hCV⟩ := HCV.out r1 r2
 have HRC := mk0 hRG
 have HCC := mk0 hCV
 have HIV := mk0 (And.intro hlen hivs)
 have HNAME := mk0 hp.name
 have HJ := mk0 hj
 clear hmem hrd hp hat hRG hj hlen hivs hCV HRG HCV
 go_wp2_with fail
 obtain ⟨ad2, e, s0, s1, s2, s3⟩ := at_T30 (Kd.C_below HS.out HB.out) (j : Int) (by omega) (by omega)
 cases e
 rw [Int.toNat_natCast] at s0 s1 s2 s3
 have hrd : rd_T30 S (j : Int) = S.getD j z30 := rfl
 rw [hrd] at s0 s1 s2 s3
 have HFC := mk0 (fun q : BelowP w1 => find_calls (some ad2) n c S p.f0 q.w HN.out (Kd.C_below (Kd.C_below HS.out HB.out) q.h) (by have := HN4.out; omega))
 rw [HJ.out] at HFC
 have HRQ := mk0 (fun q : BelowP w1 => HRC.out q.w)
 clear HRC hrd
 generalize S.getD j z30 = a at s0 s1 s2 s3 HRQ
 unfold enc95 enc46 at HRQ
 have q0 : ∀ q : BelowP w1, q.w.cell? _ = _ := fun q => q.cell k0
 have q1 : ∀ q : BelowP w1, q.w.cell? _ = _ := fun q => q.cell k1
 have q2 : ∀ q : BelowP w1, q.w.cell? _ = _ := fun q => q.cell k2
 have q3 : ∀ q : BelowP w1, q.w.cell? _ = _ := fun q => q.cell k3
 have q4 : ∀ q : BelowP w1, q.w.cell? _ = _ := fun q => q.cell k4
 have t0 : ∀ q : BelowP w1, q.w.cell? _ = _ := fun q => q.cell s0
 have t1 : ∀ q : BelowP w1, q.w.cell? _ = _ := fun q => q.cell s1
 have t2 : ∀ q : BelowP w1, q.w.cell? _ = _ := fun q => q.cell s2
 have t3 : ∀ q : BelowP w1, q.w.cell? _ = _ := fun q => q.cell s3
 have u1 : (0 : Int) ≤ (j : Int) := by omega
 have u2 : (j : Int) < (n : Int) := by omega
 clear s0 s1 s2 s3 HJ k1 k2 k3 k4
 refine wp_region_quiet_below (by kernel_rfl) (by kernel_rfl) ?_
 repeat (quiet_step (first | (go_at_call 88; (with_reducible refine Calls.below_of (HFC.out _))) | (go_at_call 87; (with_reducible refine Calls.below_of (HRQ.out _)))))
 refine wpQuiet_nil ?_
 rintro _ ⟨pq, rfl⟩
 clear q0 q1 q2 q3 q4 t0 t1 t2 t3 HFC HRQ u1 u2
 go_wp2_with fail
 refine (HCC.out _).mono ?_
 rintro e w2 ⟨v0, rfl, hR, hb⟩
 have hb2 := below_then pq.h pq.h.size hb
 have y0 := (hb2.cell (World.block_lt_of_cell? w1 _ k0)).trans k0
 have hb3 := below_then HB.out HB.out.size hb2
 have HTW := mk0 (TabI.below HT.out hb3)
 obtain ⟨AI, cI, rfl, hcI, hCI⟩ := Kd.R_reads hR
 clear HB hb hb2 hR k0 HCC
 have HB := mk0 hb3
 have HY := mk0 y0
 have HCI := mk0 hCI
 obtain ⟨q, hq⟩ : ∃ q, q = ivs.length := ⟨_, rfl⟩
 rw [← hq] at HCI ⊢
 have HQ := mk0 (show ivs.length = q ∧ q ≤ 256 from ⟨hq.symm, by rw [hq]; exact HIV.out.1⟩)
 clear hb3 y0 hq hcI hCI
 go_wp2_with fail
 have HO : Aside0 (Kd.R Kd.string 9 w2 w2.heap.size (fun _ => True) (.slice none 0 0) ([] : List ByteArray)) := ⟨Kd.R_nil _ _ _ _ _⟩
 have HB0 := HB
 clear HB
 go_loopg [12, 14, 49] (q + 1) (fun k v12 v14 v49 W => ∃ (i : Nat) (acc : List ByteArray), Aside0 (i ≤ q ∧ k + i = q + 1 ∧ acc.length = i ∧ Sm acc) ∧ v49 = .int .i64 (i : Int) ∧ Aside0 (Kd.R Kd.string 9 W w2.heap.size (fun _ => True) v12 acc) ∧ Aside0 (Below w2.heap.size w2 W))
 case atStart => exact ⟨0, [], ⟨by omega, by omega, rfl, Sm.nil⟩, rfl, HO, ⟨Below.refl _ _⟩⟩
 case round =>
  clear HO
  obtain ⟨z, acc, HI, rfl, HO, HB⟩ := hrel
  by_cases hz : z < q
  ·
   have b1 : decide ((z : Int) < (q : Int)) = true := decide_eq_true (by omega)
   have b2 : decide (z < q) = true := decide_eq_true (by omega)
   have x1 : (0 : Int) ≤ (z : Int) := by omega
   have x2 : (z : Int) < (q : Int) := by omega
   obtain ⟨ad3, e, g0, g1⟩ := at_T194 (Kd.C_below HCI.out HB.out) (z : Int) x1 x2
   cases e
   rw [Int.toNat_natCast] at g0 g1
   have hrd : rd_T194 ivs (z : Int) = ivs.getD z z194 := rfl
   rw [hrd] at g0 g1
   have hmem : ivs.getD z z194 ∈ ivs := by
    rw [List.getD_eq_getElem?_getD, List.getElem?_eq_getElem (by have := HQ.out; omega)]
    exact List.getElem_mem _
   have hiv := HIV.out.2 _ hmem
   generalize ivs.getD z z194 = x at g0 g1 hiv
   obtain ⟨s, hss, hs⟩ := gname_calls p.f0 x hiv (by have := HNAME.out; omega)
   have HNM := mk0 hs
   have HSS := mk0 hss
   have HLA := mk0 (show acc.length ≤ 256 by have := HI.out; have := HQ.out; omega)
   clear hs hss hiv hmem hrd
   go_wp2_with fail
   have ha := below_alloc (Below.refl wr.heap.size wr) (.cells #[.int .i64 x.f0, .int .i64 x.f1] 194)
   have hk := heap_alloc_new wr (.cells #[.int .i64 x.f0, .int .i64 x.f1] 194)
   have n0_ := mk0 (below_then HB.out HB.out.size ha)
   have n2_ := mk0 (Kd.R_below HO.out ha)
   clear HB HO g0 g1
   generalize wr.alloc (.cells #[.int .i64 x.f0, .int .i64 x.f1] 194) = W3 at ha hk n0_ n2_ ⊢
   have HB := n0_
   have HO := n2_
   have HTW3 := mk0 (TabI.below HTW.out HB.out)
   clear HTW n0_ n2_
   have HTW := HTW3
   clear HTW3
   generalize wr.heap.size = gb at hk ⊢
   have y0 := (HB.out.cell (World.block_lt_of_cell? w2 _ HY.out)).trans HY.out
   have y1 := (blk_cell hk 0).trans (show _ = some (Value.int .i64 x.f0) from rfl)
   have y2 := (blk_cell hk 1).trans (show _ = some (Value.int .i64 x.f1) from rfl)
   have HK := mk0 hk
   clear hk ha
   go_region_held3 (fun X => X.cell? (ad.add (i * 5)) = some (.string p.f0) ∧ X.cell? ⟨gb, 0, none⟩ = some (.int .i64 x.f0) ∧ X.cell? ⟨gb, 1, none⟩ = some (.int .i64 x.f1)) (go_keep) (first
    | (go_at_call 90; (with_reducible refine (HNM.out _ ?tb).mono ?_); (case tb => (with_reducible repeat (first | exact HTW.out | refine TabI.below ?_ (pw_below_drewN (Below.refl _ _) _) | refine TabI.below ?_ (below_drew (Below.refl _ _))))); rintro e wx ⟨rfl, hbx⟩; have k_ := mk0 ((hbx.block _ (blk_lt HK.out)).trans HK.out); clear HK; have HK := k_; clear k_; have y0' := pw_cell_below hbx y0; have y1' := (blk_cell HK.out 0).trans (show _ = some (Value.int .i64 x.f0) from rfl); have y2' := (blk_cell HK.out 1).trans (show _ = some (Value.int .i64 x.f1) from rfl); have n0_ := mk0 (below_then (by (with_reducible repeat (first | exact HB.out | apply pw_below_drewN | apply below_drew1 | apply below_drew | apply below_alloc))) (Below.size (by (with_reducible repeat (first | exact HB.out | apply pw_below_drewN | apply below_drew1 | apply below_drew | apply below_alloc)))) hbx); have n1_ := mk0 (Kd.R_below (by (with_reducible repeat (first | exact HO.out | apply Kd.R_drewN | apply Kd.R_drew | apply Kd.R_alloc))) hbx); have n2_ := mk0 (TabI.below (by (with_reducible repeat (first | exact HTW.out | refine TabI.below ?_ (pw_below_drewN (Below.refl _ _) _) | refine TabI.below ?_ (below_drew (Below.refl _ _))))) hbx); clear HB HO HTW hbx; have HB := n0_; have HO := n1_; have HTW := n2_; clear n0_ n1_ n2_)
    | (refine Kd.R_append_step Kd.string (w0 := w2) w2.heap.size ?hw (.tmp 53) (.tmp 61) 99 9 (.string ⟨#[]⟩) 16 rfl Tryz.underlying99 infoS rfl (by decide) (by omega) u12 acc s [.string s] (fun _ => True) (fun _ => False) rfl ?aX ?aP (fun _ hk => hk.elim) ?aF ?aO ?aB ?aS ?aL ?_; (case hw => first | rfl | (simp [Region.wanted])); (case aX => first | rfl | (go_simp; done) | (go_simp; rfl)); (case aP => exact rfl); (case aF => exact (fun _ _ => trivial)); (case aO => (with_reducible repeat (first | exact HO.out | apply Kd.R_drewN | apply Kd.R_drew | apply Kd.R_alloc))); (case aB => (with_reducible repeat (first | exact HB.out | apply pw_below_drewN | apply below_drew1 | apply below_drew | apply below_alloc))); (case aS => exact Below.size (by (with_reducible repeat (first | exact HB.out | apply pw_below_drewN | apply below_drew1 | apply below_drew | apply below_alloc)))); (case aL => have := HLA.out; omega); intro v9 w9 ho hb hg hat; have hk9 := blk_grown HK.out hg (Kd.R_ne HO.out HK.out (by decide)); have z0 := pw_cell_below hb HY.out; have z1 := (blk_cell hk9 0).trans (show _ = some (Value.int .i64 x.f0) from rfl); have z2 := (blk_cell hk9 1).trans (show _ = some (Value.int .i64 x.f1) from rfl); have n0_ := mk0 ho; have n1_ := mk0 hb; clear HB HO HK hk9 ho hb hg hat; have HO := n0_; have HB := n1_; clear n0_ n1_))
   go_wp2_with fail
   go_roundg (gk - 1)
   case measure => have := HI.out; omega
   case rel => exact ⟨z + 1, acc ++ [s], ⟨by omega, by have := HI.out; omega, by rw [List.length_append]; have := HI.out; simp; omega, HI.out.2.2.2.snoc HSS.out⟩, by rw [w64 (by omega) (by have := HQ.out; omega)]; rfl, HO, HB⟩
  ·
   have b1 : decide ((z : Int) < (q : Int)) = false := decide_eq_false (by omega)
   have b2 : decide (z < q) = false := decide_eq_false (by omega)
   have hfin := And.intro (show acc.length ≤ 256 by have := HI.out; have := HQ.out; omega) (And.intro HI.out.2.2.2 <| And.intro (Kd.R_lower HO.out HB0.out.size) (below_then HB0.out HB0.out.size HB.out))
   go_wp2
   go_ret2
   exact ⟨_, _, rfl, hfin⟩
theorem evFrom_none {S : List SA} {V : List SV} : ∀ (k i : Nat), evFrom S V k i = none → ∀ j, i ≤ j → j < i + k → fitsB (S.getD j z30) (V.getD j z37) = true
 | 0, i, _, j, h1, h2 => by omega
 | k + 1, i, h, j, h1, h2 => by
  unfold evFrom at h
  split at h
  ·
   by_cases hj : j = i
   ·
    rw [hj]; assumption
   ·
    exact evFrom_none k (i + 1) h j (by omega) (by omega)
  ·
   cases h
theorem fits_int {a : SA} {v : SV} (h : fitsB a v = true) (h1 : a.f1 = 1) : a.f2 ≤ v.f0 ∧ v.f0 ≤ a.f3 := by
 unfold fitsB at h
 rw [if_pos h1] at h
 simp only [Bool.and_eq_true, decide_eq_true_eq] at h
 exact h.2
def ReachPost (w : World) (S : List SA) (V : List SV) (pay : ByteArray) (e : Ending) (w' : World) : Prop :=
 Below w.heap.size w w' ∧ ((evBad S V pay = none ∧ ∃ v G, e = .returned (.tuple #[v, .nilIface]) ∧ 0 < G.length ∧ G.length ≤ 36 ∧ Sm G ∧ Kd.R Kd.string 9 w' w.heap.size (fun _ => True) v G) ∨
  ((evBad S V pay).isSome = true ∧ ∃ b n, e = .returned (.tuple #[.slice none 0 0, .iface 178 (.pointer (some ⟨b, 0, none⟩))]) ∧ ErrIs w' 3 n (.iface 178 (.pointer (some ⟨b, 0, none⟩)))))
set_option maxHeartbeats 8000000 in
theorem reach_grp (A B : Option Addr) (n m c d : Nat) (S : List SA) (V : List SV) (pay : ByteArray) (l : Int) (w : World) (h0 : 0 ≤ l) (h8 : l ≤ 8) (hn : S.length = n) (hm : V.length = m) (hr : Kd.C k30 w A n S) (hr2 : Kd.C k37 w B m V) (hck : checkBad S = none) (hc : n ≤ c) (hT : TabI w) :
 Calls Tryz.prog 44 #[.slice A n c, encE B m d pay, .int .i64 l] w (ReachPost w S V pay) := by
 have hn4 := (checkBad_none hck).2.1
 have HA := mk0 (fun a ha => And.intro (kind_at ((checkBad_none hck).2.2 a ha).2) (name_le ((checkBad_none hck).2.2 a ha).1))
 have HN1 := mk0 (show 1 ≤ n by have := (checkBad_none hck).1; omega)
 have HS := mk0 hr
 have HV := mk0 hr2
 have HN := mk0 hn
 have HM := mk0 hm
 have HN4 := mk0 (show n ≤ 4 by omega)
 have HT := mk0 hT
 have HC1 := mk0 (fun W (hb : Below w.heap.size w W) => gcheck_calls A n c S l W h0 h8 hn (Kd.C_below hr hb) hck hc)
 have HC2 := mk0 (fun W (hb : Below w.heap.size w W) => event_calls A B n m c d S V pay W hn hm (Kd.C_below hr hb) (Kd.C_below hr2 hb) (by omega))
 have HCL := mk0 (fun (a : SA) (v : SV) (ha : AtOk a.f1 a.f2 a.f3) => cell_c a v l h0 h8 ha)
 have HCH := mk0 (fun cc => chain_c cc l h0 h8)
 clear hr hr2 hn hm hck hc hn4 h0 h8 hT
 unfold encE at HC2 ⊢
 unfold enc95 encV at HCL
 have HBAD := mk0 (fun b i W (h1 : evBad S V pay = some i) (h2 : ErrIs W 3 1 (.iface 178 (.pointer (some ⟨b, 0, none⟩)))) (h4 : Below w.heap.size w W) => (show ReachPost w S V pay (.returned (.tuple #[.slice none 0 0, .iface 178 (.pointer (some ⟨b, 0, none⟩))])) W from ⟨h4, Or.inr ⟨by rw [h1]; rfl, b, 1, rfl, h2⟩⟩))
 have HFIN := mk0 (fun v G W (h0 : evBad S V pay = none) (h1 : 0 < G.length) (h2 : G.length ≤ 36) (h5 : Sm G) (h3 : Kd.R Kd.string 9 W w.heap.size (fun _ => True) v G) (h4 : Below w.heap.size w W) => (show ReachPost w S V pay (.returned (.tuple #[v, .nilIface])) W from ⟨h4, Or.inl ⟨h0, v, G, rfl, h1, h2, h5, h3⟩⟩))
 go_enter Tryz.func44, Tryz.ntmps44
 go_wp2_with fail
 have ha := below_alloc (Below.refl w.heap.size w) (.cells #[.slice B m d, .string pay] 40)
 have HKE := mk0 (heap_alloc_new w (.cells #[.slice B m d, .string pay] 40))
 have HB := mk0 ha
 generalize w.alloc (.cells #[.slice B m d, .string pay] 40) = wa at HKE HB ⊢
 generalize w.heap.size = ge at HKE ⊢
 clear ha
 refine (HC1.out _ HB.out).mono ?_
 rintro e w1 ⟨rfl, hb⟩
 have n0_ := mk0 (below_then HB.out HB.out.size hb)
 have n1_ := mk0 ((hb.block _ (blk_lt HKE.out)).trans HKE.out)
 clear HB HKE hb HC1
 have HB := n0_
 have HKE := n1_
 clear n0_ n1_
 have y0 := (blk_cell HKE.out 0).trans (show _ = some (Value.slice B m d) from rfl)
 have y1 := (blk_cell HKE.out 1).trans (show _ = some (Value.string pay) from rfl)
 go_wp2_with fail
 refine (HC2.out _ HB.out).mono ?_
 rintro e w2 hq
 cases heb : evBad S V pay with
 | some i =>
  obtain ⟨b, hbl, rfl, hf, hb⟩ := hq.bad heb
  have hfin := HBAD.out b i w2 heb (IsFault.errIs hf) (below_then HB.out HB.out.size hb)
  clear hq heb hf hb hbl
  go_wp2
  go_ret2
  exact hfin
 | none =>
  obtain ⟨rfl, hb⟩ := hq.ok heb
  have hmn : m = n := by have := evBad_len heb; have := HN.out; have := HM.out; omega
  have HFIT := mk0 (fun j (hj : j < n) => evFrom_none n 0 (by
   have h := heb
   unfold evBad at h
   split at h
   ·
    cases h
   ·
    rw [HN.out] at h; exact h) j (Nat.zero_le _) (by omega))
  have HEB := mk0 heb
  clear HBAD
  have n0_ := mk0 (below_then HB.out HB.out.size hb)
  have n1_ := mk0 ((hb.block _ (blk_lt HKE.out)).trans HKE.out)
  clear HB HKE hb hq heb HC2 y0 y1
  have HB0 := n0_
  have HKE := n1_
  clear n0_ n1_
  subst hmn
  have HTW := mk0 (TabI.below HT.out HB0.out)
  have y0 := (blk_cell HKE.out 0).trans (show _ = some (Value.slice B m d) from rfl)
  have HS2 := mk0 (Kd.C_below HS.out HB0.out)
  have HV2 := mk0 (Kd.C_below HV.out HB0.out)
  clear HS HV HT
  go_wp2_with fail
  have HO : Aside0 (Kd.R Kd.string 9 w2 w2.heap.size (fun _ => True) (.slice none 0 0) ([] : List ByteArray)) := ⟨Kd.R_nil _ _ _ _ _⟩
  go_loopg [10, 11, 12, 14, 29] (m + 1) (fun k v10 v11 v12 v14 v29 W => ∃ (i : Nat) (acc : List ByteArray), Aside0 (i ≤ m ∧ k + i = m + 1 ∧ acc.length ≤ 9 * i ∧ (0 < i → 0 < acc.length) ∧ Sm acc) ∧ v29 = .int .i64 (i : Int) ∧ Aside0 (Kd.R Kd.string 9 W w2.heap.size (fun _ => True) v10 acc) ∧ Aside0 (Below w2.heap.size w2 W))
  case atStart => exact ⟨0, [], ⟨by omega, by omega, by simp, by omega, Sm.nil⟩, rfl, HO, ⟨Below.refl _ _⟩⟩
  case round =>
   clear HO
   obtain ⟨i, acc, HI, rfl, HO, HB⟩ := hrel
   by_cases hi : i < m
   ·
    have b1 : decide ((i : Int) < (m : Int)) = true := decide_eq_true (by omega)
    have b2 : decide (i < m) = true := decide_eq_true (by omega)
    have p1 : (0 : Int) ≤ (i : Int) := by omega
    have p2 : (i : Int) < (m : Int) := by omega
    obtain ⟨ad, e, k0, k1, k2, k3⟩ := at_T30 (Kd.C_below HS2.out HB.out) (i : Int) p1 p2
    cases e
    obtain ⟨ad2, e, t0, t1⟩ := at_T37 (Kd.C_below HV2.out HB.out) (i : Int) p1 p2
    cases e
    rw [Int.toNat_natCast] at k0 k1 k2 k3 t0 t1
    have hrd : rd_T30 S (i : Int) = S.getD i z30 := rfl
    have hrd2 : rd_T37 V (i : Int) = V.getD i z37 := rfl
    rw [hrd] at k0 k1 k2 k3
    rw [hrd2] at t0 t1
    have hmem : S.getD i z30 ∈ S := by
     rw [List.getD_eq_getElem?_getD, List.getElem?_eq_getElem (by have := HN.out; omega)]
     exact List.getElem_mem _
    have hat := HA.out _ hmem
    have hfit := HFIT.out i hi
    generalize S.getD i z30 = a at k0 k1 k2 k3 hat hfit
    generalize V.getD i z37 = v at t0 t1 hfit
    obtain ⟨cc, hcc, hCC⟩ := HCL.out a v hat.1
    obtain ⟨ivs, hlen, hivs, hpos, hCV⟩ := HCH.out cc
    have HCC := mk0 hCC
    have HCV := mk0 hCV
    have HIV := mk0 (And.intro hlen (And.intro hivs (hpos (hcc (fits_int hfit)))))
    have HNAME := mk0 hat.2
    clear hrd hrd2 hmem hat hfit hcc hCC hlen hivs hpos hCV
    go_wp2_with fail
    have ha := below_alloc (Below.refl wr.heap.size wr) (.cells #[.string a.f0, .int .i64 a.f1, .int .i64 a.f2, .int .i64 a.f3] 30)
    have hk := heap_alloc_new wr (.cells #[.string a.f0, .int .i64 a.f1, .int .i64 a.f2, .int .i64 a.f3] 30)
    have n0_ := mk0 (below_then HB.out HB.out.size ha)
    have n2_ := mk0 (Kd.R_below HO.out ha)
    have t0' := pw_cell_below ha t0
    have t1' := pw_cell_below ha t1
    clear HB HO k0 k1 k2 k3 t0 t1
    generalize wr.alloc (.cells #[.string a.f0, .int .i64 a.f1, .int .i64 a.f2, .int .i64 a.f3] 30) = W3 at ha hk n0_ n2_ t0' t1' ⊢
    have HB := n0_
    have HO := n2_
    clear n0_ n2_ ha
    have HTW3 := mk0 (TabI.below HTW.out HB.out)
    generalize wr.heap.size = ga at hk ⊢
    have HK := mk0 hk
    have HKE3 := (HB.out.block _ (blk_lt HKE.out)).trans HKE.out
    have e0 := (blk_cell HKE3 0).trans (show _ = some (Value.slice (some ad2) m d) from rfl)
    have a0 := (blk_cell hk 0).trans (show _ = some (Value.string a.f0) from rfl)
    have a1 := (blk_cell hk 1).trans (show _ = some (Value.int .i64 a.f1) from rfl)
    have a2 := (blk_cell hk 2).trans (show _ = some (Value.int .i64 a.f2) from rfl)
    have a3 := (blk_cell hk 3).trans (show _ = some (Value.int .i64 a.f3) from rfl)
    clear hk HKE3 y0
    go_region_held3 (fun X => X.cell? ⟨ge, 0, none⟩ = some (.slice (some ad2) m d) ∧ X.cell? ⟨ga, 0, none⟩ = some (.string a.f0) ∧ X.cell? ⟨ga, 1, none⟩ = some (.int .i64 a.f1) ∧ X.cell? ⟨ga, 2, none⟩ = some (.int .i64 a.f2) ∧ X.cell? ⟨ga, 3, none⟩ = some (.int .i64 a.f3) ∧ X.cell? (ad2.add (i * 2)) = some (.int .i64 v.f0) ∧ X.cell? ⟨(ad2.add (i * 2)).block, (ad2.add (i * 2)).off + 1, none⟩ = some (.string v.f1)) (go_keep) (first
     | (go_at_call 96; (with_reducible refine (HCC.out _).mono ?_); rintro e wx ⟨rfl, hbx⟩; have n0_ := pw_cell_below hbx e0; have n1_ := pw_cell_below hbx a0; have n2_ := pw_cell_below hbx a1; have n3_ := pw_cell_below hbx a2; have n4_ := pw_cell_below hbx a3; have n5_ := pw_cell_below hbx t0'; have n6_ := pw_cell_below hbx t1'; have k_ := mk0 ((hbx.block _ (blk_lt HK.out)).trans HK.out); have k2_ := mk0 (below_then (by (with_reducible repeat (first | exact HB.out | apply pw_below_drewN | apply below_drew1 | apply below_drew | apply below_alloc))) (Below.size (by (with_reducible repeat (first | exact HB.out | apply pw_below_drewN | apply below_drew1 | apply below_drew | apply below_alloc)))) hbx); have k3_ := mk0 (Kd.R_below (by (with_reducible repeat (first | exact HO.out | apply Kd.R_drewN | apply Kd.R_drew | apply Kd.R_alloc))) hbx); clear HK HB HO e0 a0 a1 a2 a3 t0' t1' hbx; have HK := k_; have HB := k2_; have HO := k3_; have e0 := n0_; have a0 := n1_; have a1 := n2_; have a2 := n3_; have a3 := n4_; have t0' := n5_; have t1' := n6_; clear k_ k2_ k3_ n0_ n1_ n2_ n3_ n4_ n5_ n6_)
     | (go_at_call 95; (with_reducible refine (HCV.out _).mono ?_); rintro e wx ⟨v0, rfl, hR, hbx⟩; obtain ⟨AI, cI, rfl, hcI, hCI⟩ := Kd.R_reads hR; have n0_ := pw_cell_below hbx e0; have n1_ := pw_cell_below hbx a0; have n2_ := pw_cell_below hbx a1; have n3_ := pw_cell_below hbx a2; have n4_ := pw_cell_below hbx a3; have n5_ := pw_cell_below hbx t0'; have n6_ := pw_cell_below hbx t1'; have k_ := mk0 ((hbx.block _ (blk_lt HK.out)).trans HK.out); have k2_ := mk0 (below_then (by (with_reducible repeat (first | exact HB.out | apply pw_below_drewN | apply below_drew1 | apply below_drew | apply below_alloc))) (Below.size (by (with_reducible repeat (first | exact HB.out | apply pw_below_drewN | apply below_drew1 | apply below_drew | apply below_alloc)))) hbx); have k3_ := mk0 (Kd.R_below (by (with_reducible repeat (first | exact HO.out | apply Kd.R_drewN | apply Kd.R_drew | apply Kd.R_alloc))) hbx); have HCI := mk0 (Kd.R_lower hR (Nat.zero_le _)); clear HK HB HO hR hcI hCI e0 a0 a1 a2 a3 t0' t1' hbx; have HK := k_; have HB := k2_; have HO := k3_; clear k_ k2_ k3_))
    obtain ⟨gko, rfl⟩ : ∃ g, g = gk := ⟨gk, rfl⟩
    clear HCC HCV
    obtain ⟨q, hq⟩ : ∃ q, q = ivs.length := ⟨_, rfl⟩
    rw [← hq] at HCI ⊢
    have HQ := mk0 (show ivs.length = q ∧ 0 < q ∧ q ≤ 9 from ⟨hq.symm, by rw [hq]; exact HIV.out.2.2, by rw [hq]; exact HIV.out.1⟩)
    have HACC := mk0 (show acc.length ≤ 9 * i from HI.out.2.2.1)
    have HBX := mk0 (Below.refl wx.heap.size wx)
    clear hq HTW3
    go_wp2_with fail
    go_loopg [10, 14, 45] (q + 1) (fun k v10 v14 v45 W => ∃ (z : Nat) (acc2 : List ByteArray), Aside0 (z ≤ q ∧ k + z = q + 1 ∧ acc2.length = acc.length + z ∧ Sm acc2) ∧ v45 = .int .i64 (z : Int) ∧ Aside0 (Kd.R Kd.string 9 W w2.heap.size (fun _ => True) v10 acc2) ∧ Aside0 (Below w2.heap.size w2 W) ∧ Aside0 (Kd.R k194 194 W 0 (fun _ => True) (.slice AI q cI) ivs) ∧ Aside0 (W.heap[ga]? = some (.cells #[.string a.f0, .int .i64 a.f1, .int .i64 a.f2, .int .i64 a.f3] 30 (0, 0))))
    case atStart => exact ⟨0, acc, ⟨by omega, by omega, rfl, HI.out.2.2.2.2⟩, rfl, HO, HB, HCI, HK⟩
    case round =>
     clear HO HB HCI HK HBX
     obtain ⟨z, acc2, HI2, rfl, HO, HB, HCI, HK⟩ := hrel
     by_cases hz : z < q
     ·
      have b3 : decide ((z : Int) < (q : Int)) = true := decide_eq_true (by omega)
      have b4 : decide (z < q) = true := decide_eq_true (by omega)
      have x1 : (0 : Int) ≤ (z : Int) := by omega
      have x2 : (z : Int) < (q : Int) := by omega
      obtain ⟨ad3, e, g0, g1⟩ := at_T194 (by have h := (Kd.R_reads' HCI.out).2.2; rw [HQ.out.1] at h; exact h) (z : Int) x1 x2
      cases e
      rw [Int.toNat_natCast] at g0 g1
      have hrd : rd_T194 ivs (z : Int) = ivs.getD z z194 := rfl
      rw [hrd] at g0 g1
      have hmem : ivs.getD z z194 ∈ ivs := by
       rw [List.getD_eq_getElem?_getD, List.getElem?_eq_getElem (by have := HQ.out; omega)]
       exact List.getElem_mem _
      have hiv := HIV.out.2.1 _ hmem
      generalize ivs.getD z z194 = x at g0 g1 hiv
      obtain ⟨s, hss, hs⟩ := gname_calls a.f0 x hiv (by have := HNAME.out; omega)
      have HNM := mk0 hs
      have HSS := mk0 hss
      have HLA := mk0 (show acc2.length ≤ 256 by have := HI2.out; have := HQ.out; have := HACC.out; have := HN4.out; omega)
      have a0 := (blk_cell HK.out 0).trans (show _ = some (Value.string a.f0) from rfl)
      clear hs hss hiv hmem hrd
      go_upto_region 14 with (fail)
      have ha := below_alloc (Below.refl wr.heap.size wr) (.cells #[.int .i64 x.f0, .int .i64 x.f1] 194)
      have hk := heap_alloc_new wr (.cells #[.int .i64 x.f0, .int .i64 x.f1] 194)
      have n0_ := mk0 (below_then HB.out HB.out.size ha)
      have n1_ := mk0 (Kd.R_below HO.out ha)
      have n2_ := mk0 (Kd.R_below HCI.out ha)
      have n3_ := mk0 ((ha.block _ (blk_lt HK.out)).trans HK.out)
      clear HB HO HCI HK g0 g1 a0
      generalize wr.alloc (.cells #[.int .i64 x.f0, .int .i64 x.f1] 194) = W4 at ha hk n0_ n1_ n2_ n3_ ⊢
      have HB := n0_
      have HO := n1_
      have HCI := n2_
      have HK := n3_
      have HTW4 := mk0 (TabI.below HTW.out HB.out)
      clear n0_ n1_ n2_ n3_
      generalize wr.heap.size = gb at hk ⊢
      have y0 := (blk_cell HK.out 0).trans (show _ = some (Value.string a.f0) from rfl)
      have y1 := (blk_cell hk 0).trans (show _ = some (Value.int .i64 x.f0) from rfl)
      have y2 := (blk_cell hk 1).trans (show _ = some (Value.int .i64 x.f1) from rfl)
      clear hk ha
      go_wp2_with fail
      refine (HNM.out _ HTW4.out).mono ?_
      rintro e w5 ⟨rfl, hbx⟩
      have n0_ := mk0 (below_then HB.out HB.out.size hbx)
      have n1_ := mk0 (Kd.R_below HO.out hbx)
      have n2_ := mk0 (Kd.R_below HCI.out hbx)
      have n3_ := mk0 ((hbx.block _ (blk_lt HK.out)).trans HK.out)
      clear HB HO HCI HK hbx HTW4 y0 y1 y2
      have HB := n0_
      have HO := n1_
      have HCI := n2_
      have HK := n3_
      clear n0_ n1_ n2_ n3_
      go_wp2_with ((with_reducible refine gate_builtin (b := .append) (xs := #[.tmp 49, .tmp 54]) rfl ?_); at_builtin; go_loud (refine Kd.R_append Kd.string (w0 := w2) w2.heap.size rfl (.tmp 49) (.tmp 54) 99 9 (.string ⟨#[]⟩) 16 rfl Tryz.underlying99 infoS rfl (by decide) (by omega) _ acc2 s [.string s] (fun _ => True) (fun _ => False) rfl ?aX ?aP (fun _ hk => hk.elim) ?aF HO.out HB.out HB.out.size ?aL ?_; (case aX => first | rfl | (go_simp; done) | (go_simp; rfl)); (case aP => exact rfl); (case aF => exact (fun _ _ => trivial)); (case aL => have := HLA.out; omega); intro v9 w9 ho hb hg hat; have n0_ := mk0 ho; have n1_ := mk0 hb; have n3_ := mk0 (blk_grown HK.out hg (Kd.R_ne HO.out HK.out (by decide))); have n2_ := mk0 (Kd.R_over HCI.out HO.out (by decide +kernel) hg); clear HB HO HCI HK ho hb hg hat; have HO := n0_; have HB := n1_; have HCI := n2_; have HK := n3_; clear n0_ n1_ n2_ n3_))
      go_roundg (gk - 1)
      case measure => have := HI2.out; omega
      case rel => exact ⟨z + 1, acc2 ++ [s], ⟨by omega, by have := HI2.out; omega, by rw [List.length_append]; have := HI2.out; simp; omega, HI2.out.2.2.2.snoc HSS.out⟩, by rw [w64 (by omega) (by have := HQ.out; omega)]; rfl, HO, HB, HCI, HK⟩
     ·
      have b3 : decide ((z : Int) < (q : Int)) = false := decide_eq_false (by omega)
      have b4 : decide (z < q) = false := decide_eq_false (by omega)
      go_wp2_with fail
      go_roundg (gko - 1)
      case measure => have := HI.out; omega
      case rel => exact ⟨i + 1, acc2, ⟨by omega, by have := HI.out; omega, by have := HI2.out; have := HACC.out; have := HQ.out; omega, fun _ => by have := HI2.out; have := HQ.out; omega, HI2.out.2.2.2⟩, by rw [w64 (by omega) (by have := HN4.out; omega)]; rfl, HO, HB⟩
   ·
    have b1 : decide ((i : Int) < (m : Int)) = false := decide_eq_false (by omega)
    have b2 : decide (i < m) = false := decide_eq_false (by omega)
    have hfin := HFIN.out _ _ _ HEB.out (HI.out.2.2.2.1 (by have := HN1.out; have := HI.out; omega)) (by have := HI.out; have := HN4.out; omega) HI.out.2.2.2.2 (Kd.R_lower HO.out HB0.out.size) (below_then HB0.out HB0.out.size HB.out)
    go_wp2
    go_ret2
    exact hfin
end Go.Proofs.YtnmpijbcajclgaaGreatDoor.Mine
end
section
namespace Go.Proofs.YtnmpijbcajclgaaGreatDoor.Mine
open Go.Maps Go.RowKit YtnmpijbcajclgaaGreatDoorW.PrintWords YtnmpijbcajclgaaGreatDoorW.PrintLast YtnmpijbcajclgaaGreatDoorW.PrintMore
open PNodeAlone
def MSub.pl (x : MSub) : NSub := ⟨x.id, x.F⟩
def MEv.pl (x : MEv) : NEv := ⟨x.seq, x.V, x.pay⟩
def MDl.pl (x : MDl) : NDl := ⟨x.sub, x.pub, x.seq, x.V, x.pay⟩
def NdM.pl (N : NdM) : Nd := ⟨N.addr, N.subs.map MSub.pl, N.last, N.inbox.map MDl.pl, N.opn.map MEv.pl, N.seq, N.lost⟩
def NdM.pub (N : NdM) (V : List SV) (pay : ByteArray) (G : List ByteArray) : NdM := { N with opn := N.opn ++ [⟨N.seq + 1, V, pay, G⟩], seq := N.seq + 1 }
theorem NdM.pub_pl (N : NdM) (V : List SV) (pay : ByteArray) (G : List ByteArray) : (N.pub V pay G).pl = N.pl.pub V pay := by
 unfold NdM.pub NdM.pl Nd.pub
 simp [MEv.pl]
structure NdFit (N : NdM) : Prop where
 chk : checkBad N.S = none
 lev : 0 ≤ N.levels ∧ N.levels ≤ 8
 seq : 0 ≤ N.seq ∧ N.seq ≤ 1073741824
 last : 0 ≤ N.last ∧ N.last ≤ 1000000
 nSub : N.subs.length ≤ 16
 flt : ∀ s ∈ N.subs, filterBad N.S s.F = none
 grp : ∀ s ∈ N.subs, s.G.length ≤ 256 ∧ Sm s.G
 nOpn : N.opn.length ≤ 8
 evs : ∀ e ∈ N.opn, evBad N.S e.V e.pay = none ∧ (0 < e.want.length ∧ e.want.length ≤ 36 ∧ Sm e.want)
 nBox : N.inbox.length ≤ 64
 nSent : N.sent.length ≤ 512
theorem IsNd.cell {base : Nat} {w : World} {g : Nat} {h : Hd} {N : NdM} (r : IsNd base w g h N) (j : Nat) : w.cell? ⟨g, j, none⟩ = (ndCells h N)[j]? := blk_cell r.blk j
theorem nfault_calls (c : Int) (w : World) : Calls Tryz.prog 38 #[.int .i64 c] w fun e w' => ∃ b, w.heap.size ≤ b ∧ e = .returned (.iface 178 (.pointer (some ⟨b, 0, none⟩))) ∧ IsFault w' b ⟨#[110, 111, 100, 101]⟩ 0 c ∧ Below w.heap.size w w' := by
 go_enter Tryz.func38, Tryz.ntmps38
 go_wp2
 go_ret
 exact ⟨w.heap.size, Nat.le_refl _, rfl, heap_alloc_new w _, below_alloc (Below.refl _ _) _⟩
def TabB (base : Nat) (w : World) : Prop := ∃ w0, TabI w0 ∧ w0.heap.size ≤ base ∧ Below base w0 w
theorem TabB.below {base : Nat} {w w' : World} (h : TabB base w) (hb : Below base w w') : TabB base w' := by
 obtain ⟨w0, h1, h2, h3⟩ := h
 exact ⟨w0, h1, h2, h3.trans hb⟩
theorem TabB.tab {base : Nat} {w : World} (h : TabB base w) : TabI w := by
 obtain ⟨w0, h1, h2, h3⟩ := h
 exact Go.Joins.tab_stays (by kernel_rfl : Tryz.prog.globalNamed "internal/strconv.uint64pow10" = some 1) h1 h3 h2
def faultV (b : Nat) : Value := .iface 178 (.pointer (some ⟨b, 0, none⟩))
end Go.Proofs.YtnmpijbcajclgaaGreatDoor.Mine
end
section
namespace Go.Proofs.YtnmpijbcajclgaaGreatDoor.Mine
open Go.Maps Go.RowKit Go.Sort YtnmpijbcajclgaaGreatDoorW.PrintWords YtnmpijbcajclgaaGreatDoorW.PrintLast YtnmpijbcajclgaaGreatDoorW.PrintMore
open PNodeAlone
def lst (x : ByteArray) : List UInt8 := x.data.toList
def ofl (x : List UInt8) : ByteArray := ⟨x.toArray⟩
theorem encs_lst (xs : List ByteArray) : encs Value.string xs = (xs.map lst).map encStr := by
 unfold encs
 rw [List.map_map]
 rfl
theorem lst_encs (ys : List (List UInt8)) : ys.map encStr = encs Value.string (ys.map ofl) := by
 unfold encs
 rw [List.map_map]
 rfl
theorem sm_of {xs : List ByteArray} {zs : List (List UInt8)} (h : Sm xs) (hz : ∀ l ∈ zs, l ∈ xs.map lst) : Sm (zs.map ofl) := fun y hy => by
 obtain ⟨l, hl, rfl⟩ := List.mem_map.1 hy
 obtain ⟨b, hb, rfl⟩ := List.mem_map.1 (hz l hl)
 exact h b hb
theorem compact_mem (zs : List (List UInt8)) : ∀ l ∈ Lib.compact zs, l ∈ zs := fun l hl => by
 unfold Lib.compact Lib.compactUpTo at hl
 obtain ⟨j, hj, rfl⟩ := List.mem_map.1 hl
 have hj2 : j < zs.length := List.mem_range.1 (List.mem_filter.1 hj).1
 have : zs.toArray[j]! = zs[j] := by simp [hj2]
 rw [this]
 exact List.getElem_mem hj2
theorem sort_str (base : Nat) (ok : Nat → Prop) {w : World} {A : Option Addr} {n c : Nat} {xs : List ByteArray} (h : Kd.R Kd.string tS w base ok (.slice A n c) xs) (hl : n ≤ 1000000) :
 Calls Tryz.prog 102 #[.slice A n c] w fun e w' => e = .returned (.tuple #[]) ∧ (∃ ys, ys.length = xs.length ∧ (Sm xs → Sm ys) ∧ Kd.R Kd.string tS w' base (fun _ => True) (.slice A n c) ys) ∧ w.grownBy w' (Value.slice A n c).ownBlock := by
 have hown := Kd.own_of_R h
 rw [encs_lst] at hown
 rcases hown.2 with ⟨hv, hx⟩ | ⟨g, cap, cur, hv, hg, hh, hnc, hcm, hcs, ht⟩
 ·
  injection hv with h1 h2 h3
  subst h1 h2 h3
  refine (Any.slices_Sort_string_none Tryz.sortS none 0 w).mono ?_
  rintro e w' ⟨rfl, rfl⟩
  obtain rfl : xs = [] := List.eq_nil_of_length_eq_zero hx
  exact ⟨rfl, ⟨[], rfl, fun h => h, Kd.R_nil _ _ _ _ _⟩, World.grownBy.refl _ _⟩
 ·
  injection hv with h1 h2 h3
  subst h1 h2 h3
  have hlen : (xs.map lst).length = xs.length := List.length_map _
  rw [Nat.mul_one, ← hlen] at ht
  have hH := holds_of_block hh ht
  have hcon := Any.slices_Sort_string Tryz.sortS g 0 c (xs.map lst) w hH (Array.getElem?_eq_some_iff.1 hh).1 (by rw [hlen]; omega)
  rw [hlen] at hcon
  refine hcon.mono ?_
  rintro e w' ⟨rfl, q, os, rfl⟩
  have hms : ((xs.map lst).mergeSort fun x y => decide (x ≤ y)).length = (xs.map lst).length := List.length_mergeSort _
  have ho := ownsRow_sorted (n := q) (os := os) hms hg hh (by rw [hlen]; exact hnc) hcm hcs
  rw [lst_encs, hlen] at ho
  refine ⟨rfl, ⟨((xs.map lst).mergeSort fun x y => decide (x ≤ y)).map ofl, by rw [List.length_map, hms, hlen], fun h => sm_of h (fun l hl => List.mem_mergeSort.1 hl), Kd.R_of_own (by rw [List.length_map, hms, hlen]; exact ho) (fun _ _ => trivial)⟩, grownBy_sorted _⟩
theorem grow_nil (w : World) : grow w #[] = w := by
 simp [grow]
theorem compact_str (base : Nat) (ok : Nat → Prop) {w : World} {A : Option Addr} {n c : Nat} {xs : List ByteArray} (h : Kd.R Kd.string tS w base ok (.slice A n c) xs) (hl : n ≤ 1000000) :
 Calls Tryz.prog 99 #[.slice A n c] w fun e w' => ∃ m ys, e = .returned (.slice A m c) ∧ m ≤ n ∧ ys.length = m ∧ (Sm xs → Sm ys) ∧ Kd.R Kd.string tS w' base (fun _ => True) (.slice A m c) ys ∧ w.grownBy w' (Value.slice A n c).ownBlock := by
 have hown := Kd.own_of_R h
 rw [encs_lst] at hown
 rcases hown.2 with ⟨hv, hx⟩ | ⟨g, cap, cur, hv, hg, hh, hnc, hcm, hcs, ht⟩
 ·
  injection hv with h1 h2 h3
  subst h1 h2 h3
  refine (Any.slices_Compact_string_empty Tryz.compactS none 0 w).mono ?_
  rintro e w' ⟨rfl, rfl⟩
  obtain rfl : xs = [] := List.eq_nil_of_length_eq_zero hx
  exact ⟨0, [], rfl, Nat.le_refl _, rfl, fun h => h, Kd.R_nil _ _ _ _ _, World.grownBy.refl _ _⟩
 ·
  injection hv with h1 h2 h3
  subst h1 h2 h3
  have hlen : (xs.map lst).length = xs.length := List.length_map _
  rw [Nat.mul_one, ← hlen] at ht
  have hH := holds_of_block hh ht
  have hcon := Any.slices_Compact_string Tryz.compactS g 0 c (xs.map lst) w hH (by rw [hlen]; omega) (by rw [hlen]; exact hnc)
  rw [hlen] at hcon
  refine hcon.mono ?_
  rintro e w' ⟨rfl, q, rfl⟩
  obtain ⟨zs, hzs⟩ : ∃ zs, zs = Lib.compact (xs.map lst) := ⟨_, rfl⟩
  rw [← hzs]
  have hle : zs.length ≤ xs.length := by
   rw [hzs, ← hlen]
   exact Lib.compact_length_le _
  have hms : (zs ++ List.replicate (xs.length - zs.length) ([] : List UInt8)).length = (xs.map lst).length := by rw [List.length_append, List.length_replicate, hlen]; omega
  have ho := ownsRow_sorted (n := q) (os := #[]) hms hg hh (by rw [hlen]; exact hnc) hcm hcs
  rw [lst_encs, hlen, grow_nil] at ho
  have hgr := grownBy_sorted (w := w) (g := g) (n := q) (os := #[]) (zs ++ List.replicate (xs.length - zs.length) ([] : List UInt8)).toArray
  rw [grow_nil] at hgr
  have hR : Kd.R Kd.string tS _ base (fun _ => True) (.slice (some ⟨g, 0, none⟩) xs.length c) ((zs ++ List.replicate (xs.length - zs.length) ([] : List UInt8)).map ofl) := Kd.R_of_own (by rw [List.length_map, hms, hlen]; exact ho) (fun _ _ => trivial)
  have hT := Kd.R_take hR (m := zs.length) (by rw [List.length_map, hms, hlen]; exact hle)
  have e9 : ((zs ++ List.replicate (xs.length - zs.length) ([] : List UInt8)).map ofl).take zs.length = zs.map ofl := by (have e8 : (zs.map ofl).length = zs.length := List.length_map _); rw [List.map_append, ← e8, List.take_left]
  rw [e9] at hT
  exact ⟨zs.length, _, rfl, hle, List.length_map _, fun h => sm_of h (by rw [hzs]; exact compact_mem _), hT, hgr⟩
end Go.Proofs.YtnmpijbcajclgaaGreatDoor.Mine
end
section
namespace Go.Proofs.YtnmpijbcajclgaaGreatDoor.Mine
open Go.Maps Go.RowKit YtnmpijbcajclgaaGreatDoorW.PrintWords YtnmpijbcajclgaaGreatDoorW.PrintLast YtnmpijbcajclgaaGreatDoorW.PrintMore
open PNodeAlone
theorem eidx_nil (f : Value) (w : World) : Calls Tryz.prog 210 #[.slice none 0 0, f] w fun e w' => e = .returned (.int .i64 (-1)) ∧ w = w' := by
 go_enter Tryz.func210, Tryz.ntmps210
 go_wp2_with fail
 go_loopg [8] 1 (fun k v8 W => v8 = .int .i64 0 ∧ W = w)
 case atStart => exact ⟨rfl, rfl⟩
 case round =>
  obtain ⟨rfl, rfl⟩ := hrel
  go_wp2
  go_ret
  exact ⟨rfl, rfl⟩
theorem edel_nil (f : Value) (w : World) : Calls Tryz.prog 157 #[.slice none 0 0, f] w fun e w' => e = .returned (.slice none 0 0) ∧ w = w' := by
 go_enter Tryz.func157, Tryz.ntmps157
 go_wp2_with fail
 refine (eidx_nil f _).mono ?_
 rintro e w1 ⟨rfl, rfl⟩
 go_wp2
 go_ret
 exact ⟨rfl, rfl⟩
theorem leave_nil (g : Nat) (f : Value) (cs : Array Value) (w : World) (hg : w.heap[g]? = some (.cells cs tN (0, 0))) (h5 : cs[5]? = some (.slice none 0 0)) : Calls Tryz.prog 97 #[.pointer (some ⟨g, 5, none⟩), f] w fun e w' => e = .returned (.slice none 0 0) ∧ w' = w.setCell ⟨g, 5, none⟩ (.slice none 0 0) := by
 have y5 := (blk_cell hg 5).trans h5
 have f5 := blk_frozen hg 5
 clear hg h5
 go_enter Tryz.func97, Tryz.ntmps97
 go_wp2_with fail
 go_loopg [5, 7, 13] 1 (fun k v5 v7 v13 W => v5 = .slice none 0 0 ∧ v13 = .int .i64 0 ∧ W = w)
 case atStart => exact ⟨rfl, rfl, rfl⟩
 case round =>
  obtain ⟨rfl, rfl, rfl⟩ := hrel
  go_wp2_with fail
  refine (edel_nil f _).mono ?_
  rintro e w1 ⟨rfl, rfl⟩
  go_wp2
  go_ret
  exact ⟨rfl, rfl⟩
theorem expire_nd (base g : Nat) (h : Hd) (N : NdM) (now : Int) (w : World) (hI : IsNd base w g h N) (hbase : base ≤ w.heap.size) : Calls Tryz.prog 46 #[.pointer (some ⟨g, 5, none⟩), .int .i64 now] w fun e w' => e = .returned (.int .i64 0) ∧ IsNd base w' g h N ∧ Fr base g w h w' h := by
 have HI := mk0 hI
 have HBS := mk0 hbase
 clear hI hbase
 go_enter Tryz.func46, Tryz.ntmps46
 go_wp2_with fail
 have HB := mk0 (below_alloc (Below.refl w.heap.size w) (.cells #[.int .i64 now] 3))
 generalize w.alloc (.cells #[.int .i64 now] 3) = wa at HB ⊢
 have HIa := HI.out.below HB.out
 refine (leave_nil g _ _ wa HIa.blk rfl).mono ?_
 rintro e w1 ⟨rfl, rfl⟩
 have hk := blk_set HIa.blk 5 (.slice none 0 0)
 have hr := HIa.rows.set HIa.blk (by decide) 5 (.slice none 0 0)
 have hfr := (Fr.of_below (g := g) (h := h) HB.out HBS.out).trans (Fr.set (h := h) (w := wa) HIa.gb 5 (.slice none 0 0))
 have hfin := And.intro (IsNd.of hk rfl HIa.gb hr) hfr
 clear hk hr hfr HIa HB
 go_wp2
 go_ret
 exact ⟨rfl, hfin⟩
theorem groups_nd (g : Nat) (w : World) (y5 : w.cell? ⟨g, 5, none⟩ = some (.slice none 0 0)) : Calls Tryz.prog 47 #[.pointer (some ⟨g, 5, none⟩)] w fun e w' => e = .returned (.slice none 0 0) ∧ w' = w := by
 go_enter Tryz.func47, Tryz.ntmps47
 go_wp2_with fail
 go_loopg [3, 5, 11] 1 (fun k v3 v5 v11 W => v3 = .slice none 0 0 ∧ v11 = .int .i64 0 ∧ W = w)
 case atStart => exact ⟨rfl, rfl, rfl⟩
 case round =>
  obtain ⟨rfl, rfl, rfl⟩ := hrel
  go_wp2_with fail
  refine (Any.slices_Compact_string_empty Tryz.compactS none 0 _).mono ?_
  rintro e w1 ⟨rfl, rfl⟩
  go_wp2
  go_ret
  exact ⟨rfl, rfl⟩
theorem children_nd (g : Nat) (t : ByteArray) (w : World) (y5 : w.cell? ⟨g, 5, none⟩ = some (.slice none 0 0)) : Calls Tryz.prog 48 #[.pointer (some ⟨g, 5, none⟩), .string t] w fun e w' => e = .returned (.slice none 0 0) ∧ w' = w := by
 go_enter Tryz.func48, Tryz.ntmps48
 go_wp2_with fail
 go_loopg [5, 7, 13] 1 (fun k v5 v7 v13 W => v5 = .slice none 0 0 ∧ v13 = .int .i64 0 ∧ W = w)
 case atStart => exact ⟨rfl, rfl, rfl⟩
 case round =>
  obtain ⟨rfl, rfl, rfl⟩ := hrel
  go_wp2
  go_ret
  exact ⟨rfl, rfl⟩
end Go.Proofs.YtnmpijbcajclgaaGreatDoor.Mine
end
