/-
  wigwaglaw06.FilterStrings, walked: true at every input. Conditions: errors.errorType holds what its initialiser lays; the library's table of tens lies as it should.
-/
import Derived.Test.YthaapijjjgkacaaDoorStr
import Derived.Test.YthaapijjjgkacaaDoorNumbers
set_option linter.unusedSimpArgs false
set_option linter.unusedVariables false
namespace Go.Proofs.YthaapijjjgkacaaDoor.Mine
open Go.RowKit Go.Proofs.YthaapijjjgkacaaDoorW.PrintWords Go.Proofs.YthaapijjjgkacaaDoorW.PrintLast Go.Proofs.YthaapijjjgkacaaDoorW.PrintMore
open Go.Proofs.YthaapijjjgkacaaDoor.PFilterReads
theorem strText_len (t : ByteArray) (op : Int) (ho : op ≠ 1) (h : t.size ≤ 40) : (printN [⟨⟨#[110]⟩, op, 0, 0, t⟩] 1).length ≤ 100 := by
  have e : printN [⟨⟨#[110]⟩, op, 0, 0, t⟩] 1 = predL ⟨⟨#[110]⟩, op, 0, 0, t⟩ := by
    show [] ++ pstep 0 (⟨⟨#[110]⟩, op, 0, 0, t⟩ : S46) = _
    simp [pstep]
  rw [e]
  have h1 := quoteL_len t.data.toList
  have h2 : t.size = t.data.toList.length := by rw [Array.length_toList]; rfl
  unfold predL quotedL
  rw [if_neg ho]
  split
  · simp only [List.length_append, List.length_cons, List.length_nil]; omega
  · simp only [List.length_append, List.length_cons, List.length_nil]; omega
set_option maxHeartbeats 4000000 in
set_option maxRecDepth 100000 in
theorem strings_calls (t : ByteArray) (op : Int) (w : World) (hg : ErrTy w) (hT : TabI w) : Calls Tryd.prog 8 #[.string t, .int .i64 op] w fun e w' => e = .returned (.bool true) ∧ Below w.heap.size w w' := by
  have HG := Aside0.mk hg
  have HT := Aside0.mk hT
  clear hg hT
  cases hs : strOk t with
  | false =>
    have HS := Aside0.mk hs
    clear hs
    go_enter Tryd.func8, Tryd.ntmps8
    go_wp2_with fail
    refine (str_calls t _).mono ?_
    rintro e w1 ⟨rfl, hb⟩
    rw [HS.out]
    have HB := Aside0.mk hb
    clear hb
    go_wp2_with fail
    refine (awake_calls _ (ErrTy.below HG.out HB.out)).mono ?_
    rintro e w9 ⟨rfl, hb⟩
    have n_ := Aside0.mk (below_then HB.out HB.out.size hb)
    clear HB hb
    have HB := n_
    clear n_
    go_wp2
    go_ret
    exact ⟨rfl, HB.out⟩
  | true =>
    have HS := Aside0.mk hs
    have hsz : t.size ≤ 40 := by
      unfold strOk at hs
      simp only [Bool.and_eq_true, decide_eq_true_eq] at hs
      exact hs.1
    have hch : t.data.toList.all isChar = true := by
      unfold strOk at hs
      simp only [Bool.and_eq_true, decide_eq_true_eq] at hs
      exact hs.2
    clear hs
    by_cases h2 : op = 2
    · subst h2
      go_enter Tryd.func8, Tryd.ntmps8
      go_wp2_with fail
      refine (str_calls t _).mono ?_
      rintro e w1 ⟨rfl, hb⟩
      rw [HS.out]
      have HB := Aside0.mk hb
      clear hb
      go_wp2_with fail
      refine (print_calls _ 1 1 [⟨⟨#[110]⟩, 2, 0, 0, t⟩] _ rfl (one_C w1 ⟨⟨#[110]⟩, 2, 0, 0, t⟩) (TabI.below (TabI.below HT.out HB.out) (below_alloc (Below.refl _ _) _)) (fun p hp => by rw [List.mem_singleton.mp hp]; exact ⟨(by decide : (-9223372036854775808 : Int) ≤ 0), (by decide : (0 : Int) ≤ 9223372036854775807), (by decide : (-9223372036854775808 : Int) ≤ 0), (by decide : (0 : Int) ≤ 9223372036854775807)⟩) (Nat.le_trans (strText_len t 2 (by decide) hsz) (by decide)) (by decide)).mono ?_
      rintro e w2 ⟨rfl, hb2⟩
      have n_ := Aside0.mk (below_then (below_alloc HB.out (.cells #[.string ⟨#[110]⟩, .int .i64 2, .int .i64 0, .int .i64 0, .string t] 46)) (below_size (below_alloc HB.out _)) hb2)
      clear HB hb2
      have HB := n_
      clear n_
      have hz : (⟨(printN [⟨⟨#[110]⟩, 2, 0, 0, t⟩] 1).toArray⟩ : ByteArray).size ≤ 300 := by
        show (printN [⟨⟨#[110]⟩, 2, 0, 0, t⟩] 1).toArray.size ≤ 300
        rw [List.size_toArray]
        exact Nat.le_trans (strText_len t 2 (by decide) hsz) (by decide)
      have hpr := back_plain ⟨(printN [⟨⟨#[110]⟩, 2, 0, 0, t⟩] 1).toArray⟩ [⟨⟨#[110]⟩, 2, 0, 0, t⟩] (fun p hp => by rw [List.mem_singleton.mp hp]; exact ⟨(by decide : isName [110] = true), Or.inr ⟨by first | exact Or.inl rfl | exact Or.inr rfl, rfl, rfl, hch⟩⟩) (Nat.le_refl _) rfl hz
      generalize (⟨(printN [⟨⟨#[110]⟩, 2, 0, 0, t⟩] 1).toArray⟩ : ByteArray) = S at hz hpr ⊢
      go_wp2_with fail
      refine (parse_P S _ (by omega)).mono ?_
      rintro e w3 hp
      obtain ⟨v1, rfl, ho, hb1⟩ := hp.ok hpr
      obtain ⟨A1, c1, rfl, hc1, hC1⟩ := Kd.R_reads ho
      have n_ := Aside0.mk (below_then HB.out HB.out.size hb1)
      clear HB hb1 hp ho hpr hz
      have HB := n_
      clear n_
      rw [toP_map] at hc1 hC1 ⊢
      have hlen : [(⟨⟨#[110]⟩, 2, 0, 0, t⟩ : S46)].length = 1 := rfl
      rw [hlen] at hC1 hc1 ⊢
      have HC1 := Aside0.mk hC1
      clear hC1
      go_wp2_with fail
      refine (awake_calls _ (ErrTy.below HG.out HB.out)).mono ?_
      rintro e w4 ⟨rfl, hb⟩
      obtain ⟨ad, e, h0, h1, h2, h3, h4⟩ := at_T46 (Kd.C_below HC1.out hb) 0 (by decide) (by decide)
      cases e
      have ea : ad.add ((0 : Int).toNat * 5) = ad := by simp [Addr.add]
      rw [ea] at h1 h4
      change w4.cell? ⟨ad.block, ad.off + 1, none⟩ = some (.int .i64 2) at h1
      change w4.cell? ⟨ad.block, ad.off + 4, none⟩ = some (.string t) at h4
      have n_ := Aside0.mk (below_then HB.out HB.out.size hb)
      clear HB hb h0 h2 h3
      have HB := n_
      clear n_
      go_wp2
      go_ret
      exact ⟨rfl, HB.out⟩
    · by_cases h3 : op = 3
      · subst h3
        go_enter Tryd.func8, Tryd.ntmps8
        go_wp2_with fail
        refine (str_calls t _).mono ?_
        rintro e w1 ⟨rfl, hb⟩
        rw [HS.out]
        have HB := Aside0.mk hb
        clear hb
        go_wp2_with fail
        refine (print_calls _ 1 1 [⟨⟨#[110]⟩, 3, 0, 0, t⟩] _ rfl (one_C w1 ⟨⟨#[110]⟩, 3, 0, 0, t⟩) (TabI.below (TabI.below HT.out HB.out) (below_alloc (Below.refl _ _) _)) (fun p hp => by rw [List.mem_singleton.mp hp]; exact ⟨(by decide : (-9223372036854775808 : Int) ≤ 0), (by decide : (0 : Int) ≤ 9223372036854775807), (by decide : (-9223372036854775808 : Int) ≤ 0), (by decide : (0 : Int) ≤ 9223372036854775807)⟩) (Nat.le_trans (strText_len t 3 (by decide) hsz) (by decide)) (by decide)).mono ?_
        rintro e w2 ⟨rfl, hb2⟩
        have n_ := Aside0.mk (below_then (below_alloc HB.out (.cells #[.string ⟨#[110]⟩, .int .i64 3, .int .i64 0, .int .i64 0, .string t] 46)) (below_size (below_alloc HB.out _)) hb2)
        clear HB hb2
        have HB := n_
        clear n_
        have hz : (⟨(printN [⟨⟨#[110]⟩, 3, 0, 0, t⟩] 1).toArray⟩ : ByteArray).size ≤ 300 := by
          show (printN [⟨⟨#[110]⟩, 3, 0, 0, t⟩] 1).toArray.size ≤ 300
          rw [List.size_toArray]
          exact Nat.le_trans (strText_len t 3 (by decide) hsz) (by decide)
        have hpr := back_plain ⟨(printN [⟨⟨#[110]⟩, 3, 0, 0, t⟩] 1).toArray⟩ [⟨⟨#[110]⟩, 3, 0, 0, t⟩] (fun p hp => by rw [List.mem_singleton.mp hp]; exact ⟨(by decide : isName [110] = true), Or.inr ⟨by first | exact Or.inl rfl | exact Or.inr rfl, rfl, rfl, hch⟩⟩) (Nat.le_refl _) rfl hz
        generalize (⟨(printN [⟨⟨#[110]⟩, 3, 0, 0, t⟩] 1).toArray⟩ : ByteArray) = S at hz hpr ⊢
        go_wp2_with fail
        refine (parse_P S _ (by omega)).mono ?_
        rintro e w3 hp
        obtain ⟨v1, rfl, ho, hb1⟩ := hp.ok hpr
        obtain ⟨A1, c1, rfl, hc1, hC1⟩ := Kd.R_reads ho
        have n_ := Aside0.mk (below_then HB.out HB.out.size hb1)
        clear HB hb1 hp ho hpr hz
        have HB := n_
        clear n_
        rw [toP_map] at hc1 hC1 ⊢
        have hlen : [(⟨⟨#[110]⟩, 3, 0, 0, t⟩ : S46)].length = 1 := rfl
        rw [hlen] at hC1 hc1 ⊢
        have HC1 := Aside0.mk hC1
        clear hC1
        go_wp2_with fail
        refine (awake_calls _ (ErrTy.below HG.out HB.out)).mono ?_
        rintro e w4 ⟨rfl, hb⟩
        obtain ⟨ad, e, h0, h1, h2, h3, h4⟩ := at_T46 (Kd.C_below HC1.out hb) 0 (by decide) (by decide)
        cases e
        have ea : ad.add ((0 : Int).toNat * 5) = ad := by simp [Addr.add]
        rw [ea] at h1 h4
        change w4.cell? ⟨ad.block, ad.off + 1, none⟩ = some (.int .i64 3) at h1
        change w4.cell? ⟨ad.block, ad.off + 4, none⟩ = some (.string t) at h4
        have n_ := Aside0.mk (below_then HB.out HB.out.size hb)
        clear HB hb h0 h2 h3
        have HB := n_
        clear n_
        go_wp2
        go_ret
        exact ⟨rfl, HB.out⟩
      · have d2 : (op == 2) = false := by simpa using h2
        have d3 : (op == 3) = false := by simpa using h3
        have f2 : (op != 2) = true := by simpa using h2
        have f3 : (op != 3) = true := by simpa using h3
        go_enter Tryd.func8, Tryd.ntmps8
        go_wp2_with fail
        refine (str_calls t _).mono ?_
        rintro e w1 ⟨rfl, hb⟩
        rw [HS.out]
        have HB := Aside0.mk hb
        clear hb
        go_wp2_with fail
        refine (awake_calls _ (ErrTy.below HG.out HB.out)).mono ?_
        rintro e w9 ⟨rfl, hb⟩
        have n_ := Aside0.mk (below_then HB.out HB.out.size hb)
        clear HB hb
        have HB := n_
        clear n_
        go_wp2
        go_ret
        exact ⟨rfl, HB.out⟩
end Go.Proofs.YthaapijjjgkacaaDoor.Mine
