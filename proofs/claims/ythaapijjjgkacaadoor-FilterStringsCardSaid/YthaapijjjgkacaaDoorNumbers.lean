/-
  wigwaglaw06.FilterNumbers, walked: true at every input. Conditions: errors.errorType holds what its initialiser lays; the library's table of tens lies as it should.
-/
import Derived.Test.YthaapijjjgkacaaDoorNumText
import Derived.Test.YthaapijjjgkacaaDoorPrint
import Derived.Test.YthaapijjjgkacaaDoorJoins
set_option linter.unusedSimpArgs false
set_option linter.unusedVariables false
namespace Go.Proofs.YthaapijjjgkacaaDoor.Mine
open Go.RowKit Go.Proofs.YthaapijjjgkacaaDoorW.PrintWords Go.Proofs.YthaapijjjgkacaaDoorW.PrintLast Go.Proofs.YthaapijjjgkacaaDoorW.PrintMore
open Go.Proofs.YthaapijjjgkacaaDoor.PFilterReads
theorem one_C (w : World) (p : S46) : Kd.C k46 (w.alloc (.cells #[.string p.f0, .int .i64 p.f1, .int .i64 p.f2, .int .i64 p.f3, .string p.f4] 46)) (some ⟨w.heap.size, 0, none⟩) 1 [p] := by
  have HK : (w.alloc (.cells #[.string p.f0, .int .i64 p.f1, .int .i64 p.f2, .int .i64 p.f3, .string p.f4] 46)).heap[w.heap.size]? = some (.cells #[.string p.f0, .int .i64 p.f1, .int .i64 p.f2, .int .i64 p.f3, .string p.f4] 46 (0, 0)) := blk_new w _
  refine ⟨rfl, by decide, fun _ => ⟨_, rfl, fun j q hj => ?_⟩⟩
  match j with
  | 0 =>
    obtain rfl : p = q := by simpa using hj
    refine ⟨_, rfl, k46_mk _ p, fun i u hu => ?_⟩
    have e : (⟨w.heap.size, 0, none⟩ : Addr).add (0 * k46.sz + i) = ⟨w.heap.size, i, none⟩ := by
      rw [Lib.add_plain]
      simp
    rw [e]
    exact (blk_cell HK i).trans (by simpa using hu)
  | j + 1 => simp at hj
theorem printN_one (lo hi : Int) : printN [⟨⟨#[110]⟩, 1, lo, hi, ⟨#[]⟩⟩] 1 = inText lo hi := by
  show [] ++ pstep 0 (⟨⟨#[110]⟩, 1, lo, hi, ⟨#[]⟩⟩ : S46) = _
  simp [pstep, predL, inText]
theorem inText_len (lo hi : Int) (h1 : -9999999999 ≤ lo) (h2 : lo ≤ 9999999999) (h3 : -9999999999 ≤ hi) (h4 : hi ≤ 9999999999) : (inText lo hi).length ≤ 60 := by
  have a := Lib.itoa_length_le lo (by omega) (by omega)
  have b := Lib.itoa_length_le hi (by omega) (by omega)
  unfold inText
  simp only [List.length_append, List.length_cons, List.length_nil]
  omega
set_option maxHeartbeats 4000000 in
set_option maxRecDepth 100000 in
theorem numbers_calls (lo hi : Int) (w : World) (hg : ErrTy w) (hT : TabI w) : Calls Tryd.prog 7 #[.int .i64 lo, .int .i64 hi] w fun e w' => e = .returned (.bool true) ∧ Below w.heap.size w w' := by
  have HG := Aside0.mk hg
  have HT := Aside0.mk hT
  have HB := Aside0.mk (Below.refl w.heap.size w)
  clear hg hT
  by_cases hout : lo > 9999999999 ∨ lo < -9999999999 ∨ hi > 9999999999 ∨ hi < -9999999999
  · go_enter Tryd.func7, Tryd.ntmps7
    go_wp2_with fail
    all_goals first
      | (exfalso; omega)
      | (refine (awake_calls _ HG.out).mono ?_
         rintro e w9 ⟨rfl, hb⟩
         go_wp2
         go_ret
         exact ⟨rfl, hb⟩)
  · have b1 : decide (9999999999 < lo) = false := decide_eq_false (by omega)
    have b2 : decide (lo < -9999999999) = false := decide_eq_false (by omega)
    have b3 : decide (9999999999 < hi) = false := decide_eq_false (by omega)
    have b4 : decide (hi < -9999999999) = false := decide_eq_false (by omega)
    go_enter Tryd.func7, Tryd.ntmps7
    go_wp2_with fail
    have hr1 := Aside0.mk (And.intro (show -9999999999 ≤ lo by omega) (And.intro (show lo ≤ 9999999999 by omega) (And.intro (show -9999999999 ≤ hi by omega) (show hi ≤ 9999999999 by omega))))
    refine (print_calls _ 1 1 [⟨⟨#[110]⟩, 1, lo, hi, ⟨#[]⟩⟩] _ rfl (one_C w ⟨⟨#[110]⟩, 1, lo, hi, ⟨#[]⟩⟩) (TabI.below HT.out (below_alloc (Below.refl _ _) _)) (fun p hp => by rw [List.mem_singleton.mp hp]; exact ⟨by show _ ≤ lo; omega, by show lo ≤ _; omega, by show _ ≤ hi; omega, by show hi ≤ _; omega⟩) ?hs (by decide)).mono ?_
    case hs =>
      rw [printN_one]
      have := inText_len lo hi (by omega) (by omega) (by omega) (by omega)
      omega
    rintro e w2 ⟨rfl, hb2⟩
    have n_ := Aside0.mk (below_then (below_alloc HB.out (.cells #[.string ⟨#[110]⟩, .int .i64 1, .int .i64 lo, .int .i64 hi, .string ⟨#[]⟩] 46)) (below_size (below_alloc HB.out _)) hb2)
    clear HB hb2
    have HB := n_
    clear n_
    rw [printN_one]
    have hz : (⟨(inText lo hi).toArray⟩ : ByteArray).size ≤ 300 := by
      show (inText lo hi).toArray.size ≤ 300
      rw [List.size_toArray]
      have := inText_len lo hi (by omega) (by omega) (by omega) (by omega)
      omega
    have hpr := numbers_plain ⟨(inText lo hi).toArray⟩ lo hi rfl hz (by omega) (by omega) (by omega) (by omega)
    generalize (⟨(inText lo hi).toArray⟩ : ByteArray) = S at hz hpr ⊢
    go_wp2_with fail
    refine (parse_P S _ (by omega)).mono ?_
    rintro e w3 hp
    obtain ⟨v1, rfl, ho, hb1⟩ := hp.ok hpr
    obtain ⟨A1, c1, rfl, hc1, hC1⟩ := Kd.R_reads ho
    have n_ := Aside0.mk (below_then HB.out HB.out.size hb1)
    clear HB hb1 hp ho hpr hz
    have HB := n_
    clear n_
    change Kd.C k46 w3 A1 1 [toP ⟨[110], 1, lo, hi, []⟩] at hC1
    have hlen : (List.map toP [(⟨[110], 1, lo, hi, []⟩ : Pr)]).length = 1 := rfl
    rw [hlen]
    have HC1 := Aside0.mk hC1
    clear hC1
    go_wp2_with fail
    refine (awake_calls _ (ErrTy.below HG.out HB.out)).mono ?_
    rintro e w4 ⟨rfl, hb⟩
    obtain ⟨ad, e, h0, h1, h2, h3, h4⟩ := at_T46 (Kd.C_below HC1.out hb) 0 (by decide) (by decide)
    cases e
    have ea : ad.add ((0 : Int).toNat * 5) = ad := by simp [Addr.add]
    rw [ea] at h2 h3
    change w4.cell? ⟨ad.block, ad.off + 2, none⟩ = some (.int .i64 lo) at h2
    change w4.cell? ⟨ad.block, ad.off + 3, none⟩ = some (.int .i64 hi) at h3
    have n_ := Aside0.mk (below_then HB.out HB.out.size hb)
    clear HB hb h0 h1 h4
    have HB := n_
    clear n_
    go_wp2
    go_ret
    exact ⟨rfl, HB.out⟩
end Go.Proofs.YthaapijjjgkacaaDoor.Mine
