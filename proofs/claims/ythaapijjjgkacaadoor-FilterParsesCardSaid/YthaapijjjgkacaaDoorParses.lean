/-
  wigwaglaw06.FilterParses, walked: true at every input. Condition: errors.errorType holds what its initialiser lays.
-/
import Derived.Test.YthaapijjjgkacaaDoorRef7
import Derived.Test.YthaapijjjgkacaaDoorBlanks
set_option linter.unusedSimpArgs false
set_option linter.unusedVariables false
namespace Go.Proofs.YthaapijjjgkacaaDoor.Mine
open Go.RowKit Go.Proofs.YthaapijjjgkacaaDoorW.PrintWords Go.Proofs.YthaapijjjgkacaaDoorW.PrintLast Go.Proofs.YthaapijjjgkacaaDoorW.PrintMore
open Go.Proofs.YthaapijjjgkacaaDoor.PFilterReads
theorem rparse_no {w w' : World} {s : ByteArray} {e : Ending} {at_ c : Int} (h : RParsePost w s e w') (hr : parseR s = .inr (at_, c)) : RParseNo w at_ c e w' := by
  unfold RParsePost at h
  rw [hr] at h
  exact h
theorem rparse_ok {w w' : World} {s : ByteArray} {e : Ending} {xs : List Pr} (h : RParsePost w s e w') (hr : parseR s = .inl xs) : RParseOk w xs e w' := by
  unfold RParsePost at h
  rw [hr] at h
  exact h
theorem parseR_code {s : ByteArray} {at_ c : Int} (h : parseR s = .inr (at_, c)) : (c == 0) = false := by
  unfold parseR at h
  split at h
  · injection h with h
    injection h with _ h
    subst h
    rfl
  · split at h
    · cases h
    · injection h with h
      injection h with _ h
      subst h
      rfl
theorem toPQ_map (xs : List Pr) : xs.map toPQ = (xs.map toP).map toQ := by
  rw [List.map_map]
  rfl
set_option maxHeartbeats 4000000 in
set_option maxRecDepth 100000 in
theorem parses_calls (s0 : ByteArray) (w : World) (hg : ErrTy w) (hs0 : s0.size ≤ 9223372036854775807) : Calls Tryd.prog 6 #[.string s0] w fun e w' => e = .returned (.bool true) ∧ Below w.heap.size w w' := by
  have HG := Aside0.mk hg
  clear hg
  go_enter Tryd.func6, Tryd.ntmps6
  go_wp2_with fail
  refine (cut_P s0 400 _ hs0 (by omega)).mono ?_
  rintro e w' ⟨rfl, rfl⟩
  have hle := cutB_le s0 400
  generalize cutB s0 400 = a at hle ⊢
  go_wp2_with fail
  refine (parse_P a _ (by omega)).mono ?_
  rintro e w1 hp
  cases hr : parseR a with
  | inr z =>
    obtain ⟨at_, c⟩ := z
    obtain ⟨b, hbl, rfl, hf, hb1⟩ := hp.no hr
    have HB := Aside0.mk hb1
    have HF := Aside0.mk hf
    have hc := parseR_code hr
    have HR := Aside0.mk hr
    clear hp hr hf hb1
    go_wp2_with fail
    refine (rparse_calls a _ (by omega)).mono ?_
    rintro e w2 hq
    obtain ⟨rfl, hb2⟩ := rparse_no hq HR.out
    have HF2 := Aside0.mk (IsFault.keep HF.out hb2)
    have n_ := Aside0.mk (below_then HB.out HB.out.size hb2)
    clear HB HF hq hb2
    have HB := n_
    clear n_
    go_wp2_with fail
    refine (awake_calls _ (ErrTy.below HG.out HB.out)).mono ?_
    rintro e w3 ⟨rfl, hb3⟩
    have HF3 := Aside0.mk (IsFault.keep HF2.out hb3)
    have n_ := Aside0.mk (below_then HB.out HB.out.size hb3)
    clear HB HF2 hb3
    have HB := n_
    clear n_
    go_wp2_with fail
    refine (told_R [] none 0 0 _ rfl (Kd.C_nil k46 _) (Nat.le_refl _) (by omega)).mono ?_
    rintro e w4 ⟨A4, c4, rfl, hc4, hC4, hb4⟩
    have HC4 := Aside0.mk hC4
    have HF4 := Aside0.mk (IsFault.keep HF3.out hb4)
    have n_ := Aside0.mk (below_then HB.out HB.out.size hb4)
    clear HB HF3 hb4 hC4
    have HB := n_
    clear n_
    go_wp2_with fail
    refine (same_P A4 none 0 0 c4 0 [] _ rfl rfl HC4.out hc4 (Kd.C_nil k77 _) (Nat.le_refl _) (by omega)).mono ?_
    rintro e w5 ⟨rfl, hb5⟩
    have HF5 := Aside0.mk (IsFault.keep HF4.out hb5)
    have n_ := Aside0.mk (below_then HB.out HB.out.size hb5)
    clear HB HF4 hb5
    have HB := n_
    clear n_
    go_wp2_with fail
    refine (of_err c 1 _ _ (IsFault.errIs HF5.out) (ErrTy.below HG.out HB.out)).mono ?_
    rintro e w6 ⟨rfl, hb6⟩
    have HF6 := Aside0.mk (IsFault.keep HF5.out hb6)
    have n_ := Aside0.mk (below_then HB.out HB.out.size hb6)
    clear HB HF5 hb6
    have HB := n_
    clear n_
    go_wp2_with fail
    refine (at_fault b _ _ _ _ HF6.out (ErrTy.below HG.out HB.out)).mono ?_
    rintro e w7 ⟨rfl, hb7⟩
    have n_ := Aside0.mk (below_then HB.out HB.out.size hb7)
    clear HB HF6 hb7
    have HB := n_
    clear n_
    go_wp2
    go_ret
    exact ⟨by first | rfl | simp, HB.out⟩
  | inl xs =>
    obtain ⟨v1, rfl, ho, hb1⟩ := hp.ok hr
    have HB := Aside0.mk hb1
    obtain ⟨A1, c1, rfl, hc1, hC1⟩ := Kd.R_reads ho
    have lx : (xs.map toP).length ≤ 301 := by simpa using parse_count hr
    have HR := Aside0.mk hr
    have HC1 := Aside0.mk hC1
    clear hp hr ho hb1 hC1
    obtain ⟨n1, hn⟩ : ∃ n, (xs.map toP).length = n := ⟨_, rfl⟩
    have HN := Aside0.mk hn
    rw [hn] at HC1 hc1 lx ⊢
    clear hn
    go_wp2_with fail
    refine (rparse_calls a _ (by omega)).mono ?_
    rintro e w2 hq
    obtain ⟨v2, rfl, ho2, hb2⟩ := rparse_ok hq HR.out
    rw [toPQ_map] at ho2
    obtain ⟨A2, c2, rfl, hc2, hC2⟩ := Kd.R_reads ho2
    have hn2 : ((xs.map toP).map toQ).length = n1 := by rw [List.length_map]; exact HN.out
    have HN2 := Aside0.mk hn2
    rw [hn2] at hc2 hC2 ⊢
    have HC2 := Aside0.mk hC2
    have n_ := Aside0.mk (below_then HB.out HB.out.size hb2)
    have k_ := Aside0.mk (Kd.C_below HC1.out hb2)
    clear HB HC1 hq ho2 hb2 hC2 hn2
    have HB := n_
    have HC1 := k_
    clear n_ k_
    go_wp2_with fail
    refine (awake_calls _ (ErrTy.below HG.out HB.out)).mono ?_
    rintro e w3 ⟨rfl, hb3⟩
    have n_ := Aside0.mk (below_then HB.out HB.out.size hb3)
    have k_ := Aside0.mk (Kd.C_below HC1.out hb3)
    have k2_ := Aside0.mk (Kd.C_below HC2.out hb3)
    clear HB HC1 HC2 hb3
    have HB := n_
    have HC1 := k_
    have HC2 := k2_
    clear n_ k_ k2_
    go_wp2_with fail
    refine (told_R (xs.map toP) A1 n1 c1 _ HN.out HC1.out hc1 (by omega)).mono ?_
    rintro e w4 ⟨A4, c4, rfl, hc4, hC4, hb4⟩
    have HC4 := Aside0.mk hC4
    have n_ := Aside0.mk (below_then HB.out HB.out.size hb4)
    have k2_ := Aside0.mk (Kd.C_below HC2.out hb4)
    clear HB HC1 HC2 hb4 hC4
    have HB := n_
    have HC2 := k2_
    clear n_ k2_
    go_wp2_with fail
    refine (same_P A4 A2 n1 n1 c4 c2 _ _ HN2.out HN2.out HC4.out hc4 HC2.out hc2 (by omega)).mono ?_
    rintro e w5 ⟨rfl, hb5⟩
    have n_ := Aside0.mk (below_then HB.out HB.out.size hb5)
    clear HB hb5
    have HB := n_
    clear n_
    go_wp2_with fail
    refine (of_nil _).mono ?_
    rintro e w6 ⟨rfl, hb6⟩
    have n_ := Aside0.mk (below_then HB.out HB.out.size hb6)
    clear HB hb6
    have HB := n_
    clear n_
    go_wp2
    go_ret
    exact ⟨by first | rfl | simp, HB.out⟩
end Go.Proofs.YthaapijjjgkacaaDoor.Mine
