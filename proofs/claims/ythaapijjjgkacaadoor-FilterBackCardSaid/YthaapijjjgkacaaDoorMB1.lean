/-
  Texts of this claim, one behind the other: what each one proves, and its conditions, stand at its head.
-/
import Derived.Test.YthaapijjjgkacaaDoorMR10
set_option linter.unusedSimpArgs false
set_option linter.unusedVariables false
section
/-
  wigwaglaw05.Preds, walked: a filter of at most 6 predicates, their names and texts cut. Condition: names and texts at most 2^63 - 1 bytes.
-/
namespace Go.Proofs.YthaapijjjgkacaaDoor.Mine
open Go.RowKit Go.Proofs.YthaapijjjgkacaaDoorW.PrintWords Go.Proofs.YthaapijjjgkacaaDoorW.PrintLast Go.Proofs.YthaapijjjgkacaaDoorW.PrintMore
open Go.Proofs.YthaapijjjgkacaaDoor.PFilterReads
def cutP (x : S46) : S46 := ⟨cutB x.f0 20, x.f1, x.f2, x.f3, cutB x.f4 50⟩
def predsOf (L : List S46) : List S46 := (L.take 6).map cutP
theorem preds_snoc (L : List S46) (i : Nat) (h : i < L.length) : (L.take (i + 1)).map cutP = (L.take i).map cutP ++ [cutP (L.getD i z46)] := by
  rw [List.take_succ_eq_append_getElem h, List.map_append, List.getD_eq_getElem?_getD, List.getElem?_eq_getElem h]
  rfl
set_option maxHeartbeats 4000000 in
set_option maxRecDepth 100000 in
theorem preds_calls (A : Option Addr) (n c : Nat) (L : List S46) (w : World) (hn : L.length = n) (hr : Kd.C k46 w A n L) (hc : n ≤ c) (hnm : ∀ p ∈ L, p.f0.size ≤ 9223372036854775807 ∧ p.f4.size ≤ 9223372036854775807) (hn2 : n ≤ 9223372036854775807) :
    Calls Tryd.prog 30 #[.slice A n c] w fun e w' => ∃ v0 v1, e = .returned (.tuple #[v0, v1]) ∧ Kd.R k46 46 w' w.heap.size (fun _ => True) v0 (predsOf L) ∧ Kd.R k77 77 w' w.heap.size (fun _ => True) v1 ((predsOf L).map toQ) ∧ Below w.heap.size w w' := by
  have HR := Aside0.mk hr
  have HN := Aside0.mk hn
  have HNM := Aside0.mk hnm
  clear hr hn hnm
  go_enter Tryd.func30, Tryd.ntmps30
  go_wp2_with fail
  have HB := Aside0.mk (below_alloc (below_alloc (Below.refl w.heap.size w) (.cells #[] 46)) (.cells #[] 77))
  have HO4 : Aside0 (Kd.R k46 46 ((w.alloc (.cells #[] 46)).alloc (.cells #[] 77)) w.heap.size (fun _ => True) (.slice (some ⟨w.heap.size, 0, none⟩) 0 0) (([] : List S46))) :=
    ⟨Kd.R_alloc (show Kd.R k46 46 (w.alloc (.cells #[] 46)) w.heap.size (fun _ => True) (.slice (some ⟨w.heap.size, 0, none⟩) 0 0) ([] : List S46) from ⟨fun _ _ => trivial, [], World.ownsRow_lit w #[] 0 (Nat.le_refl _) (by decide) rfl, Reps.none _ _⟩) _⟩
  have HO5 : Aside0 (Kd.R k77 77 ((w.alloc (.cells #[] 46)).alloc (.cells #[] 77)) w.heap.size (fun _ => True) (.slice (some ⟨w.heap.size + 1, 0, none⟩) 0 0) (([] : List S77))) :=
    ⟨⟨fun _ _ => trivial, [], by
      have := World.ownsRow_lit (base := w.heap.size) (e := 77) (size := 5) (w.alloc (.cells #[] 46)) #[] 0 (by show _ ≤ (w.heap.push _).size; rw [Array.size_push]; omega) (by decide) rfl
      have e : (w.alloc (.cells #[] 46)).heap.size = w.heap.size + 1 := by show (w.heap.push _).size = _; exact Array.size_push _
      rw [e] at this
      exact this, Reps.none _ _⟩⟩
  generalize (w.alloc (.cells #[] 46)).alloc (.cells #[] 77) = w0 at HB HO4 HO5 ⊢
  generalize Value.slice (some { block := w.heap.size, off := 0 }) 0 0 = v40 at HO4 ⊢
  generalize Value.slice (some { block := w.heap.size + 1, off := 0 }) 0 0 = v50 at HO5 ⊢
  go_loopg [4, 5, 6, 7] 8 (fun k v4 v5 v6 v7 W => ∃ i : Nat, Aside0 (i ≤ n ∧ i ≤ 6 ∧ k + i = 8) ∧ v6 = .int .i64 (i : Int) ∧ Aside0 (Kd.R k46 46 W w.heap.size (fun _ => True) v4 ((L.take i).map cutP)) ∧ Aside0 (Kd.R k77 77 W w.heap.size (fun _ => True) v5 (((L.take i).map cutP).map toQ)) ∧ Aside0 (Below w.heap.size w W))
  case atStart => exact ⟨0, ⟨by omega, by omega, by omega⟩, rfl, HO4, HO5, HB⟩
  case round =>
    clear HO4 HO5 HB
    obtain ⟨i, HI, rfl, HO4, HO5, HB⟩ := hrel
    by_cases hi : i < n
    · have b1 : decide ((i : Int) < (n : Int)) = true := decide_eq_true (by omega)
      have b2 : decide (i < n) = true := decide_eq_true (by omega)
      have p1 : (0 : Int) ≤ (i : Int) := by omega
      have p2 : (i : Int) < (n : Int) := by omega
      by_cases h6 : i < 6
      · have b3 : decide ((i : Int) < 6) = true := decide_eq_true (by omega)
        obtain ⟨ad, e, h0, h1, h2, h3, h4⟩ := at_T46 HR.out i p1 p2
        cases e
        rw [Int.toNat_natCast] at h0 h1 h2 h3 h4
        replace h0 := (HB.out.cell (World.block_lt_of_cell? w _ h0)).trans h0
        replace h1 := (HB.out.cell (World.block_lt_of_cell? w _ h1)).trans h1
        replace h2 := (HB.out.cell (World.block_lt_of_cell? w _ h2)).trans h2
        replace h3 := (HB.out.cell (World.block_lt_of_cell? w _ h3)).trans h3
        replace h4 := (HB.out.cell (World.block_lt_of_cell? w _ h4)).trans h4
        have hrd : rd_T46 L (i : Int) = L.getD i z46 := rfl
        rw [hrd] at h0 h1 h2 h3 h4
        have hs := preds_snoc L i (by have := HN.out; omega)
        have hz : (L.getD i z46).f0.size ≤ 9223372036854775807 ∧ (L.getD i z46).f4.size ≤ 9223372036854775807 := HNM.out _ (by rw [List.getD_eq_getElem?_getD, List.getElem?_eq_getElem (by have := HN.out; omega)]; exact List.getElem_mem _)
        have HS := Aside0.mk hs
        clear hrd hs
        generalize L.getD i z46 = p at h0 h1 h2 h3 h4 hz HS
        go_wp2_with fail
        refine (cut_P p.f0 20 _ hz.1 (by omega)).mono ?_
        rintro e w1 ⟨rfl, rfl⟩
        generalize hcut : cutB p.f0 20 = nm
        have HC0 := Aside0.mk hcut
        clear hcut
        go_wp2_with fail
        refine (cut_P p.f4 50 _ hz.2 (by omega)).mono ?_
        rintro e w1 ⟨rfl, rfl⟩
        generalize hcut : cutB p.f4 50 = st
        have HC := Aside0.mk (show cutP p = ⟨nm, p.f1, p.f2, p.f3, st⟩ by unfold cutP; rw [hcut, HC0.out])
        clear hcut
        go_upto_region 8 with (fail)
        have KB7 : Aside0 ((wr.alloc (.cells #[.string nm, .int .i64 p.f1, .int .i64 p.f2, .int .i64 p.f3, .string st] 46)).heap[wr.heap.size]? = some (.cells #[.string nm, .int .i64 p.f1, .int .i64 p.f2, .int .i64 p.f3, .string st] 46 (0, 0))) := ⟨heap_alloc_new wr _⟩
        have HLV := Aside0.mk (fun k (hk : u4.ownBlock = some k) => (Kd.R_bound HO4.out).1 k hk |>.2.2.1)
        have n1_ := Aside0.mk (below_alloc HB.out (.cells #[.string nm, .int .i64 p.f1, .int .i64 p.f2, .int .i64 p.f3, .string st] 46))
        have n2_ := Aside0.mk (Kd.R_alloc HO4.out (.cells #[.string nm, .int .i64 p.f1, .int .i64 p.f2, .int .i64 p.f3, .string st] 46))
        have n3_ := Aside0.mk (Kd.R_alloc HO5.out (.cells #[.string nm, .int .i64 p.f1, .int .i64 p.f2, .int .i64 p.f3, .string st] 46))
        clear HB HO4 HO5 h0 h1 h2 h3 h4
        have HB := n1_
        have HO4 := n2_
        have HO5 := n3_
        clear n1_ n2_ n3_
        generalize wr.alloc (.cells #[.string nm, .int .i64 p.f1, .int .i64 p.f2, .int .i64 p.f3, .string st] 46) = w2 at KB7 HB HO4 HO5 ⊢
        generalize wr.heap.size = g7 at KB7 HLV ⊢
        have y0 := (blk_cell KB7.out 0).trans (show _ = some (Value.string nm) from rfl)
        have y1 := (blk_cell KB7.out 1).trans (show _ = some (Value.int .i64 p.f1) from rfl)
        have y2 := (blk_cell KB7.out 2).trans (show _ = some (Value.int .i64 p.f2) from rfl)
        have y3 := (blk_cell KB7.out 3).trans (show _ = some (Value.int .i64 p.f3) from rfl)
        have y4 := (blk_cell KB7.out 4).trans (show _ = some (Value.string st) from rfl)
        have hbd : ((L.take i).map cutP).length ≤ 6 := by simp; omega
        have hbd2 : (((L.take i).map cutP).map toQ).length ≤ 6 := by simp; omega
        have HBD := Aside0.mk (And.intro hbd hbd2)
        clear hbd hbd2
        go_wp2_with (first
          | ((with_reducible refine gate_builtin (b := .append) (xs := #[.tmp 32, .tmp 34]) rfl ?_); at_builtin; go_loud (refine Kd.R_append k46 (w0 := w) w.heap.size rfl (.tmp 32) (.tmp 34) 26 46 (.agg #[(.string ⟨#[]⟩), (.int .i64 0), (.int .i64 0), (.int .i64 0), (.string ⟨#[]⟩)]) 56 rfl Tryd.underlying26 info46 rfl (by decide) (by omega) _ _ (⟨nm, p.f1, p.f2, p.f3, st⟩ : S46) [.string nm, .int .i64 p.f1, .int .i64 p.f2, .int .i64 p.f3, .string st] (fun _ => True) (fun _ => False) rfl ?aX ?aP (fun _ hk => hk.elim) ?aF HO4.out HB.out HB.out.size ?aL ?_; (case aX => first | rfl | (go_simp; done) | (go_simp; rfl)); (case aP => exact k46_mkM _ _ _ (⟨nm, p.f1, p.f2, p.f3, st⟩ : S46)); (case aF => exact (fun k hk => trivial)); (case aL => have := HBD.out; omega); intro v9 w9 ho hb hg hat; have n0_ := Aside0.mk ho; have n1_ := Aside0.mk hb; have n2_ := Aside0.mk ((hg.block _ (blk_lt KB7.out) (fun e => absurd (HLV.out _ e.symm) (Nat.lt_irrefl _))).trans KB7.out); have n3_ := Aside0.mk (Kd.R_mono (Kd.R_grown (Kd.R_apartR HO5.out HO4.out (by decide)) hg (fun k hk => hk.2)) (ok' := fun _ => True) (fun _ _ => trivial)); clear HO4 HO5 HB KB7 ho hb hg hat y0 y1 y2 y3 y4; have HO4 := n0_; have HB := n1_; have KB7 := n2_; have HO5 := n3_; clear n0_ n1_ n2_ n3_; have y0 := (blk_cell KB7.out 0).trans (show _ = some (Value.string nm) from rfl); have y1 := (blk_cell KB7.out 1).trans (show _ = some (Value.int .i64 p.f1) from rfl); have y2 := (blk_cell KB7.out 2).trans (show _ = some (Value.int .i64 p.f2) from rfl); have y3 := (blk_cell KB7.out 3).trans (show _ = some (Value.int .i64 p.f3) from rfl); have y4 := (blk_cell KB7.out 4).trans (show _ = some (Value.string st) from rfl)))
          | ((with_reducible refine gate_builtin (b := .append) (xs := #[.tmp 36, .tmp 38]) rfl ?_); at_builtin; go_loud (refine Kd.R_append k77 (w0 := w) w.heap.size rfl (.tmp 36) (.tmp 38) 32 77 (.agg #[(.string ⟨#[]⟩), (.int .i64 0), (.int .i64 0), (.int .i64 0), (.string ⟨#[]⟩)]) 56 rfl Tryd.underlying32 info77 rfl (by decide) (by omega) _ _ (⟨nm, p.f1, p.f2, p.f3, st⟩ : S77) [.string nm, .int .i64 p.f1, .int .i64 p.f2, .int .i64 p.f3, .string st] (fun _ => True) (fun _ => False) rfl ?aX ?aP (fun _ hk => hk.elim) ?aF HO5.out HB.out HB.out.size ?aL ?_; (case aX => first | rfl | (go_simp; done) | (go_simp; rfl)); (case aP => exact k77_mkM _ _ _ (⟨nm, p.f1, p.f2, p.f3, st⟩ : S77)); (case aF => exact (fun k hk => trivial)); (case aL => have := HBD.out; omega); intro v9 w9 ho hb hg hat; have n0_ := Aside0.mk ho; have n1_ := Aside0.mk hb; have n3_ := Aside0.mk (Kd.R_mono (Kd.R_grown (Kd.R_apartR HO4.out HO5.out (by decide)) hg (fun k hk => hk.2)) (ok' := fun _ => True) (fun _ _ => trivial)); clear HO4 HO5 HB KB7 ho hb hg hat y0 y1 y2 y3 y4; have HO5 := n0_; have HB := n1_; have HO4 := n3_; clear n0_ n1_ n3_)))
        go_roundg (gk - 1)
        case measure => have := HI.out; omega
        case rel => exact ⟨i + 1, ⟨by omega, by omega, by have := HI.out; omega⟩, rfl, ⟨by rw [HS.out, HC.out]; exact HO4.out⟩, ⟨by rw [HS.out, HC.out, List.map_append]; exact HO5.out⟩, HB⟩
      · have b3 : decide ((i : Int) < 6) = false := decide_eq_false (by omega)
        have hE : predsOf L = (L.take i).map cutP := by unfold predsOf; rw [show i = 6 by have := HI.out; omega]
        have HE := Aside0.mk hE
        clear hE
        rw [← HE.out] at HO4 HO5
        have hfin := And.intro HO4.out (And.intro HO5.out HB.out)
        go_wp2
        go_ret2
        exact ⟨_, _, rfl, hfin⟩
    · have b1 : decide ((i : Int) < (n : Int)) = false := decide_eq_false (by omega)
      have b2 : decide (i < n) = false := decide_eq_false (by omega)
      have hE : predsOf L = (L.take i).map cutP := by
        unfold predsOf
        have h1 : L.length ≤ i := by have := HN.out; omega
        rw [List.take_of_length_le h1, List.take_of_length_le (by have := HI.out; omega)]
      have HE := Aside0.mk hE
      clear hE
      rw [← HE.out] at HO4 HO5
      have hfin := And.intro HO4.out (And.intro HO5.out HB.out)
      clear hi
      go_wp2
      go_ret2
      exact ⟨_, _, rfl, hfin⟩
end Go.Proofs.YthaapijjjgkacaaDoor.Mine
end
section
/-
  value.Name walked: may a text be an attribute's name? Condition: none.
-/
namespace Go.Proofs.YthaapijjjgkacaaDoor.Mine
open Go.RowKit Go.Proofs.YthaapijjjgkacaaDoorW.PrintWords Go.Lib
def badN (r : Nat) : Bool := (decide (r < 97) || decide (122 < r)) && (decide (r < 48) || decide (57 < r))
theorem idx_all (bad : Nat → Bool) (ok : UInt8 → Bool) (h1 : ∀ c : UInt8, c.toNat < 128 → bad c.toNat = !(ok c)) (h2 : ∀ r, 128 ≤ r → bad r = true) (h3 : ∀ c : UInt8, 128 ≤ c.toNat → ok c = false) (s : ByteArray) : ∀ (f i : Nat), s.size - i ≤ f → i ≤ s.size → (decide (0 ≤ idxFuncFrom bad true s f i) = !((s.data.toList.drop i).all ok))
  | 0, i, hf, hi => by
    have : i = s.size := by omega
    have hd : s.data.toList.drop i = [] := List.drop_eq_nil_iff.2 (by rw [Array.length_toList]; exact Nat.le_of_eq this.symm)
    rw [hd]
    rfl
  | f + 1, i, hf, hi => by
    by_cases hlt : i < s.size
    · have hd : s.data.toList.drop i = (s[i]'hlt) :: s.data.toList.drop (i + 1) := by
        rw [List.drop_eq_getElem_cons (by rw [Array.length_toList]; exact hlt)]
        rfl
      rw [hd, List.all_cons]
      unfold idxFuncFrom
      rw [if_pos hlt]
      by_cases ha : (s[i]'hlt).toNat < 128
      · rw [decode_ascii s i hlt ha]
        have hc := h1 _ ha
        simp only [hc]
        cases hx : ok (s[i]'hlt) with
        | false => simp
        | true =>
          simp only [Bool.not_true, Bool.true_and]
          rw [if_neg (by simp)]
          exact idx_all bad ok h1 h2 h3 s f (i + 1) (by omega) (by omega)
      · have hd := decode_hi s i hlt (by omega)
        rw [if_pos (h2 _ hd), h3 _ (by omega)]
        simp
    · have : i = s.size := by omega
      have hd : s.data.toList.drop i = [] := List.drop_eq_nil_iff.2 (by rw [Array.length_toList]; exact Nat.le_of_eq this.symm)
      rw [hd, idxFuncFrom_end _ _ _ _ _ hlt]
      rfl
theorem name_pred (w : World) : PredAt Tryd.prog 80 #[] encR badN w := fun W r _ => by
  unfold FnGives
  by_cases h1 : r < 97 <;> by_cases h2 : 122 < r <;> by_cases h3 : r < 48 <;> by_cases h4 : 57 < r
  all_goals
    have z1 : (r : Int) < 97 ↔ r < 97 := by omega
    have z2 : (122 : Int) < (r : Int) ↔ 122 < r := by omega
    have z3 : (r : Int) < 48 ↔ r < 48 := by omega
    have z4 : (57 : Int) < (r : Int) ↔ 57 < r := by omega
    go_enter Tryd.func80, Tryd.ntmps80
    go_wp2
    all_goals first | (exfalso; omega) | (go_ret; exact ⟨by simp [badN, h1, h2, h3, h4], 0, rfl⟩)
def nameOk (s : ByteArray) : Bool := !(s.toList == []) && (decide (s.size ≤ 12) && (isL (s.data.toList.headD 0) && (!(s.toList == [105, 110]) && (!(s.toList == [97, 110, 100]) && s.data.toList.all isA))))
theorem isA_nat (c : UInt8) : isA c = !badN c.toNat := by
  unfold isA isL isD badN
  simp only [UInt8.le_iff_toNat_le]
  have e1 : (97 : UInt8).toNat = 97 := rfl
  have e2 : (122 : UInt8).toNat = 122 := rfl
  have e3 : (48 : UInt8).toNat = 48 := rfl
  have e4 : (57 : UInt8).toNat = 57 := rfl
  rw [e1, e2, e3, e4, Bool.eq_iff_iff]
  simp only [Bool.or_eq_true, Bool.and_eq_true, decide_eq_true_eq, Bool.not_eq_true', Bool.and_eq_false_iff, Bool.or_eq_false_iff, decide_eq_false_iff_not]
  omega
theorem name_calls (s : ByteArray) (w : World) : Calls Tryd.prog 55 #[.string s] w fun e w' => e = .returned (.bool (nameOk s)) ∧ Below w.heap.size w w' := by
  have hC := fun W => Tryd.strings_ContainsFunc 80 #[] (enters_of Tryd.func80 (by kernel_rfl) rfl) badN s W (name_pred W)
  have hX : decide (0 ≤ Lib.idxFunc badN true s) = !(s.data.toList.all isA) := idx_all badN isA (fun c _ => by rw [isA_nat]; simp) (fun r hr => by simp only [badN, Bool.and_eq_true, Bool.or_eq_true, decide_eq_true_eq]; omega) (fun c hc => by rw [isA_nat]; simp only [badN, Bool.not_eq_false', Bool.and_eq_true, Bool.or_eq_true, decide_eq_true_eq]; omega) s s.size 0 (by omega) (by omega)
  have HX := Aside0.mk hX
  have HC := Aside0.mk hC
  clear hX hC
  cases q1 : (s.toList == []) with
  | true =>
    have HV := Aside0.mk (show nameOk s = false by unfold nameOk; rw [q1]; rfl)
    generalize nameOk s = z at HV ⊢
    go_enter Tryd.func55, Tryd.ntmps55
    go_wp2
    go_ret
    exact ⟨by rw [HV.out]; rfl, Below.refl _ _⟩
  | false =>
    have hpos : 0 < s.size := by
      rcases Nat.eq_zero_or_pos s.size with h0 | h0
      · have : s.toList = [] := by
          have e : s = ByteArray.empty := by
            cases s with
            | mk d =>
              have h5 : d.size = 0 := h0
              have : d = #[] := Array.eq_empty_of_size_eq_zero h5
              rw [this]
              rfl
          rw [e, btl]
          rfl
        rw [this] at q1
        cases q1
      · exact h0
    by_cases h12 : s.size ≤ 12
    · have q2 : decide ((12 : Int) < (s.size : Int)) = false := decide_eq_false (by omega)
      have q2b : decide (12 < s.size) = false := decide_eq_false (by omega)
      obtain ⟨c, hc⟩ : ∃ c, s[0]'hpos = c := ⟨_, rfl⟩
      have hhd : s.data.toList.headD 0 = c := by
        have h0 : 0 < s.data.toList.length := by rw [Array.length_toList]; exact hpos
        have : s.data.toList = s.data.toList[0] :: s.data.toList.drop 1 := by
          have := List.drop_eq_getElem_cons h0
          rwa [List.drop_zero] at this
        rw [this]
        exact hc
      have hx : ∀ h : 0 < s.size, s[0]'h = c := fun _ => hc
      have p1 : (0 : Int) < (s.size : Int) := by omega
      have HV := Aside0.mk (show nameOk s = (isL c && (!(s.toList == [105, 110]) && (!(s.toList == [97, 110, 100]) && s.data.toList.all isA))) by unfold nameOk; rw [q1, decide_eq_true h12, hhd]; rfl)
      generalize nameOk s = z at HV ⊢
      clear hc hhd
      have hL : isL c = (!decide ((c.toNat : Int) < 97) && !decide (122 < (c.toNat : Int))) := by
        unfold isL
        rw [Bool.eq_iff_iff]
        simp only [decide_eq_true_eq, Bool.and_eq_true, Bool.not_eq_true', decide_eq_false_iff_not, UInt8.le_iff_toNat_le]
        have e1 : (97 : UInt8).toNat = 97 := rfl
        have e2 : (122 : UInt8).toNat = 122 := rfl
        rw [e1, e2]
        omega
      by_cases g0 : (c.toNat : Int) < 97
      · have g1 := decide_eq_true g0
        have HZ := Aside0.mk (show z = false by rw [HV.out, hL, g1]; rfl)
        clear hL g0
        go_enter Tryd.func55, Tryd.ntmps55
        go_wp2
        go_ret
        exact ⟨by rw [HZ.out]; rfl, Below.refl _ _⟩
      · have g1 := decide_eq_false g0
        by_cases g2 : 122 < (c.toNat : Int)
        · have g3 := decide_eq_true g2
          have HZ := Aside0.mk (show z = false by rw [HV.out, hL, g1, g3]; rfl)
          clear hL g0 g2
          go_enter Tryd.func55, Tryd.ntmps55
          go_wp2
          go_ret
          exact ⟨by rw [HZ.out]; rfl, Below.refl _ _⟩
        · have g3 := decide_eq_false g2
          cases q3 : (s.toList == [105, 110]) with
          | true =>
            have HZ := Aside0.mk (show z = false by rw [HV.out, hL, g1, g3, q3]; rfl)
            clear hL g0 g2
            go_enter Tryd.func55, Tryd.ntmps55
            go_wp2
            go_ret
            exact ⟨by rw [HZ.out]; rfl, Below.refl _ _⟩
          | false =>
            cases q4 : (s.toList == [97, 110, 100]) with
            | true =>
              have HZ := Aside0.mk (show z = false by rw [HV.out, hL, g1, g3, q3, q4]; rfl)
              clear hL g0 g2
              go_enter Tryd.func55, Tryd.ntmps55
              go_wp2
              go_ret
              exact ⟨by rw [HZ.out]; rfl, Below.refl _ _⟩
            | false =>
              have HZ := Aside0.mk (show z = s.data.toList.all isA by rw [HV.out, hL, g1, g3, q3, q4]; rfl)
              clear hL g0 g2
              go_enter Tryd.func55, Tryd.ntmps55
              go_wp2_with fail
              refine (HC.out _).mono ?_
              rintro e w1 ⟨rfl, hb⟩
              rw [HX.out]
              go_wp2
              go_ret
              exact ⟨by rw [HZ.out]; simp, hb⟩
    · have q2 : decide ((12 : Int) < (s.size : Int)) = true := decide_eq_true (by omega)
      have q2b : decide (12 < s.size) = true := decide_eq_true (by omega)
      have HV := Aside0.mk (show nameOk s = false by unfold nameOk; rw [q1, decide_eq_false h12]; rfl)
      generalize nameOk s = z at HV ⊢
      go_enter Tryd.func55, Tryd.ntmps55
      go_wp2
      go_ret
      exact ⟨by rw [HV.out]; rfl, Below.refl _ _⟩
theorem nameOk_is {s : ByteArray} (h : nameOk s = true) : isName s.data.toList = true := by
  unfold nameOk at h
  simp only [Bool.and_eq_true, Bool.not_eq_true'] at h
  obtain ⟨h1, _, h2, _, _, h3⟩ := h
  cases hl : s.data.toList with
  | nil => rw [hl] at h2; revert h2; decide
  | cons c r =>
    rw [hl] at h2 h3
    simp only [isName, Bool.and_eq_true]
    simp only [List.all_cons, Bool.and_eq_true] at h3
    exact ⟨h2, h3.2⟩
end Go.Proofs.YthaapijjjgkacaaDoor.Mine
end
section
/-
  value.Schema.Check, walked. Conditions: the schema at most 100000 long.
-/
namespace Go.Proofs.YthaapijjjgkacaaDoor.Mine
open Go.RowKit Go.Proofs.YthaapijjjgkacaaDoorW.PrintWords Go.Proofs.YthaapijjjgkacaaDoorW.PrintLast Go.Proofs.YthaapijjjgkacaaDoorW.PrintMore
open Go.Proofs.YthaapijjjgkacaaDoor.PFilterReads
theorem cont95_calls (g : Nat) (lb : Array Value) (p : S95 → Bool) (A : Option Addr) (n c : Nat) (L : List S95) (w : World) (eg : ∀ args w, (callFunc g args).run Tryd.prog w = .ok (.enter g args) w) (hn : L.length = n) (hr : Kd.C k95 w A n L) (hl : n ≤ 100000)
    (hp : CloAt g lb enc95 p w) :
    Calls Tryd.prog 56 #[.slice A n c, .func (.func g) #[] lb] w fun e w' => e = .returned (.bool (L.any p)) ∧ Below w.heap.size w w' := by
  have HC := Aside0.mk (idx95_calls g lb p A n c L w eg hn hr hl hp)
  have HX := Aside0.mk (idxB_any p L)
  generalize idxB p L = z at HC HX
  clear hr hn hp
  go_enter Tryd.func56, Tryd.ntmps56
  go_wp2_with fail
  refine HC.out.mono ?_
  rintro e w2 ⟨rfl, hb⟩
  go_wp2
  go_ret
  exact ⟨by rw [← HX.out]; rfl, hb⟩
theorem attr_clo (nm : ByteArray) (B : Nat) (w : World) (hc : w.cell? ⟨B, 0, none⟩ = some (.string nm)) : CloAt 57 #[.pointer (some ⟨B, 0, none⟩)] enc95 (fun x => x.f0.toList == nm.toList) w := fun W x hb => by
  have h0 := (hb.cell (World.block_lt_of_cell? w _ hc)).trans hc
  have hlt := World.block_lt_of_cell? W _ h0
  show Calls _ _ #[enc95 x, .pointer (some ⟨B, 0, none⟩)] W _
  unfold enc95
  go_enter Tryd.func57, Tryd.ntmps57
  go_wp2
  go_ret
  exact ⟨rfl, below_alloc (Below.refl _ _) _⟩
def kindOk (a : S95) : Bool :=
  if a.f1 = 1 then !decide (a.f2 < -2147483648) && (!decide (2147483648 < a.f3) && !decide (a.f3 < a.f2))
  else (a.f1 == 2) && ((a.f2 == 0) && (a.f3 == 0))
def attrAt (S : List S95) (i : Nat) : Bool := nameOk (S.getD i z95).f0 && (!((S.take i).any fun x => x.f0.toList == (S.getD i z95).f0.toList) && kindOk (S.getD i z95))
def chkFrom (S : List S95) : Nat → Nat → Option Nat
  | 0, _ => none
  | k + 1, i => if attrAt S i then chkFrom S k (i + 1) else some i
/-- The first attribute that is not in form; none: there is none. -/
def checkBad (S : List S95) : Option Nat := if S.length < 1 ∨ 4 < S.length then some 0 else chkFrom S S.length 0
def CheckPost (w : World) (S : List S95) (e : Ending) (w' : World) : Prop :=
  match checkBad S with
  | none => e = .returned .nilIface ∧ Below w.heap.size w w'
  | some i => ∃ b, w.heap.size ≤ b ∧ e = .returned (.iface 67 (.pointer (some ⟨b, 0, none⟩))) ∧ IsFault w' b ⟨#[118, 97, 108, 117, 101]⟩ (i : Int) 3 ∧ Below w.heap.size w w'
theorem cp_bad {w w' : World} {S : List S95} {e : Ending} {i : Nat} (h : checkBad S = some i) (ho : ∃ b, w.heap.size ≤ b ∧ e = .returned (.iface 67 (.pointer (some ⟨b, 0, none⟩))) ∧ IsFault w' b ⟨#[118, 97, 108, 117, 101]⟩ (i : Int) 3 ∧ Below w.heap.size w w') : CheckPost w S e w' := by
  unfold CheckPost
  rw [h]
  exact ho
theorem cp_ok {w w' : World} {S : List S95} {e : Ending} (h : checkBad S = none) (ho : e = .returned .nilIface ∧ Below w.heap.size w w') : CheckPost w S e w' := by
  unfold CheckPost
  rw [h]
  exact ho
theorem CheckPost.bad {w w' : World} {S : List S95} {e : Ending} {i : Nat} (h : CheckPost w S e w') (hb : checkBad S = some i) : ∃ b, w.heap.size ≤ b ∧ e = .returned (.iface 67 (.pointer (some ⟨b, 0, none⟩))) ∧ IsFault w' b ⟨#[118, 97, 108, 117, 101]⟩ (i : Int) 3 ∧ Below w.heap.size w w' := by
  unfold CheckPost at h
  rw [hb] at h
  exact h
theorem CheckPost.ok {w w' : World} {S : List S95} {e : Ending} (h : CheckPost w S e w') (hb : checkBad S = none) : e = .returned .nilIface ∧ Below w.heap.size w w' := by
  unfold CheckPost at h
  rw [hb] at h
  exact h
theorem chkFrom_none {S : List S95} : ∀ (k i : Nat), chkFrom S k i = none → ∀ j, i ≤ j → j < i + k → attrAt S j = true
  | 0, i, _, j, h1, h2 => by omega
  | k + 1, i, h, j, h1, h2 => by
    unfold chkFrom at h
    split at h
    · by_cases hj : j = i
      · rw [hj]; assumption
      · exact chkFrom_none k (i + 1) h j (by omega) (by omega)
    · cases h
theorem checkBad_none {S : List S95} (h : checkBad S = none) : 1 ≤ S.length ∧ S.length ≤ 4 ∧ ∀ a ∈ S, nameOk a.f0 = true ∧ kindOk a = true := by
  unfold checkBad at h
  split at h
  · cases h
  · refine ⟨by omega, by omega, fun a ha => ?_⟩
    obtain ⟨i, hi, rfl⟩ := List.getElem_of_mem ha
    have := chkFrom_none S.length 0 h i (Nat.zero_le _) (by omega)
    have e : S.getD i z95 = S[i] := by rw [List.getD_eq_getElem?_getD, List.getElem?_eq_getElem hi]; rfl
    unfold attrAt at this
    rw [e] at this
    simp only [Bool.and_eq_true] at this
    exact ⟨this.1, this.2.2⟩
set_option maxHeartbeats 8000000 in
set_option maxRecDepth 100000 in
theorem check_calls (A : Option Addr) (n c : Nat) (S : List S95) (w : World) (hn : S.length = n) (hr : Kd.C k95 w A n S) (hl : n ≤ 100000) (hcd : n ≤ c) :
    Calls Tryd.prog 31 #[.slice A n c] w (CheckPost w S) := by
  have HRS := Aside0.mk hr
  have HN := Aside0.mk hn
  clear hr hn
  by_cases hlen : n < 1 ∨ 4 < n
  · have HB := Aside0.mk (fun e w' ho => cp_bad (w := w) (w' := w') (S := S) (e := e) (i := 0) (by unfold checkBad; rw [if_pos (by have := HN.out; omega)]) ho)
    generalize CheckPost w S = POST at HB ⊢
    by_cases h1 : n < 1
    · have q1 : decide ((n : Int) < 1) = true := decide_eq_true (by omega)
      clear hlen
      obtain rfl : n = 0 := by omega
      go_enter Tryd.func31, Tryd.ntmps31
      go_wp2_with fail
      refine (vfault_calls _ _ _).mono ?_
      rintro e w1 ⟨b, h1, rfl, hf, hb⟩
      go_wp2
      try go_ret
      exact HB.out _ _ ⟨b, h1, rfl, hf, hb⟩
    · have q1 : decide ((n : Int) < 1) = false := decide_eq_false (by omega)
      have q2 : decide (4 < (n : Int)) = true := decide_eq_true (by omega)
      clear hlen
      go_enter Tryd.func31, Tryd.ntmps31
      go_wp2_with fail
      refine (vfault_calls _ _ _).mono ?_
      rintro e w1 ⟨b, h1, rfl, hf, hb⟩
      go_wp2
      try go_ret
      exact HB.out _ _ ⟨b, h1, rfl, hf, hb⟩
  · have q1 : decide ((n : Int) < 1) = false := decide_eq_false (by omega)
    have q2 : decide (4 < (n : Int)) = false := decide_eq_false (by omega)
    have HFB := Aside0.mk (show checkBad S = chkFrom S n 0 by unfold checkBad; rw [if_neg (by have := HN.out; omega), HN.out])
    have HEP := Aside0.mk (fun i e w' h ho => cp_bad (w := w) (w' := w') (S := S) (e := e) (i := i) h ho)
    have HOP := Aside0.mk (fun e w' h ho => cp_ok (w := w) (w' := w') (S := S) (e := e) h ho)
    generalize CheckPost w S = POST at HEP HOP ⊢
    clear hlen
    go_enter Tryd.func31, Tryd.ntmps31
    go_wp2_with fail
    go_loopg [3, 4, 16, 21, 33, 54] (n + 1) (fun k v3 v4 v16 v21 v33 v54 W => ∃ i : Nat, Aside0 (i ≤ n ∧ k + i = n + 1 ∧ checkBad S = chkFrom S (n - i) i) ∧ v16 = .int .i64 (i : Int) ∧ Aside0 (Below w.heap.size w W))
    case atStart => exact ⟨0, ⟨by omega, by omega, HFB.out⟩, rfl, ⟨Below.refl _ _⟩⟩
    case round =>
      obtain ⟨i, HI, rfl, HB⟩ := hrel
      by_cases hi : i < n
      · have b1 : decide ((i : Int) < (n : Int)) = true := decide_eq_true (by omega)
        have b2 : decide (i < n) = true := decide_eq_true (by omega)
        have p1 : (0 : Int) ≤ (i : Int) := by omega
        have p2 : (i : Int) < (n : Int) := by omega
        have hstep : chkFrom S (n - i) i = if attrAt S i then chkFrom S (n - (i + 1)) (i + 1) else some i := by
          rw [show n - i = (n - (i + 1)) + 1 by omega]
          rfl
        obtain ⟨ad, e, h0, h1, h2, h3⟩ := at_T95 HRS.out i p1 p2
        cases e
        rw [Int.toNat_natCast] at h0 h1 h2 h3
        replace h0 := (HB.out.cell (World.block_lt_of_cell? w _ h0)).trans h0
        replace h1 := (HB.out.cell (World.block_lt_of_cell? w _ h1)).trans h1
        replace h2 := (HB.out.cell (World.block_lt_of_cell? w _ h2)).trans h2
        replace h3 := (HB.out.cell (World.block_lt_of_cell? w _ h3)).trans h3
        have hrd : rd_T95 S (i : Int) = S.getD i z95 := rfl
        rw [hrd] at h0 h1 h2 h3
        unfold attrAt at hstep
        generalize S.getD i z95 = p at h0 h1 h2 h3 hstep
        have HST0 := Aside0.mk hstep
        clear hrd hstep
        go_wp2_with fail
        refine (name_calls p.f0 _).mono ?_
        rintro e w1 ⟨rfl, hb⟩
        have hnew := heap_alloc_new wr (.cells #[.string p.f0, .int .i64 p.f1, .int .i64 p.f2, .int .i64 p.f3] 95 (0, 0))
        have KB6 := Aside0.mk ((hb.block _ (blk_lt hnew)).trans hnew)
        have n_ := Aside0.mk (below_then (below_alloc HB.out (.cells #[.string p.f0, .int .i64 p.f1, .int .i64 p.f2, .int .i64 p.f3] 95)) (below_size (below_alloc HB.out _)) hb)
        clear HB hb hnew h0 h1 h2 h3
        have HB := n_
        clear n_
        generalize wr.heap.size = g6 at KB6 ⊢
        cases hnm : nameOk p.f0 with
        | false =>
          have HST := Aside0.mk (show chkFrom S (n - i) i = some i by rw [HST0.out, hnm]; rfl)
          have HE := Aside0.mk (fun e w' ho => HEP.out i e w' (by rw [HI.out.2.2, HST.out]) ho)
          clear hnm
          go_wp2_with fail
          refine (vfault_calls _ _ _).mono ?_
          rintro e w9 ⟨b, hbl, rfl, hf, hb⟩
          have hfin := HE.out _ _ ⟨b, Nat.le_trans HB.out.size hbl, rfl, hf, below_then HB.out HB.out.size hb⟩
          clear hf hb hbl
          go_wp2
          try go_ret
          exact hfin
        | true =>
          rw [hnm, Bool.true_and] at HST0
          clear hnm
          have p3 : (i : Int) ≤ (c : Int) := by omega
          have HC := Aside0.mk (fun W (hW : Below w.heap.size w W ∧ W.cell? ⟨g6, 0, none⟩ = some (.string p.f0)) => cont95_calls 57 #[.pointer (some ⟨g6, 0, none⟩)] _ (some ad) i c (S.take i) W (enters_of Tryd.func57 (by kernel_rfl) rfl) (by rw [List.length_take]; have := HN.out; omega) (C_take (Kd.C_below HRS.out hW.1) i (by omega)) (by omega) (attr_clo p.f0 g6 W hW.2))
          have q0 := (blk_cell KB6.out 0).trans (show _ = some (Value.string p.f0) from rfl)
          go_wp2_with fail
          refine (HC.out _ ⟨HB.out, q0⟩).mono ?_
          rintro e w2 ⟨rfl, hb⟩
          have k_ := Aside0.mk ((hb.block _ (blk_lt KB6.out)).trans KB6.out)
          have n_ := Aside0.mk (below_then HB.out HB.out.size hb)
          clear KB6 HB hb q0
          have KB6 := k_
          have HB := n_
          clear k_ n_ HC
          cases hany : ((S.take i).any fun x => x.f0.toList == p.f0.toList) with
          | true =>
            have HST := Aside0.mk (show chkFrom S (n - i) i = some i by rw [HST0.out, hany]; rfl)
            have HE := Aside0.mk (fun e w' ho => HEP.out i e w' (by rw [HI.out.2.2, HST.out]) ho)
            clear hany
            go_wp2_with fail
            refine (vfault_calls _ _ _).mono ?_
            rintro e w9 ⟨b, hbl, rfl, hf, hb⟩
            have hfin := HE.out _ _ ⟨b, Nat.le_trans HB.out.size hbl, rfl, hf, below_then HB.out HB.out.size hb⟩
            clear hf hb hbl
            go_wp2
            try go_ret
            exact hfin
          | false =>
            rw [hany, Bool.not_false, Bool.true_and] at HST0
            clear hany
            have y0 := (blk_cell KB6.out 0).trans (show _ = some (Value.string p.f0) from rfl)
            have y1 := (blk_cell KB6.out 1).trans (show _ = some (Value.int .i64 p.f1) from rfl)
            have y2 := (blk_cell KB6.out 2).trans (show _ = some (Value.int .i64 p.f2) from rfl)
            have y3 := (blk_cell KB6.out 3).trans (show _ = some (Value.int .i64 p.f3) from rfl)
            have HST := HST0
            clear HST0
            by_cases t1 : p.f1 = 1
            · have o1 : (p.f1 == 1) = true := by simpa using t1
              by_cases t2 : p.f2 < -2147483648
              · have e2 : decide (p.f2 < -2147483648) = true := decide_eq_true t2
                have HV := Aside0.mk (show kindOk p = false by unfold kindOk; rw [if_pos t1, e2]; rfl)
                clear t1 t2
                have HE := Aside0.mk (fun e w' ho => HEP.out i e w' (by rw [HI.out.2.2, HST.out, HV.out]; rfl) ho)
                go_wp2_with fail
                refine (vfault_calls _ _ _).mono ?_
                rintro e w9 ⟨b, hbl, rfl, hf, hb⟩
                have hfin := HE.out _ _ ⟨b, Nat.le_trans HB.out.size hbl, rfl, hf, below_then HB.out HB.out.size hb⟩
                clear hf hb hbl
                go_wp2
                try go_ret
                exact hfin
              · have e2 : decide (p.f2 < -2147483648) = false := decide_eq_false t2
                by_cases t3 : 2147483648 < p.f3
                · have e3 : decide (2147483648 < p.f3) = true := decide_eq_true t3
                  have HV := Aside0.mk (show kindOk p = false by unfold kindOk; rw [if_pos t1, e2, e3]; rfl)
                  clear t1 t2 t3
                  have HE := Aside0.mk (fun e w' ho => HEP.out i e w' (by rw [HI.out.2.2, HST.out, HV.out]; rfl) ho)
                  go_wp2_with fail
                  refine (vfault_calls _ _ _).mono ?_
                  rintro e w9 ⟨b, hbl, rfl, hf, hb⟩
                  have hfin := HE.out _ _ ⟨b, Nat.le_trans HB.out.size hbl, rfl, hf, below_then HB.out HB.out.size hb⟩
                  clear hf hb hbl
                  go_wp2
                  try go_ret
                  exact hfin
                · have e3 : decide (2147483648 < p.f3) = false := decide_eq_false t3
                  by_cases t4 : p.f3 < p.f2
                  · have e4 : decide (p.f3 < p.f2) = true := decide_eq_true t4
                    have HV := Aside0.mk (show kindOk p = false by unfold kindOk; rw [if_pos t1, e2, e3, e4]; rfl)
                    clear t1 t2 t3 t4
                    have HE := Aside0.mk (fun e w' ho => HEP.out i e w' (by rw [HI.out.2.2, HST.out, HV.out]; rfl) ho)
                    go_wp2_with fail
                    refine (vfault_calls _ _ _).mono ?_
                    rintro e w9 ⟨b, hbl, rfl, hf, hb⟩
                    have hfin := HE.out _ _ ⟨b, Nat.le_trans HB.out.size hbl, rfl, hf, below_then HB.out HB.out.size hb⟩
                    clear hf hb hbl
                    go_wp2
                    try go_ret
                    exact hfin
                  · have e4 : decide (p.f3 < p.f2) = false := decide_eq_false t4
                    have HV := Aside0.mk (show kindOk p = true by unfold kindOk; rw [if_pos t1, e2, e3, e4]; rfl)
                    clear t1 t2 t3 t4
                    go_wp2_with fail
                    go_roundg (gk - 1)
                    case measure => have := HI.out; omega
                    case rel => exact ⟨i + 1, ⟨by omega, by have := HI.out; omega, by rw [HI.out.2.2, HST.out, HV.out]; rfl⟩, rfl, HB⟩
            · have o1 : (p.f1 == 1) = false := by simpa using t1
              have HPO := Aside0.mk (show kindOk p = ((p.f1 == 2) && ((p.f2 == 0) && (p.f3 == 0))) by unfold kindOk; rw [if_neg t1])
              clear t1
              cases e1 : (p.f1 == 2) with
              | false =>
                have HV := Aside0.mk (show kindOk p = false by rw [HPO.out, e1]; rfl)
                have HE := Aside0.mk (fun e w' ho => HEP.out i e w' (by rw [HI.out.2.2, HST.out, HV.out]; rfl) ho)
                go_wp2_with fail
                refine (vfault_calls _ _ _).mono ?_
                rintro e w9 ⟨b, hbl, rfl, hf, hb⟩
                have hfin := HE.out _ _ ⟨b, Nat.le_trans HB.out.size hbl, rfl, hf, below_then HB.out HB.out.size hb⟩
                clear hf hb hbl
                go_wp2
                try go_ret
                exact hfin
              | true =>
                cases e2 : (p.f2 == 0) with
                | false =>
                  have HV := Aside0.mk (show kindOk p = false by rw [HPO.out, e1, e2]; rfl)
                  have HE := Aside0.mk (fun e w' ho => HEP.out i e w' (by rw [HI.out.2.2, HST.out, HV.out]; rfl) ho)
                  go_wp2_with fail
                  refine (vfault_calls _ _ _).mono ?_
                  rintro e w9 ⟨b, hbl, rfl, hf, hb⟩
                  have hfin := HE.out _ _ ⟨b, Nat.le_trans HB.out.size hbl, rfl, hf, below_then HB.out HB.out.size hb⟩
                  clear hf hb hbl
                  go_wp2
                  try go_ret
                  exact hfin
                | true =>
                  cases e3 : (p.f3 == 0) with
                  | false =>
                    have HV := Aside0.mk (show kindOk p = false by rw [HPO.out, e1, e2, e3]; rfl)
                    have HE := Aside0.mk (fun e w' ho => HEP.out i e w' (by rw [HI.out.2.2, HST.out, HV.out]; rfl) ho)
                    go_wp2_with fail
                    refine (vfault_calls _ _ _).mono ?_
                    rintro e w9 ⟨b, hbl, rfl, hf, hb⟩
                    have hfin := HE.out _ _ ⟨b, Nat.le_trans HB.out.size hbl, rfl, hf, below_then HB.out HB.out.size hb⟩
                    clear hf hb hbl
                    go_wp2
                    try go_ret
                    exact hfin
                  | true =>
                    have HV := Aside0.mk (show kindOk p = true by rw [HPO.out, e1, e2, e3]; rfl)
                    go_wp2_with fail
                    go_roundg (gk - 1)
                    case measure => have := HI.out; omega
                    case rel => exact ⟨i + 1, ⟨by omega, by have := HI.out; omega, by rw [HI.out.2.2, HST.out, HV.out]; rfl⟩, rfl, HB⟩
      · have b1 : decide ((i : Int) < (n : Int)) = false := decide_eq_false (by omega)
        have b2 : decide (i < n) = false := decide_eq_false (by omega)
        have hfin := fun W => HOP.out (.returned .nilIface) W (by rw [HI.out.2.2, show n - i = 0 by omega]; rfl)
        have hfin2 := hfin _ ⟨rfl, HB.out⟩
        clear hfin
        go_wp2
        try go_ret
        exact hfin2
end Go.Proofs.YthaapijjjgkacaaDoor.Mine
end
section
/-
  wigwaglaw06.FilterBack, walked: true at every input. Conditions: errors.errorType holds what its initialiser lays; the library's table of tens lies as it should; the schema's numbers are int64.
-/
namespace Go.Proofs.YthaapijjjgkacaaDoor.Mine
open Go.RowKit Go.Proofs.YthaapijjjgkacaaDoorW.PrintWords Go.Proofs.YthaapijjjgkacaaDoorW.PrintLast Go.Proofs.YthaapijjjgkacaaDoorW.PrintMore
open Go.Proofs.YthaapijjjgkacaaDoor.PFilterReads
theorem okF_okPr {S : List S95} {F : List S46} (h : filterBad S F = none) (hc : checkBad S = none) : ∀ p ∈ F, okPr p := by
  intro p hp
  obtain ⟨a, ha, hn, ho⟩ := (filterBad_none h).2.2 p hp
  obtain ⟨h1, h2⟩ := (checkBad_none hc).2.2 a ha
  refine ⟨by rw [← btl, ← hn, btl]; exact nameOk_is h1, ?_⟩
  rcases predOk_parts ho with ⟨k1, k2, k3, k4, k5, k6⟩ | ⟨k1, k2, k3, k4, k5⟩
  · unfold kindOk at h2
    rw [if_pos k2] at h2
    simp only [Bool.and_eq_true, Bool.not_eq_true', decide_eq_false_iff_not] at h2
    exact Or.inl ⟨k1, ⟨by omega, by omega, by omega, by omega⟩, k6⟩
  · exact Or.inr ⟨k1, k2, k3, k5⟩
theorem back_read {S : List S95} {F : List S46} (h : filterBad S F = none) (hc : checkBad S = none) (n : Nat) (hn : F.length = n) (hz : (printN F n).length ≤ 300) : readR S ⟨(printN F n).toArray⟩ = .inl (F.map frP) := by
  have hp := back_plain ⟨(printN F n).toArray⟩ F (okF_okPr h hc) (filterBad_none h).1 (by rw [hn]) (by show (printN F n).toArray.size ≤ 300; rw [List.size_toArray]; exact hz)
  unfold readR
  rw [hp]
  simp only [toP_map, h]
set_option maxHeartbeats 8000000 in
set_option maxRecDepth 100000 in
theorem back_calls (A B : Option Addr) (n c m0 d : Nat) (S0 : List S95) (F0 : List S46) (w : World) (hg : ErrTy w) (hT : TabI w) (hn : S0.length = n) (hr : Kd.C k95 w A n S0) (hc : n ≤ c) (hnm : ∀ p ∈ S0, p.f0.size ≤ 9223372036854775807) (hn2 : n ≤ 9223372036854775807)
    (hm0 : F0.length = m0) (hrF : Kd.C k46 w B m0 F0) (hd : m0 ≤ d) (hnmF : ∀ p ∈ F0, p.f0.size ≤ 9223372036854775807 ∧ p.f4.size ≤ 9223372036854775807) (hn3 : m0 ≤ 9223372036854775807)
    (hnum : ∀ p ∈ S0, -9223372036854775808 ≤ p.f2 ∧ p.f3 ≤ 9223372036854775807) :
    Calls Tryd.prog 10 #[.slice A n c, .slice B m0 d] w fun e w' => e = .returned (.bool true) ∧ Below w.heap.size w w' := by
  have HG := Aside0.mk hg
  have HT := Aside0.mk hT
  have HNUM := Aside0.mk hnum
  have HA := Aside0.mk (attrs_calls A n c S0 w hn hr hc hnm hn2)
  have HP := Aside0.mk (fun W (hb : Below w.heap.size w W) => preds_calls B m0 d F0 W hm0 (Kd.C_below hrF hb) hd hnmF hn3)
  clear hg hT hn hr hc hnm hn2 hnum hm0 hrF hd hnmF hn3
  go_enter Tryd.func10, Tryd.ntmps10
  go_wp2_with fail
  refine HA.out.mono ?_
  rintro e w1 ⟨v0, v1, rfl, ho0, ho1, hb1⟩
  clear HA
  have HB := Aside0.mk hb1
  obtain ⟨S, hS⟩ : ∃ S, S = attrsOf S0 := ⟨_, rfl⟩
  have HS := Aside0.mk (show S.length ≤ 6 ∧ (∀ a ∈ S, a.f0.size ≤ 20) ∧ (∀ a ∈ S, -9223372036854775808 ≤ a.f2 ∧ a.f3 ≤ 9223372036854775807) by rw [hS]; exact ⟨attrsOf_len S0, cutA_ok S0, cutA_nums HNUM.out⟩)
  rw [← hS] at ho0 ho1
  clear hS hb1 ho1
  obtain ⟨A1, c1, rfl, hc1, hC1⟩ := Kd.R_reads ho0
  obtain ⟨m, hm⟩ : ∃ m, S.length = m := ⟨_, rfl⟩
  have hm6 : m ≤ 6 := by have := HS.out.1; omega
  have HM := Aside0.mk hm
  rw [hm] at hc1 hC1 ⊢
  have HCS := Aside0.mk hC1
  clear ho0 hC1 hm
  go_wp2_with fail
  refine (HP.out _ HB.out).mono ?_
  rintro e w2 ⟨v2, v3, rfl, ho2, ho3, hb⟩
  clear HP ho3
  obtain ⟨F, hF⟩ : ∃ F, F = predsOf F0 := ⟨_, rfl⟩
  have hF6 : F.length ≤ 6 := by rw [hF]; unfold predsOf; rw [List.length_map, List.length_take]; exact Nat.min_le_left _ _
  rw [← hF] at ho2
  clear hF
  obtain ⟨A2, c2, rfl, hc2, hC2⟩ := Kd.R_reads ho2
  obtain ⟨n1, hn1⟩ : ∃ n, F.length = n := ⟨_, rfl⟩
  have HN1 := Aside0.mk hn1
  rw [hn1] at hc2 hC2 hF6 ⊢
  have HCF := Aside0.mk hC2
  have k_ := Aside0.mk (Kd.C_below HCS.out hb)
  clear HCS
  have HCS := k_
  clear k_
  have n_ := Aside0.mk (below_then HB.out HB.out.size hb)
  clear HB hb
  have HB := n_
  clear n_
  clear ho2 hC2 hn1
  go_wp2_with fail
  refine (filter_calls A1 A2 m n1 c1 c2 S F _ HM.out HN1.out HCS.out HCF.out (by omega) (by omega) hc2).mono ?_
  rintro e w3 hq
  cases hfb : filterBad S F with
  | some i =>
    obtain ⟨b, hbl, rfl, hf, hb⟩ := hq.bad hfb
    have n_ := Aside0.mk (below_then HB.out HB.out.size hb)
    clear HB hb
    have HB := n_
    clear n_
    clear hq hfb hf hbl
    go_wp2_with fail
    refine (awake_calls _ (ErrTy.below HG.out HB.out)).mono ?_
    rintro e w5 ⟨rfl, hb⟩
    have n_ := Aside0.mk (below_then HB.out HB.out.size hb)
    clear HB hb
    have HB := n_
    clear n_
    go_wp2
    go_ret
    exact ⟨rfl, HB.out⟩
  | none =>
    obtain ⟨rfl, hb⟩ := hq.ok hfb
    have HFB := Aside0.mk hfb
    have k_ := Aside0.mk (Kd.C_below HCS.out hb)
    clear HCS
    have HCS := k_
    clear k_
    have k_ := Aside0.mk (Kd.C_below HCF.out hb)
    clear HCF
    have HCF := k_
    clear k_
    have n_ := Aside0.mk (below_then HB.out HB.out.size hb)
    clear HB hb
    have HB := n_
    clear n_
    clear hq hfb
    go_wp2_with fail
    refine (check_calls A1 m c1 S _ HM.out HCS.out (by omega) hc1).mono ?_
    rintro e w4 hq
    cases hck : checkBad S with
    | some i =>
      obtain ⟨b, hbl, rfl, hf, hb⟩ := hq.bad hck
      have n_ := Aside0.mk (below_then HB.out HB.out.size hb)
      clear HB hb
      have HB := n_
      clear n_
      clear hq hck hf hbl
      go_wp2_with fail
      refine (awake_calls _ (ErrTy.below HG.out HB.out)).mono ?_
      rintro e w5 ⟨rfl, hb⟩
      have n_ := Aside0.mk (below_then HB.out HB.out.size hb)
      clear HB hb
      have HB := n_
      clear n_
      go_wp2
      go_ret
      exact ⟨rfl, HB.out⟩
    | none =>
      obtain ⟨rfl, hb⟩ := hq.ok hck
      have hnums := okF_nums HFB.out _ _ (by omega) (by omega) HS.out.2.2
      have hstrs := okF_strs HFB.out 20 HS.out.2.1
      have hlen : (printN F n1).length ≤ 4 * 165 := by
        have h4 := (filterBad_none HFB.out).2.1
        have h5 := HN1.out
        have := printN_len F 160 (fun p hp => by have h6 := predL_len p (hnums p hp); have h7 := hstrs p hp; omega) n1 (by omega)
        exact Nat.le_trans this (by rw [show 160 + 5 = 165 by rfl]; exact Nat.mul_le_mul_right _ (by omega))
      have HPC := Aside0.mk (fun A c W (h1 : Kd.C k46 W A n1 F) (h2 : TabI W) => print_calls A n1 c F W HN1.out h1 h2 hnums (by omega) (by omega))
      have HRD := Aside0.mk (back_read HFB.out hck n1 HN1.out)
      have hsz : (⟨(printN F n1).toArray⟩ : ByteArray).size = (printN F n1).length := by show (printN F n1).toArray.size = _; rw [List.size_toArray]
      rw [← hsz] at HRD hlen
      generalize (⟨(printN F n1).toArray⟩ : ByteArray) = T at HPC HRD hlen
      clear hsz
      have k_ := Aside0.mk (Kd.C_below HCS.out hb)
      clear HCS
      have HCS := k_
      clear k_
      have k_ := Aside0.mk (Kd.C_below HCF.out hb)
      clear HCF
      have HCF := k_
      clear k_
      have n_ := Aside0.mk (below_then HB.out HB.out.size hb)
      clear HB hb
      have HB := n_
      clear n_
      clear hq hck hnums hstrs
      go_wp2_with fail
      refine (HPC.out _ _ _ HCF.out (TabI.below HT.out HB.out)).mono ?_
      rintro e w5 ⟨rfl, hb⟩
      have k_ := Aside0.mk (Kd.C_below HCS.out hb)
      clear HCS
      have HCS := k_
      clear k_
      have k_ := Aside0.mk (Kd.C_below HCF.out hb)
      clear HCF
      have HCF := k_
      clear k_
      have n_ := Aside0.mk (below_then HB.out HB.out.size hb)
      clear HB hb
      have HB := n_
      clear n_
      by_cases h3 : 300 < T.size
      · have z1 : decide (300 < (T.size : Int)) = true := decide_eq_true (by omega)
        have z2 : decide (300 < T.size) = true := decide_eq_true (by omega)
        clear h3
        go_wp2_with fail
        refine (awake_calls _ (ErrTy.below HG.out HB.out)).mono ?_
        rintro e w5 ⟨rfl, hb⟩
        have n_ := Aside0.mk (below_then HB.out HB.out.size hb)
        clear HB hb
        have HB := n_
        clear n_
        go_wp2
        go_ret
        exact ⟨rfl, HB.out⟩
      · have z1 : decide (300 < (T.size : Int)) = false := decide_eq_false (by omega)
        have z2 : decide (300 < T.size) = false := decide_eq_false (by omega)
        have HRD2 := Aside0.mk (HRD.out (by omega))
        clear h3 HRD
        go_wp2_with fail
        refine (read_calls A1 m c1 S T _ HM.out HCS.out (by omega) (by omega)).mono ?_
        rintro e w6 hq
        obtain ⟨v2, rfl, ho2, hb⟩ := hq.ok HRD2.out
        rw [toP_map] at ho2
        obtain ⟨A3, c3, rfl, hc3, hC3⟩ := Kd.R_reads ho2
        rw [HN1.out] at hc3 hC3 ⊢
        have HCH := Aside0.mk hC3
        have k_ := Aside0.mk (Kd.C_below HCF.out hb)
        clear HCF
        have HCF := k_
        clear k_
        have n_ := Aside0.mk (below_then HB.out HB.out.size hb)
        clear HB hb
        have HB := n_
        clear n_
        clear hq ho2 hC3 HRD2
        go_wp2_with fail
        refine (awake_calls _ (ErrTy.below HG.out HB.out)).mono ?_
        rintro e w7 ⟨rfl, hb⟩
        have k_ := Aside0.mk (Kd.C_below HCF.out hb)
        clear HCF
        have HCF := k_
        clear k_
        have k_ := Aside0.mk (Kd.C_below HCH.out hb)
        clear HCH
        have HCH := k_
        clear k_
        have n_ := Aside0.mk (below_then HB.out HB.out.size hb)
        clear HB hb
        have HB := n_
        clear n_
        go_wp2_with fail
        refine (told_R F A3 n1 c3 _ HN1.out HCH.out hc3 (by omega)).mono ?_
        rintro e w8 ⟨A5, c5, rfl, hc5, hC5, hb⟩
        have HC5 := Aside0.mk hC5
        have k_ := Aside0.mk (Kd.C_below HCF.out hb)
        clear HCF
        have HCF := k_
        clear k_
        have k_ := Aside0.mk (Kd.C_below HCH.out hb)
        clear HCH
        have HCH := k_
        clear k_
        have n_ := Aside0.mk (below_then HB.out HB.out.size hb)
        clear HB hb
        have HB := n_
        clear n_
        clear hC5
        go_wp2_with fail
        refine (told_R F A2 n1 c2 _ HN1.out HCF.out hc2 (by omega)).mono ?_
        rintro e w9 ⟨A6, c6, rfl, hc6, hC6, hb⟩
        have HC6 := Aside0.mk hC6
        have k_ := Aside0.mk (Kd.C_below HC5.out hb)
        clear HC5
        have HC5 := k_
        clear k_
        have k_ := Aside0.mk (Kd.C_below HCH.out hb)
        clear HCH
        have HCH := k_
        clear k_
        have n_ := Aside0.mk (below_then HB.out HB.out.size hb)
        clear HB hb
        have HB := n_
        clear n_
        clear hC6
        have HN1Q := Aside0.mk (show (F.map toQ).length = n1 by rw [List.length_map]; exact HN1.out)
        go_wp2_with fail
        refine (same_P A5 A6 n1 n1 c5 c6 _ _ HN1Q.out HN1Q.out HC5.out hc5 HC6.out hc6 (by omega)).mono ?_
        rintro e w10 ⟨rfl, hb⟩
        have k_ := Aside0.mk (Kd.C_below HCH.out hb)
        clear HCH
        have HCH := k_
        clear k_
        have n_ := Aside0.mk (below_then HB.out HB.out.size hb)
        clear HB hb
        have HB := n_
        clear n_
        go_wp2_with fail
        refine (HPC.out _ _ _ HCH.out (TabI.below HT.out HB.out)).mono ?_
        rintro e w11 ⟨rfl, hb⟩
        have n_ := Aside0.mk (below_then HB.out HB.out.size hb)
        clear HB hb
        have HB := n_
        clear n_
        go_wp2
        go_ret
        exact ⟨by first | rfl | simp, HB.out⟩
end Go.Proofs.YthaapijjjgkacaaDoor.Mine
end
