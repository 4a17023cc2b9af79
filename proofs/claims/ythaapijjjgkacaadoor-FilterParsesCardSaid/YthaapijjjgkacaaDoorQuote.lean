/-
  filter.quote by hand: a text between quotes.
-/
import Derived.Test.YthaapijjjgkacaaDoorText
import Derived.Test.YthaapijjjgkacaaDoorWRepsOne
import Derived.Test.YthaapijjjgkacaaDoorWMore
import Derived.Laws.Concat
set_option linter.unusedSimpArgs false
set_option linter.unusedVariables false
namespace Go.Proofs.YthaapijjjgkacaaDoor.Mine
open Go.RowKit Go.Proofs.YthaapijjjgkacaaDoorW.PrintWords Go.Proofs.YthaapijjjgkacaaDoorW.PrintLast Go.Proofs.YthaapijjjgkacaaDoorW.PrintMore
open Go.Proofs.YthaapijjjgkacaaDoor.PFilterReads
def quoteL (l : List UInt8) : List UInt8 := l.flatMap fun c => if c = 34 ∨ c = 92 then [92, c] else [c]
theorem quoteL_len (l : List UInt8) : (quoteL l).length ≤ 2 * l.length := by
  induction l with
  | nil => simp [quoteL]
  | cons c r ih =>
    have : quoteL (c :: r) = (if c = 34 ∨ c = 92 then [92, c] else [c]) ++ quoteL r := rfl
    rw [this, List.length_append, List.length_cons]
    by_cases h : c = 34 ∨ c = 92
    · rw [if_pos h]; simp only [List.length_cons, List.length_nil]; omega
    · rw [if_neg h]; simp only [List.length_cons, List.length_nil]; omega
theorem quoteL_snoc (l : List UInt8) (c : UInt8) : quoteL (l ++ [c]) = quoteL l ++ (if c = 34 ∨ c = 92 then [92, c] else [c]) := by
  unfold quoteL
  rw [List.flatMap_append]
  simp only [List.flatMap_cons, List.flatMap_nil, List.append_nil]
set_option maxHeartbeats 4000000 in
set_option maxRecDepth 100000 in
theorem quote_calls (s : ByteArray) (w : World) (hs : s.size ≤ 1000000000) : Calls Tryd.prog 43 #[.string s] w fun e w' => e = .returned (.string ⟨(34 :: quoteL s.data.toList ++ [34]).toArray⟩) ∧ Below w.heap.size w w' := by
  have hcv := fun W : World => Lib.run_convert_string_bytes (P := Tryd.prog) W 9 24 5 s Tryd.underlying9 Tryd.underlying24 Tryd.underlying5
  go_enter Tryd.func43, Tryd.ntmps43
  go_wp2_with fail
  have hR0 : Kd.R (Kd.int .u8) 5 (w.alloc (.cells #[.int .u8 34] 5)) w.heap.size (fun k => k ≠ w.heap.size + 1) (.slice (some ⟨w.heap.size, 0, none⟩) 1 1) (numsB [34]) :=
    ⟨fun k hk => by have : w.heap.size = k := by simpa [Value.ownBlock] using hk
                    omega, [.int .u8 34], World.ownsRow_lit w #[.int .u8 34] 1 (Nat.le_refl _) (by decide) rfl, Reps.one rfl (Reps.none _ _)⟩
  have hsz : (w.alloc (.cells #[.int .u8 34] 5)).heap.size = w.heap.size + 1 := by show (w.heap.push _).size = _; exact Array.size_push _
  have HO := Aside0.mk (Kd.R_below hR0 (bytes_below (Below.refl _ _) (Nat.le_refl _) 5 s))
  have HB := Aside0.mk (bytes_below (below_alloc (Below.refl w.heap.size w) (.cells #[.int .u8 34] 5)) (by rw [hsz]; omega) 5 s)
  have HC : Aside0 (∀ j, j < s.size → (Lib.bytesWorld (w.alloc (Obj.cells #[Value.int IntKind.u8 34] 5)) 5 s).cell? ⟨w.heap.size + 1, j, none⟩ = some (.int .u8 (s.data.toList.getD j 0).toNat)) := ⟨fun j hj => by
    have := Lib.bytesWorld_cell (w.alloc (Obj.cells #[Value.int IntKind.u8 34] 5)) 5 s j hj
    rwa [hsz] at this⟩
  have HL : Aside0 (w.heap.size + 1 < (Lib.bytesWorld (w.alloc (Obj.cells #[Value.int IntKind.u8 34] 5)) 5 s).heap.size) := ⟨by rw [Lib.bytesWorld_size, hsz]; omega⟩
  generalize grownCap (w.alloc (Obj.cells #[Value.int IntKind.u8 34] 5)) s.size 0 5 = cp
  generalize Value.slice (some { block := w.heap.size, off := 0 }) 1 1 = v0 at HO ⊢
  generalize Lib.bytesWorld (w.alloc (Obj.cells #[Value.int IntKind.u8 34] 5)) 5 s = w1 at HO HB HC HL ⊢
  generalize hgB : w.heap.size + 1 = gB at HO HC HL ⊢
  clear hR0 hsz hgB
  go_loopg [3, 5, 10] (s.size + 1) (fun k v3 v5 v10 W => ∃ (i : Nat) (acc : List UInt8), Aside0 (i ≤ s.size ∧ k + i = s.size + 1 ∧ acc = 34 :: quoteL (s.data.toList.take i) ∧ acc.length ≤ 1 + 2 * i) ∧ v10 = .int .i64 i ∧ Aside0 (Kd.R (Kd.int .u8) 5 W w.heap.size (fun k => k ≠ gB) v3 (numsB acc)) ∧ Aside0 (Below w.heap.size w W) ∧ Aside0 (∀ j, j < s.size → W.cell? ⟨gB, j, none⟩ = some (.int .u8 (s.data.toList.getD j 0).toNat)) ∧ Aside0 (gB < W.heap.size))
  case atStart => exact ⟨0, [34], ⟨by omega, by omega, by simp [quoteL], by simp⟩, rfl, HO, HB, HC, HL⟩
  case round =>
    clear HO HB HC HL
    obtain ⟨i, acc, HN, rfl, HO, HB, HC, HL⟩ := hrel
    by_cases hi : i < s.size
    · have b1 : decide ((i : Int) < (s.size : Int)) = true := decide_eq_true (by omega)
      have hc := HC.out i hi
      have hd : s.data.toList.getD i 0 = s[i]'hi := by
        rw [List.getD_eq_getElem?_getD, List.getElem?_eq_getElem (by simpa using hi)]
        rfl
      rw [hd] at hc
      have htk : quoteL (s.data.toList.take (i + 1)) = quoteL (s.data.toList.take i) ++ (if s[i]'hi = 34 ∨ s[i]'hi = 92 then [92, s[i]'hi] else [s[i]'hi]) := by
        rw [List.take_succ_eq_append_getElem (by simpa using hi), quoteL_snoc]
        rfl
      have HT := Aside0.mk htk
      clear htk hd
      generalize s[i]'hi = c at hc HT
      have p1 : (0 : Int) ≤ (i : Int) := by omega
      have p2 : (i : Int) < (s.size : Int) := by omega
      have e1 : ((c.toNat : Int) == (34 : Int)) = decide (c = 34) := c_eq (n := 34) (by decide)
      have e2 : ((c.toNat : Int) == (92 : Int)) = decide (c = 92) := c_eq (n := 92) (by decide)
      by_cases h34 : c = 34
      · subst h34
        rw [decide_eq_true rfl] at e1
        go_wp2_with (first | ((with_reducible refine gate_builtin (b := .append) (xs := #[.tmp 20, .tmp 21]) rfl ?_); at_builtin; go_loud (refine Kd.R_append (Kd.int .u8) (w0 := w) w.heap.size rfl (.tmp 20) (.tmp 21) 24 5 (.int .u8 0) 1 rfl Tryd.underlying24 info5 rfl (by decide) (by omega) _ (numsB _) (((92 : UInt8)).toNat : Int) [.int .u8 92] (fun k => k ≠ gB) (fun _ => False) rfl ?aX ?aP (fun _ hk => hk.elim) ?aF HO.out HB.out HB.out.size ?aL ?_; (case aX => first | rfl | (go_simp; done) | (go_simp; rfl)); (case aP => exact rfl); (case aF => exact (fun k hk => by have := HL.out; omega)); (case aL => have := HN.out; simp [numsB]; omega); intro v9 w9 ho hb hg hat; rw [← numsB_snoc] at ho; have n0_ := Aside0.mk ho; have n1_ := Aside0.mk hb; have n2_ := Aside0.mk (fun j hj => (cell_grown hg (HC.out j hj) (fun e => HO.out.1 _ e.symm rfl))); have n3_ := Aside0.mk (Nat.lt_of_lt_of_le HL.out hg.size); clear HO HB HC HL ho hb hg hat; have HO := n0_; have HB := n1_; have HC := n2_; have HL := n3_; clear n0_ n1_ n2_ n3_)) | ((with_reducible refine gate_builtin (b := .append) (xs := #[.tmp 23, .tmp 25]) rfl ?_); at_builtin; go_loud (refine Kd.R_append (Kd.int .u8) (w0 := w) w.heap.size rfl (.tmp 23) (.tmp 25) 24 5 (.int .u8 0) 1 rfl Tryd.underlying24 info5 rfl (by decide) (by omega) _ (numsB _) (((34 : UInt8)).toNat : Int) [.int .u8 34] (fun k => k ≠ gB) (fun _ => False) rfl ?aX ?aP (fun _ hk => hk.elim) ?aF HO.out HB.out HB.out.size ?aL ?_; (case aX => first | rfl | (go_simp; done) | (go_simp; rfl)); (case aP => exact rfl); (case aF => exact (fun k hk => by have := HL.out; omega)); (case aL => have := HN.out; simp [numsB]; omega); intro v9 w9 ho hb hg hat; rw [← numsB_snoc] at ho; have n0_ := Aside0.mk ho; have n1_ := Aside0.mk hb; have n2_ := Aside0.mk (fun j hj => (cell_grown hg (HC.out j hj) (fun e => HO.out.1 _ e.symm rfl))); have n3_ := Aside0.mk (Nat.lt_of_lt_of_le HL.out hg.size); clear HO HB HC HL ho hb hg hat; have HO := n0_; have HB := n1_; have HC := n2_; have HL := n3_; clear n0_ n1_ n2_ n3_)))
        go_roundg (gk - 1)
        case measure => have := HN.out; omega
        case rel => exact ⟨i + 1, acc ++ [92] ++ [34], ⟨by have := HN.out; omega, by have := HN.out; omega, by rw [HT.out, HN.out.2.2.1]; simp [*], by have := HN.out; simp only [List.length_append, List.length_cons, List.length_nil]; omega⟩, rfl, HO, HB, HC, HL⟩
      · by_cases h92 : c = 92
        · subst h92
          rw [decide_eq_false h34] at e1
          rw [decide_eq_true rfl] at e2
          go_wp2_with (first | ((with_reducible refine gate_builtin (b := .append) (xs := #[.tmp 20, .tmp 21]) rfl ?_); at_builtin; go_loud (refine Kd.R_append (Kd.int .u8) (w0 := w) w.heap.size rfl (.tmp 20) (.tmp 21) 24 5 (.int .u8 0) 1 rfl Tryd.underlying24 info5 rfl (by decide) (by omega) _ (numsB _) (((92 : UInt8)).toNat : Int) [.int .u8 92] (fun k => k ≠ gB) (fun _ => False) rfl ?aX ?aP (fun _ hk => hk.elim) ?aF HO.out HB.out HB.out.size ?aL ?_; (case aX => first | rfl | (go_simp; done) | (go_simp; rfl)); (case aP => exact rfl); (case aF => exact (fun k hk => by have := HL.out; omega)); (case aL => have := HN.out; simp [numsB]; omega); intro v9 w9 ho hb hg hat; rw [← numsB_snoc] at ho; have n0_ := Aside0.mk ho; have n1_ := Aside0.mk hb; have n2_ := Aside0.mk (fun j hj => (cell_grown hg (HC.out j hj) (fun e => HO.out.1 _ e.symm rfl))); have n3_ := Aside0.mk (Nat.lt_of_lt_of_le HL.out hg.size); clear HO HB HC HL ho hb hg hat; have HO := n0_; have HB := n1_; have HC := n2_; have HL := n3_; clear n0_ n1_ n2_ n3_)) | ((with_reducible refine gate_builtin (b := .append) (xs := #[.tmp 23, .tmp 25]) rfl ?_); at_builtin; go_loud (refine Kd.R_append (Kd.int .u8) (w0 := w) w.heap.size rfl (.tmp 23) (.tmp 25) 24 5 (.int .u8 0) 1 rfl Tryd.underlying24 info5 rfl (by decide) (by omega) _ (numsB _) (((92 : UInt8)).toNat : Int) [.int .u8 92] (fun k => k ≠ gB) (fun _ => False) rfl ?aX ?aP (fun _ hk => hk.elim) ?aF HO.out HB.out HB.out.size ?aL ?_; (case aX => first | rfl | (go_simp; done) | (go_simp; rfl)); (case aP => exact rfl); (case aF => exact (fun k hk => by have := HL.out; omega)); (case aL => have := HN.out; simp [numsB]; omega); intro v9 w9 ho hb hg hat; rw [← numsB_snoc] at ho; have n0_ := Aside0.mk ho; have n1_ := Aside0.mk hb; have n2_ := Aside0.mk (fun j hj => (cell_grown hg (HC.out j hj) (fun e => HO.out.1 _ e.symm rfl))); have n3_ := Aside0.mk (Nat.lt_of_lt_of_le HL.out hg.size); clear HO HB HC HL ho hb hg hat; have HO := n0_; have HB := n1_; have HC := n2_; have HL := n3_; clear n0_ n1_ n2_ n3_)))
          go_roundg (gk - 1)
          case measure => have := HN.out; omega
          case rel => exact ⟨i + 1, acc ++ [92] ++ [92], ⟨by have := HN.out; omega, by have := HN.out; omega, by rw [HT.out, HN.out.2.2.1]; simp [*], by have := HN.out; simp only [List.length_append, List.length_cons, List.length_nil]; omega⟩, rfl, HO, HB, HC, HL⟩
        · rw [decide_eq_false h34] at e1
          rw [decide_eq_false h92] at e2
          go_wp2_with (first | ((with_reducible refine gate_builtin (b := .append) (xs := #[.tmp 23, .tmp 25]) rfl ?_); at_builtin; go_loud (refine Kd.R_append (Kd.int .u8) (w0 := w) w.heap.size rfl (.tmp 23) (.tmp 25) 24 5 (.int .u8 0) 1 rfl Tryd.underlying24 info5 rfl (by decide) (by omega) _ (numsB _) ((c).toNat : Int) [.int .u8 (c.toNat : Int)] (fun k => k ≠ gB) (fun _ => False) rfl ?aX ?aP (fun _ hk => hk.elim) ?aF HO.out HB.out HB.out.size ?aL ?_; (case aX => first | rfl | (go_simp; done) | (go_simp; rfl)); (case aP => exact rfl); (case aF => exact (fun k hk => by have := HL.out; omega)); (case aL => have := HN.out; simp [numsB]; omega); intro v9 w9 ho hb hg hat; rw [← numsB_snoc] at ho; have n0_ := Aside0.mk ho; have n1_ := Aside0.mk hb; have n2_ := Aside0.mk (fun j hj => (cell_grown hg (HC.out j hj) (fun e => HO.out.1 _ e.symm rfl))); have n3_ := Aside0.mk (Nat.lt_of_lt_of_le HL.out hg.size); clear HO HB HC HL ho hb hg hat; have HO := n0_; have HB := n1_; have HC := n2_; have HL := n3_; clear n0_ n1_ n2_ n3_)))
          go_roundg (gk - 1)
          case measure => have := HN.out; omega
          case rel => exact ⟨i + 1, acc ++ [c], ⟨by have := HN.out; omega, by have := HN.out; omega, by rw [HT.out, HN.out.2.2.1]; simp [*], by have := HN.out; simp only [List.length_append, List.length_cons, List.length_nil]; omega⟩, rfl, HO, HB, HC, HL⟩
    · have b1 : decide ((i : Int) < (s.size : Int)) = false := decide_eq_false (by omega)
      have hi2 : i = s.size := by have := HN.out; omega
      go_wp2_with (((with_reducible refine gate_builtin (b := .append) (xs := #[.tmp 28, .tmp 29]) rfl ?_); at_builtin; go_loud (refine Kd.R_append (Kd.int .u8) (w0 := w) w.heap.size rfl (.tmp 28) (.tmp 29) 24 5 (.int .u8 0) 1 rfl Tryd.underlying24 info5 rfl (by decide) (by omega) _ (numsB _) (((34 : UInt8)).toNat : Int) [.int .u8 34] (fun k => k ≠ gB) (fun _ => False) rfl ?aX ?aP (fun _ hk => hk.elim) ?aF HO.out HB.out HB.out.size ?aL ?_; (case aX => first | rfl | (go_simp; done) | (go_simp; rfl)); (case aP => exact rfl); (case aF => exact (fun k hk => by have := HL.out; omega)); (case aL => have := HN.out; simp [numsB]; omega); intro v9 w9 ho hb hg hat; rw [← numsB_snoc] at ho; have n0_ := Aside0.mk ho; have n1_ := Aside0.mk hb; have n2_ := Aside0.mk (fun j hj => (cell_grown hg (HC.out j hj) (fun e => HO.out.1 _ e.symm rfl))); have n3_ := Aside0.mk (Nat.lt_of_lt_of_le HL.out hg.size); clear HO HB HC HL ho hb hg hat; have HO := n0_; have HB := n1_; have HC := n2_; have HL := n3_; clear n0_ n1_ n2_ n3_)); have hs2 := own_string (P := Tryd.prog) Tryd.underlying24 Tryd.underlying5 Tryd.underlying9 (Kd.own_of_R HO.out); rw [str_numsB] at hs2)
      go_ret
      refine ⟨?_, HB.out⟩
      have ha : acc = 34 :: quoteL s.data.toList := by rw [HN.out.2.2.1, hi2, List.take_of_length_le (by simp)]
      rw [ha]
      rfl
end Go.Proofs.YthaapijjjgkacaaDoor.Mine
