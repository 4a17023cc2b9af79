/- Texts of one claim, one behind the other, made short by a program. -/
import Derived.Test.YtlokmijoaocofaaGreatDoorMP19
set_option linter.unusedSimpArgs false
set_option linter.unusedVariables false
section
namespace Go.Proofs.YtlokmijoaocofaaGreatDoor.Mine
open Go.RowKit YtlokmijoaocofaaGreatDoorW.PrintWords YtlokmijoaocofaaGreatDoorW.PrintLast YtlokmijoaocofaaGreatDoorW.PrintMore
open PBoardPlays
theorem spot_set1 {w : World} {g : Nat} {s : ByteArray} {i0 : Int} {b : Bool} (h : w.heap[g]? = some (spotC s i0 b)) (i : Int) : (w.setCell ⟨g, 1, none⟩ (.int .i64 i)).heap[g]? = some (spotC s i b) := by
 have := blk_set h 1 (.int .i64 i)
 simpa [spotC] using this
theorem spot_far1 {w : World} {g g2 : Nat} {o : Obj} (h : w.heap[g]? = some o) (hne : g ≠ g2) (i : Int) : (w.setCell ⟨g2, 1, none⟩ (.int .i64 i)).heap[g]? = some o := by
 rw [Below.heap_setCell _ _ _ _ hne]
 exact h
theorem R_spot {α : Type} {d : Kd α} {e : Nat} {W : World} {base B : Nat} {v : Value} {xs : List α} (h : d.R e W base (fun k => B + 2 ≤ k) v xs) (s : ByteArray) (i : Int) (b : Bool) :
 d.R e (((W.setCell ⟨B + 1, 0, none⟩ (.string s)).setCell ⟨B + 1, 1, none⟩ (.int .i64 i)).setCell ⟨B + 1, 2, none⟩ (.bool b)) base (fun k => B + 2 ≤ k) v xs :=
 Kd.R_far (Kd.R_far (Kd.R_far h (fun k hk => by show k ≠ B + 1; omega) _) (fun k hk => by show k ≠ B + 1; omega) _) (fun k hk => by show k ≠ B + 1; omega) _
def strRV (s : ByteArray) (x : List UInt8 × St) : Value := .tuple #[stV s x.2, .string ⟨x.1.toArray⟩]
theorem strRV_none {s : ByteArray} {j : Nat} (h : j ≤ s.size) : strRV s (textR (none, dropB s j)) = .tuple #[.agg #[.string s, .int .i64 (j : Int), .bool true], .string ⟨#[]⟩] := by
 show Value.tuple #[stV s ⟨dropB s j, some (dropB s j).length⟩, .string ⟨#[]⟩] = _
 rw [stV_bad, dropB_len, Nat.sub_sub_self h]
theorem strRV_some {s : ByteArray} {j : Nat} (h : j ≤ s.size) (acc : List UInt8) : strRV s (textR (some acc, dropB s j)) = .tuple #[.agg #[.string s, .int .i64 (j : Int), .bool false], .string ⟨acc.toArray⟩] := by
 show Value.tuple #[stV s ⟨dropB s j, none⟩, .string ⟨acc.toArray⟩] = _
 rw [stV_good, dropB_len, Nat.sub_sub_self h]
set_option maxHeartbeats 4000000 in
set_option maxRecDepth 100000 in
theorem rstr_calls (s : ByteArray) (st : St) (w : World) (hs : s.size ≤ 1000) (hok : st.ok (bytes s)) :
 Calls Tryz.prog 99 #[stV s st] w fun e w' => e = .returned (strRV s (textS st)) ∧ Below w.heap.size w w' := by
 have hmk := fun w => rmark_calls s ⟨#[34]⟩ st w hs (by decide) hok
 have hok1 := markS_ok (m := [34]) hok
 have e34 : bytes (⟨#[34]⟩ : ByteArray) = [34] := rfl
 rw [e34] at hmk
 clear e34
 obtain ⟨i0, hi0⟩ : ∃ x, x = spI s st := ⟨_, rfl⟩
 obtain ⟨b0, hb0⟩ : ∃ x, x = st.bad.isSome := ⟨_, rfl⟩
 have hst : stV s st = .agg #[.string s, .int .i64 i0, .bool b0] := by rw [hi0, hb0]; rfl
 rw [hst] at hmk ⊢
 clear hi0 hb0
 obtain ⟨hn1, hn2⟩ := spot_new w s ⟨#[]⟩ i0 0 b0 false
 have KB1 := mk0 hn1
 have KB2 := mk0 hn2
 have HB := mk0 (below_alloc (below_alloc (Below.refl w.heap.size w) (.cells #[.string s, .int .i64 i0, .bool b0] 177)) (.cells #[.string ⟨#[]⟩, .int .i64 0, .bool false] 177))
 clear hn1 hn2
 cases hmb : (markS [34] st).bad with
 | some n =>
  have HRV : Aside0 (strRV s (textS st) = .tuple #[.agg #[.string s, .int .i64 ((s.size - n : Nat) : Int), .bool true], .string ⟨#[]⟩]) := ⟨by
   unfold textS
   rw [hmb]
   simp only [strRV]
   rw [stV_of_bad hmb]⟩
  rw [stV_of_bad hmb] at hmk
  generalize strRV s (textS st) = RV at HRV ⊢
  generalize ((s.size - n : Nat) : Int) = i at hmk HRV
  clear hmb hok1 hok hst
  go_enter Tryz.func99, Tryz.ntmps99
  go_wp2_with fail
  refine (hmk _).mono ?_
  rintro e w1 ⟨rfl, hb⟩
  have k1_ := mk0 ((hb.block _ (blk_lt KB1.out)).trans KB1.out)
  have k2_ := mk0 ((hb.block _ (blk_lt KB2.out)).trans KB2.out)
  have n_ := mk0 (below_then HB.out HB.out.size hb)
  clear KB1 KB2 HB hb
  have KB1 := k1_
  have KB2 := k2_
  have HB := n_
  clear k1_ k2_ n_
  obtain ⟨c0, c1, c2, f0, f1, f2⟩ := spot_cells KB1.out
  obtain ⟨d0, d1, d2, g0, g1, g2⟩ := spot_cells KB2.out
  go_upto_region 2 with (fail)
  clear c0 c1 c2 f0 f1 f2 d0 d1 d2 g0 g1 g2
  have k1_ := mk0 (spot_set KB1.out s i true)
  have k2_ := mk0 (spot_far KB2.out (show w.heap.size + 1 ≠ w.heap.size by omega) s i true)
  have n_ := mk0 (spot_below HB.out (Nat.le_refl w.heap.size) s i true)
  clear KB1 KB2 HB
  have KB1 := k1_
  have KB2 := k2_
  have HB := n_
  clear k1_ k2_ n_
  generalize (((w1.setCell ⟨w.heap.size, 0, none⟩ (.string s)).setCell ⟨w.heap.size, 1, none⟩ (.int .i64 i)).setCell ⟨w.heap.size, 2, none⟩ (.bool true)) = w2 at KB1 KB2 HB ⊢
  obtain ⟨c0, c1, c2, f0, f1, f2⟩ := spot_cells KB1.out
  obtain ⟨d0, d1, d2, g0, g1, g2⟩ := spot_cells KB2.out
  go_wp2_with fail
  have n_ := mk0 (below_alloc HB.out (.cells #[] 5))
  have k1_ := mk0 ((Below.heap_alloc w2 (.cells #[] 5) _ (blk_lt KB1.out)).trans KB1.out)
  have k2_ := mk0 ((Below.heap_alloc w2 (.cells #[] 5) _ (blk_lt KB2.out)).trans KB2.out)
  clear c0 c1 c2 f0 f1 f2 d0 d1 d2 g0 g1 g2
  clear HB KB1 KB2
  have HB := n_
  have KB1 := k1_
  have KB2 := k2_
  clear n_ k1_ k2_
  generalize Value.slice (some { block := w2.heap.size, off := 0 }) 0 0 = v0
  generalize w2.alloc (Obj.cells #[] 5) = w3 at HB KB1 KB2 ⊢
  go_loopg [4, 5] 1 (fun k v4 v5 wr => wr = w3)
  case atStart => rfl
  case round =>
   subst hrel
   obtain ⟨c0, c1, c2, f0, f1, f2⟩ := spot_cells KB1.out
   obtain ⟨d0, d1, d2, g0, g1, g2⟩ := spot_cells KB2.out
   go_wp2
   refine bodyPost_ret (v := .tuple #[.agg #[.string s, .int .i64 i, .bool true], .string ⟨#[]⟩]) (by simp [results, Tryz.results99, go_sem, d0, d1, d2]) rfl ⟨congrArg Ending.returned HRV.out.symm, spot_below HB.out (Nat.le_succ w.heap.size) s i true⟩
 | none =>
  have hts : textS st = textR (textL (markS [34] st).l []) := by unfold textS; rw [hmb]
  have hsuf : (markS [34] st).l <:+ bytes s := hok1.1
  have hmkv : stV s (markS [34] st) = .agg #[.string s, .int .i64 ((s.size - (markS [34] st).l.length : Nat) : Int), .bool false] := by unfold stV spI spotV; rw [hmb]; rfl
  rw [hmkv] at hmk
  rw [hts]
  generalize (markS [34] st).l = L at hmk hsuf ⊢
  have hle : L.length ≤ s.size := by have := hsuf.length_le; rwa [bytes_len] at this
  have hd := suf_drop hsuf
  obtain ⟨i1, hi1⟩ : ∃ x, s.size - L.length = x := ⟨_, rfl⟩
  rw [hi1] at hmk hd
  have hiz : i1 ≤ s.size := by omega
  rw [hd]
  obtain ⟨RV, hRV⟩ : ∃ x, x = strRV s (textR (textL (dropB s i1) [])) := ⟨_, rfl⟩
  rw [← hRV]
  have HRV0 := mk0 hRV
  clear hRV hts hmkv hmb hok1 hok hst hsuf hle hd hi1
  go_enter Tryz.func99, Tryz.ntmps99
  go_wp2_with fail
  refine (hmk _).mono ?_
  rintro e w1 ⟨rfl, hb⟩
  have k1_ := mk0 ((hb.block _ (blk_lt KB1.out)).trans KB1.out)
  have k2_ := mk0 ((hb.block _ (blk_lt KB2.out)).trans KB2.out)
  have n_ := mk0 (below_then HB.out HB.out.size hb)
  clear KB1 KB2 HB hb
  have KB1 := k1_
  have KB2 := k2_
  have HB := n_
  clear k1_ k2_ n_
  obtain ⟨c0, c1, c2, f0, f1, f2⟩ := spot_cells KB1.out
  obtain ⟨d0, d1, d2, g0, g1, g2⟩ := spot_cells KB2.out
  go_upto_region 2 with (fail)
  clear c0 c1 c2 f0 f1 f2 d0 d1 d2 g0 g1 g2
  have k1_ := mk0 (spot_set KB1.out s (i1 : Int) false)
  have k2_ := mk0 (spot_far KB2.out (show w.heap.size + 1 ≠ w.heap.size by omega) s (i1 : Int) false)
  have n_ := mk0 (spot_below HB.out (Nat.le_refl w.heap.size) s (i1 : Int) false)
  clear KB1 KB2 HB
  have KB1 := k1_
  have KB2 := k2_
  have HB := n_
  clear k1_ k2_ n_
  generalize (((w1.setCell ⟨w.heap.size, 0, none⟩ (.string s)).setCell ⟨w.heap.size, 1, none⟩ (.int .i64 (i1 : Int))).setCell ⟨w.heap.size, 2, none⟩ (.bool false)) = w2 at KB1 KB2 HB ⊢
  obtain ⟨c0, c1, c2, f0, f1, f2⟩ := spot_cells KB1.out
  obtain ⟨d0, d1, d2, g0, g1, g2⟩ := spot_cells KB2.out
  go_wp2_with fail
  have n_ := mk0 (below_alloc HB.out (.cells #[] 5))
  have k1_ := mk0 ((Below.heap_alloc w2 (.cells #[] 5) _ (blk_lt KB1.out)).trans KB1.out)
  have k2_ := mk0 ((Below.heap_alloc w2 (.cells #[] 5) _ (blk_lt KB2.out)).trans KB2.out)
  have hl2 : w.heap.size + 2 ≤ w2.heap.size := by have := blk_lt KB2.out; omega
  have HO : Aside0 (Kd.R (Kd.int .u8) 5 (w2.alloc (.cells #[] 5)) w.heap.size (fun k => w.heap.size + 2 ≤ k) (.slice (some ⟨w2.heap.size, 0, none⟩) 0 0) (numsB [])) :=
   ⟨fun k hk => by
    have : w2.heap.size = k := by simpa [Value.ownBlock] using hk
    omega, [], World.ownsRow_lit w2 #[] 0 (by omega) (by decide) rfl, Reps.none _ _⟩
  have HL : Aside0 (w.heap.size + 2 ≤ (w2.alloc (.cells #[] 5)).heap.size) := ⟨by show _ ≤ (w2.heap.push _).size; rw [Array.size_push]; omega⟩
  clear c0 c1 c2 f0 f1 f2 d0 d1 d2 g0 g1 g2
  clear HB KB1 KB2 hl2
  have HB := n_
  have KB1 := k1_
  have KB2 := k2_
  clear n_ k1_ k2_
  generalize Value.slice (some { block := w2.heap.size, off := 0 }) 0 0 = v0 at HO ⊢
  generalize w2.alloc (Obj.cells #[] 5) = w3 at HB KB1 KB2 HO HL ⊢
  go_loopg [4, 5] (s.size + 1) (fun k v4 v5 W => ∃ (acc : List UInt8) (i : Nat), Aside0 (i ≤ s.size ∧ s.size - i < k ∧ acc.length ≤ i ∧ textL (dropB s i) acc = textL (dropB s i1) []) ∧ Aside0 (Kd.R (Kd.int .u8) 5 W w.heap.size (fun k => w.heap.size + 2 ≤ k) v4 (numsB acc)) ∧ Aside0 (W.heap[w.heap.size]? = some (spotC s (i : Int) false)) ∧ Aside0 (W.heap[w.heap.size + 1]? = some (spotC ⟨#[]⟩ 0 false)) ∧ Aside0 (Below w.heap.size w W) ∧ Aside0 (w.heap.size + 2 ≤ W.heap.size))
  case atStart => exact ⟨[], i1, ⟨hiz, by omega, by simp, rfl⟩, HO, KB1, KB2, HB, HL⟩
  case round =>
   clear HO KB1 KB2 HB HL
   obtain ⟨acc, i, HN, HO, KB1, KB2, HB, HL⟩ := hrel
   have hlei : i ≤ s.size := HN.out.1
   obtain ⟨c0, c1, c2, f0, f1, f2⟩ := spot_cells KB1.out
   obtain ⟨d0, d1, d2, g0, g1, g2⟩ := spot_cells KB2.out
   by_cases hlt : i < s.size
   ·
    obtain ⟨c, hc⟩ : ∃ c, s[i]'hlt = c := ⟨_, rfl⟩
    have hx : ∀ h : i < s.size, s[i]'h = c := fun _ => hc
    have hd := dropB_cons hlt
    rw [hc] at hd
    have HD := mk0 hd
    clear hc hd
    have q1 := eq_true (show ((i : Int) < (s.size : Int)) by omega)
    have q2 := eq_true (show (0 : Int) ≤ (i : Int) by omega)
    have q3 := decide_eq_false (show ¬ ((s.size : Int) ≤ (i : Int)) by omega)
    have q4 := decide_eq_false (show ¬ (s.size ≤ i) by omega)
    by_cases h34 : c = 34
    ·
     have e34 : ((c.toNat : Int) == 34) = true := by rw [h34]; rfl
     have HRV := mk0 (HRV0.out.trans ((congrArg (fun x => strRV s (textR x)) (show textL (dropB s i1) [] = (some acc, dropB s (i + 1)) by rw [← HN.out.2.2.2, HD.out, textL_q _ _ h34])).trans (strRV_some (by omega) acc)))
     rw [show ((i + 1 : Nat) : Int) = (i : Int) + 1 by omega] at HRV
     clear h34
     go_upto_region 9 with (fail)
     clear c0 c1 c2 f0 f1 f2 d0 d1 d2 g0 g1 g2
     have k1_ := mk0 (spot_set1 KB1.out ((i : Int) + 1))
     have k2_ := mk0 (spot_far1 KB2.out (show w.heap.size + 1 ≠ w.heap.size by omega) ((i : Int) + 1))
     have n_ := mk0 (HB.out.setCell (p := ⟨w.heap.size, 1, none⟩) (Nat.le_refl w.heap.size) (.int .i64 ((i : Int) + 1)))
     have n2_ := mk0 (Kd.R_far (p := ⟨w.heap.size, 1, none⟩) HO.out (fun k hk => by show k ≠ w.heap.size; omega) (.int .i64 ((i : Int) + 1)))
     have n3_ := mk0 (show w.heap.size + 2 ≤ (wr.setCell ⟨w.heap.size, 1, none⟩ (.int .i64 ((i : Int) + 1))).heap.size by have := HL.out; simpa [World.setCell] using this)
     clear KB1 KB2 HB HO HL
     have KB1 := k1_
     have KB2 := k2_
     have HB := n_
     have HO := n2_
     have HL := n3_
     clear k1_ k2_ n_ n2_ n3_
     generalize wr.setCell ⟨w.heap.size, 1, none⟩ (.int .i64 ((i : Int) + 1)) = w5 at KB1 KB2 HB HO HL ⊢
     obtain ⟨c0, c1, c2, f0, f1, f2⟩ := spot_cells KB1.out
     obtain ⟨d0, d1, d2, g0, g1, g2⟩ := spot_cells KB2.out
     have hcv := fun m => own_string (P := Tryz.prog) Tryz.underlying224 Tryz.underlying5 Tryz.underlying9 (Kd.own_of_R (Kd.R_drewN HO.out m))
     have hcv1 := own_string (P := Tryz.prog) Tryz.underlying224 Tryz.underlying5 Tryz.underlying9 (Kd.own_of_R (Kd.R_drew HO.out))
     have hcv2 := own_string (P := Tryz.prog) Tryz.underlying224 Tryz.underlying5 Tryz.underlying9 (Kd.own_of_R (Kd.R_drew (R_spot HO.out s ((i : Int) + 1) false)))
     go_region
     rw [str_numsB]
     go_wp2
     refine bodyPost_ret (v := .tuple #[.agg #[.string s, .int .i64 ((i : Int) + 1), .bool false], .string ⟨acc.toArray⟩]) (by simp [results, Tryz.results99, go_sem, d0, d1, d2]) rfl ⟨congrArg Ending.returned HRV.out.symm, below_drew1 (spot_below HB.out (Nat.le_succ w.heap.size) s ((i : Int) + 1) false)⟩
    ·
     have e34 : ((c.toNat : Int) == 34) = false := by rw [show (34 : Int) = ((34 : Nat) : Int) from rfl, c_eq (by decide)]; simpa using h34
     by_cases h92 : c = 92
     ·
      have e92 : ((c.toNat : Int) == 92) = true := by rw [h92]; rfl
      have HC := mk0 (show c = 92 from h92)
      clear h34 h92
      go_upto_region 12 with (fail)
      clear c0 c1 c2 f0 f1 f2 d0 d1 d2 g0 g1 g2
      have k1_ := mk0 (spot_set1 KB1.out ((i : Int) + 1))
      have k2_ := mk0 (spot_far1 KB2.out (show w.heap.size + 1 ≠ w.heap.size by omega) ((i : Int) + 1))
      have n_ := mk0 (HB.out.setCell (p := ⟨w.heap.size, 1, none⟩) (Nat.le_refl w.heap.size) (.int .i64 ((i : Int) + 1)))
      have n2_ := mk0 (Kd.R_far (p := ⟨w.heap.size, 1, none⟩) HO.out (fun k hk => by show k ≠ w.heap.size; omega) (.int .i64 ((i : Int) + 1)))
      have n3_ := mk0 (show w.heap.size + 2 ≤ (wr.setCell ⟨w.heap.size, 1, none⟩ (.int .i64 ((i : Int) + 1))).heap.size by have := HL.out; simpa [World.setCell] using this)
      clear KB1 KB2 HB HO HL
      have KB1 := k1_
      have KB2 := k2_
      have HB := n_
      have HO := n2_
      have HL := n3_
      clear k1_ k2_ n_ n2_ n3_
      generalize wr.setCell ⟨w.heap.size, 1, none⟩ (.int .i64 ((i : Int) + 1)) = w5 at KB1 KB2 HB HO HL ⊢
      have ei : (i : Int) + 1 = ((i + 1 : Nat) : Int) := by omega
      rw [ei] at KB1 ⊢
      clear ei
      obtain ⟨c0, c1, c2, f0, f1, f2⟩ := spot_cells KB1.out
      obtain ⟨d0, d1, d2, g0, g1, g2⟩ := spot_cells KB2.out
      clear q1 q2 q3 q4
      by_cases hlt1 : i + 1 < s.size
      ·
       obtain ⟨d, hd1⟩ : ∃ d, s[i + 1]'hlt1 = d := ⟨_, rfl⟩
       have hx1 : ∀ h : i + 1 < s.size, s[i + 1]'h = d := fun _ => hd1
       have hd2 := dropB_cons hlt1
       rw [hd1] at hd2
       have HD1 := mk0 hd2
       clear hd1 hd2 hx hlt
       obtain ⟨j, hj⟩ : ∃ j, j = i + 1 := ⟨_, rfl⟩
       have HJ := mk0 hj
       rw [← hj] at hlt1 hx1 HD1 KB1 c1 ⊢
       have q1 := eq_true (show ((j : Int) < (s.size : Int)) by omega)
       have q2 := eq_true (show (0 : Int) ≤ (j : Int) by omega)
       have q3 := decide_eq_false (show ¬ ((s.size : Int) ≤ (j : Int)) by omega)
       have q4 := decide_eq_false (show ¬ (s.size ≤ j) by omega)
       by_cases hdq : d = 34 ∨ d = 92
       ·
        have HE := mk0 (show textL (dropB s i) acc = textL (dropB s (j + 1)) (acc ++ [d]) by rw [HD.out, ← HJ.out, HD1.out, textL_b1 _ _ HC.out hdq])
        have g1 := decide_eq_false (show ¬ (d.toNat : Int) < 32 by rcases hdq with rfl | rfl <;> decide)
        have g2 := decide_eq_false (show ¬ 126 < (d.toNat : Int) by rcases hdq with rfl | rfl <;> decide)
        have hjs : j = i + 1 := HJ.out
        have HJ2 := mk0 hjs
        clear hjs hj
        by_cases d34 : d = 34
        ·
         have f34 : ((d.toNat : Int) != 34) = false := by rw [d34]; rfl
         clear d34 hdq
         go_wp2_with ((with_reducible refine gate_builtin (b := .append) (xs := #[.tmp 83, .tmp 85]) rfl ?_); at_builtin; go_loud (refine Kd.R_append (Kd.int .u8) (w0 := w) w.heap.size rfl (.tmp 83) (.tmp 85) 224 5 (.int .u8 0) 1 rfl Tryz.underlying224 info5 rfl (by decide) (by omega) _ (numsB _) ((d).toNat : Int) [.int .u8 ((d).toNat : Int)] (fun k => w.heap.size + 2 ≤ k) (fun _ => False) rfl ?aX ?aP (fun _ hk => hk.elim) ?aF HO.out HB.out HB.out.size ?aL ?_; (case aX => first | rfl | (go_simp; done) | (go_simp; rfl)); (case aP => exact rfl); (case aF => exact (fun k hk => by have := HL.out; omega)); (case aL => have := HN.out; simp [numsB]; omega); intro v9 w9 ho hb hg hat; rw [← numsB_snoc] at ho; have n0_ := mk0 ho; have n1_ := mk0 hb; have n2_ := mk0 ((hg.block _ (blk_lt KB1.out) (fun e => absurd (HO.out.1 _ e.symm) (by omega))).trans KB1.out); have n3_ := mk0 ((hg.block _ (blk_lt KB2.out) (fun e => absurd (HO.out.1 _ e.symm) (by omega))).trans KB2.out); have n4_ := mk0 (Nat.le_trans HL.out hg.size); clear HO HB KB1 KB2 HL ho hb hg hat c0 c1 c2 f0 f1 f2 d0 d1 d2 g0 g1 g2; have HO := n0_; have HB := n1_; have KB1 := n2_; have KB2 := n3_; have HL := n4_; clear n0_ n1_ n2_ n3_ n4_; obtain ⟨c0, c1, c2, f0, f1, f2⟩ := spot_cells KB1.out; obtain ⟨d0, d1, d2, g0, g1, g2⟩ := spot_cells KB2.out))
         go_roundg (gk - 1)
         case measure => have := HN.out; have := HJ2.out; omega
         case rel => exact ⟨acc ++ [d], j + 1, ⟨by omega, by have := HN.out; have := HJ2.out; omega, by have := HN.out; have := HJ2.out; simp; omega, by rw [← HN.out.2.2.2, HE.out]⟩, ⟨Kd.R_far (p := ⟨w.heap.size, 1, none⟩) HO.out (fun k hk => by show k ≠ w.heap.size; omega) _⟩, ⟨spot_set1 KB1.out _⟩, ⟨spot_far1 KB2.out (by omega) _⟩, ⟨HB.out.setCell (p := ⟨w.heap.size, 1, none⟩) (Nat.le_refl w.heap.size) _⟩, ⟨by have := HL.out; simpa [World.setCell] using this⟩⟩
        ·
         have f34 : ((d.toNat : Int) != 34) = true := by rw [bne, show (34 : Int) = ((34 : Nat) : Int) from rfl, c_eq (by decide)]; simpa using d34
         have f92 : ((d.toNat : Int) != 92) = false := by rcases hdq with h | h; exact absurd h d34; rw [h]; rfl
         clear d34 hdq
         go_wp2_with ((with_reducible refine gate_builtin (b := .append) (xs := #[.tmp 83, .tmp 85]) rfl ?_); at_builtin; go_loud (refine Kd.R_append (Kd.int .u8) (w0 := w) w.heap.size rfl (.tmp 83) (.tmp 85) 224 5 (.int .u8 0) 1 rfl Tryz.underlying224 info5 rfl (by decide) (by omega) _ (numsB _) ((d).toNat : Int) [.int .u8 ((d).toNat : Int)] (fun k => w.heap.size + 2 ≤ k) (fun _ => False) rfl ?aX ?aP (fun _ hk => hk.elim) ?aF HO.out HB.out HB.out.size ?aL ?_; (case aX => first | rfl | (go_simp; done) | (go_simp; rfl)); (case aP => exact rfl); (case aF => exact (fun k hk => by have := HL.out; omega)); (case aL => have := HN.out; simp [numsB]; omega); intro v9 w9 ho hb hg hat; rw [← numsB_snoc] at ho; have n0_ := mk0 ho; have n1_ := mk0 hb; have n2_ := mk0 ((hg.block _ (blk_lt KB1.out) (fun e => absurd (HO.out.1 _ e.symm) (by omega))).trans KB1.out); have n3_ := mk0 ((hg.block _ (blk_lt KB2.out) (fun e => absurd (HO.out.1 _ e.symm) (by omega))).trans KB2.out); have n4_ := mk0 (Nat.le_trans HL.out hg.size); clear HO HB KB1 KB2 HL ho hb hg hat c0 c1 c2 f0 f1 f2 d0 d1 d2 g0 g1 g2; have HO := n0_; have HB := n1_; have KB1 := n2_; have KB2 := n3_; have HL := n4_; clear n0_ n1_ n2_ n3_ n4_; obtain ⟨c0, c1, c2, f0, f1, f2⟩ := spot_cells KB1.out; obtain ⟨d0, d1, d2, g0, g1, g2⟩ := spot_cells KB2.out))
         go_roundg (gk - 1)
         case measure => have := HN.out; have := HJ2.out; omega
         case rel => exact ⟨acc ++ [d], j + 1, ⟨by omega, by have := HN.out; have := HJ2.out; omega, by have := HN.out; have := HJ2.out; simp; omega, by rw [← HN.out.2.2.2, HE.out]⟩, ⟨Kd.R_far (p := ⟨w.heap.size, 1, none⟩) HO.out (fun k hk => by show k ≠ w.heap.size; omega) _⟩, ⟨spot_set1 KB1.out _⟩, ⟨spot_far1 KB2.out (by omega) _⟩, ⟨HB.out.setCell (p := ⟨w.heap.size, 1, none⟩) (Nat.le_refl w.heap.size) _⟩, ⟨by have := HL.out; simpa [World.setCell] using this⟩⟩
       ·
        have f34 : ((d.toNat : Int) != 34) = true := by rw [bne, show (34 : Int) = ((34 : Nat) : Int) from rfl, c_eq (by decide)]; simpa using (fun h => hdq (Or.inl h))
        have f92 : ((d.toNat : Int) != 92) = true := by rw [bne, show (92 : Int) = ((92 : Nat) : Int) from rfl, c_eq (by decide)]; simpa using (fun h => hdq (Or.inr h))
        have HE := mk0 (show textL (dropB s i1) [] = (none, dropB s j) by rw [← HN.out.2.2.2, HD.out, ← HJ.out, HD1.out, textL_b2 _ _ HC.out hdq])
        clear hj hdq
        have HRV := mk0 (HRV0.out.trans ((congrArg (fun x => strRV s (textR x)) HE.out).trans (strRV_none (by omega))))
        go_wp2_with fail
        refine (rbad_calls s (j : Int) (j : Int) false _).mono ?_
        rintro e w5 ⟨rfl, hb⟩
        clear c0 c1 c2 f0 f1 f2 d0 d1 d2 g0 g1 g2
        have k1_ := mk0 ((hb.block _ (blk_lt KB1.out)).trans KB1.out)
        have k2_ := mk0 ((hb.block _ (blk_lt KB2.out)).trans KB2.out)
        have n_ := mk0 (below_then HB.out HB.out.size hb)
        clear KB1 KB2 HB hb
        have KB1 := k1_
        have KB2 := k2_
        have HB := n_
        clear k1_ k2_ n_
        obtain ⟨c0, c1, c2, f0, f1, f2⟩ := spot_cells KB1.out
        obtain ⟨d0, d1, d2, g0, g1, g2⟩ := spot_cells KB2.out
        unfold spotV
        go_wp2
        refine bodyPost_ret (v := .tuple #[.agg #[.string s, .int .i64 (j : Int), .bool true], .string ⟨#[]⟩]) (by simp [results, Tryz.results99, go_sem, d0, d1, d2]) rfl ⟨congrArg Ending.returned HRV.out.symm, spot_below HB.out (Nat.le_succ w.heap.size) s (j : Int) true⟩
      ·
       have hje : i + 1 = s.size := by omega
       have q3 := decide_eq_true (show ((s.size : Int) ≤ ((i + 1 : Nat) : Int)) by omega)
       have q4 := decide_eq_true (show (s.size ≤ i + 1) by omega)
       have HE := mk0 (show textL (dropB s i1) [] = (none, dropB s (i + 1)) by rw [← HN.out.2.2.2, HD.out, dropB_nil (show s.size ≤ i + 1 by omega), textL_b0 _ HC.out])
       have hle1 : i + 1 ≤ s.size := by omega
       obtain ⟨j, hj⟩ : ∃ j, j = i + 1 := ⟨_, rfl⟩
       rw [← hj] at q3 q4 hle1 HE KB1 c1 ⊢
       clear hje hlt1 hj hx hlt
       have HRV := mk0 (HRV0.out.trans ((congrArg (fun x => strRV s (textR x)) HE.out).trans (strRV_none (by omega))))
       go_wp2_with fail
       refine (rbad_calls s (j : Int) (j : Int) false _).mono ?_
       rintro e w5 ⟨rfl, hb⟩
       clear c0 c1 c2 f0 f1 f2 d0 d1 d2 g0 g1 g2
       have k1_ := mk0 ((hb.block _ (blk_lt KB1.out)).trans KB1.out)
       have k2_ := mk0 ((hb.block _ (blk_lt KB2.out)).trans KB2.out)
       have n_ := mk0 (below_then HB.out HB.out.size hb)
       clear KB1 KB2 HB hb
       have KB1 := k1_
       have KB2 := k2_
       have HB := n_
       clear k1_ k2_ n_
       obtain ⟨c0, c1, c2, f0, f1, f2⟩ := spot_cells KB1.out
       obtain ⟨d0, d1, d2, g0, g1, g2⟩ := spot_cells KB2.out
       unfold spotV
       go_wp2
       refine bodyPost_ret (v := .tuple #[.agg #[.string s, .int .i64 (j : Int), .bool true], .string ⟨#[]⟩]) (by simp [results, Tryz.results99, go_sem, d0, d1, d2]) rfl ⟨congrArg Ending.returned HRV.out.symm, spot_below HB.out (Nat.le_succ w.heap.size) s (j : Int) true⟩
     ·
      have e92 : ((c.toNat : Int) == 92) = false := by rw [show (92 : Int) = ((92 : Nat) : Int) from rfl, c_eq (by decide)]; simpa using h92
      by_cases g0 : 32 ≤ c
      ·
       have g1 := decide_eq_false (show ¬ (c.toNat : Int) < 32 by have := UInt8.le_iff_toNat_le.mp g0; simp at this; omega)
       by_cases g9 : c ≤ 126
       ·
        have g2 := decide_eq_false (show ¬ 126 < (c.toNat : Int) by have := UInt8.le_iff_toNat_le.mp g9; simp at this; omega)
        have HE := mk0 (show textL (dropB s i) acc = textL (dropB s (i + 1)) (acc ++ [c]) by rw [HD.out, textL_p _ _ h34 h92 ⟨g0, g9⟩])
        clear h34 h92 g0 g9
        go_wp2_with ((with_reducible refine gate_builtin (b := .append) (xs := #[.tmp 83, .tmp 85]) rfl ?_); at_builtin; go_loud (refine Kd.R_append (Kd.int .u8) (w0 := w) w.heap.size rfl (.tmp 83) (.tmp 85) 224 5 (.int .u8 0) 1 rfl Tryz.underlying224 info5 rfl (by decide) (by omega) _ (numsB _) ((c).toNat : Int) [.int .u8 ((c).toNat : Int)] (fun k => w.heap.size + 2 ≤ k) (fun _ => False) rfl ?aX ?aP (fun _ hk => hk.elim) ?aF HO.out HB.out HB.out.size ?aL ?_; (case aX => first | rfl | (go_simp; done) | (go_simp; rfl)); (case aP => exact rfl); (case aF => exact (fun k hk => by have := HL.out; omega)); (case aL => have := HN.out; simp [numsB]; omega); intro v9 w9 ho hb hg hat; rw [← numsB_snoc] at ho; have n0_ := mk0 ho; have n1_ := mk0 hb; have n2_ := mk0 ((hg.block _ (blk_lt KB1.out) (fun e => absurd (HO.out.1 _ e.symm) (by omega))).trans KB1.out); have n3_ := mk0 ((hg.block _ (blk_lt KB2.out) (fun e => absurd (HO.out.1 _ e.symm) (by omega))).trans KB2.out); have n4_ := mk0 (Nat.le_trans HL.out hg.size); clear HO HB KB1 KB2 HL ho hb hg hat c0 c1 c2 f0 f1 f2 d0 d1 d2 g0 g1 g2; have HO := n0_; have HB := n1_; have KB1 := n2_; have KB2 := n3_; have HL := n4_; clear n0_ n1_ n2_ n3_ n4_; obtain ⟨c0, c1, c2, f0, f1, f2⟩ := spot_cells KB1.out; obtain ⟨d0, d1, d2, g0, g1, g2⟩ := spot_cells KB2.out))
        go_roundg (gk - 1)
        case measure => have := HN.out; omega
        case rel => exact ⟨acc ++ [c], i + 1, ⟨by omega, by have := HN.out; omega, by have := HN.out; simp; omega, by rw [← HN.out.2.2.2, HE.out]⟩, ⟨Kd.R_far (p := ⟨w.heap.size, 1, none⟩) HO.out (fun k hk => by show k ≠ w.heap.size; omega) _⟩, ⟨spot_set1 KB1.out _⟩, ⟨spot_far1 KB2.out (by omega) _⟩, ⟨HB.out.setCell (p := ⟨w.heap.size, 1, none⟩) (Nat.le_refl w.heap.size) _⟩, ⟨by have := HL.out; simpa [World.setCell] using this⟩⟩
       ·
        have g2 := decide_eq_true (show 126 < (c.toNat : Int) by have : ¬ c.toNat ≤ 126 := (fun h => g9 (by rw [UInt8.le_iff_toNat_le]; exact h)); omega)
        have HRV := mk0 (HRV0.out.trans ((congrArg (fun x => strRV s (textR x)) (show textL (dropB s i1) [] = (none, dropB s i) by rw [← HN.out.2.2.2, HD.out, textL_n _ _ h34 h92 (fun h => g9 h.2)])).trans (strRV_none (by omega))))
        go_wp2_with fail
        refine (rbad_calls s (i : Int) (i : Int) false _).mono ?_
        rintro e w5 ⟨rfl, hb⟩
        clear c0 c1 c2 f0 f1 f2 d0 d1 d2 g0 g1 g2
        have k1_ := mk0 ((hb.block _ (blk_lt KB1.out)).trans KB1.out)
        have k2_ := mk0 ((hb.block _ (blk_lt KB2.out)).trans KB2.out)
        have n_ := mk0 (below_then HB.out HB.out.size hb)
        clear KB1 KB2 HB hb
        have KB1 := k1_
        have KB2 := k2_
        have HB := n_
        clear k1_ k2_ n_
        obtain ⟨c0, c1, c2, f0, f1, f2⟩ := spot_cells KB1.out
        obtain ⟨d0, d1, d2, g0, g1, g2⟩ := spot_cells KB2.out
        unfold spotV
        go_wp2
        refine bodyPost_ret (v := .tuple #[.agg #[.string s, .int .i64 (i : Int), .bool true], .string ⟨#[]⟩]) (by simp [results, Tryz.results99, go_sem, d0, d1, d2]) rfl ⟨congrArg Ending.returned HRV.out.symm, spot_below HB.out (Nat.le_succ w.heap.size) s (i : Int) true⟩
      ·
       have g1 := decide_eq_true (show (c.toNat : Int) < 32 by have : ¬ 32 ≤ c.toNat := (fun h => g0 (by rw [UInt8.le_iff_toNat_le]; exact h)); omega)
       have HRV := mk0 (HRV0.out.trans ((congrArg (fun x => strRV s (textR x)) (show textL (dropB s i1) [] = (none, dropB s i) by rw [← HN.out.2.2.2, HD.out, textL_n _ _ h34 h92 (fun h => g0 h.1)])).trans (strRV_none (by omega))))
       go_wp2_with fail
       refine (rbad_calls s (i : Int) (i : Int) false _).mono ?_
       rintro e w5 ⟨rfl, hb⟩
       clear c0 c1 c2 f0 f1 f2 d0 d1 d2 g0 g1 g2
       have k1_ := mk0 ((hb.block _ (blk_lt KB1.out)).trans KB1.out)
       have k2_ := mk0 ((hb.block _ (blk_lt KB2.out)).trans KB2.out)
       have n_ := mk0 (below_then HB.out HB.out.size hb)
       clear KB1 KB2 HB hb
       have KB1 := k1_
       have KB2 := k2_
       have HB := n_
       clear k1_ k2_ n_
       obtain ⟨c0, c1, c2, f0, f1, f2⟩ := spot_cells KB1.out
       obtain ⟨d0, d1, d2, g0, g1, g2⟩ := spot_cells KB2.out
       unfold spotV
       go_wp2
       refine bodyPost_ret (v := .tuple #[.agg #[.string s, .int .i64 (i : Int), .bool true], .string ⟨#[]⟩]) (by simp [results, Tryz.results99, go_sem, d0, d1, d2]) rfl ⟨congrArg Ending.returned HRV.out.symm, spot_below HB.out (Nat.le_succ w.heap.size) s (i : Int) true⟩
   ·
    have q3 := decide_eq_true (show ((s.size : Int) ≤ (i : Int)) by omega)
    have q4 := decide_eq_true (show (s.size ≤ i) by omega)
    clear hlt
    have HRV := mk0 (HRV0.out.trans ((congrArg (fun x => strRV s (textR x)) (show textL (dropB s i1) [] = (none, dropB s i) by rw [← HN.out.2.2.2, dropB_nil (of_decide_eq_true q4), textL_nil])).trans (strRV_none (by omega))))
    go_wp2_with fail
    refine (rbad_calls s (i : Int) (i : Int) false _).mono ?_
    rintro e w5 ⟨rfl, hb⟩
    clear c0 c1 c2 f0 f1 f2 d0 d1 d2 g0 g1 g2
    have k1_ := mk0 ((hb.block _ (blk_lt KB1.out)).trans KB1.out)
    have k2_ := mk0 ((hb.block _ (blk_lt KB2.out)).trans KB2.out)
    have n_ := mk0 (below_then HB.out HB.out.size hb)
    clear KB1 KB2 HB hb
    have KB1 := k1_
    have KB2 := k2_
    have HB := n_
    clear k1_ k2_ n_
    obtain ⟨c0, c1, c2, f0, f1, f2⟩ := spot_cells KB1.out
    obtain ⟨d0, d1, d2, g0, g1, g2⟩ := spot_cells KB2.out
    unfold spotV
    go_wp2
    refine bodyPost_ret (v := .tuple #[.agg #[.string s, .int .i64 (i : Int), .bool true], .string ⟨#[]⟩]) (by simp [results, Tryz.results99, go_sem, d0, d1, d2]) rfl ⟨congrArg Ending.returned HRV.out.symm, spot_below HB.out (Nat.le_succ w.heap.size) s (i : Int) true⟩
end Go.Proofs.YtlokmijoaocofaaGreatDoor.Mine
end
