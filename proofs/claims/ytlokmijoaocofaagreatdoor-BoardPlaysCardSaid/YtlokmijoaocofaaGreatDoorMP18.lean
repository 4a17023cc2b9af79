/- Texts of one claim, one behind the other, made short by a program. -/
import Derived.Test.YtlokmijoaocofaaGreatDoorMP9
set_option linter.unusedSimpArgs false
set_option linter.unusedVariables false
set_option maxRecDepth 100000
section
namespace Go.Proofs.YtlokmijoaocofaaGreatDoor.Mine
open Go.RowKit YtlokmijoaocofaaGreatDoorW.PrintWords YtlokmijoaocofaaGreatDoorW.PrintLast YtlokmijoaocofaaGreatDoorW.PrintMore
open PBoardPlays
def spotV (s : ByteArray) (i : Int) (b : Bool) : Value := .agg #[.string s, .int .i64 i, .bool b]
def spotC (s : ByteArray) (i : Int) (b : Bool) : Obj := .cells #[.string s, .int .i64 i, .bool b] 177 (0, 0)
theorem rbad_calls (s : ByteArray) (i j : Int) (b : Bool) (w : World) :
 Calls Tryz.prog 101 #[spotV s i b, .int .i64 j] w fun e w' => e = .returned (spotV s (if b then i else j) true) ∧ Below w.heap.size w w' := by
 unfold spotV
 cases b with
 | false =>
  go_enter Tryz.func101, Tryz.ntmps101
  go_wp2
  refine bodyPost_ret (v := .agg #[.string s, .int .i64 j, .bool true]) (by simp [results, Tryz.results101, go_sem]) rfl ⟨rfl, below_alloc (below_alloc (Below.refl _ _) _) _⟩
 | true =>
  go_enter Tryz.func101, Tryz.ntmps101
  go_wp2
  refine bodyPost_ret (v := .agg #[.string s, .int .i64 i, .bool true]) (by simp [results, Tryz.results101, go_sem]) rfl ⟨rfl, below_alloc (below_alloc (Below.refl _ _) _) _⟩
theorem rletter_calls (c : UInt8) (w : World) : Calls Tryz.prog 103 #[.int .u8 (c.toNat : Int)] w fun e w' => e = .returned (.bool (isL c)) ∧ w = w' := by
 rw [← isLet_u]
 generalize (c.toNat : Int) = n
 unfold isLet
 by_cases h1 : 97 ≤ n
 ·
  by_cases h2 : n ≤ 122
  ·
   go_enter Tryz.func103, Tryz.ntmps103
   go_wp2
   go_ret
   exact ⟨by simp [h1, h2], rfl⟩
  ·
   go_enter Tryz.func103, Tryz.ntmps103
   go_wp2
   go_ret
   exact ⟨by simp [h1, h2], rfl⟩
 ·
  go_enter Tryz.func103, Tryz.ntmps103
  go_wp2
  go_ret
  exact ⟨by rw [show (decide (97 ≤ n) && decide (n ≤ 122)) = false by rw [decide_eq_false (by omega : ¬ _)]; rfl]; rfl, rfl⟩
theorem rdigit_calls (c : UInt8) (w : World) : Calls Tryz.prog 104 #[.int .u8 (c.toNat : Int)] w fun e w' => e = .returned (.bool (isD c)) ∧ w = w' := by
 rw [← isDig_u]
 generalize (c.toNat : Int) = n
 unfold isDig
 by_cases h1 : 48 ≤ n
 ·
  by_cases h2 : n ≤ 57
  ·
   go_enter Tryz.func104, Tryz.ntmps104
   go_wp2
   go_ret
   exact ⟨by simp [h1, h2], rfl⟩
  ·
   go_enter Tryz.func104, Tryz.ntmps104
   go_wp2
   go_ret
   exact ⟨by simp [h1, h2], rfl⟩
 ·
  go_enter Tryz.func104, Tryz.ntmps104
  go_wp2
  go_ret
  exact ⟨by rw [show (decide (48 ≤ n) && decide (n ≤ 57)) = false by rw [decide_eq_false (by omega : ¬ _)]; rfl]; rfl, rfl⟩
def spI (s : ByteArray) (st : St) : Int := ((s.size - (st.bad.getD st.l.length) : Nat) : Int)
def stV (s : ByteArray) (st : St) : Value := spotV s (spI s st) st.bad.isSome
set_option maxHeartbeats 1000000 in
theorem rblanks_calls (s : ByteArray) (st : St) (w : World) (hs : s.size ≤ 1000) (hok : st.ok (bytes s)) :
 Calls Tryz.prog 74 #[stV s st] w fun e w' => e = .returned (stV s (blanksS st)) ∧ Below w.heap.size w w' := by
 obtain ⟨l, bad⟩ := st
 cases bad with
 | some n =>
  show Calls _ _ #[spotV s ((s.size - n : Nat) : Int) true] w fun e w' => e = .returned (spotV s ((s.size - n : Nat) : Int) true) ∧ _
  generalize ((s.size - n : Nat) : Int) = i
  unfold spotV
  go_enter Tryz.func74, Tryz.ntmps74
  go_wp2
  go_loopg [] 1 (fun k wr => wr = (w.alloc (.cells #[.string s, .int .i64 i, .bool true] 177)).alloc (.cells #[.string ⟨#[]⟩, .int .i64 0, .bool false] 177))
  case atStart => rfl
  case round =>
   subst hrel
   go_wp2
   refine bodyPost_ret (v := .agg #[.string s, .int .i64 i, .bool true]) (by simp [results, Tryz.results74, go_sem]) rfl ⟨rfl, below_alloc (below_alloc (Below.refl _ _) _) _⟩
 | none =>
  have hsuf : l <:+ bytes s := hok.1
  have hle : l.length ≤ s.size := P_le hok
  show Calls _ _ #[spotV s ((s.size - l.length : Nat) : Int) false] w fun e w' => e = .returned (spotV s ((s.size - (skip l).length : Nat) : Int) false) ∧ _
  have hi0 : s.size - l.length ≤ s.size := Nat.sub_le _ _
  have hd0 : dropB s (s.size - l.length) = l := (suf_drop hsuf).symm
  have HG := mk0 (show ((s.size - (skip l).length : Nat) : Int) = ((s.size - (skip (dropB s (s.size - l.length))).length : Nat) : Int) by rw [hd0])
  generalize ((s.size - (skip l).length : Nat) : Int) = z at HG ⊢
  generalize s.size - l.length = i0 at hi0 HG ⊢
  clear hsuf hle hok hd0
  unfold spotV
  go_enter Tryz.func74, Tryz.ntmps74
  go_wp2
  go_loopg [] (s.size - i0 + 1) (fun k wr => ∃ i : Nat, Aside0 (i ≤ s.size ∧ skip (dropB s i) = skip (dropB s i0) ∧ s.size - i < k) ∧ wr = (w.alloc (.cells #[.string s, .int .i64 (i : Int), .bool false] 177)).alloc (.cells #[.string ⟨#[]⟩, .int .i64 0, .bool false] 177))
  case atStart => exact ⟨i0, ⟨hi0, rfl, by omega⟩, rfl⟩
  case round =>
   obtain ⟨i, HM, rfl⟩ := hrel
   by_cases hi : i < s.size
   ·
    obtain ⟨c, hc⟩ : ∃ c, s[i]'hi = c := ⟨_, rfl⟩
    have hdc := dropB_cons hi
    rw [hc] at hdc
    have HD := mk0 hdc
    clear hdc
    have hx : ∀ h : i < s.size, s[i]'h = c := fun _ => hc
    clear hc
    have p1 : (0 : Int) ≤ (i : Int) := by omega
    have p2 : (i : Int) < (s.size : Int) := by omega
    by_cases h32 : c = 32
    ·
     subst h32
     go_wp2
     go_roundg (gk - 1)
     case measure => have := HM.out; omega
     case rel => exact ⟨i + 1, ⟨by omega, by have := HM.out; rw [← this.2.1, HD.out]; simp [skip], by have := HM.out; omega⟩, rfl⟩
    ·
     have e1 : ((c.toNat : Int) == (32 : Int)) = decide (c = 32) := c_eq (n := 32) (by decide)
     rw [decide_eq_false h32] at e1
     go_wp2
     refine bodyPost_ret (v := .agg #[.string s, .int .i64 z, .bool false]) (by simp [results, Tryz.results74, go_sem]; rw [HG.out, ← HM.out.2.1, HD.out]; simp [skip, h32]; have h9 := congrArg List.length HD.out; rw [dropB_len] at h9; simp at h9; omega) rfl ⟨rfl, below_alloc (below_alloc (Below.refl _ _) _) _⟩
   ·
    have p2 : decide ((i : Int) < (s.size : Int)) = false := decide_eq_false (by omega)
    have hiz : i = s.size := by have := HM.out; omega
    go_wp2
    refine bodyPost_ret (v := .agg #[.string s, .int .i64 z, .bool false]) (by simp [results, Tryz.results74, go_sem]; rw [HG.out, ← HM.out.2.1, dropB_nil (by omega)]; simp [skip, hiz]) rfl ⟨rfl, below_alloc (below_alloc (Below.refl _ _) _) _⟩
theorem spot_cells {w : World} {g : Nat} {s : ByteArray} {i : Int} {b : Bool} (h : w.heap[g]? = some (spotC s i b)) :
 w.cell? ⟨g, 0, none⟩ = some (.string s) ∧ w.cell? ⟨g, 1, none⟩ = some (.int .i64 i) ∧ w.cell? ⟨g, 2, none⟩ = some (.bool b) ∧ w.frozen? ⟨g, 0, none⟩ = false ∧ w.frozen? ⟨g, 1, none⟩ = false ∧ w.frozen? ⟨g, 2, none⟩ = false :=
 ⟨(blk_cell h 0).trans rfl, (blk_cell h 1).trans rfl, (blk_cell h 2).trans rfl, blk_frozen h 0, blk_frozen h 1, blk_frozen h 2⟩
theorem spot_new (w : World) (s s' : ByteArray) (i i' : Int) (b b' : Bool) :
 ((w.alloc (.cells #[.string s, .int .i64 i, .bool b] 177)).alloc (.cells #[.string s', .int .i64 i', .bool b'] 177)).heap[w.heap.size]? = some (spotC s i b) ∧
 ((w.alloc (.cells #[.string s, .int .i64 i, .bool b] 177)).alloc (.cells #[.string s', .int .i64 i', .bool b'] 177)).heap[w.heap.size + 1]? = some (spotC s' i' b') := by
 constructor
 ·
  show ((w.heap.push _).push _)[_]? = _
  simp only [Array.getElem?_push, Array.size_push]
  rw [if_neg (by omega), if_pos trivial]
  rfl
 ·
  show ((w.heap.push _).push _)[_]? = _
  simp only [Array.getElem?_push, Array.size_push]
  rw [if_pos trivial]
  rfl
theorem stV_bad (s : ByteArray) (l : List UInt8) (n : Nat) : stV s ⟨l, some n⟩ = .agg #[.string s, .int .i64 ((s.size - n : Nat) : Int), .bool true] := rfl
theorem stV_good (s : ByteArray) (l : List UInt8) : stV s ⟨l, none⟩ = .agg #[.string s, .int .i64 ((s.size - l.length : Nat) : Int), .bool false] := rfl
theorem spot_set {w : World} {g : Nat} {s0 : ByteArray} {i0 : Int} {b0 : Bool} (h : w.heap[g]? = some (spotC s0 i0 b0)) (s : ByteArray) (i : Int) (b : Bool) :
 (((w.setCell ⟨g, 0, none⟩ (.string s)).setCell ⟨g, 1, none⟩ (.int .i64 i)).setCell ⟨g, 2, none⟩ (.bool b)).heap[g]? = some (spotC s i b) := by
 have := blk_set (blk_set (blk_set h 0 (.string s)) 1 (.int .i64 i)) 2 (.bool b)
 simpa [spotC] using this
theorem spot_far {w : World} {g g2 : Nat} {o : Obj} (h : w.heap[g]? = some o) (hne : g ≠ g2) (s : ByteArray) (i : Int) (b : Bool) :
 (((w.setCell ⟨g2, 0, none⟩ (.string s)).setCell ⟨g2, 1, none⟩ (.int .i64 i)).setCell ⟨g2, 2, none⟩ (.bool b)).heap[g]? = some o := by
 rw [Below.heap_setCell _ _ _ _ hne, Below.heap_setCell _ _ _ _ hne, Below.heap_setCell _ _ _ _ hne]
 exact h
theorem spot_below {B : Nat} {w W : World} {g : Nat} (h : Below B w W) (hg : B ≤ g) (s : ByteArray) (i : Int) (b : Bool) :
 Below B w (((W.setCell ⟨g, 0, none⟩ (.string s)).setCell ⟨g, 1, none⟩ (.int .i64 i)).setCell ⟨g, 2, none⟩ (.bool b)) :=
 ((h.setCell hg _).setCell hg _).setCell hg _
set_option maxHeartbeats 1000000 in
theorem rmark_calls (s m : ByteArray) (st : St) (w : World) (hs : s.size ≤ 1000) (hm : m.size ≤ 1000) (hok : st.ok (bytes s)) :
 Calls Tryz.prog 100 #[stV s st, .string m] w fun e w' => e = .returned (stV s (markS (bytes m) st)) ∧ Below w.heap.size w w' := by
 have hok1 := blanksS_ok hok
 have hbl := fun w => rblanks_calls s st w hs hok
 obtain ⟨l, bad⟩ := st
 cases bad with
 | some n =>
  rw [markS_bad rfl]
  rw [blanksS_bad rfl] at hbl
  rw [stV_bad] at hbl ⊢
  generalize ((s.size - n : Nat) : Int) = i at hbl ⊢
  obtain ⟨hn1, hn2⟩ := spot_new w s ⟨#[]⟩ i 0 true false
  have KB1 := mk0 hn1
  have KB2 := mk0 hn2
  have HB := mk0 (below_alloc (below_alloc (Below.refl w.heap.size w) (.cells #[.string s, .int .i64 i, .bool true] 177)) (.cells #[.string ⟨#[]⟩, .int .i64 0, .bool false] 177))
  clear hn1 hn2
  go_enter Tryz.func100, Tryz.ntmps100
  go_wp2_with fail
  refine (hbl _).mono ?_
  rintro e w1 ⟨rfl, hb⟩
  have k1_ := mk0 ((hb.block _ (blk_lt KB1.out)).trans KB1.out)
  have k2_ := mk0 ((hb.block _ (blk_lt KB2.out)).trans KB2.out)
  have n_ := mk0 (below_then HB.out HB.out.size hb)
  clear KB1 KB2 HB hb
  have KB1 := k1_
  have KB2 := k2_
  have HB := n_
  clear k1_ k2_ n_
  obtain ⟨c0, c1, c2, f0, f1, f2⟩ := spot_cells KB1.out
  obtain ⟨d0, d1, d2, g0, g1, g2⟩ := spot_cells KB2.out
  go_wp2_with fail
  refine (rbad_calls s i i true _).mono ?_
  rintro e w2 ⟨rfl, hb⟩
  clear c0 c1 c2 f0 f1 f2 d0 d1 d2 g0 g1 g2
  have k1_ := mk0 (spot_set KB1.out s i true)
  have k2_ := mk0 (spot_far KB2.out (show w.heap.size + 1 ≠ w.heap.size by omega) s i true)
  have n_ := mk0 (spot_below HB.out (Nat.le_refl w.heap.size) s i true)
  clear KB1 KB2 HB
  have KB1 := k1_
  have KB2 := k2_
  have HB := n_
  clear k1_ k2_ n_
  have k1_ := mk0 ((hb.block _ (blk_lt KB1.out)).trans KB1.out)
  have k2_ := mk0 ((hb.block _ (blk_lt KB2.out)).trans KB2.out)
  have n_ := mk0 (below_then HB.out HB.out.size hb)
  clear KB1 KB2 HB hb
  have KB1 := k1_
  have KB2 := k2_
  have HB := n_
  clear k1_ k2_ n_
  obtain ⟨c0, c1, c2, f0, f1, f2⟩ := spot_cells KB1.out
  obtain ⟨d0, d1, d2, g0, g1, g2⟩ := spot_cells KB2.out
  unfold spotV
  go_wp2
  refine bodyPost_ret (v := .agg #[.string s, .int .i64 i, .bool true]) (by simp [results, Tryz.results100, go_sem, d0, d1, d2]) rfl ⟨rfl, spot_below HB.out (Nat.le_succ w.heap.size) s i true⟩
 | none =>
  rw [stV_good] at hbl ⊢
  have e1 : blanksS ⟨l, none⟩ = ⟨skip l, none⟩ := rfl
  have e2 : markS (bytes m) ⟨l, none⟩ = markL (bytes m) (skip l) := rfl
  rw [e1] at hbl hok1
  rw [stV_good] at hbl
  rw [e2]
  have hle := P_le hok1
  have hsuf : skip l <:+ bytes s := hok1.1
  have hd := suf_drop hsuf
  simp only at hle
  generalize skip l = L at hbl hle hd ⊢
  generalize ((s.size - l.length : Nat) : Int) = i0 at hbl ⊢
  have hml : (bytes m).length = m.size := bytes_len m
  obtain ⟨i, hi⟩ : ∃ i, s.size - L.length = i := ⟨_, rfl⟩
  rw [hi] at hbl hd
  have hiz : i ≤ s.size := by omega
  have hli : L.length = s.size - i := by omega
  clear hok hok1 hsuf hi
  obtain ⟨hn1, hn2⟩ := spot_new w s ⟨#[]⟩ i0 0 false false
  have KB1 := mk0 hn1
  have KB2 := mk0 hn2
  have HB := mk0 (below_alloc (below_alloc (Below.refl w.heap.size w) (.cells #[.string s, .int .i64 i0, .bool false] 177)) (.cells #[.string ⟨#[]⟩, .int .i64 0, .bool false] 177))
  clear hn1 hn2
  by_cases h1 : s.size - i < m.size
  ·
   have hp : (bytes m).isPrefixOf L = false := by
    rw [Bool.eq_false_iff]
    intro hp
    have := (List.isPrefixOf_iff_prefix.mp hp).length_le
    omega
   have hr : stV s (markL (bytes m) L) = .agg #[.string s, .int .i64 (i : Int), .bool true] := by
    unfold markL
    rw [hp, if_neg (by simp), stV_bad, show s.size - L.length = i by omega]
   rw [hr]
   have q1 : decide ((s.size : Int) - (i : Int) < (m.size : Int)) = true := decide_eq_true (by omega)
   clear hp hr hml hd
   go_enter Tryz.func100, Tryz.ntmps100
   go_wp2_with fail
   refine (hbl _).mono ?_
   rintro e w1 ⟨rfl, hb⟩
   have k1_ := mk0 ((hb.block _ (blk_lt KB1.out)).trans KB1.out)
   have k2_ := mk0 ((hb.block _ (blk_lt KB2.out)).trans KB2.out)
   have n_ := mk0 (below_then HB.out HB.out.size hb)
   clear KB1 KB2 HB hb
   have KB1 := k1_
   have KB2 := k2_
   have HB := n_
   clear k1_ k2_ n_
   obtain ⟨c0, c1, c2, f0, f1, f2⟩ := spot_cells KB1.out
   obtain ⟨d0, d1, d2, g0, g1, g2⟩ := spot_cells KB2.out
   go_wp2_with fail
   refine (rbad_calls s (i : Int) (i : Int) false _).mono ?_
   rintro e w2 ⟨rfl, hb⟩
   clear c0 c1 c2 f0 f1 f2 d0 d1 d2 g0 g1 g2
   have k1_ := mk0 (spot_set KB1.out s (i : Int) false)
   have k2_ := mk0 (spot_far KB2.out (show w.heap.size + 1 ≠ w.heap.size by omega) s (i : Int) false)
   have n_ := mk0 (spot_below HB.out (Nat.le_refl w.heap.size) s (i : Int) false)
   clear KB1 KB2 HB
   have KB1 := k1_
   have KB2 := k2_
   have HB := n_
   clear k1_ k2_ n_
   have k1_ := mk0 ((hb.block _ (blk_lt KB1.out)).trans KB1.out)
   have k2_ := mk0 ((hb.block _ (blk_lt KB2.out)).trans KB2.out)
   have n_ := mk0 (below_then HB.out HB.out.size hb)
   clear KB1 KB2 HB hb
   have KB1 := k1_
   have KB2 := k2_
   have HB := n_
   clear k1_ k2_ n_
   obtain ⟨c0, c1, c2, f0, f1, f2⟩ := spot_cells KB1.out
   obtain ⟨d0, d1, d2, g0, g1, g2⟩ := spot_cells KB2.out
   unfold spotV
   go_wp2
   refine bodyPost_ret (v := .agg #[.string s, .int .i64 (i : Int), .bool true]) (by simp [results, Tryz.results100, go_sem, d0, d1, d2]) rfl ⟨rfl, spot_below HB.out (Nat.le_succ w.heap.size) s (i : Int) true⟩
  ·
   have he : (s.extract i (i + m.size)).toList = L.take m.size := by
    rw [Lib.extract_toList, show i + m.size - i = m.size by omega]
    exact congrArg _ hd.symm
   have q1 : decide ((s.size : Int) - (i : Int) < (m.size : Int)) = false := decide_eq_false (by omega)
   have hp0 : (bytes m).isPrefixOf L = true ↔ L.take m.size = m.data.toList := by
    rw [List.isPrefixOf_iff_prefix, List.prefix_iff_eq_take, hml]
    exact ⟨fun h => h.symm, fun h => h.symm⟩
   have z1 : (0 : Int) ≤ (i : Int) := by omega
   have z2 : (i : Int) ≤ (i : Int) + (m.size : Int) := by omega
   have z3 : (i : Int) + (m.size : Int) ≤ (s.size : Int) := by omega
   have z4 : ((i : Int) + (m.size : Int)).toNat = i + m.size := by omega
   have z5 : (i : Int).toNat = i := by omega
   rw [← Lib.toList_data] at hp0
   by_cases h2 : L.take m.size = m.toList
   ·
    have hp : (bytes m).isPrefixOf L = true := hp0.mpr h2
    have hr : stV s (markL (bytes m) L) = .agg #[.string s, .int .i64 ((i : Int) + (m.size : Int)), .bool false] := by
     unfold markL
     rw [hp, if_pos rfl, stV_good, show ((s.size - (L.drop (bytes m).length).length : Nat) : Int) = (i : Int) + (m.size : Int) by rw [List.length_drop, hml]; omega]
    rw [hr]
    rw [h2] at he
    clear hp hp0 hr hml hd h2
    go_enter Tryz.func100, Tryz.ntmps100
    go_wp2_with fail
    refine (hbl _).mono ?_
    rintro e w1 ⟨rfl, hb⟩
    have k1_ := mk0 ((hb.block _ (blk_lt KB1.out)).trans KB1.out)
    have k2_ := mk0 ((hb.block _ (blk_lt KB2.out)).trans KB2.out)
    have n_ := mk0 (below_then HB.out HB.out.size hb)
    clear KB1 KB2 HB hb
    have KB1 := k1_
    have KB2 := k2_
    have HB := n_
    clear k1_ k2_ n_
    obtain ⟨c0, c1, c2, f0, f1, f2⟩ := spot_cells KB1.out
    obtain ⟨d0, d1, d2, g0, g1, g2⟩ := spot_cells KB2.out
    go_upto_region 2 with (fail)
    clear c0 c1 c2 f0 f1 f2 d0 d1 d2 g0 g1 g2
    have k1_ := mk0 (spot_set KB1.out s (i : Int) false)
    have k2_ := mk0 (spot_far KB2.out (show w.heap.size + 1 ≠ w.heap.size by omega) s (i : Int) false)
    have n_ := mk0 (spot_below HB.out (Nat.le_refl w.heap.size) s (i : Int) false)
    clear KB1 KB2 HB
    have KB1 := k1_
    have KB2 := k2_
    have HB := n_
    clear k1_ k2_ n_
    generalize (((w1.setCell ⟨w.heap.size, 0, none⟩ (.string s)).setCell ⟨w.heap.size, 1, none⟩ (.int .i64 (i : Int))).setCell ⟨w.heap.size, 2, none⟩ (.bool false)) = w2 at KB1 KB2 HB ⊢
    obtain ⟨c0, c1, c2, f0, f1, f2⟩ := spot_cells KB1.out
    obtain ⟨d0, d1, d2, g0, g1, g2⟩ := spot_cells KB2.out
    go_wp2_with fail
    refine bodyPost_ret (v := .agg #[.string s, .int .i64 ((i : Int) + (m.size : Int)), .bool false]) (by simp [results, Tryz.results100, go_sem, d0, d1, d2]) rfl ⟨rfl, spot_below (HB.out.setCell (p := ⟨w.heap.size, 1, none⟩) (Nat.le_refl w.heap.size) _) (Nat.le_succ w.heap.size) s ((i : Int) + (m.size : Int)) false⟩
   ·
    have hp : (bytes m).isPrefixOf L = false := by
     rw [Bool.eq_false_iff]
     exact fun h => h2 (hp0.mp h)
    have hr : stV s (markL (bytes m) L) = .agg #[.string s, .int .i64 (i : Int), .bool true] := by
     unfold markL
     rw [hp, if_neg (by simp), stV_bad, show s.size - L.length = i by omega]
    rw [hr]
    have q2 : (L.take m.size == m.toList) = false := by simpa using h2
    generalize L.take m.size = L2 at he q2
    clear hp hp0 hr hml hd h2
    go_enter Tryz.func100, Tryz.ntmps100
    go_wp2_with fail
    refine (hbl _).mono ?_
    rintro e w1 ⟨rfl, hb⟩
    have k1_ := mk0 ((hb.block _ (blk_lt KB1.out)).trans KB1.out)
    have k2_ := mk0 ((hb.block _ (blk_lt KB2.out)).trans KB2.out)
    have n_ := mk0 (below_then HB.out HB.out.size hb)
    clear KB1 KB2 HB hb
    have KB1 := k1_
    have KB2 := k2_
    have HB := n_
    clear k1_ k2_ n_
    obtain ⟨c0, c1, c2, f0, f1, f2⟩ := spot_cells KB1.out
    obtain ⟨d0, d1, d2, g0, g1, g2⟩ := spot_cells KB2.out
    go_upto_region 2 with (fail)
    clear c0 c1 c2 f0 f1 f2 d0 d1 d2 g0 g1 g2
    have k1_ := mk0 (spot_set KB1.out s (i : Int) false)
    have k2_ := mk0 (spot_far KB2.out (show w.heap.size + 1 ≠ w.heap.size by omega) s (i : Int) false)
    have n_ := mk0 (spot_below HB.out (Nat.le_refl w.heap.size) s (i : Int) false)
    clear KB1 KB2 HB
    have KB1 := k1_
    have KB2 := k2_
    have HB := n_
    clear k1_ k2_ n_
    generalize (((w1.setCell ⟨w.heap.size, 0, none⟩ (.string s)).setCell ⟨w.heap.size, 1, none⟩ (.int .i64 (i : Int))).setCell ⟨w.heap.size, 2, none⟩ (.bool false)) = w2 at KB1 KB2 HB ⊢
    obtain ⟨c0, c1, c2, f0, f1, f2⟩ := spot_cells KB1.out
    obtain ⟨d0, d1, d2, g0, g1, g2⟩ := spot_cells KB2.out
    go_wp2_with fail
    refine (rbad_calls s (i : Int) (i : Int) false _).mono ?_
    rintro e w3 ⟨rfl, hb⟩
    clear c0 c1 c2 f0 f1 f2 d0 d1 d2 g0 g1 g2
    have k1_ := mk0 ((hb.block _ (blk_lt KB1.out)).trans KB1.out)
    have k2_ := mk0 ((hb.block _ (blk_lt KB2.out)).trans KB2.out)
    have n_ := mk0 (below_then HB.out HB.out.size hb)
    clear KB1 KB2 HB hb
    have KB1 := k1_
    have KB2 := k2_
    have HB := n_
    clear k1_ k2_ n_
    obtain ⟨c0, c1, c2, f0, f1, f2⟩ := spot_cells KB1.out
    obtain ⟨d0, d1, d2, g0, g1, g2⟩ := spot_cells KB2.out
    unfold spotV
    go_wp2
    refine bodyPost_ret (v := .agg #[.string s, .int .i64 (i : Int), .bool true]) (by simp [results, Tryz.results100, go_sem, d0, d1, d2]) rfl ⟨rfl, spot_below HB.out (Nat.le_succ w.heap.size) s (i : Int) true⟩
set_option maxHeartbeats 1000000 in
theorem rword_calls (s : ByteArray) (st : St) (w : World) (hs : s.size ≤ 1000) (hok : st.ok (bytes s)) :
 Calls Tryz.prog 75 #[stV s st] w fun e w' => e = .returned (.tuple #[stV s (wordS st).2, .string ⟨(wordS st).1.toArray⟩]) ∧ Below w.heap.size w w' := by
 have hok1 := blanksS_ok hok
 have hbl := fun w => rblanks_calls s st w hs hok
 obtain ⟨l, bad⟩ := st
 cases bad with
 | some n =>
  rw [wordS_bad rfl]
  rw [blanksS_bad rfl] at hbl
  show Calls _ _ _ w fun e w' => e = .returned (.tuple #[stV s ⟨l, some n⟩, .string ⟨#[]⟩]) ∧ _
  rw [stV_bad] at hbl ⊢
  generalize ((s.size - n : Nat) : Int) = i at hbl ⊢
  obtain ⟨hn1, hn2⟩ := spot_new w s ⟨#[]⟩ i 0 true false
  have KB1 := mk0 hn1
  have KB2 := mk0 hn2
  have HB := mk0 (below_alloc (below_alloc (Below.refl w.heap.size w) (.cells #[.string s, .int .i64 i, .bool true] 177)) (.cells #[.string ⟨#[]⟩, .int .i64 0, .bool false] 177))
  clear hn1 hn2
  go_enter Tryz.func75, Tryz.ntmps75
  go_wp2_with fail
  refine (hbl _).mono ?_
  rintro e w1 ⟨rfl, hb⟩
  have k1_ := mk0 ((hb.block _ (blk_lt KB1.out)).trans KB1.out)
  have k2_ := mk0 ((hb.block _ (blk_lt KB2.out)).trans KB2.out)
  have n_ := mk0 (below_then HB.out HB.out.size hb)
  clear KB1 KB2 HB hb
  have KB1 := k1_
  have KB2 := k2_
  have HB := n_
  clear k1_ k2_ n_
  obtain ⟨c0, c1, c2, f0, f1, f2⟩ := spot_cells KB1.out
  obtain ⟨d0, d1, d2, g0, g1, g2⟩ := spot_cells KB2.out
  go_upto_region 2 with (fail)
  clear c0 c1 c2 f0 f1 f2 d0 d1 d2 g0 g1 g2
  have k1_ := mk0 (spot_set KB1.out s i true)
  have k2_ := mk0 (spot_far KB2.out (show w.heap.size + 1 ≠ w.heap.size by omega) s i true)
  have n_ := mk0 (spot_below HB.out (Nat.le_refl w.heap.size) s i true)
  clear KB1 KB2 HB
  have KB1 := k1_
  have KB2 := k2_
  have HB := n_
  clear k1_ k2_ n_
  generalize (((w1.setCell ⟨w.heap.size, 0, none⟩ (.string s)).setCell ⟨w.heap.size, 1, none⟩ (.int .i64 i)).setCell ⟨w.heap.size, 2, none⟩ (.bool true)) = w2 at KB1 KB2 HB ⊢
  obtain ⟨c0, c1, c2, f0, f1, f2⟩ := spot_cells KB1.out
  obtain ⟨d0, d1, d2, g0, g1, g2⟩ := spot_cells KB2.out
  go_wp2_with fail
  refine (rbad_calls s i i true _).mono ?_
  rintro e w3 ⟨rfl, hb⟩
  clear c0 c1 c2 f0 f1 f2 d0 d1 d2 g0 g1 g2
  have k1_ := mk0 ((hb.block _ (blk_lt KB1.out)).trans KB1.out)
  have k2_ := mk0 ((hb.block _ (blk_lt KB2.out)).trans KB2.out)
  have n_ := mk0 (below_then HB.out HB.out.size hb)
  clear KB1 KB2 HB hb
  have KB1 := k1_
  have KB2 := k2_
  have HB := n_
  clear k1_ k2_ n_
  obtain ⟨c0, c1, c2, f0, f1, f2⟩ := spot_cells KB1.out
  obtain ⟨d0, d1, d2, g0, g1, g2⟩ := spot_cells KB2.out
  unfold spotV
  go_wp2
  refine bodyPost_ret (v := .tuple #[.agg #[.string s, .int .i64 i, .bool true], .string ⟨#[]⟩]) (by simp [results, Tryz.results75, go_sem, d0, d1, d2]) rfl ⟨rfl, spot_below HB.out (Nat.le_succ w.heap.size) s i true⟩
 | none =>
  rw [stV_good] at hbl ⊢
  have e1 : blanksS ⟨l, none⟩ = ⟨skip l, none⟩ := rfl
  have e2 : wordS ⟨l, none⟩ = wordL (skip l) := rfl
  rw [e1] at hbl hok1
  rw [stV_good] at hbl
  rw [e2]
  have hle := P_le hok1
  have hsuf : skip l <:+ bytes s := hok1.1
  have hd := suf_drop hsuf
  simp only at hle
  have hws := word_str s (skip l) hsuf hle
  generalize skip l = L at hbl hle hd hws ⊢
  generalize ((s.size - l.length : Nat) : Int) = i0 at hbl ⊢
  obtain ⟨i, hi⟩ : ∃ i, s.size - L.length = i := ⟨_, rfl⟩
  rw [hi] at hbl hd hws
  have hiz : i ≤ s.size := by omega
  have hli : L.length = s.size - i := by omega
  clear hok hok1 hsuf hi e1 e2
  obtain ⟨hn1, hn2⟩ := spot_new w s ⟨#[]⟩ i0 0 false false
  have KB1 := mk0 hn1
  have KB2 := mk0 hn2
  have HB := mk0 (below_alloc (below_alloc (Below.refl w.heap.size w) (.cells #[.string s, .int .i64 i0, .bool false] 177)) (.cells #[.string ⟨#[]⟩, .int .i64 0, .bool false] 177))
  clear hn1 hn2
  cases L with
  | nil =>
   have hr : (wordL []).2 = ⟨[], some 0⟩ := rfl
   have hr2 : (wordL []).1 = [] := rfl
   rw [hr, hr2, stV_bad]
   have hii : s.size - 0 = i := by simp at hli; omega
   rw [hii]
   have q1 : decide ((s.size : Int) ≤ (i : Int)) = true := decide_eq_true (by simp at hli; omega)
   show Calls _ _ _ w fun e w' => e = .returned (.tuple #[.agg #[.string s, .int .i64 (i : Int), .bool true], .string ⟨#[]⟩]) ∧ _
   clear hws hr hr2 hd hli
   go_enter Tryz.func75, Tryz.ntmps75
   go_wp2_with fail
   refine (hbl _).mono ?_
   rintro e w1 ⟨rfl, hb⟩
   have k1_ := mk0 ((hb.block _ (blk_lt KB1.out)).trans KB1.out)
   have k2_ := mk0 ((hb.block _ (blk_lt KB2.out)).trans KB2.out)
   have n_ := mk0 (below_then HB.out HB.out.size hb)
   clear KB1 KB2 HB hb
   have KB1 := k1_
   have KB2 := k2_
   have HB := n_
   clear k1_ k2_ n_
   obtain ⟨c0, c1, c2, f0, f1, f2⟩ := spot_cells KB1.out
   obtain ⟨d0, d1, d2, g0, g1, g2⟩ := spot_cells KB2.out
   go_upto_region 2 with (fail)
   clear c0 c1 c2 f0 f1 f2 d0 d1 d2 g0 g1 g2
   have k1_ := mk0 (spot_set KB1.out s (i : Int) false)
   have k2_ := mk0 (spot_far KB2.out (show w.heap.size + 1 ≠ w.heap.size by omega) s (i : Int) false)
   have n_ := mk0 (spot_below HB.out (Nat.le_refl w.heap.size) s (i : Int) false)
   clear KB1 KB2 HB
   have KB1 := k1_
   have KB2 := k2_
   have HB := n_
   clear k1_ k2_ n_
   generalize (((w1.setCell ⟨w.heap.size, 0, none⟩ (.string s)).setCell ⟨w.heap.size, 1, none⟩ (.int .i64 (i : Int))).setCell ⟨w.heap.size, 2, none⟩ (.bool false)) = w2 at KB1 KB2 HB ⊢
   obtain ⟨c0, c1, c2, f0, f1, f2⟩ := spot_cells KB1.out
   obtain ⟨d0, d1, d2, g0, g1, g2⟩ := spot_cells KB2.out
   go_wp2_with fail
   refine (rbad_calls s (i : Int) (i : Int) false _).mono ?_
   rintro e w3 ⟨rfl, hb⟩
   clear c0 c1 c2 f0 f1 f2 d0 d1 d2 g0 g1 g2
   have k1_ := mk0 ((hb.block _ (blk_lt KB1.out)).trans KB1.out)
   have k2_ := mk0 ((hb.block _ (blk_lt KB2.out)).trans KB2.out)
   have n_ := mk0 (below_then HB.out HB.out.size hb)
   clear KB1 KB2 HB hb
   have KB1 := k1_
   have KB2 := k2_
   have HB := n_
   clear k1_ k2_ n_
   obtain ⟨c0, c1, c2, f0, f1, f2⟩ := spot_cells KB1.out
   obtain ⟨d0, d1, d2, g0, g1, g2⟩ := spot_cells KB2.out
   unfold spotV
   go_wp2
   refine bodyPost_ret (v := .tuple #[.agg #[.string s, .int .i64 (i : Int), .bool true], .string ⟨#[]⟩]) (by simp [results, Tryz.results75, go_sem, d0, d1, d2]) rfl ⟨rfl, spot_below HB.out (Nat.le_succ w.heap.size) s (i : Int) true⟩
  | cons c r =>
   obtain ⟨hlt, _, h3⟩ := bt_cons hd.symm
   have q1 : decide ((s.size : Int) ≤ (i : Int)) = false := decide_eq_false (by omega)
   have q0 : decide (s.size ≤ i) = false := decide_eq_false (by omega)
   have hx : ∀ h : i < s.size, s[i]'h = c := fun h => by
    rw [dropB_cons h] at hd
    injection hd with hd1 _
    exact hd1.symm
   have p1 : (0 : Int) ≤ (i : Int) := by omega
   have p2 : (i : Int) < (s.size : Int) := by omega
   cases hc : isL c with
   | false =>
    have hr : wordL (c :: r) = ([], ⟨c :: r, some (r.length + 1)⟩) := by simp [wordL, hc]
    rw [hr, stV_bad]
    have hii : s.size - (r.length + 1) = i := by simp at hli; omega
    rw [hii]
    show Calls _ _ _ w fun e w' => e = .returned (.tuple #[.agg #[.string s, .int .i64 (i : Int), .bool true], .string ⟨#[]⟩]) ∧ _
    have HC := mk0 hc
    clear hws hr hd hli h3 hc
    go_enter Tryz.func75, Tryz.ntmps75
    go_wp2_with fail
    refine (hbl _).mono ?_
    rintro e w1 ⟨rfl, hb⟩
    have k1_ := mk0 ((hb.block _ (blk_lt KB1.out)).trans KB1.out)
    have k2_ := mk0 ((hb.block _ (blk_lt KB2.out)).trans KB2.out)
    have n_ := mk0 (below_then HB.out HB.out.size hb)
    clear KB1 KB2 HB hb
    have KB1 := k1_
    have KB2 := k2_
    have HB := n_
    clear k1_ k2_ n_
    obtain ⟨c0, c1, c2, f0, f1, f2⟩ := spot_cells KB1.out
    obtain ⟨d0, d1, d2, g0, g1, g2⟩ := spot_cells KB2.out
    go_upto_region 2 with (fail)
    clear c0 c1 c2 f0 f1 f2 d0 d1 d2 g0 g1 g2
    have k1_ := mk0 (spot_set KB1.out s (i : Int) false)
    have k2_ := mk0 (spot_far KB2.out (show w.heap.size + 1 ≠ w.heap.size by omega) s (i : Int) false)
    have n_ := mk0 (spot_below HB.out (Nat.le_refl w.heap.size) s (i : Int) false)
    clear KB1 KB2 HB
    have KB1 := k1_
    have KB2 := k2_
    have HB := n_
    clear k1_ k2_ n_
    generalize (((w1.setCell ⟨w.heap.size, 0, none⟩ (.string s)).setCell ⟨w.heap.size, 1, none⟩ (.int .i64 (i : Int))).setCell ⟨w.heap.size, 2, none⟩ (.bool false)) = w2 at KB1 KB2 HB ⊢
    obtain ⟨c0, c1, c2, f0, f1, f2⟩ := spot_cells KB1.out
    obtain ⟨d0, d1, d2, g0, g1, g2⟩ := spot_cells KB2.out
    go_wp2_with fail
    refine (rletter_calls c _).mono ?_
    rintro e w3 ⟨rfl, rfl⟩
    rw [HC.out]
    go_wp2_with fail
    refine (rbad_calls s (i : Int) (i : Int) false _).mono ?_
    rintro e w3 ⟨rfl, hb⟩
    clear c0 c1 c2 f0 f1 f2 d0 d1 d2 g0 g1 g2
    have k1_ := mk0 ((hb.block _ (blk_lt KB1.out)).trans KB1.out)
    have k2_ := mk0 ((hb.block _ (blk_lt KB2.out)).trans KB2.out)
    have n_ := mk0 (below_then HB.out HB.out.size hb)
    clear KB1 KB2 HB hb
    have KB1 := k1_
    have KB2 := k2_
    have HB := n_
    clear k1_ k2_ n_
    obtain ⟨c0, c1, c2, f0, f1, f2⟩ := spot_cells KB1.out
    obtain ⟨d0, d1, d2, g0, g1, g2⟩ := spot_cells KB2.out
    unfold spotV
    go_wp2
    refine bodyPost_ret (v := .tuple #[.agg #[.string s, .int .i64 (i : Int), .bool true], .string ⟨#[]⟩]) (by simp [results, Tryz.results75, go_sem, d0, d1, d2]) rfl ⟨rfl, spot_below HB.out (Nat.le_succ w.heap.size) s (i : Int) true⟩
   | true =>
    have hr : wordL (c :: r) = (c :: r.takeWhile isA, ⟨r.dropWhile isA, none⟩) := by simp [wordL, hc]
    rw [hr] at hws ⊢
    rw [stV_good]
    simp only at hws
    obtain ⟨z, hz⟩ : ∃ z : Nat, s.size - (r.dropWhile isA).length = z := ⟨_, rfl⟩
    rw [hz] at hws ⊢
    rw [← hws]
    have HC := mk0 hc
    have HZ := mk0 hz
    have H3 := mk0 h3
    clear hws hr hd hli h3 hc hz
    go_enter Tryz.func75, Tryz.ntmps75
    go_wp2_with fail
    refine (hbl _).mono ?_
    rintro e w1 ⟨rfl, hb⟩
    have k1_ := mk0 ((hb.block _ (blk_lt KB1.out)).trans KB1.out)
    have k2_ := mk0 ((hb.block _ (blk_lt KB2.out)).trans KB2.out)
    have n_ := mk0 (below_then HB.out HB.out.size hb)
    clear KB1 KB2 HB hb
    have KB1 := k1_
    have KB2 := k2_
    have HB := n_
    clear k1_ k2_ n_
    obtain ⟨c0, c1, c2, f0, f1, f2⟩ := spot_cells KB1.out
    obtain ⟨d0, d1, d2, g0, g1, g2⟩ := spot_cells KB2.out
    go_upto_region 2 with (fail)
    clear c0 c1 c2 f0 f1 f2 d0 d1 d2 g0 g1 g2
    have k1_ := mk0 (spot_set KB1.out s (i : Int) false)
    have k2_ := mk0 (spot_far KB2.out (show w.heap.size + 1 ≠ w.heap.size by omega) s (i : Int) false)
    have n_ := mk0 (spot_below HB.out (Nat.le_refl w.heap.size) s (i : Int) false)
    clear KB1 KB2 HB
    have KB1 := k1_
    have KB2 := k2_
    have HB := n_
    clear k1_ k2_ n_
    generalize (((w1.setCell ⟨w.heap.size, 0, none⟩ (.string s)).setCell ⟨w.heap.size, 1, none⟩ (.int .i64 (i : Int))).setCell ⟨w.heap.size, 2, none⟩ (.bool false)) = w2 at KB1 KB2 HB ⊢
    obtain ⟨c0, c1, c2, f0, f1, f2⟩ := spot_cells KB1.out
    obtain ⟨d0, d1, d2, g0, g1, g2⟩ := spot_cells KB2.out
    go_wp2_with fail
    refine (rletter_calls c _).mono ?_
    rintro e w3 ⟨rfl, rfl⟩
    rw [HC.out]
    go_wp2_with fail
    go_loopg [4] (s.size + 1) (fun k t wr => ∃ j : Nat, Aside0 (j ≤ s.size ∧ i < j ∧ (dropB s j).dropWhile isA = (dropB s (i + 1)).dropWhile isA ∧ s.size - j < k) ∧ t = .int .i64 (j : Int) ∧ wr = w2)
    case atStart => exact ⟨i + 1, ⟨by omega, by omega, rfl, by omega⟩, rfl, rfl⟩
    case round =>
     obtain ⟨j, HM, rfl, rfl⟩ := hrel
     by_cases hj : j < s.size
     ·
      obtain ⟨c2, hc2⟩ : ∃ c, s[j]'hj = c := ⟨_, rfl⟩
      have hdc := dropB_cons hj
      rw [hc2] at hdc
      have HD := mk0 hdc
      clear hdc
      have hx2 : ∀ h : j < s.size, s[j]'h = c2 := fun _ => hc2
      clear hc2
      have p3 : (0 : Int) ≤ (j : Int) := by omega
      have p4 : (j : Int) < (s.size : Int) := by omega
      clear hx p1 p2
      cases hl : isL c2 with
      | true =>
       go_wp2_with fail
       refine (rletter_calls c2 _).mono ?_
       rintro e w3 ⟨rfl, rfl⟩
       rw [hl]
       go_wp2_with fail
       go_roundg (gk - 1)
       case measure => have := HM.out; omega
       case rel => exact ⟨j + 1, ⟨by omega, by have := HM.out; omega, by have := HM.out; rw [← this.2.2.1, HD.out, List.dropWhile_cons, if_pos (by simp [isA, hl])], by have := HM.out; omega⟩, rfl, rfl⟩
      | false =>
       go_wp2_with fail
       refine (rletter_calls c2 _).mono ?_
       rintro e w3 ⟨rfl, rfl⟩
       rw [hl]
       go_wp2_with fail
       refine (rdigit_calls c2 _).mono ?_
       rintro e w3 ⟨rfl, rfl⟩
       cases hdg : isD c2 with
       | true =>
        go_wp2_with fail
        go_roundg (gk - 1)
        case measure => have := HM.out; omega
        case rel => exact ⟨j + 1, ⟨by omega, by have := HM.out; omega, by have := HM.out; rw [← this.2.2.1, HD.out, List.dropWhile_cons, if_pos (by simp [isA, hdg])], by have := HM.out; omega⟩, rfl, rfl⟩
       | false =>
        have hjz : j = z := by
         have h1 := HM.out.2.2.1
         rw [HD.out, List.dropWhile_cons, if_neg (by simp [isA, hl, hdg]), H3.out] at h1
         have h2 := HZ.out
         rw [← h1, ← HD.out, dropB_len] at h2
         omega
        subst hjz
        have p5 : (i : Int) ≤ (j : Int) := by have := HM.out; omega
        have p6 : (0 : Int) ≤ (i : Int) := by omega
        have p7 : (j : Int) ≤ (s.size : Int) := by omega
        go_wp2
        refine bodyPost_ret (v := .tuple #[.agg #[.string s, .int .i64 (j : Int), .bool false], .string (s.extract i j)]) (by simp [results, Tryz.results75, go_sem, d0, d1, d2]) rfl ⟨rfl, spot_below (HB.out.setCell (p := ⟨w.heap.size, 1, none⟩) (Nat.le_refl w.heap.size) _) (Nat.le_succ w.heap.size) s (j : Int) false⟩
     ·
      have hje : j = s.size := by have := HM.out; omega
      have hjz : j = z := by
       have h1 := HM.out.2.2.1
       rw [dropB_nil (by omega), H3.out] at h1
       have h2 := HZ.out
       rw [← h1] at h2
       simp at h2
       omega
      subst hjz
      have p3 : decide ((j : Int) < (s.size : Int)) = false := decide_eq_false (by omega)
      have p5 : (i : Int) ≤ (j : Int) := by have := HM.out; omega
      have p6 : (0 : Int) ≤ (i : Int) := by omega
      have p7 : (j : Int) ≤ (s.size : Int) := by omega
      clear hje
      go_wp2
      refine bodyPost_ret (v := .tuple #[.agg #[.string s, .int .i64 (j : Int), .bool false], .string (s.extract i j)]) (by simp [results, Tryz.results75, go_sem, d0, d1, d2]) rfl ⟨rfl, spot_below (HB.out.setCell (p := ⟨w.heap.size, 1, none⟩) (Nat.le_refl w.heap.size) _) (Nat.le_succ w.heap.size) s (j : Int) false⟩
end Go.Proofs.YtlokmijoaocofaaGreatDoor.Mine
end
