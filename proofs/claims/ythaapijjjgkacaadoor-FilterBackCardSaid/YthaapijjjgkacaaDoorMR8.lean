/-
  Texts of this claim, one behind the other: what each one proves, and its conditions, stand at its head.
-/
import Derived.Test.YthaapijjjgkacaaDoorMR7
import Derived.Laws.RangeString
import Derived.Laws.RangeAny
import Derived.Laws.Concat
import Derived.Deep.RegionWith
import Derived.Deep.RegionHeld3
import Derived.Shelf.Strconv.Itoa3
import Derived.Ground.NamesProg
import Derived.Test.YthaapijjjgkacaaDoorProg
import Derived.Deep.QuietTactic
import Derived.Shelf.GgClosure.StringsIndexFuncTop
import Derived.Ground.GgwProg
import Derived.Lib.ItoaMem
import Derived.Lib.SmallJoins
import Derived.Lib.AppendIntMem
import Derived.Lib.ItoaLen
import Derived.Lib.DecodeN
set_option linter.unusedSimpArgs false
set_option linter.unusedVariables false
section
/-
  wigwaglaw06.FilterBlanks, walked: true at every input. Condition: errors.errorType holds what its initialiser lays.
-/
namespace Go.Proofs.YthaapijjjgkacaaDoor.Mine
open Go.RowKit Go.Proofs.YthaapijjjgkacaaDoorW.PrintWords Go.Proofs.YthaapijjjgkacaaDoorW.PrintLast Go.Proofs.YthaapijjjgkacaaDoorW.PrintMore
open Go.Proofs.YthaapijjjgkacaaDoor.PFilterReads

theorem ba_ext {a b : ByteArray} (h : a.data.toList = b.data.toList) : a = b := by
  rcases a with ⟨⟨l⟩⟩
  rcases b with ⟨⟨l'⟩⟩
  simp at h
  rw [h]
def spB (n : Nat) : ByteArray := ⟨(List.replicate n (32 : UInt8)).toArray⟩
theorem spB_size (n : Nat) : (spB n).size = n := by simp [spB, ByteArray.size]
theorem spB_succ (n : Nat) : spB n ++ ⟨#[32]⟩ = spB (n + 1) := by
  have h : (spB n ++ ⟨#[32]⟩ : ByteArray).data.toList = (spB (n + 1)).data.toList := by simp [spB, List.replicate_succ']
  exact ba_ext h
/-- n bytes that are all 0. -/
def zB (n : Nat) : ByteArray := ⟨(List.replicate n (0 : UInt8)).toArray⟩
theorem zB_size (n : Nat) : (zB n).size = n := by simp [zB, ByteArray.size]
theorem zB_str (n : Nat) : strOfNums (List.replicate n 0) = zB n := by
  have := Lib.Lz.strOfNums_map (List.replicate n (0 : UInt8))
  simpa [zB] using this
theorem zB_decode (n i : Nat) (h : i < n) : Utf8.decode (zB n) i = (0, 1) := by
  have hi : i < (zB n).size := by rw [zB_size]; exact h
  have h0 : (zB n)[i]'hi = 0 := by
    show (zB n).data[i] = 0
    simp [zB]
  rw [decode_ascii (zB n) i hi (by rw [h0]; decide), h0]
  rfl

theorem spB_bytes (m : Nat) : bytes (spB m) = List.replicate m 32 := by simp [bytes, spB]
theorem blanks_size (s : ByteArray) (m : Nat) : (spB m ++ s ++ spB m).size = m + s.size + m := by
  rw [ByteArray.size_append, ByteArray.size_append, spB_size]
theorem blanks_ok {s : ByteArray} {xs : List Pr} (m : Nat) (h : parseR s = .inl xs) (hs : s.size ≤ 200) (hm : m ≤ 20) : parseR (spB m ++ s ++ spB m) = .inl xs := by
  rw [parseR_PS (by rw [blanks_size]; omega), bytes_append, bytes_append, spB_bytes, (PS_blanks _ _ _ _).mpr (parseR_ok h).2]
theorem blanks_no {s : ByteArray} {z : Int × Int} (m : Nat) (h : parseR s = .inr z) (hs : s.size ≤ 200) (hm : m ≤ 20) : ∃ z', parseR (spB m ++ s ++ spB m) = .inr z' := by
  rw [parseR_PS (by rw [blanks_size]; omega), bytes_append, bytes_append, spB_bytes]
  cases hp : PS (List.replicate m 32 ++ bytes s ++ List.replicate m 32) [] with
  | inl xs =>
    rw [parseR_PS (by omega), (PS_blanks _ _ _ _).mp hp] at h
    cases h
  | inr n => exact ⟨_, rfl⟩
theorem blanks_byte {s : ByteArray} {xs : List Pr} (c : UInt8) (hc : c ≠ 32) (h : parseR s = .inl xs) (hs : s.size ≤ 200) : ∃ n, parseR (s ++ ⟨#[32]⟩ ++ ⟨#[c]⟩) = .inr (n, 2) := by
  have hz : (s ++ ⟨#[32]⟩ ++ ⟨#[c]⟩).size = s.size + 1 + 1 := by rw [ByteArray.size_append, ByteArray.size_append]; rfl
  obtain ⟨n, e⟩ := PS_byte (bytes s) c hc [] xs (parseR_ok h).2
  rw [parseR_PS (by rw [hz]; omega), bytes_append, bytes_append, List.append_assoc]
  have e2 : bytes (⟨#[32]⟩ : ByteArray) ++ bytes (⟨#[c]⟩ : ByteArray) = [32, c] := rfl
  rw [e2, e]
  exact ⟨_, rfl⟩

theorem told_R (l : List S46) (A : Option Addr) (n c : Nat) (w : World) (hn : l.length = n) (hr : Kd.C k46 w A n l) (hc : n ≤ c) (hl : n ≤ 1000) :
    Calls Tryd.prog 15 #[.slice A n c] w fun e w' => ∃ A' c', e = .returned (.slice A' n c') ∧ n ≤ c' ∧ Kd.C k77 w' A' n (l.map toQ) ∧ Below w.heap.size w w' := by
  refine (told_P A n c l w hn hr hc hl).mono ?_
  rintro e w' ⟨v, rfl, ho, hb⟩
  obtain ⟨A', c', rfl, hc', hC'⟩ := Kd.R_reads ho
  have h2 : (l.map toQ).length = n := by rw [List.length_map]; exact hn
  rw [h2] at hc' hC' ⊢
  exact ⟨A', c', rfl, hc', hC', hb⟩
theorem conv1 (w : World) (c : Int) : (convert 24 9 (.slice (some ⟨w.heap.size, 0, none⟩) 1 1)).run Tryd.prog (w.alloc (.cells #[.int .u8 c] 5)) = .ok (.string ⟨#[UInt8.ofNat c.toNat]⟩) (w.alloc (.cells #[.int .u8 c] 5)) := by
  have e : (⟨#[UInt8.ofNat c.toNat]⟩ : ByteArray) = strOfNums [c] := rfl
  rw [e]
  refine run_convert_bytes_arg _ 24 5 Tryd.underlying24 Tryd.underlying5 w.heap.size 0 1 1 [c] rfl (fun i hi => ?_) 9 Tryd.underlying9
  obtain rfl : i = 0 := by omega
  go_simp
  try rfl
set_option maxHeartbeats 64000000 in
set_option maxRecDepth 100000 in
theorem blanks_r (s0 : ByteArray) (m : Nat) (c : Int) (w : World) (hg : ErrTy w) (hs0 : s0.size ≤ 9223372036854775807) (hc : 0 ≤ c ∧ c < 256) (hm : m ≤ 20) (z : Int × Int) (hr0 : parseR (cutB s0 200) = .inr z) :
    Calls Tryd.prog 3 #[.string s0, .int .i64 (m : Int), .int .u8 c] w fun e w' => e = .returned (.bool true) ∧ Below w.heap.size w w' := by
  have HG := Aside0.mk hg
  have HB := Aside0.mk (Below.refl w.heap.size w)
  have HR0 := Aside0.mk hr0
  clear hg hr0
  go_enter Tryd.func3, Tryd.ntmps3
  go_wp2_with fail
  refine (cut_P s0 200 _ hs0 (by omega)).mono ?_
  rintro e w' ⟨rfl, rfl⟩
  have hle := cutB_le s0 200
  generalize cutB s0 200 = s at hle HR0 ⊢
  go_wp2_with ((with_reducible refine gate_dst (N := 25) rfl ?_); go_loud (refine Kd.R_make (Kd.int .u8) (w0 := w) w.heap.size 5 rfl rfl 24 (.tmp 24) (.tmp 24) rfl (m : Int) rfl rfl Tryd.underlying24 (.int .u8 0) 1 info5 rfl (by decide) (by decide) (0 : Int) (ok := fun _ => True) (okp := fun _ => True) ?zz (fun _ _ => trivial) trivial (by omega) ?zl HB.out HB.out.size ?_; (case zz => exact rfl); (case zl => simp; omega); intro v1 w1 ho hb hg1 hat; rw [Int.toNat_natCast] at ho; have HO := Aside0.mk ho; have n_ := Aside0.mk hb; have hcv := own_string (P := Tryd.prog) Tryd.underlying24 Tryd.underlying5 Tryd.underlying9 (Kd.own_of_R ho); rw [zB_str] at hcv; clear HB ho hb hg1 hat; have HB := n_; clear n_))
  go_loopg [8] (m + 1) (fun k v8 wr => ∃ pos : Nat, Aside0 (pos + k = m + 1 ∧ 0 < k) ∧ v8 = .string (spB pos) ∧ wr = w1.iter (zB m) pos)
  case atStart => exact ⟨0, ⟨by omega, by omega⟩, rfl, rfl⟩
  case round =>
    obtain ⟨pos, HA, rfl, rfl⟩ := hrel
    by_cases hp : pos < m
    · have hsp : (spB pos).size ≤ 20 := by rw [spB_size]; omega
      have hnx : ∀ ty, (Instr.next (.pointer (some ⟨w1.heap.size, 0, none⟩)) true ty).run Tryd.prog (w1.iter (zB m) pos) = .ok (.tuple #[.bool true, .int .i64 pos, .int .i32 0]) (w1.iter (zB m) (pos + 1)) := fun ty => by
        rw [run_next_any w1 (zB m) pos ty (by rw [zB_size]; exact hp), zB_decode m pos hp]
        rfl
      go_wp2
      go_roundg (gk - 1)
      case measure => have := HA.out; omega
      case rel => exact ⟨pos + 1, ⟨by have := HA.out; omega, by have := HA.out; omega⟩, by rw [← spB_succ], rfl⟩
    · have hnx : ∀ ty, (Instr.next (.pointer (some ⟨w1.heap.size, 0, none⟩)) true ty).run Tryd.prog (w1.iter (zB m) pos) = _ := fun ty => run_next_end w1 (zB m) pos ty (by rw [zB_size]; exact hp)
      have hpm := HA.out
      obtain rfl : pos = m := by omega
      clear hpm
      go_wp2_with fail
      have n_ := Aside0.mk (HB.out.alloc HB.out.size (.stringIter (zB pos) pos))
      clear HB hnx
      have HB := n_
      clear n_
      change Aside0 (Below _ _ (w1.iter (zB pos) pos)) at HB
      generalize w1.iter (zB pos) pos = w2 at HB ⊢
      refine (parse_P s _ (by omega)).mono ?_
      rintro e w3 hp
      have hr := HR0.out
      clear HR0
      obtain ⟨at1, c1⟩ := z
      obtain ⟨bk1, hbl1, rfl, hf, hb1⟩ := hp.no hr
      obtain ⟨⟨at2, c2⟩, hr2⟩ := blanks_no pos hr hle hm
      have n_ := Aside0.mk (below_then HB.out HB.out.size hb1)
      clear HB hb1 hf hr hp
      have HB := n_
      clear n_
      have HR2 := Aside0.mk hr2
      clear hr2
      have hsp : (spB pos).size = pos := spB_size pos
      go_wp2_with fail
      refine (parse_P (spB pos ++ s ++ spB pos) _ (by rw [blanks_size]; omega)).mono ?_
      rintro e w4 hp
      obtain ⟨bk2, hbl2, rfl, hf, hb1⟩ := hp.no HR2.out
      have n_ := Aside0.mk (below_then HB.out HB.out.size hb1)
      clear HB hb1 hf hp
      have HB := n_
      clear n_
      go_wp2_with fail
      have HN : Aside0 (([] : List S46).length = 0) := ⟨rfl⟩
      have HN2 : Aside0 ((([] : List S46).map toQ).length = 0) := ⟨rfl⟩
      have HL : 0 ≤ 0 := Nat.le_refl _
      have HC1 : Kd.C k46 w4 none 0 [] := Kd.C_nil k46 w4
      have HC2 : Kd.C k46 w4 none 0 [] := HC1
      go_region_held3 (fun _ => True) (trivial) (first
        | (go_at_call 15; (with_reducible refine (told_R [] _ _ _ _ HN.out ?tc ?tl ?tm).mono ?_); (case tl => with_reducible first | assumption | omega); (case tm => omega); (case tc => with_reducible repeat (first | assumption | apply Kd.C_drew | refine Kd.C_below ?_ (by assumption))); rintro e wx ⟨Ax, cx, rfl, hcx, hCx, hbx⟩; have n_ := Aside0.mk (by with_reducible first | exact below_then HB.out HB.out.size hbx | exact below_then (below_drew1 HB.out) (below_drew1 HB.out).size hbx); clear HB; have HB := n_; clear n_)
        | (go_at_call 14; (with_reducible refine (same_P _ _ _ _ _ _ (List.map toQ []) _ HN2.out HN2.out ?s1 ?s3 ?s2 ?s4 ?s5).mono ?_); (case s3 => with_reducible assumption); (case s4 => with_reducible assumption); (case s5 => omega); (case s1 => with_reducible repeat (first | assumption | apply Kd.C_drew | refine Kd.C_below ?_ (by assumption))); (case s2 => with_reducible repeat (first | assumption | apply Kd.C_drew | refine Kd.C_below ?_ (by assumption))); rintro e wx ⟨rfl, hbx⟩; have n_ := Aside0.mk (below_then HB.out HB.out.size hbx); clear HB; have HB := n_; clear n_))
      go_wp2_with fail
      refine (awake_calls _ (ErrTy.below HG.out HB.out)).mono ?_
      rintro e w9 ⟨rfl, hb⟩
      have n_ := Aside0.mk (below_then HB.out HB.out.size hb)
      clear HB hb
      have HB := n_
      clear n_
      go_wp2
      go_ret
      exact ⟨rfl, HB.out⟩
set_option maxHeartbeats 64000000 in
set_option maxRecDepth 100000 in
theorem blanks_l (s0 : ByteArray) (m : Nat) (c : Int) (w : World) (hg : ErrTy w) (hs0 : s0.size ≤ 9223372036854775807) (hc : 0 ≤ c ∧ c < 256) (hm : m ≤ 20) (xs : List Pr) (hr0 : parseR (cutB s0 200) = .inl xs) :
    Calls Tryd.prog 3 #[.string s0, .int .i64 (m : Int), .int .u8 c] w fun e w' => e = .returned (.bool true) ∧ Below w.heap.size w w' := by
  have HG := Aside0.mk hg
  have HB := Aside0.mk (Below.refl w.heap.size w)
  have HR0 := Aside0.mk hr0
  clear hg hr0
  go_enter Tryd.func3, Tryd.ntmps3
  go_wp2_with fail
  refine (cut_P s0 200 _ hs0 (by omega)).mono ?_
  rintro e w' ⟨rfl, rfl⟩
  have hle := cutB_le s0 200
  generalize cutB s0 200 = s at hle HR0 ⊢
  go_wp2_with ((with_reducible refine gate_dst (N := 25) rfl ?_); go_loud (refine Kd.R_make (Kd.int .u8) (w0 := w) w.heap.size 5 rfl rfl 24 (.tmp 24) (.tmp 24) rfl (m : Int) rfl rfl Tryd.underlying24 (.int .u8 0) 1 info5 rfl (by decide) (by decide) (0 : Int) (ok := fun _ => True) (okp := fun _ => True) ?zz (fun _ _ => trivial) trivial (by omega) ?zl HB.out HB.out.size ?_; (case zz => exact rfl); (case zl => simp; omega); intro v1 w1 ho hb hg1 hat; rw [Int.toNat_natCast] at ho; have HO := Aside0.mk ho; have n_ := Aside0.mk hb; have hcv := own_string (P := Tryd.prog) Tryd.underlying24 Tryd.underlying5 Tryd.underlying9 (Kd.own_of_R ho); rw [zB_str] at hcv; clear HB ho hb hg1 hat; have HB := n_; clear n_))
  go_loopg [8] (m + 1) (fun k v8 wr => ∃ pos : Nat, Aside0 (pos + k = m + 1 ∧ 0 < k) ∧ v8 = .string (spB pos) ∧ wr = w1.iter (zB m) pos)
  case atStart => exact ⟨0, ⟨by omega, by omega⟩, rfl, rfl⟩
  case round =>
    obtain ⟨pos, HA, rfl, rfl⟩ := hrel
    by_cases hp : pos < m
    · have hsp : (spB pos).size ≤ 20 := by rw [spB_size]; omega
      have hnx : ∀ ty, (Instr.next (.pointer (some ⟨w1.heap.size, 0, none⟩)) true ty).run Tryd.prog (w1.iter (zB m) pos) = .ok (.tuple #[.bool true, .int .i64 pos, .int .i32 0]) (w1.iter (zB m) (pos + 1)) := fun ty => by
        rw [run_next_any w1 (zB m) pos ty (by rw [zB_size]; exact hp), zB_decode m pos hp]
        rfl
      go_wp2
      go_roundg (gk - 1)
      case measure => have := HA.out; omega
      case rel => exact ⟨pos + 1, ⟨by have := HA.out; omega, by have := HA.out; omega⟩, by rw [← spB_succ], rfl⟩
    · have hnx : ∀ ty, (Instr.next (.pointer (some ⟨w1.heap.size, 0, none⟩)) true ty).run Tryd.prog (w1.iter (zB m) pos) = _ := fun ty => run_next_end w1 (zB m) pos ty (by rw [zB_size]; exact hp)
      have hpm := HA.out
      obtain rfl : pos = m := by omega
      clear hpm
      go_wp2_with fail
      have n_ := Aside0.mk (HB.out.alloc HB.out.size (.stringIter (zB pos) pos))
      clear HB hnx
      have HB := n_
      clear n_
      change Aside0 (Below _ _ (w1.iter (zB pos) pos)) at HB
      generalize w1.iter (zB pos) pos = w2 at HB ⊢
      refine (parse_P s _ (by omega)).mono ?_
      rintro e w3 hp
      have hr := HR0.out
      clear HR0
      obtain ⟨v1, rfl, ho, hb1⟩ := hp.ok hr
      have HO1 := Aside0.mk (Kd.R_lower ho HB.out.size)
      have n_ := Aside0.mk (below_then HB.out HB.out.size hb1)
      have HR1 := Aside0.mk hr
      clear HB hb1 ho hr hp
      have HB := n_
      clear n_
      have hsp : (spB pos).size = pos := spB_size pos
      go_wp2_with fail
      refine (parse_P (spB pos ++ s ++ spB pos) _ (by rw [blanks_size]; omega)).mono ?_
      rintro e w4 hp
      obtain ⟨v2, rfl, ho2, hb2⟩ := hp.ok (blanks_ok pos HR1.out hle hm)
      have hO1 := Kd.R_below HO1.out hb2
      obtain ⟨A1, c1, rfl, hc1, hC1⟩ := Kd.R_reads hO1
      obtain ⟨A2, c2, rfl, hc2, hC2⟩ := Kd.R_reads ho2
      have lx : (xs.map toP).length ≤ 301 := by simpa using parse_count HR1.out
      have n_ := Aside0.mk (below_then HB.out HB.out.size hb2)
      clear HB hb2 hp ho2 hO1 HO1
      have HB := n_
      clear n_
      generalize hL : xs.map toP = L at lx hC1 hC2 hc1 hc2 ⊢
      clear hL
      generalize hn : L.length = n1 at lx hC1 hC2 hc1 hc2 ⊢
      have HN : Aside0 (L.length = n1) := ⟨hn⟩
      have HN2 : Aside0 ((L.map toQ).length = n1) := ⟨by rw [List.length_map]; exact hn⟩
      clear hn
      go_wp2_with fail
      go_region_held3 (fun _ => True) (trivial) (first
        | (go_at_call 15; (with_reducible refine (told_R L _ _ _ _ HN.out ?tc ?tl ?tm).mono ?_); (case tl => with_reducible first | assumption | omega); (case tm => omega); (case tc => with_reducible repeat (first | assumption | apply Kd.C_drew | refine Kd.C_below ?_ (by assumption))); rintro e wx ⟨Ax, cx, rfl, hcx, hCx, hbx⟩; have n_ := Aside0.mk (by with_reducible first | exact below_then HB.out HB.out.size hbx | exact below_then (below_drew1 HB.out) (below_drew1 HB.out).size hbx); clear HB; have HB := n_; clear n_)
        | (go_at_call 14; (with_reducible refine (same_P _ _ _ _ _ _ (List.map toQ L) _ HN2.out HN2.out ?s1 ?s3 ?s2 ?s4 ?s5).mono ?_); (case s3 => with_reducible assumption); (case s4 => with_reducible assumption); (case s5 => omega); (case s1 => with_reducible repeat (first | assumption | apply Kd.C_drew | refine Kd.C_below ?_ (by assumption))); (case s2 => with_reducible repeat (first | assumption | apply Kd.C_drew | refine Kd.C_below ?_ (by assumption))); rintro e wx ⟨rfl, hbx⟩; have n_ := Aside0.mk (below_then HB.out HB.out.size hbx); clear HB; have HB := n_; clear n_))
      by_cases hc32 : c = 32
      · subst hc32
        go_wp2_with fail
        refine (awake_calls _ (ErrTy.below HG.out HB.out)).mono ?_
        rintro e w9 ⟨rfl, hb⟩
        have n_ := Aside0.mk (below_then HB.out HB.out.size hb)
        clear HB hb
        have HB := n_
        clear n_
        go_wp2
        go_ret
        exact ⟨rfl, HB.out⟩
      · have q1 := decide_eq_false hc32
        have q2 : (c == 32) = false := by simpa using hc32
        have hcv1 := fun W => conv1 W c
        go_wp2_with fail
        obtain ⟨n3, hr3⟩ := blanks_byte (UInt8.ofNat c.toNat) (by intro e; apply hc32; have := congrArg UInt8.toNat e; simp at this; omega) HR1.out hle
        have hz : (s ++ ⟨#[32]⟩ ++ ⟨#[UInt8.ofNat c.toNat]⟩).size = s.size + 1 + 1 := by rw [ByteArray.size_append, ByteArray.size_append]; rfl
        have hz2 : (s ++ ⟨#[32]⟩ ++ ⟨#[UInt8.ofNat c.toNat]⟩).size ≤ 1000 := by rw [hz]; omega
        generalize (s ++ ⟨#[32]⟩ ++ ⟨#[UInt8.ofNat c.toNat]⟩ : ByteArray) = S at hr3 hz2 ⊢
        clear hz
        refine (parse_P S _ hz2).mono ?_
        rintro e w6 hp
        obtain ⟨b, hbl, rfl, hf, hb2⟩ := hp.no hr3
        have n_ := Aside0.mk (below_then (below_alloc HB.out (.cells #[.int .u8 c] 5)) (below_size (below_alloc HB.out _)) hb2)
        clear HB
        have HB := n_
        clear n_
        have HF := Aside0.mk hf
        clear hp hf hb2
        go_wp2_with fail
        refine (awake_calls _ (ErrTy.below HG.out HB.out)).mono ?_
        rintro e w7 ⟨rfl, hb3⟩
        have n_ := Aside0.mk (below_then HB.out HB.out.size hb3)
        clear HB
        have HB := n_
        clear n_
        have HF3 := Aside0.mk (IsFault.keep HF.out hb3)
        clear hb3
        go_wp2_with fail
        refine (is_err 2 2 1 _ _ (IsFault.errIs HF3.out)).mono ?_
        rintro e w8 ⟨rfl, rfl⟩
        go_wp2
        go_ret
        exact ⟨rfl, HB.out⟩
set_option maxHeartbeats 64000000 in
set_option maxRecDepth 100000 in
theorem blanks_calls (s0 : ByteArray) (n c : Int) (w : World) (hg : ErrTy w) (hs0 : s0.size ≤ 9223372036854775807) (hc : 0 ≤ c ∧ c < 256) : Calls Tryd.prog 3 #[.string s0, .int .i64 n, .int .u8 c] w fun e w' => e = .returned (.bool true) ∧ Below w.heap.size w w' := by
  have HG := Aside0.mk hg
  have HB := Aside0.mk (Below.refl w.heap.size w)
  clear hg
  by_cases hn0 : n < 0
  · go_enter Tryd.func3, Tryd.ntmps3
    go_wp2_with fail
    refine (cut_P s0 200 _ hs0 (by omega)).mono ?_
    rintro e w' ⟨rfl, rfl⟩
    go_wp2_with fail
    refine (awake_calls _ (ErrTy.below HG.out HB.out)).mono ?_
    rintro e w9 ⟨rfl, hb⟩
    have n_ := Aside0.mk (below_then HB.out HB.out.size hb)
    clear HB hb
    have HB := n_
    clear n_
    go_wp2
    go_ret
    exact ⟨rfl, HB.out⟩
  by_cases hn2 : 20 < n
  · go_enter Tryd.func3, Tryd.ntmps3
    go_wp2_with fail
    refine (cut_P s0 200 _ hs0 (by omega)).mono ?_
    rintro e w' ⟨rfl, rfl⟩
    go_wp2_with fail
    refine (awake_calls _ (ErrTy.below HG.out HB.out)).mono ?_
    rintro e w9 ⟨rfl, hb⟩
    have n_ := Aside0.mk (below_then HB.out HB.out.size hb)
    clear HB hb
    have HB := n_
    clear n_
    go_wp2
    go_ret
    exact ⟨rfl, HB.out⟩
  obtain ⟨m, rfl⟩ := Int.eq_ofNat_of_zero_le (by omega : 0 ≤ n)
  have hm : m ≤ 20 := by omega
  cases hr : parseR (cutB s0 200) with
  | inr z => exact blanks_r s0 m c w HG.out hs0 hc hm z hr
  | inl xs => exact blanks_l s0 m c w HG.out hs0 hc hm xs hr
end Go.Proofs.YthaapijjjgkacaaDoor.Mine
end
section
/-
  wigwaglaw06.FilterParses, walked: true at every input. Condition: errors.errorType holds what its initialiser lays.
-/
namespace Go.Proofs.YthaapijjjgkacaaDoor.Mine
open Go.RowKit Go.Proofs.YthaapijjjgkacaaDoorW.PrintWords Go.Proofs.YthaapijjjgkacaaDoorW.PrintLast Go.Proofs.YthaapijjjgkacaaDoorW.PrintMore
open Go.Proofs.YthaapijjjgkacaaDoor.PFilterReads
theorem rparse_no {w w' : World} {s : ByteArray} {e : Ending} {at_ c : Int} (h : RParsePost w s e w') (hr : parseR s = .inr (at_, c)) : RParseNo w at_ c e w' := by
  unfold RParsePost at h
  rw [hr] at h
  exact h
theorem rparse_ok {w w' : World} {s : ByteArray} {e : Ending} {xs : List Pr} (h : RParsePost w s e w') (hr : parseR s = .inl xs) : RParseOk w xs e w' := by
  unfold RParsePost at h
  rw [hr] at h
  exact h
theorem parseR_code {s : ByteArray} {at_ c : Int} (h : parseR s = .inr (at_, c)) : (c == 0) = false := by
  unfold parseR at h
  split at h
  · injection h with h
    injection h with _ h
    subst h
    rfl
  · split at h
    · cases h
    · injection h with h
      injection h with _ h
      subst h
      rfl
theorem toPQ_map (xs : List Pr) : xs.map toPQ = (xs.map toP).map toQ := by
  rw [List.map_map]
  rfl
set_option maxHeartbeats 4000000 in
set_option maxRecDepth 100000 in
theorem parses_calls (s0 : ByteArray) (w : World) (hg : ErrTy w) (hs0 : s0.size ≤ 9223372036854775807) : Calls Tryd.prog 6 #[.string s0] w fun e w' => e = .returned (.bool true) ∧ Below w.heap.size w w' := by
  have HG := Aside0.mk hg
  clear hg
  go_enter Tryd.func6, Tryd.ntmps6
  go_wp2_with fail
  refine (cut_P s0 400 _ hs0 (by omega)).mono ?_
  rintro e w' ⟨rfl, rfl⟩
  have hle := cutB_le s0 400
  generalize cutB s0 400 = a at hle ⊢
  go_wp2_with fail
  refine (parse_P a _ (by omega)).mono ?_
  rintro e w1 hp
  cases hr : parseR a with
  | inr z =>
    obtain ⟨at_, c⟩ := z
    obtain ⟨b, hbl, rfl, hf, hb1⟩ := hp.no hr
    have HB := Aside0.mk hb1
    have HF := Aside0.mk hf
    have hc := parseR_code hr
    have HR := Aside0.mk hr
    clear hp hr hf hb1
    go_wp2_with fail
    refine (rparse_calls a _ (by omega)).mono ?_
    rintro e w2 hq
    obtain ⟨rfl, hb2⟩ := rparse_no hq HR.out
    have HF2 := Aside0.mk (IsFault.keep HF.out hb2)
    have n_ := Aside0.mk (below_then HB.out HB.out.size hb2)
    clear HB HF hq hb2
    have HB := n_
    clear n_
    go_wp2_with fail
    refine (awake_calls _ (ErrTy.below HG.out HB.out)).mono ?_
    rintro e w3 ⟨rfl, hb3⟩
    have HF3 := Aside0.mk (IsFault.keep HF2.out hb3)
    have n_ := Aside0.mk (below_then HB.out HB.out.size hb3)
    clear HB HF2 hb3
    have HB := n_
    clear n_
    go_wp2_with fail
    refine (told_R [] none 0 0 _ rfl (Kd.C_nil k46 _) (Nat.le_refl _) (by omega)).mono ?_
    rintro e w4 ⟨A4, c4, rfl, hc4, hC4, hb4⟩
    have HC4 := Aside0.mk hC4
    have HF4 := Aside0.mk (IsFault.keep HF3.out hb4)
    have n_ := Aside0.mk (below_then HB.out HB.out.size hb4)
    clear HB HF3 hb4 hC4
    have HB := n_
    clear n_
    go_wp2_with fail
    refine (same_P A4 none 0 0 c4 0 [] _ rfl rfl HC4.out hc4 (Kd.C_nil k77 _) (Nat.le_refl _) (by omega)).mono ?_
    rintro e w5 ⟨rfl, hb5⟩
    have HF5 := Aside0.mk (IsFault.keep HF4.out hb5)
    have n_ := Aside0.mk (below_then HB.out HB.out.size hb5)
    clear HB HF4 hb5
    have HB := n_
    clear n_
    go_wp2_with fail
    refine (of_err c 1 _ _ (IsFault.errIs HF5.out) (ErrTy.below HG.out HB.out)).mono ?_
    rintro e w6 ⟨rfl, hb6⟩
    have HF6 := Aside0.mk (IsFault.keep HF5.out hb6)
    have n_ := Aside0.mk (below_then HB.out HB.out.size hb6)
    clear HB HF5 hb6
    have HB := n_
    clear n_
    go_wp2_with fail
    refine (at_fault b _ _ _ _ HF6.out (ErrTy.below HG.out HB.out)).mono ?_
    rintro e w7 ⟨rfl, hb7⟩
    have n_ := Aside0.mk (below_then HB.out HB.out.size hb7)
    clear HB HF6 hb7
    have HB := n_
    clear n_
    go_wp2
    go_ret
    exact ⟨by first | rfl | simp, HB.out⟩
  | inl xs =>
    obtain ⟨v1, rfl, ho, hb1⟩ := hp.ok hr
    have HB := Aside0.mk hb1
    obtain ⟨A1, c1, rfl, hc1, hC1⟩ := Kd.R_reads ho
    have lx : (xs.map toP).length ≤ 301 := by simpa using parse_count hr
    have HR := Aside0.mk hr
    have HC1 := Aside0.mk hC1
    clear hp hr ho hb1 hC1
    obtain ⟨n1, hn⟩ : ∃ n, (xs.map toP).length = n := ⟨_, rfl⟩
    have HN := Aside0.mk hn
    rw [hn] at HC1 hc1 lx ⊢
    clear hn
    go_wp2_with fail
    refine (rparse_calls a _ (by omega)).mono ?_
    rintro e w2 hq
    obtain ⟨v2, rfl, ho2, hb2⟩ := rparse_ok hq HR.out
    rw [toPQ_map] at ho2
    obtain ⟨A2, c2, rfl, hc2, hC2⟩ := Kd.R_reads ho2
    have hn2 : ((xs.map toP).map toQ).length = n1 := by rw [List.length_map]; exact HN.out
    have HN2 := Aside0.mk hn2
    rw [hn2] at hc2 hC2 ⊢
    have HC2 := Aside0.mk hC2
    have n_ := Aside0.mk (below_then HB.out HB.out.size hb2)
    have k_ := Aside0.mk (Kd.C_below HC1.out hb2)
    clear HB HC1 hq ho2 hb2 hC2 hn2
    have HB := n_
    have HC1 := k_
    clear n_ k_
    go_wp2_with fail
    refine (awake_calls _ (ErrTy.below HG.out HB.out)).mono ?_
    rintro e w3 ⟨rfl, hb3⟩
    have n_ := Aside0.mk (below_then HB.out HB.out.size hb3)
    have k_ := Aside0.mk (Kd.C_below HC1.out hb3)
    have k2_ := Aside0.mk (Kd.C_below HC2.out hb3)
    clear HB HC1 HC2 hb3
    have HB := n_
    have HC1 := k_
    have HC2 := k2_
    clear n_ k_ k2_
    go_wp2_with fail
    refine (told_R (xs.map toP) A1 n1 c1 _ HN.out HC1.out hc1 (by omega)).mono ?_
    rintro e w4 ⟨A4, c4, rfl, hc4, hC4, hb4⟩
    have HC4 := Aside0.mk hC4
    have n_ := Aside0.mk (below_then HB.out HB.out.size hb4)
    have k2_ := Aside0.mk (Kd.C_below HC2.out hb4)
    clear HB HC1 HC2 hb4 hC4
    have HB := n_
    have HC2 := k2_
    clear n_ k2_
    go_wp2_with fail
    refine (same_P A4 A2 n1 n1 c4 c2 _ _ HN2.out HN2.out HC4.out hc4 HC2.out hc2 (by omega)).mono ?_
    rintro e w5 ⟨rfl, hb5⟩
    have n_ := Aside0.mk (below_then HB.out HB.out.size hb5)
    clear HB hb5
    have HB := n_
    clear n_
    go_wp2_with fail
    refine (of_nil _).mono ?_
    rintro e w6 ⟨rfl, hb6⟩
    have n_ := Aside0.mk (below_then HB.out HB.out.size hb6)
    clear HB hb6
    have HB := n_
    clear n_
    go_wp2
    go_ret
    exact ⟨by first | rfl | simp, HB.out⟩
end Go.Proofs.YthaapijjjgkacaaDoor.Mine
end
section
/-
  strconv.Itoa at this dump: the library contract laid plainly (written by the kit's lay-plain from XShelf.txt).
-/
namespace Go.Proofs
open Go.Shelf
def Tryd.laysM171_ren : Go.Shelf.Ren := ⟨fun | 171 => 42 | 243 => 73 | 246 => 83 | 283 => 85 | 284 => 86 | 285 => 87 | 286 => 88 | 129 => 90 | 317 => 89 | 318 => 91 | 319 => 92 | 320 => 93 | 337 => 94 | 338 => 95 | n => n, fun | 3 => 3 | 9 => 9 | 2 => 2 | 4 => 4 | 171 => 146 | 0 => 0 | 53 => 101 | 37 => 24 | 5 => 5 | 173 => 149 | 212 => 153 | 51 => 154 | 20 => 20 | 213 => 155 | 46 => 135 | 232 => 159 | 233 => 160 | n => n, fun | 17 => 1 | 18 => 2 | 19 => 3 | n => n⟩
theorem Tryd.laysM171 : Go.Proofs.LaysM.n171 Tryd.prog Tryd.laysM171_ren := {
  mixed := by kernel_rfl
  f129 := Tryd.func90.trans (congrArg some (by kernel_rfl))
  f171 := Tryd.func42.trans (congrArg some (by kernel_rfl))
  f243 := Tryd.func73.trans (congrArg some (by kernel_rfl))
  f246 := Tryd.func83.trans (congrArg some (by kernel_rfl))
  f283 := Tryd.func85.trans (congrArg some (by kernel_rfl))
  f284 := Tryd.func86.trans (congrArg some (by kernel_rfl))
  f285 := Tryd.func87.trans (congrArg some (by kernel_rfl))
  f286 := Tryd.func88.trans (congrArg some (by kernel_rfl))
  f317 := Tryd.func89.trans (congrArg some (by kernel_rfl))
  f318 := Tryd.func91.trans (congrArg some (by kernel_rfl))
  f319 := Tryd.func92.trans (congrArg some (by kernel_rfl))
  f320 := Tryd.func93.trans (congrArg some (by kernel_rfl))
  f337 := Tryd.func94.trans (congrArg some (by kernel_rfl))
  f338 := Tryd.func95.trans (congrArg some (by kernel_rfl))
  t0 := Tryd.underlying0
  a0 := Tryd.isAgg0
  z0 := Tryd.sizeOf0
  v0 := Tryd.zeroValue0
  t2 := Tryd.underlying2
  a2 := Tryd.isAgg2
  z2 := Tryd.sizeOf2
  v2 := Tryd.zeroValue2
  t3 := Tryd.underlying3
  a3 := Tryd.isAgg3
  z3 := Tryd.sizeOf3
  v3 := Tryd.zeroValue3
  t4 := Tryd.underlying4
  a4 := Tryd.isAgg4
  z4 := Tryd.sizeOf4
  v4 := Tryd.zeroValue4
  t5 := Tryd.underlying5
  a5 := Tryd.isAgg5
  z5 := Tryd.sizeOf5
  v5 := Tryd.zeroValue5
  t9 := Tryd.underlying9
  a9 := Tryd.isAgg9
  z9 := Tryd.sizeOf9
  v9 := Tryd.zeroValue9
  t20 := Tryd.underlying20
  a20 := Tryd.isAgg20
  z20 := Tryd.sizeOf20
  v20 := Tryd.zeroValue20
  t37 := Tryd.underlying24
  a37 := Tryd.isAgg24
  z37 := Tryd.sizeOf24
  v37 := Tryd.zeroValue24
  t46 := Tryd.underlying135
  a46 := Tryd.isAgg135
  z46 := Tryd.sizeOf135
  v46 := Tryd.zeroValue135
  t51 := Tryd.underlying154
  a51 := Tryd.isAgg154
  z51 := Tryd.sizeOf154
  v51 := Tryd.zeroValue154
  t53 := Tryd.underlying101
  a53 := Tryd.isAgg101
  z53 := Tryd.sizeOf101
  v53 := Tryd.zeroValue101
  t171 := Tryd.underlying146
  a171 := Tryd.isAgg146
  z171 := Tryd.sizeOf146
  v171 := Tryd.zeroValue146
  t173 := Tryd.underlying149
  a173 := Tryd.isAgg149
  z173 := Tryd.sizeOf149
  v173 := Tryd.zeroValue149
  t212 := Tryd.underlying153
  a212 := Tryd.isAgg153
  z212 := Tryd.sizeOf153
  v212 := Tryd.zeroValue153
  t213 := Tryd.underlying155
  a213 := Tryd.isAgg155
  z213 := Tryd.sizeOf155
  t232 := Tryd.underlying159
  a232 := Tryd.isAgg159
  z232 := Tryd.sizeOf159
  v232 := Tryd.zeroValue159
  t233 := Tryd.underlying160
  a233 := Tryd.isAgg160
  z233 := Tryd.sizeOf160
  v233 := Tryd.zeroValue160
  g17 := by kernel_rfl
  g18 := by kernel_rfl
  g19 := by kernel_rfl
  i0 := by kernel_rfl
  i2 := by kernel_rfl
  i3 := by kernel_rfl
  i4 := by kernel_rfl
  i5 := by kernel_rfl
  i9 := by kernel_rfl
  i20 := by kernel_rfl
  i37 := by kernel_rfl
  i46 := by kernel_rfl
  i51 := by kernel_rfl
  i53 := by kernel_rfl
  i171 := by kernel_rfl
  i173 := by kernel_rfl
  i212 := by kernel_rfl
  i232 := by kernel_rfl
  i233 := by kernel_rfl
  m17 := by kernel_rfl
  m18 := by kernel_rfl
  m19 := by kernel_rfl }
open Go.RowKit Go.Sort Go.Lib in
/-- strconv.Itoa. (LAID: no walk: one application.) -/
theorem Tryd.strconv_Itoa (n : Int) (h0 : -9223372036854775808 ≤ n) (h1 : n ≤ 9223372036854775807) (w : World) (htab : Lib.TabIs Tryd.prog w "internal/strconv.uint64pow10" .u64 Lib.pow10Tab) :
    Calls Tryd.prog 42 #[.int .i64 n] w fun e w' => e = .returned (.string ⟨(Lib.itoa n).toArray⟩) ∧ ∃ k os, w' = grow (w.drewN k) os := Any.strconv_Itoa Tryd.laysM171 n h0 h1 w htab
end Go.Proofs
end
section
/-
  A region that draws its order, whose operations only read and whose callees leave all that was as it was (Below): walked once, in the text's order.
-/
namespace Go.Proofs.YthaapijjjgkacaaDoor.Mine
open Go.RowKit Go.Proofs.YthaapijjjgkacaaDoorW.PrintWords

structure BelowP (W : World) where
  w : World
  h : Below W.heap.size W w
instance BelowP.inh (W : World) : Inhabited (BelowP W) := ⟨⟨W, Below.refl _ _⟩⟩
theorem BelowP.cell {W : World} {a : Addr} {v : Value} (h : W.cell? a = some v) (p : BelowP W) : p.w.cell? a = some v := (p.h.cell (World.block_lt_of_cell? W _ h)).trans h
theorem wp_region_quiet_below {P : Program} {id : Nat} {Q : Exit → Act → World → Prop} {a : Act} {W : World} {l : List Oper} (hm : P.follows .mixedOrders = true) (hB : Region.lexB .any l.toArray = true)
    (h : wpQuiet P l.toArray (fun w' => ∃ p : BelowP W, w' = p.w) (fun a' => ∀ w', (∃ p : BelowP W, w' = p.w) → Q .normal a' w') l a) : (Code.region id l.toArray true).wp P Q a W :=
  wp_region_quiet (C := fun w' => ∃ p : BelowP W, w' = p.w) hm hB ⟨⟨W.drew, (Below.refl _ _).drew⟩, rfl⟩ (by simpa using h)
theorem Calls.below_of {P : Program} {f : FuncId} {args : Array Value} {W : World} {p : BelowP W} {v : Value}
    (h : Calls P f args p.w fun e w' => e = .returned v ∧ Below p.w.heap.size p.w w') : Calls P f args p.w fun e w'' => e = .returned v ∧ ∃ q : BelowP W, w'' = q.w :=
  h.mono fun _ w' ⟨he, hb⟩ => ⟨he, ⟨w', below_then p.h p.h.size hb⟩, rfl⟩
end Go.Proofs.YthaapijjjgkacaaDoor.Mine
end
section
/-
  slices.IndexFunc, slices.ContainsFunc at a schema's attributes and a filter's predicates, walked for whatever predicate that reads alone; Schema.Find. Conditions: the slices at most 1000 long.
-/
namespace Go.Proofs.YthaapijjjgkacaaDoor.Mine
open Go.RowKit Go.Proofs.YthaapijjjgkacaaDoorW.PrintWords Go.Proofs.YthaapijjjgkacaaDoorW.PrintLast Go.Proofs.YthaapijjjgkacaaDoorW.PrintMore
open Go.Proofs.YthaapijjjgkacaaDoor.PFilterReads
def idxFrom {α : Type} (p : α → Bool) : List α → Nat → Int
  | [], _ => -1
  | x :: r, i => if p x then (i : Int) else idxFrom p r (i + 1)
def idxB {α : Type} (p : α → Bool) (l : List α) : Int := idxFrom p l 0
/-- A function value that answers p, and leaves all that was as it was. -/
def CloAt {α : Type} (g : Nat) (lb : Array Value) (enc : α → Value) (p : α → Bool) (w : World) : Prop :=
  ∀ (W : World) (x : α), Below w.heap.size w W → Calls Tryd.prog g (#[enc x] ++ lb) W fun e w' => e = .returned (.bool (p x)) ∧ Below W.heap.size W w'
def enc46 (x : S46) : Value := .agg #[.string x.f0, .int .i64 x.f1, .int .i64 x.f2, .int .i64 x.f3, .string x.f4]
def enc95 (x : S95) : Value := .agg #[.string x.f0, .int .i64 x.f1, .int .i64 x.f2, .int .i64 x.f3]
set_option maxHeartbeats 1000000 in
set_option maxRecDepth 100000 in
theorem idx46_calls (g : Nat) (lb : Array Value) (p : S46 → Bool) (A : Option Addr) (n c : Nat) (L : List S46) (w : World) (eg : ∀ args w, (callFunc g args).run Tryd.prog w = .ok (.enter g args) w) (hn : L.length = n) (hr : Kd.C k46 w A n L) (hl : n ≤ 100000)
    (hp : CloAt g lb enc46 p w) :
    Calls Tryd.prog 78 #[.slice A n c, .func (.func g) #[] lb] w fun e w' => e = .returned (.int .i64 (idxB p L)) ∧ Below w.heap.size w w' := by
  have HR := Aside0.mk hr
  have HP := Aside0.mk hp
  have HN := Aside0.mk hn
  clear hr hp hn
  go_enter Tryd.func78, Tryd.ntmps78
  go_wp2_with fail
  go_loopg [5, 8] (n + 1) (fun k v5 v8 W => ∃ i : Nat, Aside0 (i ≤ n ∧ k + i = n + 1 ∧ idxB p L = idxFrom p (L.drop i) i) ∧ v8 = .int .i64 (i : Int) ∧ Aside0 (Below w.heap.size w W))
  case atStart => exact ⟨0, ⟨by omega, by omega, rfl⟩, rfl, ⟨Below.refl _ _⟩⟩
  case round =>
    obtain ⟨i, HM, rfl, HB⟩ := hrel
    by_cases hi : i < n
    · have b1 : decide ((i : Int) < (n : Int)) = true := decide_eq_true (by omega)
      have b2 : decide (i < n) = true := decide_eq_true (by omega)
      have p1 : (0 : Int) ≤ (i : Int) := by omega
      have p2 : (i : Int) < (n : Int) := by omega
      obtain ⟨ad, e, hcs⟩ := at_T46 HR.out i p1 p2
      cases e
      rw [Int.toNat_natCast] at hcs
      have hrd : rd_T46 L (i : Int) = L.getD i z46 := rfl
      rw [hrd] at hcs
      have hdr : L.drop i = L.getD i z46 :: L.drop (i + 1) := by
        rw [List.drop_eq_getElem_cons (by have := HN.out; omega), List.getD_eq_getElem?_getD, List.getElem?_eq_getElem (by have := HN.out; omega)]
        rfl
      have HD := Aside0.mk hdr
      have HCL := Aside0.mk (HP.out _ (L.getD i z46) HB.out)
      clear hrd hdr
      generalize L.getD i z46 = x at hcs HD HCL
      cases hpx : p x with
      | true =>
        have HX := Aside0.mk hpx
        clear hpx
        rw [HX.out] at HCL
        obtain ⟨h0, h1, h2, h3, h4⟩ := hcs; replace h0 := (HB.out.cell (World.block_lt_of_cell? w _ h0)).trans h0; replace h1 := (HB.out.cell (World.block_lt_of_cell? w _ h1)).trans h1; replace h2 := (HB.out.cell (World.block_lt_of_cell? w _ h2)).trans h2; replace h3 := (HB.out.cell (World.block_lt_of_cell? w _ h3)).trans h3; replace h4 := (HB.out.cell (World.block_lt_of_cell? w _ h4)).trans h4
        go_wp2_with fail
        refine HCL.out.mono ?_
        rintro e w2 ⟨rfl, hb⟩
        have n_ := Aside0.mk (below_then HB.out HB.out.size hb)
        clear HB hb
        have HB := n_
        clear n_
        go_wp2
        go_ret
        exact ⟨by rw [HM.out.2.2, HD.out]; simp [idxFrom, HX.out], HB.out⟩
      | false =>
        have HX := Aside0.mk hpx
        clear hpx
        rw [HX.out] at HCL
        obtain ⟨h0, h1, h2, h3, h4⟩ := hcs; replace h0 := (HB.out.cell (World.block_lt_of_cell? w _ h0)).trans h0; replace h1 := (HB.out.cell (World.block_lt_of_cell? w _ h1)).trans h1; replace h2 := (HB.out.cell (World.block_lt_of_cell? w _ h2)).trans h2; replace h3 := (HB.out.cell (World.block_lt_of_cell? w _ h3)).trans h3; replace h4 := (HB.out.cell (World.block_lt_of_cell? w _ h4)).trans h4
        go_wp2_with fail
        refine HCL.out.mono ?_
        rintro e w2 ⟨rfl, hb⟩
        have n_ := Aside0.mk (below_then HB.out HB.out.size hb)
        clear HB hb
        have HB := n_
        clear n_
        go_wp2_with fail
        go_roundg (gk - 1)
        case measure => have := HM.out; omega
        case rel => exact ⟨i + 1, ⟨by omega, by have := HM.out; omega, by rw [HM.out.2.2, HD.out]; simp [idxFrom, HX.out]⟩, rfl, HB⟩
    · have b1 : decide ((i : Int) < (n : Int)) = false := decide_eq_false (by omega)
      have b2 : decide (i < n) = false := decide_eq_false (by omega)
      have hd : L.drop i = [] := List.drop_eq_nil_iff.2 (by have := HN.out; omega)
      have HE := Aside0.mk hd
      clear hd hi
      go_wp2
      go_ret
      exact ⟨by rw [HM.out.2.2, HE.out]; rfl, HB.out⟩
set_option maxHeartbeats 1000000 in
set_option maxRecDepth 100000 in
theorem idx95_calls (g : Nat) (lb : Array Value) (p : S95 → Bool) (A : Option Addr) (n c : Nat) (L : List S95) (w : World) (eg : ∀ args w, (callFunc g args).run Tryd.prog w = .ok (.enter g args) w) (hn : L.length = n) (hr : Kd.C k95 w A n L) (hl : n ≤ 100000)
    (hp : CloAt g lb enc95 p w) :
    Calls Tryd.prog 76 #[.slice A n c, .func (.func g) #[] lb] w fun e w' => e = .returned (.int .i64 (idxB p L)) ∧ Below w.heap.size w w' := by
  have HR := Aside0.mk hr
  have HP := Aside0.mk hp
  have HN := Aside0.mk hn
  clear hr hp hn
  go_enter Tryd.func76, Tryd.ntmps76
  go_wp2_with fail
  go_loopg [5, 8] (n + 1) (fun k v5 v8 W => ∃ i : Nat, Aside0 (i ≤ n ∧ k + i = n + 1 ∧ idxB p L = idxFrom p (L.drop i) i) ∧ v8 = .int .i64 (i : Int) ∧ Aside0 (Below w.heap.size w W))
  case atStart => exact ⟨0, ⟨by omega, by omega, rfl⟩, rfl, ⟨Below.refl _ _⟩⟩
  case round =>
    obtain ⟨i, HM, rfl, HB⟩ := hrel
    by_cases hi : i < n
    · have b1 : decide ((i : Int) < (n : Int)) = true := decide_eq_true (by omega)
      have b2 : decide (i < n) = true := decide_eq_true (by omega)
      have p1 : (0 : Int) ≤ (i : Int) := by omega
      have p2 : (i : Int) < (n : Int) := by omega
      obtain ⟨ad, e, hcs⟩ := at_T95 HR.out i p1 p2
      cases e
      rw [Int.toNat_natCast] at hcs
      have hrd : rd_T95 L (i : Int) = L.getD i z95 := rfl
      rw [hrd] at hcs
      have hdr : L.drop i = L.getD i z95 :: L.drop (i + 1) := by
        rw [List.drop_eq_getElem_cons (by have := HN.out; omega), List.getD_eq_getElem?_getD, List.getElem?_eq_getElem (by have := HN.out; omega)]
        rfl
      have HD := Aside0.mk hdr
      have HCL := Aside0.mk (HP.out _ (L.getD i z95) HB.out)
      clear hrd hdr
      generalize L.getD i z95 = x at hcs HD HCL
      cases hpx : p x with
      | true =>
        have HX := Aside0.mk hpx
        clear hpx
        rw [HX.out] at HCL
        obtain ⟨h0, h1, h2, h3⟩ := hcs; replace h0 := (HB.out.cell (World.block_lt_of_cell? w _ h0)).trans h0; replace h1 := (HB.out.cell (World.block_lt_of_cell? w _ h1)).trans h1; replace h2 := (HB.out.cell (World.block_lt_of_cell? w _ h2)).trans h2; replace h3 := (HB.out.cell (World.block_lt_of_cell? w _ h3)).trans h3
        go_wp2_with fail
        refine HCL.out.mono ?_
        rintro e w2 ⟨rfl, hb⟩
        have n_ := Aside0.mk (below_then HB.out HB.out.size hb)
        clear HB hb
        have HB := n_
        clear n_
        go_wp2
        go_ret
        exact ⟨by rw [HM.out.2.2, HD.out]; simp [idxFrom, HX.out], HB.out⟩
      | false =>
        have HX := Aside0.mk hpx
        clear hpx
        rw [HX.out] at HCL
        obtain ⟨h0, h1, h2, h3⟩ := hcs; replace h0 := (HB.out.cell (World.block_lt_of_cell? w _ h0)).trans h0; replace h1 := (HB.out.cell (World.block_lt_of_cell? w _ h1)).trans h1; replace h2 := (HB.out.cell (World.block_lt_of_cell? w _ h2)).trans h2; replace h3 := (HB.out.cell (World.block_lt_of_cell? w _ h3)).trans h3
        go_wp2_with fail
        refine HCL.out.mono ?_
        rintro e w2 ⟨rfl, hb⟩
        have n_ := Aside0.mk (below_then HB.out HB.out.size hb)
        clear HB hb
        have HB := n_
        clear n_
        go_wp2_with fail
        go_roundg (gk - 1)
        case measure => have := HM.out; omega
        case rel => exact ⟨i + 1, ⟨by omega, by have := HM.out; omega, by rw [HM.out.2.2, HD.out]; simp [idxFrom, HX.out]⟩, rfl, HB⟩
    · have b1 : decide ((i : Int) < (n : Int)) = false := decide_eq_false (by omega)
      have b2 : decide (i < n) = false := decide_eq_false (by omega)
      have hd : L.drop i = [] := List.drop_eq_nil_iff.2 (by have := HN.out; omega)
      have HE := Aside0.mk hd
      clear hd hi
      go_wp2
      go_ret
      exact ⟨by rw [HM.out.2.2, HE.out]; rfl, HB.out⟩
theorem idxFrom_range {α : Type} (p : α → Bool) : ∀ (l : List α) (i : Nat), (idxFrom p l i = -1 ∧ l.any p = false) ∨ ((i : Int) ≤ idxFrom p l i ∧ l.any p = true)
  | [], _ => Or.inl ⟨rfl, rfl⟩
  | x :: r, i => by
    cases h : p x with
    | true => exact Or.inr ⟨by simp [idxFrom, h], by simp [h]⟩
    | false =>
      rcases idxFrom_range p r (i + 1) with ⟨h1, h2⟩ | ⟨h1, h2⟩
      · exact Or.inl ⟨by simp [idxFrom, h, h1], by simp [h, h2]⟩
      · exact Or.inr ⟨by simp only [idxFrom, h]; simp; omega, by simp [h, h2]⟩
theorem idxB_any {α : Type} (p : α → Bool) (l : List α) : decide (0 ≤ idxB p l) = l.any p := by
  rcases idxFrom_range p l 0 with ⟨h1, h2⟩ | ⟨h1, h2⟩
  · rw [h2]
    unfold idxB
    rw [h1]
    rfl
  · rw [h2]
    exact decide_eq_true h1
theorem cont46_calls (g : Nat) (lb : Array Value) (p : S46 → Bool) (A : Option Addr) (n c : Nat) (L : List S46) (w : World) (eg : ∀ args w, (callFunc g args).run Tryd.prog w = .ok (.enter g args) w) (hn : L.length = n) (hr : Kd.C k46 w A n L) (hl : n ≤ 100000)
    (hp : CloAt g lb enc46 p w) :
    Calls Tryd.prog 52 #[.slice A n c, .func (.func g) #[] lb] w fun e w' => e = .returned (.bool (L.any p)) ∧ Below w.heap.size w w' := by
  have HC := Aside0.mk (idx46_calls g lb p A n c L w eg hn hr hl hp)
  have HX := Aside0.mk (idxB_any p L)
  generalize idxB p L = z at HC HX
  clear hr hn hp
  go_enter Tryd.func52, Tryd.ntmps52
  go_wp2_with fail
  refine HC.out.mono ?_
  rintro e w2 ⟨rfl, hb⟩
  go_wp2
  go_ret
  exact ⟨by rw [← HX.out]; rfl, hb⟩
theorem find_clo (nm : ByteArray) (B : Nat) (w : World) (hc : w.cell? ⟨B, 0, none⟩ = some (.string nm)) : CloAt 77 #[.pointer (some ⟨B, 0, none⟩)] enc95 (fun x => x.f0.toList == nm.toList) w := fun W x hb => by
  have h0 := (hb.cell (World.block_lt_of_cell? w _ hc)).trans hc
  have hlt := World.block_lt_of_cell? W _ h0
  show Calls _ _ #[enc95 x, .pointer (some ⟨B, 0, none⟩)] W _
  unfold enc95
  go_enter Tryd.func77, Tryd.ntmps77
  go_wp2
  go_ret
  exact ⟨rfl, below_alloc (Below.refl _ _) _⟩
theorem same_clo (nm : ByteArray) (B : Nat) (w : World) (hc : w.cell? ⟨B, 0, none⟩ = some (.string nm)) : CloAt 53 #[.pointer (some ⟨B, 0, none⟩)] enc46 (fun x => x.f0.toList == nm.toList) w := fun W x hb => by
  have h0 := (hb.cell (World.block_lt_of_cell? w _ hc)).trans hc
  have hlt := World.block_lt_of_cell? W _ h0
  show Calls _ _ #[enc46 x, .pointer (some ⟨B, 0, none⟩)] W _
  unfold enc46
  go_enter Tryd.func53, Tryd.ntmps53
  go_wp2
  go_ret
  exact ⟨rfl, below_alloc (Below.refl _ _) _⟩
def findB (nm : ByteArray) (L : List S95) : Int := idxB (fun x => x.f0.toList == nm.toList) L
theorem find_calls (A : Option Addr) (n c : Nat) (L : List S95) (nm : ByteArray) (w : World) (hn : L.length = n) (hr : Kd.C k95 w A n L) (hl : n ≤ 100000) :
    Calls Tryd.prog 51 #[.slice A n c, .string nm] w fun e w' => e = .returned (.int .i64 (findB nm L)) ∧ Below w.heap.size w w' := by
  have hb := below_alloc (Below.refl w.heap.size w) (.cells #[.string nm] 9)
  have hcl := find_clo nm w.heap.size (w.alloc (.cells #[.string nm] 9)) (cell_of_row _ _ 0 _ _ _ (heap_alloc_new w _))
  have HC := Aside0.mk (idx95_calls _ _ _ A n c L (w.alloc (.cells #[.string nm] 9)) (enters_of Tryd.func77 (by kernel_rfl) rfl) hn (Kd.C_below hr hb) hl hcl)
  clear hr hn hcl
  go_enter Tryd.func51, Tryd.ntmps51
  go_wp2_with fail
  refine HC.out.mono ?_
  rintro e w2 ⟨rfl, hb2⟩
  go_wp2
  go_ret
  exact ⟨rfl, below_then hb hb.size hb2⟩
theorem vfault_calls (i c : Int) (w : World) : Calls Tryd.prog 50 #[.int .i64 i, .int .i64 c] w fun e w' => ∃ b, w.heap.size ≤ b ∧ e = .returned (.iface 67 (.pointer (some ⟨b, 0, none⟩))) ∧ IsFault w' b ⟨#[118, 97, 108, 117, 101]⟩ i c ∧ Below w.heap.size w w' := by
  go_enter Tryd.func50, Tryd.ntmps50
  go_wp2
  go_ret
  exact ⟨w.heap.size, Nat.le_refl _, rfl, heap_alloc_new w _, below_alloc (Below.refl _ _) _⟩
end Go.Proofs.YthaapijjjgkacaaDoor.Mine
end
section
/-
  strings.ContainsFunc at this dump: the library contract laid plainly (written by the kit's lay-plain from XShelf2.txt).
-/
namespace Go.Proofs
open Go.Shelf
def Tryd.laysGw17_ren : Go.Shelf.Ren := ⟨fun | 17 => 44 | 15 => 74 | 20 => 84 | n => n, fun | 9 => 9 | 23 => 93 | 4 => 4 | 3 => 3 | 0 => 0 | 21 => 21 | n => n, fun | n => n⟩
theorem Tryd.laysGw17 : Go.Proofs.LaysGw.n17 Tryd.prog Tryd.laysGw17_ren := {
  mixed := by kernel_rfl
  f15 := Tryd.func74.trans (congrArg some (by kernel_rfl))
  f17 := Tryd.func44.trans (congrArg some (by kernel_rfl))
  f20 := Tryd.func84.trans (congrArg some (by kernel_rfl))
  t0 := Tryd.underlying0
  a0 := Tryd.isAgg0
  z0 := Tryd.sizeOf0
  v0 := Tryd.zeroValue0
  i0 := by kernel_rfl
  t3 := Tryd.underlying3
  a3 := Tryd.isAgg3
  z3 := Tryd.sizeOf3
  v3 := Tryd.zeroValue3
  i3 := by kernel_rfl
  t4 := Tryd.underlying4
  a4 := Tryd.isAgg4
  z4 := Tryd.sizeOf4
  v4 := Tryd.zeroValue4
  i4 := by kernel_rfl
  t9 := Tryd.underlying9
  a9 := Tryd.isAgg9
  z9 := Tryd.sizeOf9
  v9 := Tryd.zeroValue9
  i9 := by kernel_rfl
  t21 := Tryd.underlying21
  a21 := Tryd.isAgg21
  z21 := Tryd.sizeOf21
  v21 := Tryd.zeroValue21
  i21 := by kernel_rfl
  t23 := Tryd.underlying93
  a23 := Tryd.isAgg93
  z23 := Tryd.sizeOf93
  v23 := Tryd.zeroValue93
  i23 := by kernel_rfl }
open Go.RowKit Go.Lib in
theorem Tryd.strings_ContainsFunc (g : Nat) (lb : Array Value) (eg : ∀ args w, (callFunc g args).run Tryd.prog w = .ok (.enter g args) w) (p : Nat → Bool) (s : ByteArray) (w : World) (hp : PredAt Tryd.prog g lb encR p w) :
    Calls Tryd.prog 44 #[.string s, .func (.func g) #[] lb] w fun e w' => e = .returned (.bool (decide (0 ≤ Lib.idxFunc p true s))) ∧ Below w.heap.size w w' := Any.strings_ContainsFunc Tryd.laysGw17 g lb eg p s w hp
end Go.Proofs
end
section
/-
  A number's text is read back; a text between quotes is read back.
-/
namespace Go.Proofs.YthaapijjjgkacaaDoor.Mine
open Go.Lib
theorem dg_is (d : Nat) (h : d < 10) : isD (UInt8.ofNat (48 + d)) = true ∧ (UInt8.ofNat (48 + d)).toNat = 48 + d := by
  have h2 : (UInt8.ofNat (48 + d)).toNat = 48 + d := by
    show (48 + d) % 256 = 48 + d
    omega
  refine ⟨?_, h2⟩
  unfold isD
  rw [decide_eq_true_eq, UInt8.le_iff_toNat_le, UInt8.le_iff_toNat_le, h2]
  exact ⟨by show 48 ≤ 48 + d; omega, by show 48 + d ≤ 57; omega⟩
theorem dec_lo {u : Nat} (h : u < 10) : decDigits u = [UInt8.ofNat (48 + u)] := by rw [decDigits, dif_pos h]
theorem dec_hi {u : Nat} (h : ¬ u < 10) : decDigits u = decDigits (u / 10) ++ [UInt8.ofNat (48 + u % 10)] := by rw [decDigits, dif_neg h]
theorem dec_all (u : Nat) : ∀ c ∈ decDigits u, isD c = true := by
  induction u using Nat.strongRecOn with
  | ind u ih =>
    by_cases h : u < 10
    · rw [dec_lo h]
      intro c hc
      rw [List.mem_singleton.mp hc]
      exact (dg_is u h).1
    · rw [dec_hi h]
      intro c hc
      rcases List.mem_append.mp hc with hc | hc
      · exact ih (u / 10) (by omega) c hc
      · rw [List.mem_singleton.mp hc]
        exact (dg_is (u % 10) (by omega)).1
theorem valD_snoc' (l : List UInt8) (c : UInt8) : valD (l ++ [c]) = 10 * valD l + ((c.toNat : Int) - 48) := by simp [valD]
theorem dec_val (u : Nat) : valD (decDigits u) = (u : Int) := by
  induction u using Nat.strongRecOn with
  | ind u ih =>
    by_cases h : u < 10
    · rw [dec_lo h]
      show 10 * 0 + (((UInt8.ofNat (48 + u)).toNat : Int) - 48) = u
      rw [(dg_is u h).2]
      omega
    · rw [dec_hi h, valD_snoc', ih (u / 10) (by omega), (dg_is (u % 10) (by omega)).2]
      omega
theorem dec_len : ∀ (k u : Nat), u < 10 ^ (k + 1) → (decDigits u).length ≤ k + 1
  | 0, u, h => by rw [dec_lo (by simpa using h)]; simp
  | k + 1, u, h => by
    by_cases h9 : u < 10
    · rw [dec_lo h9]; simp
    · have := dec_len k (u / 10) (by rw [Nat.div_lt_iff_lt_mul (by omega)]; rw [Nat.pow_succ] at h; exact h)
      rw [dec_hi h9, List.length_append]
      simp
      omega
theorem head_app {l t : List UInt8} (h : l ≠ []) : (l ++ t).head? = l.head? := by
  cases l with
  | nil => exact absurd rfl h
  | cons c r => rfl
theorem dec_ne (u : Nat) : decDigits u ≠ [] := by
  by_cases h : u < 10
  · rw [dec_lo h]; simp
  · rw [dec_hi h]; simp
theorem dec_head (u : Nat) (hu : 1 ≤ u) : (decDigits u).head? ≠ some 48 := by
  induction u using Nat.strongRecOn with
  | ind u ih =>
    by_cases h : u < 10
    · rw [dec_lo h]
      intro e
      have e2 : UInt8.ofNat (48 + u) = 48 := by simpa using e
      have := (dg_is u h).2
      rw [e2] at this
      have h48 : (48 : UInt8).toNat = 48 := rfl
      omega
    · rw [dec_hi h, head_app (dec_ne _)]
      exact ih (u / 10) (by omega) (by omega)
/-- What stands behind a number's text begins with no digit. -/
def noD (t : List UInt8) : Prop := t.takeWhile isD = []
theorem tw_dec (u : Nat) (t : List UInt8) (ht : noD t) : (decDigits u ++ t).takeWhile isD = decDigits u ∧ (decDigits u ++ t).dropWhile isD = t := by
  have hd : t.dropWhile isD = t := by
    have := List.takeWhile_append_dropWhile (p := isD) (l := t)
    rw [ht, List.nil_append] at this
    exact this
  constructor
  · rw [List.takeWhile_append_of_pos (dec_all u), ht, List.append_nil]
  · rw [List.dropWhile_append_of_pos (dec_all u), hd]
theorem numD_dec (f u : Nat) (sg : Int) (t : List UInt8) (ht : noD t) (hu : u ≤ 9999999999) (hs : sg < 0 → 1 ≤ u) : numD f sg (decDigits u ++ t) = (sg * (u : Int), ⟨t, none⟩) := by
  obtain ⟨e1, e2⟩ := tw_dec u t ht
  have hl : (decDigits u).length ≤ 10 := dec_len 9 u (by omega)
  unfold numD
  rw [e1, e2, if_neg (by omega)]
  have hb : ¬ numBad sg (decDigits u ++ t) := by
    unfold numBad
    rw [e1]
    rintro (h | ⟨h, h2⟩ | ⟨h, h2⟩)
    · exact dec_ne u h
    · rw [head_app (dec_ne u)] at h2
      by_cases hu1 : 1 ≤ u
      · exact dec_head u hu1 h2
      · rw [dec_lo (by omega)] at h
        simp at h
    · rw [dec_val] at h2
      have := hs h
      omega
  rw [if_neg hb, dec_val]
theorem dec_cons (u : Nat) : ∃ c r, decDigits u = c :: r ∧ c ≠ 45 ∧ c ≠ 32 := by
  cases h : decDigits u with
  | nil => exact absurd h (dec_ne u)
  | cons c r =>
    have hc := dec_all u c (by rw [h]; simp)
    refine ⟨c, r, rfl, ?_, ?_⟩
    · rintro rfl; simp [isD] at hc
    · rintro rfl; simp [isD] at hc
theorem numberS_itoa (n : Int) (t : List UInt8) (ht : noD t) (h1 : -9999999999 ≤ n) (h2 : n ≤ 9999999999) : numberS ⟨itoa n ++ t, none⟩ = (n, ⟨t, none⟩) := by
  show numL (skip (itoa n ++ t)) = _
  by_cases hn : n < 0
  · obtain ⟨u, rfl⟩ : ∃ u : Nat, n = -(u : Int) := ⟨n.natAbs, by omega⟩
    rw [itoa_neg u (by omega), List.cons_append]
    have e : skip (45 :: (decDigits u ++ t)) = 45 :: (decDigits u ++ t) := by simp [skip]
    rw [e]
    simp only [numL, if_true]
    rw [numD_dec _ u (-1) t ht (by omega) (by omega)]
    simp
  · obtain ⟨u, rfl⟩ : ∃ u : Nat, n = (u : Int) := ⟨n.natAbs, by omega⟩
    rw [itoa_nonneg u]
    obtain ⟨c, r, e, hc, hc2⟩ := dec_cons u
    have e1 : skip (decDigits u ++ t) = decDigits u ++ t := by rw [e, List.cons_append]; simp [skip, hc2]
    rw [e1]
    have e2 : numL (decDigits u ++ t) = numD ((r ++ t).length + 1) 1 (decDigits u ++ t) := by
      rw [e, List.cons_append]
      simp only [numL, if_neg hc]
    rw [e2, numD_dec _ u 1 t ht (by omega) (by omega)]
    simp
theorem noD_dots (t : List UInt8) : noD (46 :: t) := by simp [noD, isD]
theorem numberS_blank (l : List UInt8) : numberS ⟨32 :: l, none⟩ = numberS ⟨l, none⟩ := by
  show numL (skip (32 :: l)) = numL (skip l)
  simp [skip]
theorem skip_itoa (n : Int) (t : List UInt8) : skip (itoa n ++ t) = itoa n ++ t := by
  unfold itoa
  by_cases hn : n < 0
  · rw [if_pos hn, List.cons_append]
    simp [skip]
  · rw [if_neg hn]
    obtain ⟨c, r, e, hc, hc2⟩ := dec_cons n.toNat
    rw [e, List.cons_append]
    simp [skip, hc2]
theorem marks_dots (n : Int) : markS [46, 46] ⟨46 :: 46 :: itoa n, none⟩ = ⟨itoa n, none⟩ := by
  show markL [46, 46] (skip (46 :: 46 :: itoa n)) = _
  have e : skip (46 :: 46 :: itoa n) = 46 :: 46 :: itoa n := by simp [skip]
  rw [e]
  simp [markL]
def inText (lo hi : Int) : List UInt8 := [110] ++ [32, 105, 110, 32] ++ itoa lo ++ [46, 46] ++ itoa hi
theorem numbers_predS (lo hi : Int) (h1 : -9999999999 ≤ lo) (h2 : lo ≤ 9999999999) (h3 : -9999999999 ≤ hi) (h4 : hi ≤ 9999999999) :
    predS ⟨inText lo hi, none⟩ = (⟨[110], 1, lo, hi, []⟩, ⟨[], none⟩) := by
  have et : inText lo hi = 110 :: 32 :: 105 :: 110 :: 32 :: (itoa lo ++ (46 :: 46 :: itoa hi)) := by simp [inText]
  have ew : wordS ⟨inText lo hi, none⟩ = ([110], ⟨32 :: 105 :: 110 :: 32 :: (itoa lo ++ (46 :: 46 :: itoa hi)), none⟩) := by
    rw [et]
    simp [wordS, skip, wordL, isL, isA, isD, List.takeWhile_cons, List.dropWhile_cons]
  have eb : blanksS ⟨32 :: 105 :: 110 :: 32 :: (itoa lo ++ (46 :: 46 :: itoa hi)), none⟩ = ⟨105 :: 110 :: 32 :: (itoa lo ++ (46 :: 46 :: itoa hi)), none⟩ := by simp [blanksS, skip]
  have ew2 : wordS ⟨105 :: 110 :: 32 :: (itoa lo ++ (46 :: 46 :: itoa hi)), none⟩ = ([105, 110], ⟨32 :: (itoa lo ++ (46 :: 46 :: itoa hi)), none⟩) := by
    simp [wordS, skip, wordL, isL, isA, isD, List.takeWhile_cons, List.dropWhile_cons]
  have en : numberS ⟨32 :: (itoa lo ++ (46 :: 46 :: itoa hi)), none⟩ = (lo, ⟨46 :: 46 :: itoa hi, none⟩) := by
    rw [numberS_blank, numberS_itoa lo _ (noD_dots _) h1 h2]
  have eh : numberS ⟨itoa hi, none⟩ = (hi, ⟨[], none⟩) := by
    have := numberS_itoa hi [] rfl h3 h4
    rwa [List.append_nil] at this
  unfold predS
  rw [ew]
  simp only [eb]
  rw [if_neg (by simp), if_neg (by simp)]
  unfold inS
  rw [ew2]
  simp only [if_true, en, marks_dots, eh]
theorem numbers_plain (s : ByteArray) (lo hi : Int) (hs : s.data.toList = inText lo hi) (hz : s.size ≤ 300) (h1 : -9999999999 ≤ lo) (h2 : lo ≤ 9999999999) (h3 : -9999999999 ≤ hi) (h4 : hi ≤ 9999999999) :
    parseR s = .inl [⟨[110], 1, lo, hi, []⟩] := by
  have hb : bytes s = inText lo hi := hs
  rw [parseR_PS hz, hb, PS_eq, numbers_predS lo hi h1 h2 h3 h4]
  rfl
end Go.Proofs.YthaapijjjgkacaaDoor.Mine
end
section
/-
  filter.Print by hand: a filter as a text. Conditions: the table that strconv.Itoa reads, int64 bounds, the text at most 10^9 bytes.
-/
namespace Go.Proofs.YthaapijjjgkacaaDoor.Mine
open Go.RowKit Go.Proofs.YthaapijjjgkacaaDoorW.PrintWords Go.Proofs.YthaapijjjgkacaaDoorW.PrintLast Go.Proofs.YthaapijjjgkacaaDoorW.PrintMore
open Go.Proofs.YthaapijjjgkacaaDoor.PFilterReads
def quotedL (s : ByteArray) : List UInt8 := 34 :: quoteL s.data.toList ++ [34]
def predL (p : S46) : List UInt8 :=
  if p.f1 = 1 then p.f0.data.toList ++ [32, 105, 110, 32] ++ Lib.itoa p.f2 ++ [46, 46] ++ Lib.itoa p.f3
  else if p.f1 = 2 then p.f0.data.toList ++ [32, 61, 32] ++ quotedL p.f4
  else p.f0.data.toList ++ [32, 94, 61, 32] ++ quotedL p.f4
def pstep (i : Nat) (p : S46) : List UInt8 := (if i = 0 then [] else [32, 97, 110, 100, 32]) ++ predL p
def printN (L : List S46) : Nat → List UInt8
  | 0 => []
  | i + 1 => printN L i ++ pstep i (L.getD i z46)
theorem printN_mono (L : List S46) {i j : Nat} (h : i ≤ j) : (printN L i).length ≤ (printN L j).length := by
  induction j with
  | zero => obtain rfl : i = 0 := by omega
            exact Nat.le_refl _
  | succ j ih =>
    by_cases hi : i = j + 1
    · rw [hi]
      exact Nat.le_refl _
    · have := ih (by omega)
      show _ ≤ (printN L j ++ _).length
      rw [List.length_append]
      omega
theorem quoteL_ge (l : List UInt8) : l.length ≤ (quoteL l).length := by
  induction l with
  | nil => simp
  | cons c r ih =>
    have : quoteL (c :: r) = (if c = 34 ∨ c = 92 then [92, c] else [c]) ++ quoteL r := rfl
    rw [this, List.length_append, List.length_cons]
    by_cases h : c = 34 ∨ c = 92
    · rw [if_pos h]; simp only [List.length_cons, List.length_nil]; omega
    · rw [if_neg h]; simp only [List.length_cons, List.length_nil]; omega
theorem predL_name (p : S46) : p.f0.size ≤ (predL p).length := by
  have e : p.f0.size = p.f0.data.toList.length := by rw [Array.length_toList]; rfl
  unfold predL
  split
  · simp only [List.length_append]; omega
  · split
    · simp only [List.length_append]; omega
    · simp only [List.length_append]; omega
theorem predL_str (p : S46) (h : p.f1 ≠ 1) : p.f4.size ≤ (predL p).length := by
  have e : p.f4.size = p.f4.data.toList.length := by rw [Array.length_toList]; rfl
  have := quoteL_ge p.f4.data.toList
  unfold predL quotedL
  rw [if_neg h]
  split
  · simp only [List.length_append, List.length_cons]; omega
  · simp only [List.length_append, List.length_cons]; omega
def TabI (w : World) : Prop := Lib.TabIs Tryd.prog w "internal/strconv.uint64pow10" .u64 Lib.pow10Tab
theorem TabI.below {w w' : World} (h : TabI w) (hb : Below w.heap.size w w') : TabI w' := Go.Joins.tab_stays (by kernel_rfl : Tryd.prog.globalNamed "internal/strconv.uint64pow10" = some 1) h hb (Nat.le_refl _)
theorem itoa_calls (n : Int) (h0 : -9223372036854775808 ≤ n) (h1 : n ≤ 9223372036854775807) (w : World) (hT : TabI w) : Calls Tryd.prog 42 #[.int .i64 n] w fun e w' => e = .returned (.string ⟨(Lib.itoa n).toArray⟩) ∧ Below w.heap.size w w' :=
  (Tryd.strconv_Itoa n h0 h1 w hT).mono fun _ _ ⟨he, k, os, hw⟩ => ⟨he, by rw [hw]; exact Lib.below_grow _ _ (Nat.le_refl _) _ _⟩
set_option maxHeartbeats 4000000 in
set_option maxRecDepth 100000 in
theorem print_calls (A : Option Addr) (n c : Nat) (L : List S46) (w : World) (hn : L.length = n) (hr : Kd.C k46 w A n L) (hT : TabI w) (hb : ∀ p ∈ L, -9223372036854775808 ≤ p.f2 ∧ p.f2 ≤ 9223372036854775807 ∧ -9223372036854775808 ≤ p.f3 ∧ p.f3 ≤ 9223372036854775807)
    (hs : (printN L n).length ≤ 1000000000) (hn2 : n ≤ 1000000) :
    Calls Tryd.prog 20 #[.slice A n c] w fun e w' => e = .returned (.string ⟨(printN L n).toArray⟩) ∧ Below w.heap.size w w' := by
  have HR := Aside0.mk hr
  have HT := Aside0.mk hT
  have HM := Aside0.mk hb
  have HS := Aside0.mk hs
  have HNL := Aside0.mk hn
  clear hr hT hb hs hn
  go_enter Tryd.func20, Tryd.ntmps20
  go_wp2_with fail
  go_loopg [3, 4, 5, 8] (n + 1) (fun k v3 v4 v5 v8 W => ∃ (i : Nat) (S : ByteArray), Aside0 (i ≤ n ∧ k + i = n + 1) ∧ Aside0 (S.data.toList = printN L i) ∧ v3 = .string S ∧ v8 = .int .i64 i ∧ Aside0 (Below w.heap.size w W))
  case atStart => exact ⟨0, ⟨#[]⟩, ⟨by omega, by omega⟩, ⟨rfl⟩, rfl, rfl, ⟨Below.refl _ _⟩⟩
  case round =>
    obtain ⟨i, S, HN, HE, rfl, rfl, HB⟩ := hrel
    by_cases hi : i < n
    · have b1 : decide ((i : Int) < (n : Int)) = true := decide_eq_true (by omega)
      have p1 : (0 : Int) ≤ (i : Int) := by omega
      have p2 : (i : Int) < (n : Int) := by omega
      obtain ⟨ad, e, h0, h1, h2, h3, h4⟩ := at_T46 HR.out i p1 p2
      cases e
      rw [Int.toNat_natCast] at h0 h1 h2 h3 h4
      replace h0 := (HB.out.cell (World.block_lt_of_cell? w _ h0)).trans h0
      replace h1 := (HB.out.cell (World.block_lt_of_cell? w _ h1)).trans h1
      replace h2 := (HB.out.cell (World.block_lt_of_cell? w _ h2)).trans h2
      replace h3 := (HB.out.cell (World.block_lt_of_cell? w _ h3)).trans h3
      replace h4 := (HB.out.cell (World.block_lt_of_cell? w _ h4)).trans h4
      have hrd : rd_T46 L (i : Int) = L.getD i z46 := rfl
      rw [hrd] at h0 h1 h2 h3 h4
      have hmem : L.getD i z46 ∈ L := by
        rw [List.getD_eq_getElem?_getD, List.getElem?_eq_getElem (by have := HNL.out; omega)]
        exact List.getElem_mem _
      have hrange := HM.out _ hmem
      have hT : (printN L i).length + (pstep i (L.getD i z46)).length ≤ 1000000000 := by
        have h5 : (printN L (i + 1)).length ≤ _ := printN_mono L (show i + 1 ≤ n by omega)
        have h6 := HS.out
        have h7 : printN L (i + 1) = printN L i ++ pstep i (L.getD i z46) := rfl
        rw [h7, List.length_append] at h5
        omega
      have HN2 := Aside0.mk (show printN L (i + 1) = printN L i ++ pstep i (L.getD i z46) from rfl)
      generalize L.getD i z46 = p at h0 h1 h2 h3 h4 hrange hT HN2
      obtain ⟨r1, r2, r3, r4⟩ := hrange
      have hST : S.size ≤ 1000000000 := by
        have : S.size = S.data.toList.length := by rw [Array.length_toList]; rfl
        rw [HE.out] at this
        omega
      have hpl : (predL p).length ≤ 1000000000 := by
        unfold pstep at hT
        rw [List.length_append] at hT
        omega
      have hF0 : p.f0.size ≤ 1000000000 := Nat.le_trans (predL_name p) hpl
      have hRR := Aside0.mk (And.intro r1 (And.intro r2 (And.intro r3 r4)))
      have hPL := Aside0.mk hpl
      clear hT hpl r1 r2 r3 r4 hmem hrd
      by_cases hi0 : i = 0
      · have c1 : decide (0 < i) = false := decide_eq_false (by omega)
        have c2 : decide ((0 : Int) < (i : Int)) = false := decide_eq_false (by omega)
        have HI0 := Aside0.mk hi0
        clear hi0
        by_cases ho1 : p.f1 = 1
        · have d1 : (p.f1 == 1) = true := by simp [ho1]
          go_wp2_with fail
          generalize hW : wr.alloc (Obj.cells #[.string p.f0, .int .i64 1, .int .i64 p.f2, .int .i64 p.f3, .string p.f4] 46) = W2
          have HK : W2.heap[wr.heap.size]? = some (.cells #[.string p.f0, .int .i64 1, .int .i64 p.f2, .int .i64 p.f3, .string p.f4] 46 (0, 0)) := by rw [← hW]; exact blk_new wr _
          have n_ := Aside0.mk (show Below w.heap.size w W2 by rw [← hW]; exact below_alloc HB.out _)
          clear HB hW h0 h1 h2 h3 h4
          have HB := n_
          clear n_
          have hTW : TabI W2 := TabI.below HT.out HB.out
          generalize wr.heap.size = gb at HK ⊢
          have q0 : ∀ q : BelowP W2, q.w.cell? ⟨gb, 0, none⟩ = some (.string p.f0) := fun q => q.cell ((blk_cell HK 0).trans rfl)
          have q2 : ∀ q : BelowP W2, q.w.cell? ⟨gb, 2, none⟩ = some (.int .i64 p.f2) := fun q => q.cell ((blk_cell HK 2).trans rfl)
          have q3 : ∀ q : BelowP W2, q.w.cell? ⟨gb, 3, none⟩ = some (.int .i64 p.f3) := fun q => q.cell ((blk_cell HK 3).trans rfl)
          have q4 : ∀ q : BelowP W2, q.w.cell? ⟨gb, 4, none⟩ = some (.string p.f4) := fun q => q.cell ((blk_cell HK 4).trans rfl)
          clear HK
          have hSz : S.size ≤ 1000000005 := (by omega); have HE2 : Aside0 (S.data.toList = printN L i ++ []) := ⟨by rw [List.append_nil]; exact HE.out⟩; clear hST HE; generalize S = S2 at HE2 hSz ⊢
          obtain ⟨bLo, hLo, sLo, cLo⟩ : ∃ b : ByteArray, b.data.toList = Lib.itoa p.f2 ∧ b.size ≤ 21 ∧ ∀ q : BelowP W2, Calls Tryd.prog 42 #[.int .i64 p.f2] q.w fun e w' => e = .returned (.string b) ∧ Below q.w.heap.size q.w w' := ⟨⟨(Lib.itoa p.f2).toArray⟩, rfl, (by show (Lib.itoa p.f2).toArray.size ≤ 21; rw [List.size_toArray]; exact Lib.itoa_length_le p.f2 hRR.out.1 hRR.out.2.1), fun q => itoa_calls _ hRR.out.1 hRR.out.2.1 _ (hTW.below q.h)⟩
          obtain ⟨bHi, hHi, sHi, cHi⟩ : ∃ b : ByteArray, b.data.toList = Lib.itoa p.f3 ∧ b.size ≤ 21 ∧ ∀ q : BelowP W2, Calls Tryd.prog 42 #[.int .i64 p.f3] q.w fun e w' => e = .returned (.string b) ∧ Below q.w.heap.size q.w w' := ⟨⟨(Lib.itoa p.f3).toArray⟩, rfl, (by show (Lib.itoa p.f3).toArray.size ≤ 21; rw [List.size_toArray]; exact Lib.itoa_length_le p.f3 hRR.out.2.2.1 hRR.out.2.2.2), fun q => itoa_calls _ hRR.out.2.2.1 hRR.out.2.2.2 _ (hTW.below q.h)⟩
          have HLo := Aside0.mk hLo
          have HHi := Aside0.mk hHi
          have HCL := Aside0.mk cLo
          have HCH := Aside0.mk cHi
          clear hLo hHi cLo cHi
          have z1 : (9223372036854775807 < p.f0.size + 4) = False := eq_false (by omega)
          have z2 : (9223372036854775807 < p.f0.size + 4 + bLo.size) = False := eq_false (by omega)
          have z3 : (9223372036854775807 < p.f0.size + 4 + bLo.size + 2) = False := eq_false (by omega)
          have z4 : (9223372036854775807 < p.f0.size + 4 + bLo.size + 2 + bHi.size) = False := eq_false (by omega)
          have z5 : (9223372036854775807 < S2.size + (p.f0.size + 4 + bLo.size + 2 + bHi.size)) = False := eq_false (by omega)
          clear hF0 hSz sLo sHi
          refine wp_region_quiet_below (by kernel_rfl) (by kernel_rfl) ?_
          repeat (quiet_step ((go_at_call 42; first | (with_reducible refine Calls.below_of (HCL.out _)) | (with_reducible refine Calls.below_of (HCH.out _)))))
          refine wpQuiet_nil ?_
          rintro _ ⟨pq, rfl⟩
          go_wp2
          go_roundg (gk - 1)
          case measure => have := HN.out; omega
          case rel => exact ⟨i + 1, _, ⟨by have := HN.out; omega, by have := HN.out; omega⟩, ⟨by rw [ByteArray.data_append, Array.toList_append, HE2.out, HN2.out]; simp [pstep, predL, ho1, HLo.out, HHi.out, ByteArray.data_append, HI0.out]⟩, rfl, rfl, ⟨below_then HB.out HB.out.size pq.h⟩⟩
        · have d1 : (p.f1 == 1) = false := by simp [ho1]
          by_cases ho2 : p.f1 = 2
          · have d2 : (p.f1 == 2) = true := by simp [ho2]
            go_wp2_with fail
            generalize hW : wr.alloc (Obj.cells #[.string p.f0, .int .i64 2, .int .i64 p.f2, .int .i64 p.f3, .string p.f4] 46) = W2
            have HK : W2.heap[wr.heap.size]? = some (.cells #[.string p.f0, .int .i64 2, .int .i64 p.f2, .int .i64 p.f3, .string p.f4] 46 (0, 0)) := by rw [← hW]; exact blk_new wr _
            have n_ := Aside0.mk (show Below w.heap.size w W2 by rw [← hW]; exact below_alloc HB.out _)
            clear HB hW h0 h1 h2 h3 h4
            have HB := n_
            clear n_
            have hTW : TabI W2 := TabI.below HT.out HB.out
            generalize wr.heap.size = gb at HK ⊢
            have q0 : ∀ q : BelowP W2, q.w.cell? ⟨gb, 0, none⟩ = some (.string p.f0) := fun q => q.cell ((blk_cell HK 0).trans rfl)
            have q2 : ∀ q : BelowP W2, q.w.cell? ⟨gb, 2, none⟩ = some (.int .i64 p.f2) := fun q => q.cell ((blk_cell HK 2).trans rfl)
            have q3 : ∀ q : BelowP W2, q.w.cell? ⟨gb, 3, none⟩ = some (.int .i64 p.f3) := fun q => q.cell ((blk_cell HK 3).trans rfl)
            have q4 : ∀ q : BelowP W2, q.w.cell? ⟨gb, 4, none⟩ = some (.string p.f4) := fun q => q.cell ((blk_cell HK 4).trans rfl)
            clear HK
            have hSz : S.size ≤ 1000000005 := (by omega); have HE2 : Aside0 (S.data.toList = printN L i ++ []) := ⟨by rw [List.append_nil]; exact HE.out⟩; clear hST HE; generalize S = S2 at HE2 hSz ⊢
            have hF4 : p.f4.size ≤ 1000000000 := Nat.le_trans (predL_str p ho1) hPL.out
            obtain ⟨bq, hq, sq, cq⟩ : ∃ b : ByteArray, b.data.toList = quotedL p.f4 ∧ b.size ≤ 2000000002 ∧ ∀ q : BelowP W2, Calls Tryd.prog 43 #[.string p.f4] q.w fun e w' => e = .returned (.string b) ∧ Below q.w.heap.size q.w w' := ⟨⟨(34 :: quoteL p.f4.data.toList ++ [34]).toArray⟩, rfl, (by show (34 :: quoteL p.f4.data.toList ++ [34]).toArray.size ≤ _; rw [List.size_toArray]; have h1 := quoteL_len p.f4.data.toList; have h2 : p.f4.size = p.f4.data.toList.length := (by rw [Array.length_toList]; rfl); simp only [List.length_append, List.length_cons, List.length_nil]; omega), fun q => quote_calls p.f4 q.w hF4⟩
            have HQ := Aside0.mk hq
            have HCQ := Aside0.mk cq
            clear hq cq hF4
            have z1 : (9223372036854775807 < p.f0.size + 3) = False := eq_false (by omega)
            have z2 : (9223372036854775807 < p.f0.size + 3 + bq.size) = False := eq_false (by omega)
            have z3 : (9223372036854775807 < S2.size + (p.f0.size + 3 + bq.size)) = False := eq_false (by omega)
            clear hF0 hSz sq
            refine wp_region_quiet_below (by kernel_rfl) (by kernel_rfl) ?_
            repeat (quiet_step ((go_at_call 43; (with_reducible refine Calls.below_of (HCQ.out _)))))
            refine wpQuiet_nil ?_
            rintro _ ⟨pq, rfl⟩
            go_wp2
            go_roundg (gk - 1)
            case measure => have := HN.out; omega
            case rel => exact ⟨i + 1, _, ⟨by have := HN.out; omega, by have := HN.out; omega⟩, ⟨by rw [ByteArray.data_append, Array.toList_append, HE2.out, HN2.out]; simp [pstep, predL, ho1, HQ.out, ByteArray.data_append, HI0.out, ho2]⟩, rfl, rfl, ⟨below_then HB.out HB.out.size pq.h⟩⟩
          · have d2 : (p.f1 == 2) = false := by simp [ho2]
            go_wp2_with fail
            generalize hW : wr.alloc (Obj.cells #[.string p.f0, .int .i64 p.f1, .int .i64 p.f2, .int .i64 p.f3, .string p.f4] 46) = W2
            have HK : W2.heap[wr.heap.size]? = some (.cells #[.string p.f0, .int .i64 p.f1, .int .i64 p.f2, .int .i64 p.f3, .string p.f4] 46 (0, 0)) := by rw [← hW]; exact blk_new wr _
            have n_ := Aside0.mk (show Below w.heap.size w W2 by rw [← hW]; exact below_alloc HB.out _)
            clear HB hW h0 h1 h2 h3 h4
            have HB := n_
            clear n_
            have hTW : TabI W2 := TabI.below HT.out HB.out
            generalize wr.heap.size = gb at HK ⊢
            have q0 : ∀ q : BelowP W2, q.w.cell? ⟨gb, 0, none⟩ = some (.string p.f0) := fun q => q.cell ((blk_cell HK 0).trans rfl)
            have q2 : ∀ q : BelowP W2, q.w.cell? ⟨gb, 2, none⟩ = some (.int .i64 p.f2) := fun q => q.cell ((blk_cell HK 2).trans rfl)
            have q3 : ∀ q : BelowP W2, q.w.cell? ⟨gb, 3, none⟩ = some (.int .i64 p.f3) := fun q => q.cell ((blk_cell HK 3).trans rfl)
            have q4 : ∀ q : BelowP W2, q.w.cell? ⟨gb, 4, none⟩ = some (.string p.f4) := fun q => q.cell ((blk_cell HK 4).trans rfl)
            clear HK
            have hSz : S.size ≤ 1000000005 := (by omega); have HE2 : Aside0 (S.data.toList = printN L i ++ []) := ⟨by rw [List.append_nil]; exact HE.out⟩; clear hST HE; generalize S = S2 at HE2 hSz ⊢
            have hF4 : p.f4.size ≤ 1000000000 := Nat.le_trans (predL_str p ho1) hPL.out
            obtain ⟨bq, hq, sq, cq⟩ : ∃ b : ByteArray, b.data.toList = quotedL p.f4 ∧ b.size ≤ 2000000002 ∧ ∀ q : BelowP W2, Calls Tryd.prog 43 #[.string p.f4] q.w fun e w' => e = .returned (.string b) ∧ Below q.w.heap.size q.w w' := ⟨⟨(34 :: quoteL p.f4.data.toList ++ [34]).toArray⟩, rfl, (by show (34 :: quoteL p.f4.data.toList ++ [34]).toArray.size ≤ _; rw [List.size_toArray]; have h1 := quoteL_len p.f4.data.toList; have h2 : p.f4.size = p.f4.data.toList.length := (by rw [Array.length_toList]; rfl); simp only [List.length_append, List.length_cons, List.length_nil]; omega), fun q => quote_calls p.f4 q.w hF4⟩
            have HQ := Aside0.mk hq
            have HCQ := Aside0.mk cq
            clear hq cq hF4
            have z1 : (9223372036854775807 < p.f0.size + 4) = False := eq_false (by omega)
            have z2 : (9223372036854775807 < p.f0.size + 4 + bq.size) = False := eq_false (by omega)
            have z3 : (9223372036854775807 < S2.size + (p.f0.size + 4 + bq.size)) = False := eq_false (by omega)
            clear hF0 hSz sq
            refine wp_region_quiet_below (by kernel_rfl) (by kernel_rfl) ?_
            repeat (quiet_step ((go_at_call 43; (with_reducible refine Calls.below_of (HCQ.out _)))))
            refine wpQuiet_nil ?_
            rintro _ ⟨pq, rfl⟩
            go_wp2
            go_roundg (gk - 1)
            case measure => have := HN.out; omega
            case rel => exact ⟨i + 1, _, ⟨by have := HN.out; omega, by have := HN.out; omega⟩, ⟨by rw [ByteArray.data_append, Array.toList_append, HE2.out, HN2.out]; simp [pstep, predL, ho1, HQ.out, ByteArray.data_append, HI0.out, ho2]⟩, rfl, rfl, ⟨below_then HB.out HB.out.size pq.h⟩⟩
      · have c1 : decide (0 < i) = true := decide_eq_true (by omega)
        have c2 : decide ((0 : Int) < (i : Int)) = true := decide_eq_true (by omega)
        have HI0 := Aside0.mk hi0
        clear hi0
        by_cases ho1 : p.f1 = 1
        · have d1 : (p.f1 == 1) = true := by simp [ho1]
          go_wp2_with fail
          generalize hW : wr.alloc (Obj.cells #[.string p.f0, .int .i64 1, .int .i64 p.f2, .int .i64 p.f3, .string p.f4] 46) = W2
          have HK : W2.heap[wr.heap.size]? = some (.cells #[.string p.f0, .int .i64 1, .int .i64 p.f2, .int .i64 p.f3, .string p.f4] 46 (0, 0)) := by rw [← hW]; exact blk_new wr _
          have n_ := Aside0.mk (show Below w.heap.size w W2 by rw [← hW]; exact below_alloc HB.out _)
          clear HB hW h0 h1 h2 h3 h4
          have HB := n_
          clear n_
          have hTW : TabI W2 := TabI.below HT.out HB.out
          generalize wr.heap.size = gb at HK ⊢
          have q0 : ∀ q : BelowP W2, q.w.cell? ⟨gb, 0, none⟩ = some (.string p.f0) := fun q => q.cell ((blk_cell HK 0).trans rfl)
          have q2 : ∀ q : BelowP W2, q.w.cell? ⟨gb, 2, none⟩ = some (.int .i64 p.f2) := fun q => q.cell ((blk_cell HK 2).trans rfl)
          have q3 : ∀ q : BelowP W2, q.w.cell? ⟨gb, 3, none⟩ = some (.int .i64 p.f3) := fun q => q.cell ((blk_cell HK 3).trans rfl)
          have q4 : ∀ q : BelowP W2, q.w.cell? ⟨gb, 4, none⟩ = some (.string p.f4) := fun q => q.cell ((blk_cell HK 4).trans rfl)
          clear HK
          generalize hS2 : S ++ ⟨#[32, 97, 110, 100, 32]⟩ = S2; have hSz : S2.size ≤ 1000000005 := (by rw [← hS2, ByteArray.size_append]; exact Nat.add_le_add_right hST 5); have HE2 : Aside0 (S2.data.toList = printN L i ++ [32, 97, 110, 100, 32]) := ⟨by rw [← hS2, ByteArray.data_append, Array.toList_append, HE.out]⟩; clear hS2 hST
          obtain ⟨bLo, hLo, sLo, cLo⟩ : ∃ b : ByteArray, b.data.toList = Lib.itoa p.f2 ∧ b.size ≤ 21 ∧ ∀ q : BelowP W2, Calls Tryd.prog 42 #[.int .i64 p.f2] q.w fun e w' => e = .returned (.string b) ∧ Below q.w.heap.size q.w w' := ⟨⟨(Lib.itoa p.f2).toArray⟩, rfl, (by show (Lib.itoa p.f2).toArray.size ≤ 21; rw [List.size_toArray]; exact Lib.itoa_length_le p.f2 hRR.out.1 hRR.out.2.1), fun q => itoa_calls _ hRR.out.1 hRR.out.2.1 _ (hTW.below q.h)⟩
          obtain ⟨bHi, hHi, sHi, cHi⟩ : ∃ b : ByteArray, b.data.toList = Lib.itoa p.f3 ∧ b.size ≤ 21 ∧ ∀ q : BelowP W2, Calls Tryd.prog 42 #[.int .i64 p.f3] q.w fun e w' => e = .returned (.string b) ∧ Below q.w.heap.size q.w w' := ⟨⟨(Lib.itoa p.f3).toArray⟩, rfl, (by show (Lib.itoa p.f3).toArray.size ≤ 21; rw [List.size_toArray]; exact Lib.itoa_length_le p.f3 hRR.out.2.2.1 hRR.out.2.2.2), fun q => itoa_calls _ hRR.out.2.2.1 hRR.out.2.2.2 _ (hTW.below q.h)⟩
          have HLo := Aside0.mk hLo
          have HHi := Aside0.mk hHi
          have HCL := Aside0.mk cLo
          have HCH := Aside0.mk cHi
          clear hLo hHi cLo cHi
          have z1 : (9223372036854775807 < p.f0.size + 4) = False := eq_false (by omega)
          have z2 : (9223372036854775807 < p.f0.size + 4 + bLo.size) = False := eq_false (by omega)
          have z3 : (9223372036854775807 < p.f0.size + 4 + bLo.size + 2) = False := eq_false (by omega)
          have z4 : (9223372036854775807 < p.f0.size + 4 + bLo.size + 2 + bHi.size) = False := eq_false (by omega)
          have z5 : (9223372036854775807 < S2.size + (p.f0.size + 4 + bLo.size + 2 + bHi.size)) = False := eq_false (by omega)
          clear hF0 hSz sLo sHi
          refine wp_region_quiet_below (by kernel_rfl) (by kernel_rfl) ?_
          repeat (quiet_step ((go_at_call 42; first | (with_reducible refine Calls.below_of (HCL.out _)) | (with_reducible refine Calls.below_of (HCH.out _)))))
          refine wpQuiet_nil ?_
          rintro _ ⟨pq, rfl⟩
          go_wp2
          go_roundg (gk - 1)
          case measure => have := HN.out; omega
          case rel => exact ⟨i + 1, _, ⟨by have := HN.out; omega, by have := HN.out; omega⟩, ⟨by rw [ByteArray.data_append, Array.toList_append, HE2.out, HN2.out]; simp [pstep, predL, ho1, HLo.out, HHi.out, ByteArray.data_append, HI0.out]⟩, rfl, rfl, ⟨below_then HB.out HB.out.size pq.h⟩⟩
        · have d1 : (p.f1 == 1) = false := by simp [ho1]
          by_cases ho2 : p.f1 = 2
          · have d2 : (p.f1 == 2) = true := by simp [ho2]
            go_wp2_with fail
            generalize hW : wr.alloc (Obj.cells #[.string p.f0, .int .i64 2, .int .i64 p.f2, .int .i64 p.f3, .string p.f4] 46) = W2
            have HK : W2.heap[wr.heap.size]? = some (.cells #[.string p.f0, .int .i64 2, .int .i64 p.f2, .int .i64 p.f3, .string p.f4] 46 (0, 0)) := by rw [← hW]; exact blk_new wr _
            have n_ := Aside0.mk (show Below w.heap.size w W2 by rw [← hW]; exact below_alloc HB.out _)
            clear HB hW h0 h1 h2 h3 h4
            have HB := n_
            clear n_
            have hTW : TabI W2 := TabI.below HT.out HB.out
            generalize wr.heap.size = gb at HK ⊢
            have q0 : ∀ q : BelowP W2, q.w.cell? ⟨gb, 0, none⟩ = some (.string p.f0) := fun q => q.cell ((blk_cell HK 0).trans rfl)
            have q2 : ∀ q : BelowP W2, q.w.cell? ⟨gb, 2, none⟩ = some (.int .i64 p.f2) := fun q => q.cell ((blk_cell HK 2).trans rfl)
            have q3 : ∀ q : BelowP W2, q.w.cell? ⟨gb, 3, none⟩ = some (.int .i64 p.f3) := fun q => q.cell ((blk_cell HK 3).trans rfl)
            have q4 : ∀ q : BelowP W2, q.w.cell? ⟨gb, 4, none⟩ = some (.string p.f4) := fun q => q.cell ((blk_cell HK 4).trans rfl)
            clear HK
            generalize hS2 : S ++ ⟨#[32, 97, 110, 100, 32]⟩ = S2; have hSz : S2.size ≤ 1000000005 := (by rw [← hS2, ByteArray.size_append]; exact Nat.add_le_add_right hST 5); have HE2 : Aside0 (S2.data.toList = printN L i ++ [32, 97, 110, 100, 32]) := ⟨by rw [← hS2, ByteArray.data_append, Array.toList_append, HE.out]⟩; clear hS2 hST
            have hF4 : p.f4.size ≤ 1000000000 := Nat.le_trans (predL_str p ho1) hPL.out
            obtain ⟨bq, hq, sq, cq⟩ : ∃ b : ByteArray, b.data.toList = quotedL p.f4 ∧ b.size ≤ 2000000002 ∧ ∀ q : BelowP W2, Calls Tryd.prog 43 #[.string p.f4] q.w fun e w' => e = .returned (.string b) ∧ Below q.w.heap.size q.w w' := ⟨⟨(34 :: quoteL p.f4.data.toList ++ [34]).toArray⟩, rfl, (by show (34 :: quoteL p.f4.data.toList ++ [34]).toArray.size ≤ _; rw [List.size_toArray]; have h1 := quoteL_len p.f4.data.toList; have h2 : p.f4.size = p.f4.data.toList.length := (by rw [Array.length_toList]; rfl); simp only [List.length_append, List.length_cons, List.length_nil]; omega), fun q => quote_calls p.f4 q.w hF4⟩
            have HQ := Aside0.mk hq
            have HCQ := Aside0.mk cq
            clear hq cq hF4
            have z1 : (9223372036854775807 < p.f0.size + 3) = False := eq_false (by omega)
            have z2 : (9223372036854775807 < p.f0.size + 3 + bq.size) = False := eq_false (by omega)
            have z3 : (9223372036854775807 < S2.size + (p.f0.size + 3 + bq.size)) = False := eq_false (by omega)
            clear hF0 hSz sq
            refine wp_region_quiet_below (by kernel_rfl) (by kernel_rfl) ?_
            repeat (quiet_step ((go_at_call 43; (with_reducible refine Calls.below_of (HCQ.out _)))))
            refine wpQuiet_nil ?_
            rintro _ ⟨pq, rfl⟩
            go_wp2
            go_roundg (gk - 1)
            case measure => have := HN.out; omega
            case rel => exact ⟨i + 1, _, ⟨by have := HN.out; omega, by have := HN.out; omega⟩, ⟨by rw [ByteArray.data_append, Array.toList_append, HE2.out, HN2.out]; simp [pstep, predL, ho1, HQ.out, ByteArray.data_append, HI0.out, ho2]⟩, rfl, rfl, ⟨below_then HB.out HB.out.size pq.h⟩⟩
          · have d2 : (p.f1 == 2) = false := by simp [ho2]
            go_wp2_with fail
            generalize hW : wr.alloc (Obj.cells #[.string p.f0, .int .i64 p.f1, .int .i64 p.f2, .int .i64 p.f3, .string p.f4] 46) = W2
            have HK : W2.heap[wr.heap.size]? = some (.cells #[.string p.f0, .int .i64 p.f1, .int .i64 p.f2, .int .i64 p.f3, .string p.f4] 46 (0, 0)) := by rw [← hW]; exact blk_new wr _
            have n_ := Aside0.mk (show Below w.heap.size w W2 by rw [← hW]; exact below_alloc HB.out _)
            clear HB hW h0 h1 h2 h3 h4
            have HB := n_
            clear n_
            have hTW : TabI W2 := TabI.below HT.out HB.out
            generalize wr.heap.size = gb at HK ⊢
            have q0 : ∀ q : BelowP W2, q.w.cell? ⟨gb, 0, none⟩ = some (.string p.f0) := fun q => q.cell ((blk_cell HK 0).trans rfl)
            have q2 : ∀ q : BelowP W2, q.w.cell? ⟨gb, 2, none⟩ = some (.int .i64 p.f2) := fun q => q.cell ((blk_cell HK 2).trans rfl)
            have q3 : ∀ q : BelowP W2, q.w.cell? ⟨gb, 3, none⟩ = some (.int .i64 p.f3) := fun q => q.cell ((blk_cell HK 3).trans rfl)
            have q4 : ∀ q : BelowP W2, q.w.cell? ⟨gb, 4, none⟩ = some (.string p.f4) := fun q => q.cell ((blk_cell HK 4).trans rfl)
            clear HK
            generalize hS2 : S ++ ⟨#[32, 97, 110, 100, 32]⟩ = S2; have hSz : S2.size ≤ 1000000005 := (by rw [← hS2, ByteArray.size_append]; exact Nat.add_le_add_right hST 5); have HE2 : Aside0 (S2.data.toList = printN L i ++ [32, 97, 110, 100, 32]) := ⟨by rw [← hS2, ByteArray.data_append, Array.toList_append, HE.out]⟩; clear hS2 hST
            have hF4 : p.f4.size ≤ 1000000000 := Nat.le_trans (predL_str p ho1) hPL.out
            obtain ⟨bq, hq, sq, cq⟩ : ∃ b : ByteArray, b.data.toList = quotedL p.f4 ∧ b.size ≤ 2000000002 ∧ ∀ q : BelowP W2, Calls Tryd.prog 43 #[.string p.f4] q.w fun e w' => e = .returned (.string b) ∧ Below q.w.heap.size q.w w' := ⟨⟨(34 :: quoteL p.f4.data.toList ++ [34]).toArray⟩, rfl, (by show (34 :: quoteL p.f4.data.toList ++ [34]).toArray.size ≤ _; rw [List.size_toArray]; have h1 := quoteL_len p.f4.data.toList; have h2 : p.f4.size = p.f4.data.toList.length := (by rw [Array.length_toList]; rfl); simp only [List.length_append, List.length_cons, List.length_nil]; omega), fun q => quote_calls p.f4 q.w hF4⟩
            have HQ := Aside0.mk hq
            have HCQ := Aside0.mk cq
            clear hq cq hF4
            have z1 : (9223372036854775807 < p.f0.size + 4) = False := eq_false (by omega)
            have z2 : (9223372036854775807 < p.f0.size + 4 + bq.size) = False := eq_false (by omega)
            have z3 : (9223372036854775807 < S2.size + (p.f0.size + 4 + bq.size)) = False := eq_false (by omega)
            clear hF0 hSz sq
            refine wp_region_quiet_below (by kernel_rfl) (by kernel_rfl) ?_
            repeat (quiet_step ((go_at_call 43; (with_reducible refine Calls.below_of (HCQ.out _)))))
            refine wpQuiet_nil ?_
            rintro _ ⟨pq, rfl⟩
            go_wp2
            go_roundg (gk - 1)
            case measure => have := HN.out; omega
            case rel => exact ⟨i + 1, _, ⟨by have := HN.out; omega, by have := HN.out; omega⟩, ⟨by rw [ByteArray.data_append, Array.toList_append, HE2.out, HN2.out]; simp [pstep, predL, ho1, HQ.out, ByteArray.data_append, HI0.out, ho2]⟩, rfl, rfl, ⟨below_then HB.out HB.out.size pq.h⟩⟩
    · have b1 : decide ((i : Int) < (n : Int)) = false := decide_eq_false (by omega)
      have hin : i = n := by have := HN.out; omega
      go_wp2
      go_ret
      refine ⟨?_, HB.out⟩
      have hS : S = ⟨(printN L n).toArray⟩ := by
        rw [← hin, ← HE.out]
      rw [← hS]
      rfl
end Go.Proofs.YthaapijjjgkacaaDoor.Mine
end
section
/-
  A printed filter is read again: plain law on lists of bytes. Conditions: names that begin with a letter, then letters and digits; numbers of at most ten digits; texts of printable bytes.
-/
namespace Go.Proofs.YthaapijjjgkacaaDoor.Mine
open Go.Proofs.YthaapijjjgkacaaDoor.PFilterReads Go.Lib
def isName : List UInt8 → Bool
  | [] => false
  | c :: r => isL c && r.all isA
def isChar (c : UInt8) : Bool := decide (32 ≤ c ∧ c ≤ 126)
def frP (p : S46) : Pr := ⟨p.f0.data.toList, p.f1, p.f2, p.f3, p.f4.data.toList⟩
theorem toP_frP (p : S46) : toP (frP p) = p := by
  cases p
  simp [toP, frP]
def okPr (p : S46) : Prop := isName p.f0.data.toList = true ∧ ((p.f1 = 1 ∧ (-9999999999 ≤ p.f2 ∧ p.f2 ≤ 9999999999 ∧ -9999999999 ≤ p.f3 ∧ p.f3 ≤ 9999999999) ∧ p.f4.data.toList = []) ∨ ((p.f1 = 2 ∨ p.f1 = 3) ∧ p.f2 = 0 ∧ p.f3 = 0 ∧ p.f4.data.toList.all isChar = true))
theorem tw_all (p : UInt8 → Bool) (r t : List UInt8) (h : r.all p = true) (h32 : p 32 = false) : (r ++ 32 :: t).takeWhile p = r ∧ (r ++ 32 :: t).dropWhile p = 32 :: t := by
  induction r with
  | nil => simp [List.takeWhile_cons, List.dropWhile_cons, h32]
  | cons c r ih =>
    simp only [List.all_cons, Bool.and_eq_true] at h
    obtain ⟨h1, h2⟩ := ih h.2
    simp [List.takeWhile_cons, List.dropWhile_cons, h.1, h1, h2]
theorem word_name (nm t : List UInt8) (h : isName nm = true) : wordS ⟨nm ++ 32 :: t, none⟩ = (nm, ⟨32 :: t, none⟩) := by
  cases nm with
  | nil => cases h
  | cons c r =>
    simp only [isName, Bool.and_eq_true] at h
    have hc : c ≠ 32 := by
      rintro rfl
      have := h.1
      revert this
      decide
    obtain ⟨h1, h2⟩ := tw_all isA r t h.2 (by decide)
    show wordL (skip (c :: (r ++ 32 :: t))) = _
    have e : skip (c :: (r ++ 32 :: t)) = c :: (r ++ 32 :: t) := by simp [skip, hc]
    rw [e]
    simp only [wordL, h.1, if_true, h1, h2]
theorem textL_quote (s acc : List UInt8) (h : s.all isChar = true) : textL (quoteL s ++ [34]) acc = (some (acc ++ s), []) := by
  induction s generalizing acc with
  | nil => rw [List.append_nil]; exact textL_q _ _ rfl
  | cons c r ih =>
    simp only [List.all_cons, Bool.and_eq_true] at h
    have e : quoteL (c :: r) = (if c = 34 ∨ c = 92 then [92, c] else [c]) ++ quoteL r := rfl
    by_cases hc : c = 34 ∨ c = 92
    · rw [e, if_pos hc]
      show textL (92 :: c :: (quoteL r ++ [34])) acc = _
      rw [textL_b1 _ _ rfl hc, ih _ h.2]
      simp
    · rw [e, if_neg hc]
      show textL (c :: (quoteL r ++ [34])) acc = _
      have h1 := h.1
      simp only [isChar, decide_eq_true_eq] at h1
      rw [textL_p _ _ (fun e => hc (Or.inl e)) (fun e => hc (Or.inr e)) h1, ih _ h.2]
      simp
theorem textS_quote (s : List UInt8) (h : s.all isChar = true) : textS ⟨32 :: 34 :: (quoteL s ++ [34]), none⟩ = (s, ⟨[], none⟩) := by
  have e : markS [34] ⟨32 :: 34 :: (quoteL s ++ [34]), none⟩ = ⟨quoteL s ++ [34], none⟩ := by
    show markL [34] (skip (32 :: 34 :: (quoteL s ++ [34]))) = _
    simp [skip, markL]
  unfold textS
  rw [e]
  simp only []
  rw [textL_quote _ _ h]
  rfl
theorem back_predS (p : S46) (h : okPr p) : predS ⟨predL p, none⟩ = (frP p, ⟨[], none⟩) := by
  obtain ⟨hn, h⟩ := h
  rcases h with ⟨h1, ⟨l1, l2, l3, l4⟩, h4⟩ | ⟨h1, h2, h3, h4⟩
  · have et : predL p = p.f0.data.toList ++ 32 :: 105 :: 110 :: 32 :: (itoa p.f2 ++ (46 :: 46 :: itoa p.f3)) := by simp [predL, h1]
    have ew : wordS ⟨predL p, none⟩ = (p.f0.data.toList, ⟨32 :: 105 :: 110 :: 32 :: (itoa p.f2 ++ (46 :: 46 :: itoa p.f3)), none⟩) := by
      rw [et]
      exact word_name _ _ hn
    have eb : blanksS ⟨32 :: 105 :: 110 :: 32 :: (itoa p.f2 ++ (46 :: 46 :: itoa p.f3)), none⟩ = ⟨105 :: 110 :: 32 :: (itoa p.f2 ++ (46 :: 46 :: itoa p.f3)), none⟩ := by simp [blanksS, skip]
    have ew2 : wordS ⟨105 :: 110 :: 32 :: (itoa p.f2 ++ (46 :: 46 :: itoa p.f3)), none⟩ = ([105, 110], ⟨32 :: (itoa p.f2 ++ (46 :: 46 :: itoa p.f3)), none⟩) := by
      simp [wordS, skip, wordL, isL, isA, isD, List.takeWhile_cons, List.dropWhile_cons]
    have en : numberS ⟨32 :: (itoa p.f2 ++ (46 :: 46 :: itoa p.f3)), none⟩ = (p.f2, ⟨46 :: 46 :: itoa p.f3, none⟩) := by
      rw [numberS_blank, numberS_itoa p.f2 _ (noD_dots _) l1 l2]
    have eh : numberS ⟨itoa p.f3, none⟩ = (p.f3, ⟨[], none⟩) := by
      have := numberS_itoa p.f3 [] rfl l3 l4
      rwa [List.append_nil] at this
    unfold predS
    rw [ew]
    simp only [eb]
    rw [if_neg (by simp), if_neg (by simp)]
    unfold inS
    rw [ew2]
    simp only [if_true, en, marks_dots, eh]
    unfold frP
    rw [h1, h4]
  · have hs := textS_quote _ h4
    rcases h1 with h1 | h1
    · have et : predL p = p.f0.data.toList ++ 32 :: 61 :: 32 :: 34 :: (quoteL p.f4.data.toList ++ [34]) := by simp [predL, quotedL, h1]
      have ew : wordS ⟨predL p, none⟩ = (p.f0.data.toList, ⟨32 :: 61 :: 32 :: 34 :: (quoteL p.f4.data.toList ++ [34]), none⟩) := by
        rw [et]
        exact word_name _ _ hn
      have eb : blanksS ⟨32 :: 61 :: 32 :: 34 :: (quoteL p.f4.data.toList ++ [34]), none⟩ = ⟨61 :: 32 :: 34 :: (quoteL p.f4.data.toList ++ [34]), none⟩ := by simp [blanksS, skip]
      have em : markS [61] ⟨61 :: 32 :: 34 :: (quoteL p.f4.data.toList ++ [34]), none⟩ = ⟨32 :: 34 :: (quoteL p.f4.data.toList ++ [34]), none⟩ := by
        show markL [61] (skip _) = _
        simp [skip, markL]
      unfold predS
      rw [ew]
      simp only [eb]
      rw [if_pos (by simp)]
      simp only [em, hs]
      unfold frP
      rw [h1, h2, h3]
    · have et : predL p = p.f0.data.toList ++ 32 :: 94 :: 61 :: 32 :: 34 :: (quoteL p.f4.data.toList ++ [34]) := by simp [predL, quotedL, h1]
      have ew : wordS ⟨predL p, none⟩ = (p.f0.data.toList, ⟨32 :: 94 :: 61 :: 32 :: 34 :: (quoteL p.f4.data.toList ++ [34]), none⟩) := by
        rw [et]
        exact word_name _ _ hn
      have eb : blanksS ⟨32 :: 94 :: 61 :: 32 :: 34 :: (quoteL p.f4.data.toList ++ [34]), none⟩ = ⟨94 :: 61 :: 32 :: 34 :: (quoteL p.f4.data.toList ++ [34]), none⟩ := by simp [blanksS, skip]
      have em : markS [94, 61] ⟨94 :: 61 :: 32 :: 34 :: (quoteL p.f4.data.toList ++ [34]), none⟩ = ⟨32 :: 34 :: (quoteL p.f4.data.toList ++ [34]), none⟩ := by
        show markL [94, 61] (skip _) = _
        simp [skip, markL]
      unfold predS
      rw [ew]
      simp only [eb]
      rw [if_neg (by simp), if_pos (by simp)]
      simp only [em, hs]
      unfold frP
      rw [h1, h2, h3]
theorem back_PS1 (p : S46) (h : okPr p) : PS (predL p) [] = .inl [frP p] := by
  rw [PS_eq, back_predS p h]
  rfl
theorem getD_take_snoc (L : List S46) (i : Nat) (h : i < L.length) : (L.take (i + 1)).map frP = (L.take i).map frP ++ [frP (L.getD i z46)] := by
  rw [List.take_succ_eq_append_getElem h, List.map_append, List.getD_eq_getElem?_getD, List.getElem?_eq_getElem h]
  rfl
theorem back_PS (L : List S46) (h : ∀ p ∈ L, okPr p) : ∀ i, i < L.length → PS (printN L (i + 1)) [] = .inl ((L.take (i + 1)).map frP) := by
  intro i
  induction i with
  | zero =>
    intro hi
    have hp : okPr (L.getD 0 z46) := by
      rw [List.getD_eq_getElem?_getD, List.getElem?_eq_getElem hi]
      exact h _ (List.getElem_mem hi)
    have e : printN L (0 + 1) = predL (L.getD 0 z46) := by
      show [] ++ pstep 0 (L.getD 0 z46) = _
      simp [pstep]
    rw [e, back_PS1 _ hp, getD_take_snoc L 0 hi]
    rfl
  | succ i ih =>
    intro hi
    have hp : okPr (L.getD (i + 1) z46) := by
      rw [List.getD_eq_getElem?_getD, List.getElem?_eq_getElem hi]
      exact h _ (List.getElem_mem hi)
    have e : printN L (i + 1 + 1) = printN L (i + 1) ++ 32 :: (97 :: 110 :: 100 :: 32 :: predL (L.getD (i + 1) z46)) := by
      show printN L (i + 1) ++ pstep (i + 1) (L.getD (i + 1) z46) = _
      simp [pstep]
    have h4 := PS_acc _ (predL (L.getD (i + 1) z46)) ((L.take (i + 1)).map frP) [] (Nat.le_refl _)
    rw [List.append_nil, back_PS1 _ hp] at h4
    rw [e, PS_ext _ _ _ _ _ (Nat.le_refl _) (ih (by omega)), tailS_and, PS_blank, h4, getD_take_snoc L (i + 1) hi]
theorem back_plain (s : ByteArray) (L : List S46) (h : ∀ p ∈ L, okPr p) (h1 : 1 ≤ L.length) (hs : s.data.toList = printN L L.length) (hz : s.size ≤ 300) : parseR s = .inl (L.map frP) := by
  obtain ⟨i, hi⟩ : ∃ i, L.length = i + 1 := ⟨L.length - 1, by omega⟩
  have hb : bytes s = printN L (i + 1) := by rw [← hi]; exact hs
  have := back_PS L h i (by omega)
  rw [← hi, List.take_length] at this
  rw [parseR_PS hz, hb, ← hi, this]
theorem toP_map (L : List S46) : (L.map frP).map toP = L := by
  rw [List.map_map]
  have : toP ∘ frP = id := funext fun p => toP_frP p
  rw [this, List.map_id]
end Go.Proofs.YthaapijjjgkacaaDoor.Mine
end
section
/-
  value.Str walked: may a text be a value? Condition: none.
-/
namespace Go.Proofs.YthaapijjjgkacaaDoor.Mine
open Go.RowKit Go.Proofs.YthaapijjjgkacaaDoorW.PrintWords Go.Lib
theorem decode_hi (s : ByteArray) (i : Nat) (hi : i < s.size) (h : 128 ≤ (s[i]'hi).toNat) : 128 ≤ (Utf8.decode s i).1 := by
  have hg : s.get! i = s[i]'hi := by simp [ByteArray.get!, hi]; rfl
  rw [decode_at, hg]
  generalize (s[i]'hi).toNat = b0 at h
  generalize (s.get! (i + 1)).toNat = b1
  generalize (s.get! (i + 2)).toNat = b2
  generalize (s.get! (i + 3)).toNat = b3
  unfold decodeN
  repeat' split
  all_goals first | (exfalso; omega) | (simp only; omega)
def badR (r : Nat) : Bool := decide (r < 32) || decide (126 < r)
theorem idx_chars (s : ByteArray) : ∀ (f i : Nat), s.size - i ≤ f → i ≤ s.size → (decide (0 ≤ idxFuncFrom badR true s f i) = !((s.data.toList.drop i).all isChar))
  | 0, i, hf, hi => by
    have : i = s.size := by omega
    have hd : s.data.toList.drop i = [] := List.drop_eq_nil_iff.2 (by rw [Array.length_toList]; exact Nat.le_of_eq this.symm)
    rw [hd]
    rfl
  | f + 1, i, hf, hi => by
    by_cases hlt : i < s.size
    · have hd : s.data.toList.drop i = (s[i]'hlt) :: s.data.toList.drop (i + 1) := by
        rw [List.drop_eq_getElem_cons (by rw [Array.length_toList]; exact hlt)]
        rfl
      rw [hd, List.all_cons]
      unfold idxFuncFrom
      rw [if_pos hlt]
      by_cases ha : (s[i]'hlt).toNat < 128
      · rw [decode_ascii s i hlt ha]
        have hc : badR (s[i]'hlt).toNat = !(isChar (s[i]'hlt)) := by
          simp only [badR, isChar, UInt8.le_iff_toNat_le]
          have e1 : (32 : UInt8).toNat = 32 := rfl
          have e2 : (126 : UInt8).toNat = 126 := rfl
          rw [e1, e2, Bool.eq_iff_iff]
          simp only [Bool.or_eq_true, decide_eq_true_eq, Bool.not_eq_true', decide_eq_false_iff_not]
          omega
        simp only [hc]
        cases hx : isChar (s[i]'hlt) with
        | false => simp
        | true =>
          simp only [Bool.not_true, Bool.true_and]
          rw [if_neg (by simp)]
          exact idx_chars s f (i + 1) (by omega) (by omega)
      · have hd := decode_hi s i hlt (by omega)
        have hb : badR (Utf8.decode s i).1 = true := by
          simp only [badR, Bool.or_eq_true, decide_eq_true_eq]
          omega
        have hx : isChar (s[i]'hlt) = false := by
          simp only [isChar, UInt8.le_iff_toNat_le]
          have e2 : (126 : UInt8).toNat = 126 := rfl
          rw [e2]
          simp
          omega
        rw [if_pos hb, hx]
        simp
    · have : i = s.size := by omega
      have hd : s.data.toList.drop i = [] := List.drop_eq_nil_iff.2 (by rw [Array.length_toList]; exact Nat.le_of_eq this.symm)
      rw [hd, idxFuncFrom_end _ _ _ _ _ hlt]
      rfl
theorem str_pred (w : World) : PredAt Tryd.prog 45 #[] encR badR w := fun W r _ => by
  unfold FnGives
  by_cases h1 : r < 32 <;> by_cases h2 : 126 < r
  all_goals
    have z1 : (r : Int) < 32 ↔ r < 32 := by omega
    have z2 : (126 : Int) < (r : Int) ↔ 126 < r := by omega
    go_enter Tryd.func45, Tryd.ntmps45
    go_wp2
    all_goals first | (exfalso; omega) | (go_ret; exact ⟨by simp [badR, h1, h2], 0, rfl⟩)
def strOk (s : ByteArray) : Bool := decide (s.size ≤ 40) && s.data.toList.all isChar
theorem str_calls (s : ByteArray) (w : World) : Calls Tryd.prog 21 #[.string s] w fun e w' => e = .returned (.bool (strOk s)) ∧ Below w.heap.size w w' := by
  have hC := fun W => Tryd.strings_ContainsFunc 45 #[] (enters_of Tryd.func45 (by kernel_rfl) rfl) badR s W (str_pred W)
  have hX : decide (0 ≤ Lib.idxFunc badR true s) = !(s.data.toList.all isChar) := idx_chars s s.size 0 (by omega) (by omega)
  by_cases h : s.size ≤ 40
  · have h1 : decide ((s.size : Int) ≤ 40) = true := decide_eq_true (by omega)
    have h2 : decide (s.size ≤ 40) = true := decide_eq_true h
    have HX := Aside0.mk hX
    have HC := Aside0.mk hC
    clear hX hC
    go_enter Tryd.func21, Tryd.ntmps21
    go_wp2_with fail
    refine (HC.out _).mono ?_
    rintro e w1 ⟨rfl, hb⟩
    rw [HX.out]
    go_wp2
    go_ret
    exact ⟨by simp [strOk, h2], hb⟩
  · have h1 : decide ((s.size : Int) ≤ 40) = false := decide_eq_false (by omega)
    have h2 : decide (s.size ≤ 40) = false := decide_eq_false h
    clear hX hC
    go_enter Tryd.func21, Tryd.ntmps21
    go_wp2
    go_ret
    exact ⟨by simp [strOk, h2], Below.refl _ _⟩
end Go.Proofs.YthaapijjjgkacaaDoor.Mine
end
section
/-
  value.Schema.Filter, walked. Conditions: the slices at most 100000 long.
-/
namespace Go.Proofs.YthaapijjjgkacaaDoor.Mine
open Go.RowKit Go.Proofs.YthaapijjjgkacaaDoorW.PrintWords Go.Proofs.YthaapijjjgkacaaDoorW.PrintLast Go.Proofs.YthaapijjjgkacaaDoorW.PrintMore
open Go.Proofs.YthaapijjjgkacaaDoor.PFilterReads
def predOk (a : S95) (p : S46) : Bool :=
  if p.f1 = 1 then (a.f1 == 1) && decide (a.f2 ≤ p.f2) && decide (p.f3 ≤ a.f3) && decide (p.f2 ≤ p.f3) && (p.f4.toList == [])
  else if p.f1 = 2 ∨ (p.f1 = 3 ∧ p.f4.toList ≠ []) then (a.f1 == 2) && (p.f2 == 0) && (p.f3 == 0) && strOk p.f4
  else false
def okAt (S : List S95) (F : List S46) (i : Nat) : Bool :=
  decide (0 ≤ findB (F.getD i z46).f0 S) && !((F.take i).any fun x => x.f0.toList == (F.getD i z46).f0.toList) && predOk (S.getD (findB (F.getD i z46).f0 S).toNat z95) (F.getD i z46)
def badFrom (S : List S95) (F : List S46) : Nat → Nat → Option Nat
  | 0, _ => none
  | k + 1, i => if okAt S F i then badFrom S F k (i + 1) else some i
/-- The first predicate that is none of the schema's; none: there is none. -/
def filterBad (S : List S95) (F : List S46) : Option Nat := if F.length < 1 ∨ 4 < F.length then some 0 else badFrom S F F.length 0
def FilterPost (w : World) (S : List S95) (F : List S46) (e : Ending) (w' : World) : Prop :=
  match filterBad S F with
  | none => e = .returned .nilIface ∧ Below w.heap.size w w'
  | some i => ∃ b, w.heap.size ≤ b ∧ e = .returned (.iface 67 (.pointer (some ⟨b, 0, none⟩))) ∧ IsFault w' b ⟨#[118, 97, 108, 117, 101]⟩ (i : Int) 3 ∧ Below w.heap.size w w'
theorem fp_bad {w w' : World} {S : List S95} {F : List S46} {e : Ending} {i : Nat} (h : filterBad S F = some i) (ho : ∃ b, w.heap.size ≤ b ∧ e = .returned (.iface 67 (.pointer (some ⟨b, 0, none⟩))) ∧ IsFault w' b ⟨#[118, 97, 108, 117, 101]⟩ (i : Int) 3 ∧ Below w.heap.size w w') : FilterPost w S F e w' := by
  unfold FilterPost
  rw [h]
  exact ho
theorem fp_ok {w w' : World} {S : List S95} {F : List S46} {e : Ending} (h : filterBad S F = none) (ho : e = .returned .nilIface ∧ Below w.heap.size w w') : FilterPost w S F e w' := by
  unfold FilterPost
  rw [h]
  exact ho
theorem C_take {α : Type} {d : Kd α} {w : World} {A : Option Addr} {n : Nat} {xs : List α} (h : Kd.C d w A n xs) (i : Nat) (hi : i ≤ n) : Kd.C d w A i (xs.take i) := by
  refine ⟨by rw [List.length_take]; have := h.1; omega, by have := h.2.1; omega, fun h0 => ?_⟩
  obtain ⟨ad, e, hc⟩ := h.2.2 (by omega)
  refine ⟨ad, e, fun j q hj => hc j q ?_⟩
  rw [List.getElem?_take] at hj
  split at hj
  · exact hj
  · cases hj
theorem okAt_no1 {S : List S95} {F : List S46} {i : Nat} (h : findB (F.getD i z46).f0 S < 0) : okAt S F i = false := by
  unfold okAt
  rw [decide_eq_false (by omega)]
  rfl
theorem okAt_no2 {S : List S95} {F : List S46} {i : Nat} (h : ((F.take i).any fun x => x.f0.toList == (F.getD i z46).f0.toList) = true) : okAt S F i = false := by
  unfold okAt
  rw [h]
  simp
theorem okAt_is {S : List S95} {F : List S46} {i : Nat} (h0 : 0 ≤ findB (F.getD i z46).f0 S) (h : ((F.take i).any fun x => x.f0.toList == (F.getD i z46).f0.toList) = false) : okAt S F i = predOk (S.getD (findB (F.getD i z46).f0 S).toNat z95) (F.getD i z46) := by
  unfold okAt
  rw [h, decide_eq_true h0]
  rfl
theorem idxFrom_lt {α : Type} (p : α → Bool) : ∀ (l : List α) (i : Nat), idxFrom p l i < (i : Int) + l.length
  | [], i => by simp only [idxFrom, List.length_nil]; omega
  | x :: r, i => by
    unfold idxFrom
    split
    · simp only [List.length_cons]; omega
    · have := idxFrom_lt p r (i + 1)
      simp only [List.length_cons]
      omega
theorem findB_lt (nm : ByteArray) (L : List S95) : findB nm L < (L.length : Int) := by
  have := idxFrom_lt (fun x : S95 => x.f0.toList == nm.toList) L 0
  unfold findB idxB
  omega
set_option maxHeartbeats 8000000 in
set_option maxRecDepth 100000 in
theorem filter_calls (A B : Option Addr) (n m c d : Nat) (S : List S95) (F : List S46) (w : World) (hn : S.length = n) (hm : F.length = m) (hr : Kd.C k95 w A n S) (hr2 : Kd.C k46 w B m F) (hl : n ≤ 100000) (hl2 : m ≤ 100000) (hcd : m ≤ d) :
    Calls Tryd.prog 27 #[.slice A n c, .slice B m d] w (FilterPost w S F) := by
  have HRS := Aside0.mk hr
  have HRF := Aside0.mk hr2
  have HN := Aside0.mk hn
  have HM := Aside0.mk hm
  clear hr hr2 hn hm
  by_cases hlen : m < 1 ∨ 4 < m
  · have HB := Aside0.mk (fun e w' ho => fp_bad (w := w) (w' := w') (S := S) (F := F) (e := e) (i := 0) (by unfold filterBad; rw [if_pos (by have := HM.out; omega)]) ho)
    generalize FilterPost w S F = POST at HB ⊢
    by_cases h1 : m < 1
    · have q1 : decide ((m : Int) < 1) = true := decide_eq_true (by omega)
      clear hlen
      obtain rfl : m = 0 := by omega
      go_enter Tryd.func27, Tryd.ntmps27
      go_wp2_with fail
      refine (vfault_calls _ _ _).mono ?_
      rintro e w1 ⟨b, h1, rfl, hf, hb⟩
      go_wp2
      try go_ret
      exact HB.out _ _ ⟨b, h1, rfl, hf, hb⟩
    · have q1 : decide ((m : Int) < 1) = false := decide_eq_false (by omega)
      have q2 : decide (4 < (m : Int)) = true := decide_eq_true (by omega)
      clear hlen
      go_enter Tryd.func27, Tryd.ntmps27
      go_wp2_with fail
      refine (vfault_calls _ _ _).mono ?_
      rintro e w1 ⟨b, h1, rfl, hf, hb⟩
      go_wp2
      try go_ret
      exact HB.out _ _ ⟨b, h1, rfl, hf, hb⟩
  · have q1 : decide ((m : Int) < 1) = false := decide_eq_false (by omega)
    have q2 : decide (4 < (m : Int)) = false := decide_eq_false (by omega)
    have HFB := Aside0.mk (show filterBad S F = badFrom S F m 0 by unfold filterBad; rw [if_neg (by have := HM.out; omega), HM.out])
    have HEP := Aside0.mk (fun i e w' h ho => fp_bad (w := w) (w' := w') (S := S) (F := F) (e := e) (i := i) h ho)
    have HOP := Aside0.mk (fun e w' h ho => fp_ok (w := w) (w' := w') (S := S) (F := F) (e := e) h ho)
    generalize FilterPost w S F = POST at HEP HOP ⊢
    clear hlen
    go_enter Tryd.func27, Tryd.ntmps27
    go_wp2_with fail
    go_loopg [5, 6, 7, 8, 20, 42, 44, 46] (m + 1) (fun k v5 v6 v7 v8 v20 v42 v44 v46 W => ∃ i : Nat, Aside0 (i ≤ m ∧ k + i = m + 1 ∧ filterBad S F = badFrom S F (m - i) i) ∧ v20 = .int .i64 (i : Int) ∧ Aside0 (Below w.heap.size w W))
    case atStart => exact ⟨0, ⟨by omega, by omega, HFB.out⟩, rfl, ⟨Below.refl _ _⟩⟩
    case round =>
      obtain ⟨i, HI, rfl, HB⟩ := hrel
      by_cases hi : i < m
      · have b1 : decide ((i : Int) < (m : Int)) = true := decide_eq_true (by omega)
        have b2 : decide (i < m) = true := decide_eq_true (by omega)
        have p1 : (0 : Int) ≤ (i : Int) := by omega
        have p2 : (i : Int) < (m : Int) := by omega
        have hstep : badFrom S F (m - i) i = if okAt S F i then badFrom S F (m - (i + 1)) (i + 1) else some i := by
          rw [show m - i = (m - (i + 1)) + 1 by omega]
          rfl
        have HST := Aside0.mk hstep
        clear hstep
        obtain ⟨ad, e, h0, h1, h2, h3, h4⟩ := at_T46 HRF.out i p1 p2
        cases e
        rw [Int.toNat_natCast] at h0 h1 h2 h3 h4
        replace h0 := (HB.out.cell (World.block_lt_of_cell? w _ h0)).trans h0
        replace h1 := (HB.out.cell (World.block_lt_of_cell? w _ h1)).trans h1
        replace h2 := (HB.out.cell (World.block_lt_of_cell? w _ h2)).trans h2
        replace h3 := (HB.out.cell (World.block_lt_of_cell? w _ h3)).trans h3
        replace h4 := (HB.out.cell (World.block_lt_of_cell? w _ h4)).trans h4
        have hrd : rd_T46 F (i : Int) = F.getD i z46 := rfl
        rw [hrd] at h0 h1 h2 h3 h4
        obtain ⟨p, hp⟩ : ∃ p, p = F.getD i z46 := ⟨_, rfl⟩
        rw [← hp] at h0 h1 h2 h3 h4
        have HP := Aside0.mk hp
        clear hrd hp
        go_wp2_with fail
        refine (find_calls A n c S p.f0 _ HN.out (Kd.C_below HRS.out (below_alloc HB.out _)) hl).mono ?_
        rintro e w1 ⟨rfl, hb⟩
        have hnew := heap_alloc_new wr (.cells #[.string p.f0, .int .i64 p.f1, .int .i64 p.f2, .int .i64 p.f3, .string p.f4] 46 (0, 0))
        have KB6 := Aside0.mk ((hb.block _ (blk_lt hnew)).trans hnew)
        have n_ := Aside0.mk (below_then (below_alloc HB.out (.cells #[.string p.f0, .int .i64 p.f1, .int .i64 p.f2, .int .i64 p.f3, .string p.f4] 46)) (below_size (below_alloc HB.out _)) hb)
        clear HB hb hnew h0 h1 h2 h3 h4
        have HB := n_
        clear n_
        generalize wr.heap.size = g6 at KB6 ⊢
        have HLT := Aside0.mk (findB_lt p.f0 S)
        obtain ⟨kk, hkk⟩ : ∃ k, k = findB p.f0 S := ⟨_, rfl⟩
        rw [← hkk] at HLT ⊢
        have HK := Aside0.mk hkk
        clear hkk
        by_cases hneg : kk < 0
        · have n1 : decide (kk < 0) = true := decide_eq_true hneg
          have HE := Aside0.mk (fun e w' ho => HEP.out i e w' (by rw [HI.out.2.2, HST.out, okAt_no1 (by rw [← HP.out, ← HK.out]; exact hneg)]; rfl) ho)
          clear hneg
          go_wp2_with fail
          -- 'return fault(i, ..)'
          refine (vfault_calls _ _ _).mono ?_
          rintro e w9 ⟨b, hbl, rfl, hf, hb⟩
          have hfin := HE.out _ _ ⟨b, Nat.le_trans HB.out.size hbl, rfl, hf, below_then HB.out HB.out.size hb⟩
          clear hf hb hbl
          go_wp2
          try go_ret
          exact hfin
        · have n1 : decide (kk < 0) = false := decide_eq_false hneg
          obtain ⟨k, rfl⟩ := Int.eq_ofNat_of_zero_le (by omega : 0 ≤ kk)
          have hkn : k < n := by have := HLT.out; have := HN.out; omega
          have p3 : (i : Int) ≤ (d : Int) := by omega
          have HC := Aside0.mk (fun W (hW : Below w.heap.size w W ∧ W.cell? ⟨g6, 0, none⟩ = some (.string p.f0)) => cont46_calls 53 #[.pointer (some ⟨g6, 0, none⟩)] _ (some ad) i d (F.take i) W (enters_of Tryd.func53 (by kernel_rfl) rfl) (by rw [List.length_take]; have := HM.out; omega) (C_take (Kd.C_below HRF.out hW.1) i (by omega)) (by omega) (same_clo p.f0 g6 W hW.2))
          have q0 := (blk_cell KB6.out 0).trans (show _ = some (Value.string p.f0) from rfl)
          clear hneg
          go_wp2_with fail
          refine (HC.out _ ⟨HB.out, q0⟩).mono ?_
          rintro e w2 ⟨rfl, hb⟩
          have k_ := Aside0.mk ((hb.block _ (blk_lt KB6.out)).trans KB6.out)
          have n_ := Aside0.mk (below_then HB.out HB.out.size hb)
          clear KB6 HB hb q0
          have KB6 := k_
          have HB := n_
          clear k_ n_ HC
          cases hany : ((F.take i).any fun x => x.f0.toList == p.f0.toList) with
          | true =>
            have HE := Aside0.mk (fun e w' ho => HEP.out i e w' (by rw [HI.out.2.2, HST.out, okAt_no2 (by rw [← HP.out]; exact hany)]; rfl) ho)
            clear hany
            go_wp2_with fail
            -- 'return fault(i, ..)'
            refine (vfault_calls _ _ _).mono ?_
            rintro e w9 ⟨b, hbl, rfl, hf, hb⟩
            have hfin := HE.out _ _ ⟨b, Nat.le_trans HB.out.size hbl, rfl, hf, below_then HB.out HB.out.size hb⟩
            clear hf hb hbl
            go_wp2
            try go_ret
            exact hfin
          | false =>
            obtain ⟨a, ha⟩ : ∃ a, a = S.getD k z95 := ⟨_, rfl⟩
            have HOI := Aside0.mk (show okAt S F i = predOk a p by rw [okAt_is (by rw [← HP.out, ← HK.out]; omega) (by rw [← HP.out]; exact hany), ← HP.out, ← HK.out, Int.toNat_natCast, ha])
            clear hany
            obtain ⟨ad2, e, s0, s1, s2, s3⟩ := at_T95 (Kd.C_below HRS.out HB.out) (k : Int) (by omega) (by omega)
            cases e
            rw [Int.toNat_natCast] at s0 s1 s2 s3
            have hrd : rd_T95 S (k : Int) = S.getD k z95 := rfl
            rw [hrd, ← ha] at s0 s1 s2 s3
            clear hrd ha
            have y0 := (blk_cell KB6.out 0).trans (show _ = some (Value.string p.f0) from rfl)
            have y1 := (blk_cell KB6.out 1).trans (show _ = some (Value.int .i64 p.f1) from rfl)
            have y2 := (blk_cell KB6.out 2).trans (show _ = some (Value.int .i64 p.f2) from rfl)
            have y3 := (blk_cell KB6.out 3).trans (show _ = some (Value.int .i64 p.f3) from rfl)
            have y4 := (blk_cell KB6.out 4).trans (show _ = some (Value.string p.f4) from rfl)
            have pk0 : (0 : Int) ≤ (k : Int) := by omega
            have pk1 : (k : Int) < (n : Int) := by omega
            by_cases hf1 : p.f1 = 1
            · have o1 : (p.f1 == 1) = true := by simpa using hf1
              have HF1 := Aside0.mk hf1
              clear hf1
              by_cases t1 : a.f1 = 1
              · have e1 : (a.f1 == 1) = true := by simpa using t1
                by_cases t2 : a.f2 ≤ p.f2
                · have e2 : decide (a.f2 ≤ p.f2) = true := decide_eq_true t2
                  by_cases t3 : p.f3 ≤ a.f3
                  · have e3 : decide (p.f3 ≤ a.f3) = true := decide_eq_true t3
                    by_cases t4 : p.f2 ≤ p.f3
                    · have e4 : decide (p.f2 ≤ p.f3) = true := decide_eq_true t4
                      by_cases t5 : p.f4.toList = []
                      · have e5 : (p.f4.toList == []) = true := by simpa using t5
                        have hv : predOk a p = true := by unfold predOk; rw [if_pos HF1.out, e1, e2, e3, e4, e5]; rfl
                        have HV := Aside0.mk hv
                        clear hv t1 t2 t3 t4
                        go_wp2_with fail
                        go_quiet (fail)
                        go_wp2_with fail
                        go_roundg (gk - 1)
                        case measure => have := HI.out; omega
                        case rel => exact ⟨i + 1, ⟨by omega, by have := HI.out; omega, by rw [HI.out.2.2, HST.out, HOI.out, HV.out]; rfl⟩, rfl, ⟨pw_below_drewN HB.out _⟩⟩
                      · have e5 : (p.f4.toList == []) = false := by simpa using t5
                        have hv : predOk a p = false := by unfold predOk; rw [if_pos HF1.out, e1, e2, e3, e4, e5]; rfl
                        have HV := Aside0.mk hv
                        clear hv t1 t2 t3 t4
                        have HE := Aside0.mk (fun e w' ho => HEP.out i e w' (by rw [HI.out.2.2, HST.out, HOI.out, HV.out]; rfl) ho)
                        go_wp2_with fail
                        go_quiet (fail)
                        go_wp2_with fail
                        refine (vfault_calls _ _ _).mono ?_
                        rintro e w9 ⟨b, hbl, rfl, hf, hb⟩
                        have hfin := HE.out _ _ ⟨b, Nat.le_trans (pw_below_drewN HB.out _).size hbl, rfl, hf, below_then (pw_below_drewN HB.out _) (pw_below_drewN HB.out _).size hb⟩
                        clear hf hb hbl
                        go_wp2
                        try go_ret
                        exact hfin
                    · have e4 : decide (p.f2 ≤ p.f3) = false := decide_eq_false t4
                      have hv : predOk a p = false := by unfold predOk; rw [if_pos HF1.out, e1, e2, e3, e4]; rfl
                      have HV := Aside0.mk hv
                      clear hv t1 t2 t3 t4
                      have HE := Aside0.mk (fun e w' ho => HEP.out i e w' (by rw [HI.out.2.2, HST.out, HOI.out, HV.out]; rfl) ho)
                      go_wp2_with fail
                      go_quiet (fail)
                      go_wp2_with fail
                      refine (vfault_calls _ _ _).mono ?_
                      rintro e w9 ⟨b, hbl, rfl, hf, hb⟩
                      have hfin := HE.out _ _ ⟨b, Nat.le_trans (pw_below_drewN HB.out _).size hbl, rfl, hf, below_then (pw_below_drewN HB.out _) (pw_below_drewN HB.out _).size hb⟩
                      clear hf hb hbl
                      go_wp2
                      try go_ret
                      exact hfin
                  · have e3 : decide (p.f3 ≤ a.f3) = false := decide_eq_false t3
                    have hv : predOk a p = false := by unfold predOk; rw [if_pos HF1.out, e1, e2, e3]; rfl
                    have HV := Aside0.mk hv
                    clear hv t1 t2 t3
                    have HE := Aside0.mk (fun e w' ho => HEP.out i e w' (by rw [HI.out.2.2, HST.out, HOI.out, HV.out]; rfl) ho)
                    go_wp2_with fail
                    go_quiet (fail)
                    go_wp2_with fail
                    refine (vfault_calls _ _ _).mono ?_
                    rintro e w9 ⟨b, hbl, rfl, hf, hb⟩
                    have hfin := HE.out _ _ ⟨b, Nat.le_trans (pw_below_drewN HB.out _).size hbl, rfl, hf, below_then (pw_below_drewN HB.out _) (pw_below_drewN HB.out _).size hb⟩
                    clear hf hb hbl
                    go_wp2
                    try go_ret
                    exact hfin
                · have e2 : decide (a.f2 ≤ p.f2) = false := decide_eq_false t2
                  have hv : predOk a p = false := by unfold predOk; rw [if_pos HF1.out, e1, e2]; rfl
                  have HV := Aside0.mk hv
                  clear hv t1 t2
                  have HE := Aside0.mk (fun e w' ho => HEP.out i e w' (by rw [HI.out.2.2, HST.out, HOI.out, HV.out]; rfl) ho)
                  go_wp2_with fail
                  go_quiet (fail)
                  go_wp2_with fail
                  refine (vfault_calls _ _ _).mono ?_
                  rintro e w9 ⟨b, hbl, rfl, hf, hb⟩
                  have hfin := HE.out _ _ ⟨b, Nat.le_trans (pw_below_drewN HB.out _).size hbl, rfl, hf, below_then (pw_below_drewN HB.out _) (pw_below_drewN HB.out _).size hb⟩
                  clear hf hb hbl
                  go_wp2
                  try go_ret
                  exact hfin
              · have e1 : (a.f1 == 1) = false := by simpa using t1
                have hv : predOk a p = false := by unfold predOk; rw [if_pos HF1.out, e1]; rfl
                have HV := Aside0.mk hv
                clear hv t1
                have HE := Aside0.mk (fun e w' ho => HEP.out i e w' (by rw [HI.out.2.2, HST.out, HOI.out, HV.out]; rfl) ho)
                go_wp2_with fail
                go_quiet (fail)
                go_wp2_with fail
                refine (vfault_calls _ _ _).mono ?_
                rintro e w9 ⟨b, hbl, rfl, hf, hb⟩
                have hfin := HE.out _ _ ⟨b, Nat.le_trans (pw_below_drewN HB.out _).size hbl, rfl, hf, below_then (pw_below_drewN HB.out _) (pw_below_drewN HB.out _).size hb⟩
                clear hf hb hbl
                go_wp2
                try go_ret
                exact hfin
            · have o1 : (p.f1 == 1) = false := by simpa using hf1
              by_cases hf3 : p.f1 = 3
              · have o3 : (p.f1 == 3) = true := by simpa using hf3
                have o2 : (p.f1 == 2) = false := by rw [hf3]; rfl
                by_cases hs5 : p.f4.toList = []
                · have q5 : (p.f4.toList == []) = true := by simpa using hs5
                  have HV := Aside0.mk (show predOk a p = false by unfold predOk; rw [if_neg hf1, if_neg (by rw [hf3, hs5]; simp)])
                  clear hf1 hf3
                  have HE := Aside0.mk (fun e w' ho => HEP.out i e w' (by rw [HI.out.2.2, HST.out, HOI.out, HV.out]; rfl) ho)
                  go_wp2_with fail
                  -- 'return fault(i, ..)'
                  refine (vfault_calls _ _ _).mono ?_
                  rintro e w9 ⟨b, hbl, rfl, hf, hb⟩
                  have hfin := HE.out _ _ ⟨b, Nat.le_trans HB.out.size hbl, rfl, hf, below_then HB.out HB.out.size hb⟩
                  clear hf hb hbl
                  go_wp2
                  try go_ret
                  exact hfin
                · have q5 : (p.f4.toList == []) = false := by simpa using hs5
                  have HPO := Aside0.mk (show predOk a p = ((a.f1 == 2) && (p.f2 == 0) && (p.f3 == 0) && strOk p.f4) by unfold predOk; rw [if_neg hf1, if_pos (Or.inr ⟨hf3, hs5⟩)])
                  clear hf1 hf3
                  by_cases t1 : a.f1 = 2
                  · have e1 : (a.f1 == 2) = true := by simpa using t1
                    by_cases t2 : p.f2 = 0
                    · have e2 : (p.f2 == 0) = true := by simpa using t2
                      by_cases t3 : p.f3 = 0
                      · have e3 : (p.f3 == 0) = true := by simpa using t3
                        cases t4 : strOk p.f4 with
                        | true =>
                          have HV := Aside0.mk (show predOk a p = true by rw [HPO.out, e1, e2, e3, t4]; rfl)
                          have HS4 := Aside0.mk t4
                          clear t1 t2 t3 t4
                          go_wp2_with fail
                          refine (str_calls p.f4 _).mono ?_
                          rintro e w5 ⟨rfl, hb⟩
                          rw [HS4.out]
                          have n_ := Aside0.mk (below_then HB.out HB.out.size hb)
                          clear HB hb
                          have HB := n_
                          clear n_
                          go_wp2_with fail
                          go_roundg (gk - 1)
                          case measure => have := HI.out; omega
                          case rel => exact ⟨i + 1, ⟨by omega, by have := HI.out; omega, by rw [HI.out.2.2, HST.out, HOI.out, HV.out]; rfl⟩, rfl, HB⟩
                        | false =>
                          have HV := Aside0.mk (show predOk a p = false by rw [HPO.out, e1, e2, e3, t4]; rfl)
                          have HS4 := Aside0.mk t4
                          clear t1 t2 t3 t4
                          go_wp2_with fail
                          refine (str_calls p.f4 _).mono ?_
                          rintro e w5 ⟨rfl, hb⟩
                          rw [HS4.out]
                          have n_ := Aside0.mk (below_then HB.out HB.out.size hb)
                          clear HB hb
                          have HB := n_
                          clear n_
                          have HE := Aside0.mk (fun e w' ho => HEP.out i e w' (by rw [HI.out.2.2, HST.out, HOI.out, HV.out]; rfl) ho)
                          go_wp2_with fail
                          -- 'return fault(i, ..)'
                          refine (vfault_calls _ _ _).mono ?_
                          rintro e w9 ⟨b, hbl, rfl, hf, hb⟩
                          have hfin := HE.out _ _ ⟨b, Nat.le_trans HB.out.size hbl, rfl, hf, below_then HB.out HB.out.size hb⟩
                          clear hf hb hbl
                          go_wp2
                          try go_ret
                          exact hfin
                      · have e3 : (p.f3 == 0) = false := by simpa using t3
                        have HV := Aside0.mk (show predOk a p = false by rw [HPO.out, e1, e2, e3]; rfl)
                        clear t1 t2 t3
                        have HE := Aside0.mk (fun e w' ho => HEP.out i e w' (by rw [HI.out.2.2, HST.out, HOI.out, HV.out]; rfl) ho)
                        go_wp2_with fail
                        -- 'return fault(i, ..)'
                        refine (vfault_calls _ _ _).mono ?_
                        rintro e w9 ⟨b, hbl, rfl, hf, hb⟩
                        have hfin := HE.out _ _ ⟨b, Nat.le_trans HB.out.size hbl, rfl, hf, below_then HB.out HB.out.size hb⟩
                        clear hf hb hbl
                        go_wp2
                        try go_ret
                        exact hfin
                    · have e2 : (p.f2 == 0) = false := by simpa using t2
                      have HV := Aside0.mk (show predOk a p = false by rw [HPO.out, e1, e2]; rfl)
                      clear t1 t2
                      have HE := Aside0.mk (fun e w' ho => HEP.out i e w' (by rw [HI.out.2.2, HST.out, HOI.out, HV.out]; rfl) ho)
                      go_wp2_with fail
                      -- 'return fault(i, ..)'
                      refine (vfault_calls _ _ _).mono ?_
                      rintro e w9 ⟨b, hbl, rfl, hf, hb⟩
                      have hfin := HE.out _ _ ⟨b, Nat.le_trans HB.out.size hbl, rfl, hf, below_then HB.out HB.out.size hb⟩
                      clear hf hb hbl
                      go_wp2
                      try go_ret
                      exact hfin
                  · have e1 : (a.f1 == 2) = false := by simpa using t1
                    have HV := Aside0.mk (show predOk a p = false by rw [HPO.out, e1]; rfl)
                    clear t1
                    have HE := Aside0.mk (fun e w' ho => HEP.out i e w' (by rw [HI.out.2.2, HST.out, HOI.out, HV.out]; rfl) ho)
                    go_wp2_with fail
                    -- 'return fault(i, ..)'
                    refine (vfault_calls _ _ _).mono ?_
                    rintro e w9 ⟨b, hbl, rfl, hf, hb⟩
                    have hfin := HE.out _ _ ⟨b, Nat.le_trans HB.out.size hbl, rfl, hf, below_then HB.out HB.out.size hb⟩
                    clear hf hb hbl
                    go_wp2
                    try go_ret
                    exact hfin
              · have o3 : (p.f1 == 3) = false := by simpa using hf3
                by_cases hf2 : p.f1 = 2
                · have o2 : (p.f1 == 2) = true := by simpa using hf2
                  have HPO := Aside0.mk (show predOk a p = ((a.f1 == 2) && (p.f2 == 0) && (p.f3 == 0) && strOk p.f4) by unfold predOk; rw [if_neg hf1, if_pos (Or.inl hf2)])
                  clear hf1 hf3 hf2
                  by_cases t1 : a.f1 = 2
                  · have e1 : (a.f1 == 2) = true := by simpa using t1
                    by_cases t2 : p.f2 = 0
                    · have e2 : (p.f2 == 0) = true := by simpa using t2
                      by_cases t3 : p.f3 = 0
                      · have e3 : (p.f3 == 0) = true := by simpa using t3
                        cases t4 : strOk p.f4 with
                        | true =>
                          have HV := Aside0.mk (show predOk a p = true by rw [HPO.out, e1, e2, e3, t4]; rfl)
                          have HS4 := Aside0.mk t4
                          clear t1 t2 t3 t4
                          go_wp2_with fail
                          refine (str_calls p.f4 _).mono ?_
                          rintro e w5 ⟨rfl, hb⟩
                          rw [HS4.out]
                          have n_ := Aside0.mk (below_then HB.out HB.out.size hb)
                          clear HB hb
                          have HB := n_
                          clear n_
                          go_wp2_with fail
                          go_roundg (gk - 1)
                          case measure => have := HI.out; omega
                          case rel => exact ⟨i + 1, ⟨by omega, by have := HI.out; omega, by rw [HI.out.2.2, HST.out, HOI.out, HV.out]; rfl⟩, rfl, HB⟩
                        | false =>
                          have HV := Aside0.mk (show predOk a p = false by rw [HPO.out, e1, e2, e3, t4]; rfl)
                          have HS4 := Aside0.mk t4
                          clear t1 t2 t3 t4
                          go_wp2_with fail
                          refine (str_calls p.f4 _).mono ?_
                          rintro e w5 ⟨rfl, hb⟩
                          rw [HS4.out]
                          have n_ := Aside0.mk (below_then HB.out HB.out.size hb)
                          clear HB hb
                          have HB := n_
                          clear n_
                          have HE := Aside0.mk (fun e w' ho => HEP.out i e w' (by rw [HI.out.2.2, HST.out, HOI.out, HV.out]; rfl) ho)
                          go_wp2_with fail
                          -- 'return fault(i, ..)'
                          refine (vfault_calls _ _ _).mono ?_
                          rintro e w9 ⟨b, hbl, rfl, hf, hb⟩
                          have hfin := HE.out _ _ ⟨b, Nat.le_trans HB.out.size hbl, rfl, hf, below_then HB.out HB.out.size hb⟩
                          clear hf hb hbl
                          go_wp2
                          try go_ret
                          exact hfin
                      · have e3 : (p.f3 == 0) = false := by simpa using t3
                        have HV := Aside0.mk (show predOk a p = false by rw [HPO.out, e1, e2, e3]; rfl)
                        clear t1 t2 t3
                        have HE := Aside0.mk (fun e w' ho => HEP.out i e w' (by rw [HI.out.2.2, HST.out, HOI.out, HV.out]; rfl) ho)
                        go_wp2_with fail
                        -- 'return fault(i, ..)'
                        refine (vfault_calls _ _ _).mono ?_
                        rintro e w9 ⟨b, hbl, rfl, hf, hb⟩
                        have hfin := HE.out _ _ ⟨b, Nat.le_trans HB.out.size hbl, rfl, hf, below_then HB.out HB.out.size hb⟩
                        clear hf hb hbl
                        go_wp2
                        try go_ret
                        exact hfin
                    · have e2 : (p.f2 == 0) = false := by simpa using t2
                      have HV := Aside0.mk (show predOk a p = false by rw [HPO.out, e1, e2]; rfl)
                      clear t1 t2
                      have HE := Aside0.mk (fun e w' ho => HEP.out i e w' (by rw [HI.out.2.2, HST.out, HOI.out, HV.out]; rfl) ho)
                      go_wp2_with fail
                      -- 'return fault(i, ..)'
                      refine (vfault_calls _ _ _).mono ?_
                      rintro e w9 ⟨b, hbl, rfl, hf, hb⟩
                      have hfin := HE.out _ _ ⟨b, Nat.le_trans HB.out.size hbl, rfl, hf, below_then HB.out HB.out.size hb⟩
                      clear hf hb hbl
                      go_wp2
                      try go_ret
                      exact hfin
                  · have e1 : (a.f1 == 2) = false := by simpa using t1
                    have HV := Aside0.mk (show predOk a p = false by rw [HPO.out, e1]; rfl)
                    clear t1
                    have HE := Aside0.mk (fun e w' ho => HEP.out i e w' (by rw [HI.out.2.2, HST.out, HOI.out, HV.out]; rfl) ho)
                    go_wp2_with fail
                    -- 'return fault(i, ..)'
                    refine (vfault_calls _ _ _).mono ?_
                    rintro e w9 ⟨b, hbl, rfl, hf, hb⟩
                    have hfin := HE.out _ _ ⟨b, Nat.le_trans HB.out.size hbl, rfl, hf, below_then HB.out HB.out.size hb⟩
                    clear hf hb hbl
                    go_wp2
                    try go_ret
                    exact hfin
                · have o2 : (p.f1 == 2) = false := by simpa using hf2
                  have HV := Aside0.mk (show predOk a p = false by unfold predOk; rw [if_neg hf1, if_neg (by rintro (h | h); exact hf2 h; exact hf3 h.1)])
                  clear hf1 hf3 hf2
                  have HE := Aside0.mk (fun e w' ho => HEP.out i e w' (by rw [HI.out.2.2, HST.out, HOI.out, HV.out]; rfl) ho)
                  go_wp2_with fail
                  -- 'return fault(i, ..)'
                  refine (vfault_calls _ _ _).mono ?_
                  rintro e w9 ⟨b, hbl, rfl, hf, hb⟩
                  have hfin := HE.out _ _ ⟨b, Nat.le_trans HB.out.size hbl, rfl, hf, below_then HB.out HB.out.size hb⟩
                  clear hf hb hbl
                  go_wp2
                  try go_ret
                  exact hfin
      · have b1 : decide ((i : Int) < (m : Int)) = false := decide_eq_false (by omega)
        have b2 : decide (i < m) = false := decide_eq_false (by omega)
        have hfin := fun W => HOP.out (.returned .nilIface) W (by rw [HI.out.2.2, show m - i = 0 by omega]; rfl)
        have hfin2 := hfin _ ⟨rfl, HB.out⟩
        clear hfin
        go_wp2
        try go_ret
        exact hfin2
end Go.Proofs.YthaapijjjgkacaaDoor.Mine
end
section
/-
  filter.Read, walked. Conditions: the text at most 1000 bytes, the schema at most 100000 attributes.
-/
namespace Go.Proofs.YthaapijjjgkacaaDoor.Mine
open Go.RowKit Go.Proofs.YthaapijjjgkacaaDoorW.PrintWords Go.Proofs.YthaapijjjgkacaaDoorW.PrintLast Go.Proofs.YthaapijjjgkacaaDoorW.PrintMore
open Go.Proofs.YthaapijjjgkacaaDoor.PFilterReads
/-- The filter of a text by a schema; or the code. -/
def readR (S : List S95) (s : ByteArray) : List Pr ⊕ Int :=
  match parseR s with
  | .inr z => .inr z.2
  | .inl xs => match filterBad S (xs.map toP) with
    | none => .inl xs
    | some _ => .inr 3
def ReadOk (w : World) (xs : List Pr) (e : Ending) (w' : World) : Prop := ∃ v, e = .returned (.tuple #[v, .nilIface]) ∧ Kd.R k46 46 w' w.heap.size (fun _ => True) v (xs.map toP) ∧ Below w.heap.size w w'
def ReadNo (w : World) (c : Int) (e : Ending) (w' : World) : Prop := ∃ b n, e = .returned (.tuple #[.slice none 0 0, .iface 67 (.pointer (some ⟨b, 0, none⟩))]) ∧ ErrIs w' c n (.iface 67 (.pointer (some ⟨b, 0, none⟩))) ∧ Below w.heap.size w w'
def ReadPost (w : World) (S : List S95) (s : ByteArray) (e : Ending) (w' : World) : Prop :=
  match readR S s with
  | .inl xs => ReadOk w xs e w'
  | .inr c => ReadNo w c e w'
theorem ReadPost.ok {w w' : World} {S : List S95} {s : ByteArray} {xs : List Pr} {e : Ending} (h : ReadPost w S s e w') (hr : readR S s = .inl xs) : ReadOk w xs e w' := by
  unfold ReadPost at h
  rw [hr] at h
  exact h
theorem ReadPost.no {w w' : World} {S : List S95} {s : ByteArray} {c : Int} {e : Ending} (h : ReadPost w S s e w') (hr : readR S s = .inr c) : ReadNo w c e w' := by
  unfold ReadPost at h
  rw [hr] at h
  exact h
theorem ReadPost.mk_ok {w w' : World} {S : List S95} {s : ByteArray} {xs : List Pr} {e : Ending} (hr : readR S s = .inl xs) (h : ReadOk w xs e w') : ReadPost w S s e w' := by
  unfold ReadPost
  rw [hr]
  exact h
theorem ReadPost.mk_no {w w' : World} {S : List S95} {s : ByteArray} {c : Int} {e : Ending} (hr : readR S s = .inr c) (h : ReadNo w c e w') : ReadPost w S s e w' := by
  unfold ReadPost
  rw [hr]
  exact h
theorem parseR_not3 {s : ByteArray} {z : Int × Int} (h : parseR s = .inr z) : (z.2 == 3) = false := by
  unfold parseR at h
  split at h
  · injection h with h
    subst h
    rfl
  · split at h
    · cases h
    · injection h with h
      subst h
      rfl
theorem FilterPost.bad {w w' : World} {S : List S95} {F : List S46} {e : Ending} {i : Nat} (h : FilterPost w S F e w') (hb : filterBad S F = some i) : ∃ b, w.heap.size ≤ b ∧ e = .returned (.iface 67 (.pointer (some ⟨b, 0, none⟩))) ∧ IsFault w' b ⟨#[118, 97, 108, 117, 101]⟩ (i : Int) 3 ∧ Below w.heap.size w w' := by
  unfold FilterPost at h
  rw [hb] at h
  exact h
theorem FilterPost.ok {w w' : World} {S : List S95} {F : List S46} {e : Ending} (h : FilterPost w S F e w') (hb : filterBad S F = none) : e = .returned .nilIface ∧ Below w.heap.size w w' := by
  unfold FilterPost at h
  rw [hb] at h
  exact h
set_option maxHeartbeats 4000000 in
set_option maxRecDepth 100000 in
theorem read_calls (A : Option Addr) (n c : Nat) (S : List S95) (s : ByteArray) (w : World) (hn : S.length = n) (hr : Kd.C k95 w A n S) (hl : n ≤ 100000) (hs : s.size ≤ 1000) :
    Calls Tryd.prog 23 #[.slice A n c, .string s] w (ReadPost w S s) := by
  have HRS := Aside0.mk hr
  have HN := Aside0.mk hn
  clear hr hn
  have HOK := Aside0.mk (fun xs e w' h ho => ReadPost.mk_ok (w := w) (w' := w') (S := S) (s := s) (xs := xs) (e := e) h ho)
  have HNO := Aside0.mk (fun c e w' h ho => ReadPost.mk_no (w := w) (w' := w') (S := S) (s := s) (c := c) (e := e) h ho)
  generalize ReadPost w S s = POST at HOK HNO ⊢
  go_enter Tryd.func23, Tryd.ntmps23
  go_wp2_with fail
  refine (parse_P s _ hs).mono ?_
  rintro e w1 hp
  cases hpr : parseR s with
  | inr z =>
    have h3 := parseR_not3 hpr
    obtain ⟨at_, cd⟩ := z
    simp only at h3
    obtain ⟨b, hbl, rfl, hf, hb1⟩ := hp.no hpr
    have HR := Aside0.mk (show readR S s = .inr cd by unfold readR; rw [hpr])
    have HF := Aside0.mk hf
    have HB := Aside0.mk hb1
    clear hp hpr hf hb1 hbl
    go_wp2_with fail
    refine (is_err cd 3 1 _ _ (IsFault.errIs HF.out)).mono ?_
    rintro e w2 ⟨rfl, rfl⟩
    rw [h3]
    have hfin := HNO.out cd _ _ HR.out ⟨b, 1, rfl, IsFault.errIs HF.out, HB.out⟩
    go_wp2
    first
      | exact hfin
      | (go_ret2
         exact hfin)
  | inl xs =>
    obtain ⟨v1, rfl, ho, hb1⟩ := hp.ok hpr
    obtain ⟨A1, c1, rfl, hc1, hC1⟩ := Kd.R_reads ho
    have lx : (xs.map toP).length ≤ 301 := by simpa using parse_count hpr
    have HB := Aside0.mk hb1
    have HO := Aside0.mk ho
    have HC1 := Aside0.mk hC1
    have HPR := Aside0.mk hpr
    clear hp hpr ho hb1 hC1
    obtain ⟨n1, hn⟩ : ∃ n, (xs.map toP).length = n := ⟨_, rfl⟩
    have HN1 := Aside0.mk hn
    rw [hn] at HC1 HO hc1 lx ⊢
    clear hn
    go_wp2_with fail
    refine (filter_calls A A1 n n1 c c1 S (xs.map toP) _ HN.out HN1.out (Kd.C_below HRS.out HB.out) HC1.out hl (by omega) hc1).mono ?_
    rintro e w2 hq
    cases hfb : filterBad S (xs.map toP) with
    | some i =>
      obtain ⟨b, hbl, rfl, hf, hb2⟩ := hq.bad hfb
      have HR := Aside0.mk (show readR S s = .inr 3 by unfold readR; rw [HPR.out]; simp only [hfb])
      have HF := Aside0.mk hf
      have n_ := Aside0.mk (below_then HB.out HB.out.size hb2)
      clear HB hq hfb hf hb2 hbl HO HC1
      have HB := n_
      clear n_
      go_wp2_with fail
      refine (is_err 3 3 1 _ _ (IsFault.errIs HF.out)).mono ?_
      rintro e w3 ⟨rfl, rfl⟩
      have hnew := heap_alloc_new w2 (.cells #[.string sFilter, .int .i64 0, .iface 67 (.pointer (some ⟨b, 0, none⟩))] 71 (0, 0))
      have hfin := HNO.out 3 _ _ HR.out ⟨w2.heap.size, 2, rfl, ⟨w2.heap.size, sFilter, 0, _, rfl, hnew, IsFault.errIs (IsFault.keep HF.out (below_alloc (Below.refl _ _) _))⟩, below_alloc HB.out _⟩
      clear hnew
      go_wp2
      first
        | exact hfin
        | (go_ret2
           exact hfin)
    | none =>
      obtain ⟨rfl, hb2⟩ := hq.ok hfb
      have HR := Aside0.mk (show readR S s = .inl xs by unfold readR; rw [HPR.out]; simp only [hfb])
      have o_ := Aside0.mk (Kd.R_below HO.out hb2)
      have n_ := Aside0.mk (below_then HB.out HB.out.size hb2)
      clear HB hq hfb hb2 HO HC1
      have HB := n_
      have HO := o_
      clear n_ o_
      go_wp2_with fail
      refine (is_nil 3 _).mono ?_
      rintro e w3 ⟨rfl, rfl⟩
      have hfin := HOK.out xs _ _ HR.out ⟨_, rfl, HO.out, HB.out⟩
      go_wp2
      first
        | exact hfin
        | (go_ret2
           exact hfin)
end Go.Proofs.YthaapijjjgkacaaDoor.Mine
end
section
/-
  The reference's value checks, walked: Find, Str. Conditions: the slices at most 100000 long, texts at most 10^9 bytes.
-/
namespace Go.Proofs.YthaapijjjgkacaaDoor.Mine
open Go.RowKit Go.Proofs.YthaapijjjgkacaaDoorW.PrintWords Go.Proofs.YthaapijjjgkacaaDoorW.PrintLast Go.Proofs.YthaapijjjgkacaaDoorW.PrintMore
open Go.Proofs.YthaapijjjgkacaaDoor.PFilterReads
def findR (nm : ByteArray) (L : List S96) : Int := idxB (fun x => x.f0.toList == nm.toList) L
set_option maxHeartbeats 1000000 in
set_option maxRecDepth 100000 in
theorem rfind_calls (A : Option Addr) (n c : Nat) (L : List S96) (nm : ByteArray) (w : World) (hn : L.length = n) (hr : Kd.C k96 w A n L) (hl : n ≤ 100000) :
    Calls Tryd.prog 46 #[.slice A n c, .string nm] w fun e w' => e = .returned (.int .i64 (findR nm L)) ∧ Below w.heap.size w w' := by
  have HR := Aside0.mk hr
  have HN := Aside0.mk hn
  have HF := Aside0.mk (show findR nm L = idxFrom (fun x => x.f0.toList == nm.toList) L 0 from rfl)
  generalize findR nm L = z at HF ⊢
  clear hr hn
  go_enter Tryd.func46, Tryd.ntmps46
  go_wp2_with fail
  go_loopg [5, 6, 9] (n + 1) (fun k v5 v6 v9 W => ∃ i : Nat, Aside0 (i ≤ n ∧ k + i = n + 1 ∧ z = idxFrom (fun x : S96 => x.f0.toList == nm.toList) (L.drop i) i) ∧ v9 = .int .i64 (i : Int) ∧ Aside0 (Below w.heap.size w W))
  case atStart => exact ⟨0, ⟨by omega, by omega, HF.out⟩, rfl, ⟨Below.refl _ _⟩⟩
  case round =>
    obtain ⟨i, HM, rfl, HB⟩ := hrel
    by_cases hi : i < n
    · have b1 : decide ((i : Int) < (n : Int)) = true := decide_eq_true (by omega)
      have b2 : decide (i < n) = true := decide_eq_true (by omega)
      have p1 : (0 : Int) ≤ (i : Int) := by omega
      have p2 : (i : Int) < (n : Int) := by omega
      obtain ⟨ad, e, h0, h1, h2, h3⟩ := at_T96 HR.out i p1 p2
      cases e
      rw [Int.toNat_natCast] at h0 h1 h2 h3
      have hrd : rd_T96 L (i : Int) = L.getD i z96 := rfl
      rw [hrd] at h0 h1 h2 h3
      have hdr : L.drop i = L.getD i z96 :: L.drop (i + 1) := by
        rw [List.drop_eq_getElem_cons (by have := HN.out; omega), List.getD_eq_getElem?_getD, List.getElem?_eq_getElem (by have := HN.out; omega)]
        rfl
      have HD := Aside0.mk hdr
      clear hrd hdr
      generalize L.getD i z96 = x at h0 h1 h2 h3 HD
      replace h0 := (HB.out.cell (World.block_lt_of_cell? w _ h0)).trans h0
      replace h1 := (HB.out.cell (World.block_lt_of_cell? w _ h1)).trans h1
      replace h2 := (HB.out.cell (World.block_lt_of_cell? w _ h2)).trans h2
      replace h3 := (HB.out.cell (World.block_lt_of_cell? w _ h3)).trans h3
      cases hq : (x.f0.toList == nm.toList) with
      | true =>
        have HQ := Aside0.mk (show z = (i : Int) by rw [HM.out.2.2, HD.out]; unfold idxFrom; rw [hq]; rfl)
        go_wp2
        go_ret
        exact ⟨by rw [HQ.out]; rfl, below_alloc HB.out _⟩
      | false =>
        have HQ := Aside0.mk (show z = idxFrom (fun x : S96 => x.f0.toList == nm.toList) (L.drop (i + 1)) (i + 1) by rw [HM.out.2.2, HD.out]; show (if (x.f0.toList == nm.toList) = true then (i : Int) else _) = _; rw [hq]; rfl)
        go_wp2_with fail
        go_roundg (gk - 1)
        case measure => have := HM.out; omega
        case rel => exact ⟨i + 1, ⟨by omega, by have := HM.out; omega, HQ.out⟩, rfl, ⟨below_alloc HB.out _⟩⟩
    · have b1 : decide ((i : Int) < (n : Int)) = false := decide_eq_false (by omega)
      have b2 : decide (i < n) = false := decide_eq_false (by omega)
      have hd : L.drop i = [] := List.drop_eq_nil_iff.2 (by have := HN.out; omega)
      have HE := Aside0.mk (show z = -1 by rw [HM.out.2.2, hd]; rfl)
      clear hd hi
      go_wp2
      go_ret
      exact ⟨by rw [HE.out]; rfl, HB.out⟩
set_option maxHeartbeats 1000000 in
set_option maxRecDepth 100000 in
theorem rstrOk_calls (s : ByteArray) (w : World) (hs : s.size ≤ 1000000000) : Calls Tryd.prog 75 #[.string s] w fun e w' => e = .returned (.bool (strOk s)) ∧ w = w' := by
  have HS := Aside0.mk (show strOk s = (decide (s.size ≤ 40) && (bytes s).all isChar) from rfl)
  generalize strOk s = b at HS ⊢
  go_enter Tryd.func75, Tryd.ntmps75
  go_wp2_with fail
  go_loopg [3] (s.size + 1) (fun k v3 W => ∃ i : Nat, Aside0 (i ≤ s.size ∧ k + i = s.size + 1 ∧ (bytes s).all isChar = (dropB s i).all isChar) ∧ v3 = .int .i64 (i : Int) ∧ W = w)
  case atStart => exact ⟨0, ⟨by omega, by omega, rfl⟩, rfl, rfl⟩
  case round =>
    obtain ⟨i, HM, rfl, rfl⟩ := hrel
    by_cases hi : i < s.size
    · have b1 : decide ((i : Int) < (s.size : Int)) = true := decide_eq_true (by omega)
      have b2 : decide (i < s.size) = true := decide_eq_true (by omega)
      have p1 : (0 : Int) ≤ (i : Int) := by omega
      have p2 : (i : Int) < (s.size : Int) := by omega
      obtain ⟨c, hc⟩ : ∃ c, s[i]'hi = c := ⟨_, rfl⟩
      have hdc := dropB_cons hi
      rw [hc] at hdc
      have HD := Aside0.mk hdc
      have hx : ∀ h : i < s.size, s[i]'h = c := fun _ => hc
      clear hc hdc
      have hch : isChar c = (!decide ((c.toNat : Int) < 32) && !decide (126 < (c.toNat : Int))) := by
        unfold isChar
        rw [Bool.eq_iff_iff]
        simp only [decide_eq_true_eq, Bool.and_eq_true, Bool.not_eq_true', decide_eq_false_iff_not, UInt8.le_iff_toNat_le]
        have e1 : (32 : UInt8).toNat = 32 := rfl
        have e2 : (126 : UInt8).toNat = 126 := rfl
        rw [e1, e2]
        omega
      by_cases g0 : (c.toNat : Int) < 32
      · have g1 := decide_eq_true g0
        have HQ := Aside0.mk (show b = false by rw [HS.out, HM.out.2.2, HD.out, List.all_cons, hch, g1]; simp)
        clear hch g0
        go_wp2
        go_ret
        exact ⟨by rw [HQ.out]; rfl, rfl⟩
      · have g1 := decide_eq_false g0
        by_cases g2 : 126 < (c.toNat : Int)
        · have g3 := decide_eq_true g2
          have HQ := Aside0.mk (show b = false by rw [HS.out, HM.out.2.2, HD.out, List.all_cons, hch, g3]; simp)
          clear hch g0 g2
          go_wp2
          go_ret
          exact ⟨by rw [HQ.out]; rfl, rfl⟩
        · have g3 := decide_eq_false g2
          have HQ := Aside0.mk (show (bytes s).all isChar = (dropB s (i + 1)).all isChar by rw [HM.out.2.2, HD.out, List.all_cons, hch, g1, g3]; simp)
          clear hch g0 g2
          go_wp2_with fail
          go_roundg (gk - 1)
          case measure => have := HM.out; omega
          case rel => exact ⟨i + 1, ⟨by omega, by have := HM.out; omega, HQ.out⟩, rfl, rfl⟩
    · have b1 : decide ((i : Int) < (s.size : Int)) = false := decide_eq_false (by omega)
      have b2 : decide (i < s.size) = false := decide_eq_false (by omega)
      have HQ := Aside0.mk (show b = decide (s.size ≤ 40) by rw [HS.out, HM.out.2.2, dropB_nil (by omega)]; simp)
      by_cases h40 : s.size ≤ 40
      · have q1 : decide ((s.size : Int) ≤ 40) = true := decide_eq_true (by omega)
        rw [decide_eq_true h40] at HQ
        clear hi h40
        go_wp2
        go_ret
        exact ⟨by rw [HQ.out]; rfl, rfl⟩
      · have q1 : decide ((s.size : Int) ≤ 40) = false := decide_eq_false (by omega)
        rw [decide_eq_false h40] at HQ
        clear hi h40
        go_wp2
        go_ret
        exact ⟨by rw [HQ.out]; rfl, rfl⟩
end Go.Proofs.YthaapijjjgkacaaDoor.Mine
end
