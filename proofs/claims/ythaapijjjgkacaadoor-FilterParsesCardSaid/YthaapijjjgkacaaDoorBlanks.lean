/-
  wigwaglaw06.FilterBlanks, walked: true at every input. Condition: errors.errorType holds what its initialiser lays.
-/
import Derived.Test.YthaapijjjgkacaaDoorJoins
import Derived.Test.YthaapijjjgkacaaDoorPlain5
import Derived.Laws.RangeString
import Derived.Laws.RangeAny
import Derived.Laws.Concat
import Derived.Deep.RegionWith
import Derived.Deep.RegionHeld3
set_option linter.unusedSimpArgs false
set_option linter.unusedVariables false
namespace Go.Proofs.YthaapijjjgkacaaDoor.Mine
open Go.RowKit Go.Proofs.YthaapijjjgkacaaDoorW.PrintWords Go.Proofs.YthaapijjjgkacaaDoorW.PrintLast Go.Proofs.YthaapijjjgkacaaDoorW.PrintMore
open Go.Proofs.YthaapijjjgkacaaDoor.PFilterReads

theorem ba_ext {a b : ByteArray} (h : a.data.toList = b.data.toList) : a = b := by
  rcases a with ⟨⟨l⟩⟩
  rcases b with ⟨⟨l'⟩⟩
  simp at h
  rw [h]
def spB (n : Nat) : ByteArray := ⟨(List.replicate n (32 : UInt8)).toArray⟩
theorem spB_size (n : Nat) : (spB n).size = n := by simp [spB, ByteArray.size]
theorem spB_succ (n : Nat) : spB n ++ ⟨#[32]⟩ = spB (n + 1) := by
  have h : (spB n ++ ⟨#[32]⟩ : ByteArray).data.toList = (spB (n + 1)).data.toList := by simp [spB, List.replicate_succ']
  exact ba_ext h
/-- n bytes that are all 0. -/
def zB (n : Nat) : ByteArray := ⟨(List.replicate n (0 : UInt8)).toArray⟩
theorem zB_size (n : Nat) : (zB n).size = n := by simp [zB, ByteArray.size]
theorem zB_str (n : Nat) : strOfNums (List.replicate n 0) = zB n := by
  have := Lib.Lz.strOfNums_map (List.replicate n (0 : UInt8))
  simpa [zB] using this
theorem zB_decode (n i : Nat) (h : i < n) : Utf8.decode (zB n) i = (0, 1) := by
  have hi : i < (zB n).size := by rw [zB_size]; exact h
  have h0 : (zB n)[i]'hi = 0 := by
    show (zB n).data[i] = 0
    simp [zB]
  rw [decode_ascii (zB n) i hi (by rw [h0]; decide), h0]
  rfl

theorem spB_bytes (m : Nat) : bytes (spB m) = List.replicate m 32 := by simp [bytes, spB]
theorem blanks_size (s : ByteArray) (m : Nat) : (spB m ++ s ++ spB m).size = m + s.size + m := by
  rw [ByteArray.size_append, ByteArray.size_append, spB_size]
theorem blanks_ok {s : ByteArray} {xs : List Pr} (m : Nat) (h : parseR s = .inl xs) (hs : s.size ≤ 200) (hm : m ≤ 20) : parseR (spB m ++ s ++ spB m) = .inl xs := by
  rw [parseR_PS (by rw [blanks_size]; omega), bytes_append, bytes_append, spB_bytes, (PS_blanks _ _ _ _).mpr (parseR_ok h).2]
theorem blanks_no {s : ByteArray} {z : Int × Int} (m : Nat) (h : parseR s = .inr z) (hs : s.size ≤ 200) (hm : m ≤ 20) : ∃ z', parseR (spB m ++ s ++ spB m) = .inr z' := by
  rw [parseR_PS (by rw [blanks_size]; omega), bytes_append, bytes_append, spB_bytes]
  cases hp : PS (List.replicate m 32 ++ bytes s ++ List.replicate m 32) [] with
  | inl xs =>
    rw [parseR_PS (by omega), (PS_blanks _ _ _ _).mp hp] at h
    cases h
  | inr n => exact ⟨_, rfl⟩
theorem blanks_byte {s : ByteArray} {xs : List Pr} (c : UInt8) (hc : c ≠ 32) (h : parseR s = .inl xs) (hs : s.size ≤ 200) : ∃ n, parseR (s ++ ⟨#[32]⟩ ++ ⟨#[c]⟩) = .inr (n, 2) := by
  have hz : (s ++ ⟨#[32]⟩ ++ ⟨#[c]⟩).size = s.size + 1 + 1 := by rw [ByteArray.size_append, ByteArray.size_append]; rfl
  obtain ⟨n, e⟩ := PS_byte (bytes s) c hc [] xs (parseR_ok h).2
  rw [parseR_PS (by rw [hz]; omega), bytes_append, bytes_append, List.append_assoc]
  have e2 : bytes (⟨#[32]⟩ : ByteArray) ++ bytes (⟨#[c]⟩ : ByteArray) = [32, c] := rfl
  rw [e2, e]
  exact ⟨_, rfl⟩

theorem told_R (l : List S46) (A : Option Addr) (n c : Nat) (w : World) (hn : l.length = n) (hr : Kd.C k46 w A n l) (hc : n ≤ c) (hl : n ≤ 1000) :
    Calls Tryd.prog 15 #[.slice A n c] w fun e w' => ∃ A' c', e = .returned (.slice A' n c') ∧ n ≤ c' ∧ Kd.C k77 w' A' n (l.map toQ) ∧ Below w.heap.size w w' := by
  refine (told_P A n c l w hn hr hc hl).mono ?_
  rintro e w' ⟨v, rfl, ho, hb⟩
  obtain ⟨A', c', rfl, hc', hC'⟩ := Kd.R_reads ho
  have h2 : (l.map toQ).length = n := by rw [List.length_map]; exact hn
  rw [h2] at hc' hC' ⊢
  exact ⟨A', c', rfl, hc', hC', hb⟩
theorem conv1 (w : World) (c : Int) : (convert 24 9 (.slice (some ⟨w.heap.size, 0, none⟩) 1 1)).run Tryd.prog (w.alloc (.cells #[.int .u8 c] 5)) = .ok (.string ⟨#[UInt8.ofNat c.toNat]⟩) (w.alloc (.cells #[.int .u8 c] 5)) := by
  have e : (⟨#[UInt8.ofNat c.toNat]⟩ : ByteArray) = strOfNums [c] := rfl
  rw [e]
  refine run_convert_bytes_arg _ 24 5 Tryd.underlying24 Tryd.underlying5 w.heap.size 0 1 1 [c] rfl (fun i hi => ?_) 9 Tryd.underlying9
  obtain rfl : i = 0 := by omega
  go_simp
  try rfl
set_option maxHeartbeats 64000000 in
set_option maxRecDepth 100000 in
theorem blanks_r (s0 : ByteArray) (m : Nat) (c : Int) (w : World) (hg : ErrTy w) (hs0 : s0.size ≤ 9223372036854775807) (hc : 0 ≤ c ∧ c < 256) (hm : m ≤ 20) (z : Int × Int) (hr0 : parseR (cutB s0 200) = .inr z) :
    Calls Tryd.prog 3 #[.string s0, .int .i64 (m : Int), .int .u8 c] w fun e w' => e = .returned (.bool true) ∧ Below w.heap.size w w' := by
  have HG := Aside0.mk hg
  have HB := Aside0.mk (Below.refl w.heap.size w)
  have HR0 := Aside0.mk hr0
  clear hg hr0
  go_enter Tryd.func3, Tryd.ntmps3
  go_wp2_with fail
  refine (cut_P s0 200 _ hs0 (by omega)).mono ?_
  rintro e w' ⟨rfl, rfl⟩
  have hle := cutB_le s0 200
  generalize cutB s0 200 = s at hle HR0 ⊢
  go_wp2_with ((with_reducible refine gate_dst (N := 25) rfl ?_); go_loud (refine Kd.R_make (Kd.int .u8) (w0 := w) w.heap.size 5 rfl rfl 24 (.tmp 24) (.tmp 24) rfl (m : Int) rfl rfl Tryd.underlying24 (.int .u8 0) 1 info5 rfl (by decide) (by decide) (0 : Int) (ok := fun _ => True) (okp := fun _ => True) ?zz (fun _ _ => trivial) trivial (by omega) ?zl HB.out HB.out.size ?_; (case zz => exact rfl); (case zl => simp; omega); intro v1 w1 ho hb hg1 hat; rw [Int.toNat_natCast] at ho; have HO := Aside0.mk ho; have n_ := Aside0.mk hb; have hcv := own_string (P := Tryd.prog) Tryd.underlying24 Tryd.underlying5 Tryd.underlying9 (Kd.own_of_R ho); rw [zB_str] at hcv; clear HB ho hb hg1 hat; have HB := n_; clear n_))
  go_loopg [8] (m + 1) (fun k v8 wr => ∃ pos : Nat, Aside0 (pos + k = m + 1 ∧ 0 < k) ∧ v8 = .string (spB pos) ∧ wr = w1.iter (zB m) pos)
  case atStart => exact ⟨0, ⟨by omega, by omega⟩, rfl, rfl⟩
  case round =>
    obtain ⟨pos, HA, rfl, rfl⟩ := hrel
    by_cases hp : pos < m
    · have hsp : (spB pos).size ≤ 20 := by rw [spB_size]; omega
      have hnx : ∀ ty, (Instr.next (.pointer (some ⟨w1.heap.size, 0, none⟩)) true ty).run Tryd.prog (w1.iter (zB m) pos) = .ok (.tuple #[.bool true, .int .i64 pos, .int .i32 0]) (w1.iter (zB m) (pos + 1)) := fun ty => by
        rw [run_next_any w1 (zB m) pos ty (by rw [zB_size]; exact hp), zB_decode m pos hp]
        rfl
      go_wp2
      go_roundg (gk - 1)
      case measure => have := HA.out; omega
      case rel => exact ⟨pos + 1, ⟨by have := HA.out; omega, by have := HA.out; omega⟩, by rw [← spB_succ], rfl⟩
    · have hnx : ∀ ty, (Instr.next (.pointer (some ⟨w1.heap.size, 0, none⟩)) true ty).run Tryd.prog (w1.iter (zB m) pos) = _ := fun ty => run_next_end w1 (zB m) pos ty (by rw [zB_size]; exact hp)
      have hpm := HA.out
      obtain rfl : pos = m := by omega
      clear hpm
      go_wp2_with fail
      have n_ := Aside0.mk (HB.out.alloc HB.out.size (.stringIter (zB pos) pos))
      clear HB hnx
      have HB := n_
      clear n_
      change Aside0 (Below _ _ (w1.iter (zB pos) pos)) at HB
      generalize w1.iter (zB pos) pos = w2 at HB ⊢
      refine (parse_P s _ (by omega)).mono ?_
      rintro e w3 hp
      have hr := HR0.out
      clear HR0
      obtain ⟨at1, c1⟩ := z
      obtain ⟨bk1, hbl1, rfl, hf, hb1⟩ := hp.no hr
      obtain ⟨⟨at2, c2⟩, hr2⟩ := blanks_no pos hr hle hm
      have n_ := Aside0.mk (below_then HB.out HB.out.size hb1)
      clear HB hb1 hf hr hp
      have HB := n_
      clear n_
      have HR2 := Aside0.mk hr2
      clear hr2
      have hsp : (spB pos).size = pos := spB_size pos
      go_wp2_with fail
      refine (parse_P (spB pos ++ s ++ spB pos) _ (by rw [blanks_size]; omega)).mono ?_
      rintro e w4 hp
      obtain ⟨bk2, hbl2, rfl, hf, hb1⟩ := hp.no HR2.out
      have n_ := Aside0.mk (below_then HB.out HB.out.size hb1)
      clear HB hb1 hf hp
      have HB := n_
      clear n_
      go_wp2_with fail
      have HN : Aside0 (([] : List S46).length = 0) := ⟨rfl⟩
      have HN2 : Aside0 ((([] : List S46).map toQ).length = 0) := ⟨rfl⟩
      have HL : 0 ≤ 0 := Nat.le_refl _
      have HC1 : Kd.C k46 w4 none 0 [] := Kd.C_nil k46 w4
      have HC2 : Kd.C k46 w4 none 0 [] := HC1
      go_region_held3 (fun _ => True) (trivial) (first
        | (go_at_call 15; (with_reducible refine (told_R [] _ _ _ _ HN.out ?tc ?tl ?tm).mono ?_); (case tl => with_reducible first | assumption | omega); (case tm => omega); (case tc => with_reducible repeat (first | assumption | apply Kd.C_drew | refine Kd.C_below ?_ (by assumption))); rintro e wx ⟨Ax, cx, rfl, hcx, hCx, hbx⟩; have n_ := Aside0.mk (by with_reducible first | exact below_then HB.out HB.out.size hbx | exact below_then (below_drew1 HB.out) (below_drew1 HB.out).size hbx); clear HB; have HB := n_; clear n_)
        | (go_at_call 14; (with_reducible refine (same_P _ _ _ _ _ _ (List.map toQ []) _ HN2.out HN2.out ?s1 ?s3 ?s2 ?s4 ?s5).mono ?_); (case s3 => with_reducible assumption); (case s4 => with_reducible assumption); (case s5 => omega); (case s1 => with_reducible repeat (first | assumption | apply Kd.C_drew | refine Kd.C_below ?_ (by assumption))); (case s2 => with_reducible repeat (first | assumption | apply Kd.C_drew | refine Kd.C_below ?_ (by assumption))); rintro e wx ⟨rfl, hbx⟩; have n_ := Aside0.mk (below_then HB.out HB.out.size hbx); clear HB; have HB := n_; clear n_))
      go_wp2_with fail
      refine (awake_calls _ (ErrTy.below HG.out HB.out)).mono ?_
      rintro e w9 ⟨rfl, hb⟩
      have n_ := Aside0.mk (below_then HB.out HB.out.size hb)
      clear HB hb
      have HB := n_
      clear n_
      go_wp2
      go_ret
      exact ⟨rfl, HB.out⟩
set_option maxHeartbeats 64000000 in
set_option maxRecDepth 100000 in
theorem blanks_l (s0 : ByteArray) (m : Nat) (c : Int) (w : World) (hg : ErrTy w) (hs0 : s0.size ≤ 9223372036854775807) (hc : 0 ≤ c ∧ c < 256) (hm : m ≤ 20) (xs : List Pr) (hr0 : parseR (cutB s0 200) = .inl xs) :
    Calls Tryd.prog 3 #[.string s0, .int .i64 (m : Int), .int .u8 c] w fun e w' => e = .returned (.bool true) ∧ Below w.heap.size w w' := by
  have HG := Aside0.mk hg
  have HB := Aside0.mk (Below.refl w.heap.size w)
  have HR0 := Aside0.mk hr0
  clear hg hr0
  go_enter Tryd.func3, Tryd.ntmps3
  go_wp2_with fail
  refine (cut_P s0 200 _ hs0 (by omega)).mono ?_
  rintro e w' ⟨rfl, rfl⟩
  have hle := cutB_le s0 200
  generalize cutB s0 200 = s at hle HR0 ⊢
  go_wp2_with ((with_reducible refine gate_dst (N := 25) rfl ?_); go_loud (refine Kd.R_make (Kd.int .u8) (w0 := w) w.heap.size 5 rfl rfl 24 (.tmp 24) (.tmp 24) rfl (m : Int) rfl rfl Tryd.underlying24 (.int .u8 0) 1 info5 rfl (by decide) (by decide) (0 : Int) (ok := fun _ => True) (okp := fun _ => True) ?zz (fun _ _ => trivial) trivial (by omega) ?zl HB.out HB.out.size ?_; (case zz => exact rfl); (case zl => simp; omega); intro v1 w1 ho hb hg1 hat; rw [Int.toNat_natCast] at ho; have HO := Aside0.mk ho; have n_ := Aside0.mk hb; have hcv := own_string (P := Tryd.prog) Tryd.underlying24 Tryd.underlying5 Tryd.underlying9 (Kd.own_of_R ho); rw [zB_str] at hcv; clear HB ho hb hg1 hat; have HB := n_; clear n_))
  go_loopg [8] (m + 1) (fun k v8 wr => ∃ pos : Nat, Aside0 (pos + k = m + 1 ∧ 0 < k) ∧ v8 = .string (spB pos) ∧ wr = w1.iter (zB m) pos)
  case atStart => exact ⟨0, ⟨by omega, by omega⟩, rfl, rfl⟩
  case round =>
    obtain ⟨pos, HA, rfl, rfl⟩ := hrel
    by_cases hp : pos < m
    · have hsp : (spB pos).size ≤ 20 := by rw [spB_size]; omega
      have hnx : ∀ ty, (Instr.next (.pointer (some ⟨w1.heap.size, 0, none⟩)) true ty).run Tryd.prog (w1.iter (zB m) pos) = .ok (.tuple #[.bool true, .int .i64 pos, .int .i32 0]) (w1.iter (zB m) (pos + 1)) := fun ty => by
        rw [run_next_any w1 (zB m) pos ty (by rw [zB_size]; exact hp), zB_decode m pos hp]
        rfl
      go_wp2
      go_roundg (gk - 1)
      case measure => have := HA.out; omega
      case rel => exact ⟨pos + 1, ⟨by have := HA.out; omega, by have := HA.out; omega⟩, by rw [← spB_succ], rfl⟩
    · have hnx : ∀ ty, (Instr.next (.pointer (some ⟨w1.heap.size, 0, none⟩)) true ty).run Tryd.prog (w1.iter (zB m) pos) = _ := fun ty => run_next_end w1 (zB m) pos ty (by rw [zB_size]; exact hp)
      have hpm := HA.out
      obtain rfl : pos = m := by omega
      clear hpm
      go_wp2_with fail
      have n_ := Aside0.mk (HB.out.alloc HB.out.size (.stringIter (zB pos) pos))
      clear HB hnx
      have HB := n_
      clear n_
      change Aside0 (Below _ _ (w1.iter (zB pos) pos)) at HB
      generalize w1.iter (zB pos) pos = w2 at HB ⊢
      refine (parse_P s _ (by omega)).mono ?_
      rintro e w3 hp
      have hr := HR0.out
      clear HR0
      obtain ⟨v1, rfl, ho, hb1⟩ := hp.ok hr
      have HO1 := Aside0.mk (Kd.R_lower ho HB.out.size)
      have n_ := Aside0.mk (below_then HB.out HB.out.size hb1)
      have HR1 := Aside0.mk hr
      clear HB hb1 ho hr hp
      have HB := n_
      clear n_
      have hsp : (spB pos).size = pos := spB_size pos
      go_wp2_with fail
      refine (parse_P (spB pos ++ s ++ spB pos) _ (by rw [blanks_size]; omega)).mono ?_
      rintro e w4 hp
      obtain ⟨v2, rfl, ho2, hb2⟩ := hp.ok (blanks_ok pos HR1.out hle hm)
      have hO1 := Kd.R_below HO1.out hb2
      obtain ⟨A1, c1, rfl, hc1, hC1⟩ := Kd.R_reads hO1
      obtain ⟨A2, c2, rfl, hc2, hC2⟩ := Kd.R_reads ho2
      have lx : (xs.map toP).length ≤ 301 := by simpa using parse_count HR1.out
      have n_ := Aside0.mk (below_then HB.out HB.out.size hb2)
      clear HB hb2 hp ho2 hO1 HO1
      have HB := n_
      clear n_
      generalize hL : xs.map toP = L at lx hC1 hC2 hc1 hc2 ⊢
      clear hL
      generalize hn : L.length = n1 at lx hC1 hC2 hc1 hc2 ⊢
      have HN : Aside0 (L.length = n1) := ⟨hn⟩
      have HN2 : Aside0 ((L.map toQ).length = n1) := ⟨by rw [List.length_map]; exact hn⟩
      clear hn
      go_wp2_with fail
      go_region_held3 (fun _ => True) (trivial) (first
        | (go_at_call 15; (with_reducible refine (told_R L _ _ _ _ HN.out ?tc ?tl ?tm).mono ?_); (case tl => with_reducible first | assumption | omega); (case tm => omega); (case tc => with_reducible repeat (first | assumption | apply Kd.C_drew | refine Kd.C_below ?_ (by assumption))); rintro e wx ⟨Ax, cx, rfl, hcx, hCx, hbx⟩; have n_ := Aside0.mk (by with_reducible first | exact below_then HB.out HB.out.size hbx | exact below_then (below_drew1 HB.out) (below_drew1 HB.out).size hbx); clear HB; have HB := n_; clear n_)
        | (go_at_call 14; (with_reducible refine (same_P _ _ _ _ _ _ (List.map toQ L) _ HN2.out HN2.out ?s1 ?s3 ?s2 ?s4 ?s5).mono ?_); (case s3 => with_reducible assumption); (case s4 => with_reducible assumption); (case s5 => omega); (case s1 => with_reducible repeat (first | assumption | apply Kd.C_drew | refine Kd.C_below ?_ (by assumption))); (case s2 => with_reducible repeat (first | assumption | apply Kd.C_drew | refine Kd.C_below ?_ (by assumption))); rintro e wx ⟨rfl, hbx⟩; have n_ := Aside0.mk (below_then HB.out HB.out.size hbx); clear HB; have HB := n_; clear n_))
      by_cases hc32 : c = 32
      · subst hc32
        go_wp2_with fail
        refine (awake_calls _ (ErrTy.below HG.out HB.out)).mono ?_
        rintro e w9 ⟨rfl, hb⟩
        have n_ := Aside0.mk (below_then HB.out HB.out.size hb)
        clear HB hb
        have HB := n_
        clear n_
        go_wp2
        go_ret
        exact ⟨rfl, HB.out⟩
      · have q1 := decide_eq_false hc32
        have q2 : (c == 32) = false := by simpa using hc32
        have hcv1 := fun W => conv1 W c
        go_wp2_with fail
        obtain ⟨n3, hr3⟩ := blanks_byte (UInt8.ofNat c.toNat) (by intro e; apply hc32; have := congrArg UInt8.toNat e; simp at this; omega) HR1.out hle
        have hz : (s ++ ⟨#[32]⟩ ++ ⟨#[UInt8.ofNat c.toNat]⟩).size = s.size + 1 + 1 := by rw [ByteArray.size_append, ByteArray.size_append]; rfl
        have hz2 : (s ++ ⟨#[32]⟩ ++ ⟨#[UInt8.ofNat c.toNat]⟩).size ≤ 1000 := by rw [hz]; omega
        generalize (s ++ ⟨#[32]⟩ ++ ⟨#[UInt8.ofNat c.toNat]⟩ : ByteArray) = S at hr3 hz2 ⊢
        clear hz
        refine (parse_P S _ hz2).mono ?_
        rintro e w6 hp
        obtain ⟨b, hbl, rfl, hf, hb2⟩ := hp.no hr3
        have n_ := Aside0.mk (below_then (below_alloc HB.out (.cells #[.int .u8 c] 5)) (below_size (below_alloc HB.out _)) hb2)
        clear HB
        have HB := n_
        clear n_
        have HF := Aside0.mk hf
        clear hp hf hb2
        go_wp2_with fail
        refine (awake_calls _ (ErrTy.below HG.out HB.out)).mono ?_
        rintro e w7 ⟨rfl, hb3⟩
        have n_ := Aside0.mk (below_then HB.out HB.out.size hb3)
        clear HB
        have HB := n_
        clear n_
        have HF3 := Aside0.mk (IsFault.keep HF.out hb3)
        clear hb3
        go_wp2_with fail
        refine (is_err 2 2 1 _ _ (IsFault.errIs HF3.out)).mono ?_
        rintro e w8 ⟨rfl, rfl⟩
        go_wp2
        go_ret
        exact ⟨rfl, HB.out⟩
set_option maxHeartbeats 64000000 in
set_option maxRecDepth 100000 in
theorem blanks_calls (s0 : ByteArray) (n c : Int) (w : World) (hg : ErrTy w) (hs0 : s0.size ≤ 9223372036854775807) (hc : 0 ≤ c ∧ c < 256) : Calls Tryd.prog 3 #[.string s0, .int .i64 n, .int .u8 c] w fun e w' => e = .returned (.bool true) ∧ Below w.heap.size w w' := by
  have HG := Aside0.mk hg
  have HB := Aside0.mk (Below.refl w.heap.size w)
  clear hg
  by_cases hn0 : n < 0
  · go_enter Tryd.func3, Tryd.ntmps3
    go_wp2_with fail
    refine (cut_P s0 200 _ hs0 (by omega)).mono ?_
    rintro e w' ⟨rfl, rfl⟩
    go_wp2_with fail
    refine (awake_calls _ (ErrTy.below HG.out HB.out)).mono ?_
    rintro e w9 ⟨rfl, hb⟩
    have n_ := Aside0.mk (below_then HB.out HB.out.size hb)
    clear HB hb
    have HB := n_
    clear n_
    go_wp2
    go_ret
    exact ⟨rfl, HB.out⟩
  by_cases hn2 : 20 < n
  · go_enter Tryd.func3, Tryd.ntmps3
    go_wp2_with fail
    refine (cut_P s0 200 _ hs0 (by omega)).mono ?_
    rintro e w' ⟨rfl, rfl⟩
    go_wp2_with fail
    refine (awake_calls _ (ErrTy.below HG.out HB.out)).mono ?_
    rintro e w9 ⟨rfl, hb⟩
    have n_ := Aside0.mk (below_then HB.out HB.out.size hb)
    clear HB hb
    have HB := n_
    clear n_
    go_wp2
    go_ret
    exact ⟨rfl, HB.out⟩
  obtain ⟨m, rfl⟩ := Int.eq_ofNat_of_zero_le (by omega : 0 ≤ n)
  have hm : m ≤ 20 := by omega
  cases hr : parseR (cutB s0 200) with
  | inr z => exact blanks_r s0 m c w HG.out hs0 hc hm z hr
  | inl xs => exact blanks_l s0 m c w HG.out hs0 hc hm xs hr
end Go.Proofs.YthaapijjjgkacaaDoor.Mine
