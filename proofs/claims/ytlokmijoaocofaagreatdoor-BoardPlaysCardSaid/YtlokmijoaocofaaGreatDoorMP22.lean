/- Texts of one claim, one behind the other, made short by a program. -/
import Derived.Test.YtlokmijoaocofaaGreatDoorMP21
set_option linter.unusedSimpArgs false
set_option linter.unusedVariables false
section
namespace Go.Proofs.YtlokmijoaocofaaGreatDoor.Mine
open Go.RowKit YtlokmijoaocofaaGreatDoorW.PrintWords YtlokmijoaocofaaGreatDoorW.PrintLast YtlokmijoaocofaaGreatDoorW.PrintMore
open PBoardPlays
def toPQ (x : Pr) : S158 := toQ (toP x)
def RParseOk (w : World) (xs : List Pr) (e : Ending) (w' : World) : Prop := ∃ v, e = .returned (.tuple #[v, .int .i64 0, .int .i64 0]) ∧ Kd.R k158 158 w' w.heap.size (fun _ => True) v (xs.map toPQ) ∧ Below w.heap.size w w'
def RParseNo (w : World) (at_ c : Int) (e : Ending) (w' : World) : Prop := e = .returned (.tuple #[.slice none 0 0, .int .i64 c, .int .i64 at_]) ∧ Below w.heap.size w w'
def RParsePost (w : World) (s : ByteArray) (e : Ending) (w' : World) : Prop :=
 match parseR s with
 | .inl xs => RParseOk w xs e w'
 | .inr (at_, c) => RParseNo w at_ c e w'
theorem rp_ok {w w' : World} {s : ByteArray} {xs : List Pr} {e : Ending} (hs : s.size ≤ 300) (h : PS (bytes s) [] = .inl xs) (ho : RParseOk w xs e w') : RParsePost w s e w' := by
 unfold RParsePost
 rw [parseR_PS hs, h]
 exact ho
theorem rp_no {w w' : World} {s : ByteArray} {n : Nat} {e : Ending} (hs : s.size ≤ 300) (h : PS (bytes s) [] = .inr n) (ho : RParseNo w ((s.size - n : Nat) : Int) 2 e w') : RParsePost w s e w' := by
 unfold RParsePost
 rw [parseR_PS hs, h]
 exact ho
theorem heap_push2 {α : Type} (h : Array α) (a b : α) : ((h.push a).push b)[h.size]? = some a ∧ ((h.push a).push b)[h.size + 1]? = some b := by
 refine ⟨?_, ?_⟩
 ·
  simp only [Array.getElem?_push, Array.size_push]; rw [if_neg (by omega), if_pos trivial]
 ·
  simp only [Array.getElem?_push, Array.size_push]; rw [if_pos trivial]
theorem wordL_badn {l : List UInt8} {n : Nat} (h : (wordL l).2.bad = some n) : n = l.length := by
 cases l with
 | nil => simp [wordL] at h; simp [h]
 | cons c r =>
  cases hc : isL c with
  | true => simp [wordL, hc] at h
  | false => simp [wordL, hc] at h; simp [← h]
theorem andS_bad1 {M : List UInt8} {L : List UInt8} (hL : L = skip M) {n : Nat} (h : (wordS ⟨L, none⟩).2.bad = some n) : (andS ⟨L, none⟩).bad = some L.length := by
 have h1 : wordS ⟨L, none⟩ = wordL L := by show wordL (skip L) = _; rw [hL, skip_skip]
 have h2 := wordS_nil h
 unfold andS
 rw [if_neg (by rw [h2]; simp), stopS_bad h, h]
 rw [h1] at h
 rw [wordL_badn h]
theorem andS_bad2 {L : List UInt8} (h : (wordS ⟨L, none⟩).2.bad = none) (h2 : (wordS ⟨L, none⟩).1 ≠ [97, 110, 100]) : (andS ⟨L, none⟩).bad = some L.length := by
 unfold andS
 rw [if_neg h2]
 unfold stopS
 rw [h]
set_option maxHeartbeats 4000000 in
set_option maxRecDepth 100000 in
theorem rparse_calls (s : ByteArray) (w : World) (hs : s.size ≤ 1000) : Calls Tryz.prog 48 #[.string s] w (RParsePost w s) := by
 by_cases h300 : 300 < s.size
 ·
  have hR : parseR s = .inr (0, 1) := by unfold parseR; rw [if_pos h300]
  have q1 : decide ((300 : Int) < (s.size : Int)) = true := decide_eq_true (by omega)
  have HR : ∀ e w', RParseNo w 0 1 e w' → RParsePost w s e w' := fun e w' h => by unfold RParsePost; rw [hR]; exact h
  have HR := mk0 HR
  generalize RParsePost w s = POST at HR ⊢
  clear hR
  go_enter Tryz.func48, Tryz.ntmps48
  go_wp2
  go_ret3
  exact HR.out _ _ ⟨rfl, Below.refl _ _⟩
 ·
  have hs3 : s.size ≤ 300 := by omega
  have q1 : decide ((300 : Int) < (s.size : Int)) = false := decide_eq_false (by omega)
  have HOKP := mk0 (fun xs e w' (h : PS (bytes s) [] = .inl xs) (ho : RParseOk w xs e w') => rp_ok hs3 h ho)
  have HNOP := mk0 (fun n e w' (h : PS (bytes s) [] = .inr n) (ho : RParseNo w ((s.size - n : Nat) : Int) 2 e w') => rp_no hs3 h ho)
  generalize RParsePost w s = POST at HOKP HNOP ⊢
  clear h300
  go_enter Tryz.func48, Tryz.ntmps48
  go_wp2_with fail
  have K1 : Aside0 ((((w.alloc (.cells #[.string s, .int .i64 0, .bool false] 177)).alloc (.cells #[] 158)).heap[w.heap.size]? = some (spotC s 0 false))) := ⟨by
   show ((w.heap.push _).push _)[_]? = _
   simp only [Array.getElem?_push, Array.size_push]
   rw [if_neg (by omega), if_pos trivial]
   rfl⟩
  have HB := mk0 (below_alloc (below_alloc (Below.refl w.heap.size w) (.cells #[.string s, .int .i64 0, .bool false] 177)) (.cells #[] 158))
  have HO : Aside0 (Kd.R k158 158 ((w.alloc (.cells #[.string s, .int .i64 0, .bool false] 177)).alloc (.cells #[] 158)) w.heap.size (fun k => k ≠ w.heap.size) (.slice (some ⟨w.heap.size + 1, 0, none⟩) 0 0) (([] : List Pr).map toPQ)) :=
   ⟨fun k hk => by
    have : w.heap.size + 1 = k := by simpa [Value.ownBlock] using hk
    omega, [], by
     have := World.ownsRow_lit (base := w.heap.size) (e := 158) (size := 5) (w.alloc (.cells #[.string s, .int .i64 0, .bool false] 177)) #[] 0 (by show _ ≤ (w.heap.push _).size; rw [Array.size_push]; omega) (by decide) rfl
     have e : (w.alloc (.cells #[.string s, .int .i64 0, .bool false] 177)).heap.size = w.heap.size + 1 := by show (w.heap.push _).size = _; exact Array.size_push _
     rw [e] at this
     exact this, Reps.none _ _⟩
  generalize (w.alloc (.cells #[.string s, .int .i64 0, .bool false] 177)).alloc (.cells #[] 158) = w0 at K1 HB HO ⊢
  generalize Value.slice (some { block := w.heap.size + 1, off := 0 }) 0 0 = v0 at HO ⊢
  have HS3 := mk0 hs3
  clear hs3
  go_loopg [6, 7, 8, 9, 10, 11] (s.size + 2) (fun k v6 v7 v8 v9 v10 v11 W => ∃ (acc : List Pr) (l : List UInt8) (j : Nat), Aside0 (l <:+ bytes s ∧ PS l acc = PS (bytes s) [] ∧ j + l.length ≤ s.size ∧ acc.length ≤ j ∧ l.length < k) ∧ v7 = .int .i64 (j : Int) ∧ Aside0 (Kd.R k158 158 W w.heap.size (fun k => k ≠ w.heap.size) v6 (acc.map toPQ)) ∧ Aside0 (W.heap[w.heap.size]? = some (spotC s ((s.size - l.length : Nat) : Int) false)) ∧ Aside0 (Below w.heap.size w W))
  case atStart => exact ⟨[], bytes s, 0, ⟨List.suffix_refl _, rfl, by rw [bytes_len]; omega, by simp, by rw [bytes_len]; omega⟩, rfl, HO, ⟨by rw [bytes_len, Nat.sub_self]; exact K1.out⟩, HB⟩
  case round =>
   clear HO HB K1
   obtain ⟨acc, l, j, HN, rfl, HO, KB1, HB⟩ := hrel
   have q2 : decide ((j : Int) ≤ (s.size : Int)) = true := decide_eq_true (by have := HN.out; omega)
   have q3 : decide (j ≤ s.size) = true := decide_eq_true (by have := HN.out; omega)
   have q4 : (j : Int) ≤ 1000 := by have := HN.out; omega
   have q5 : (0 : Int) ≤ (j : Int) := by omega
   have hok : St.ok (bytes s) ⟨l, none⟩ := ⟨HN.out.1, fun n hn => by cases hn⟩
   have hok2 := predS_ok hok
   have hok3 := blanksS_ok hok2
   have hpc := fun w => rpred_calls s ⟨l, none⟩ w hs hok
   rw [stV_good] at hpc
   have hps := PS_eq l acc
   rw [HN.out.2.1] at hps
   generalize ((s.size - l.length : Nat) : Int) = i0 at KB1 hpc
   have hlt := predS_le (st := ⟨l, none⟩) rfl
   have hple := blanksS_le (predS ⟨l, none⟩).2
   have hbl := fun w => rblanks_calls s (predS ⟨l, none⟩).2 w hs hok2
   have hskip : ∀ L, blanksS (predS ⟨l, none⟩).2 = ⟨L, none⟩ → ∃ M, L = skip M := fun L h => by
    unfold blanksS at h
    split at h
    ·
     rename_i hb
     rw [h] at hb
     cases hb
    ·
     injection h with h1 h2
     exact ⟨_, h1.symm⟩
   unfold predPost at hpc
   obtain ⟨i1, hi1⟩ : ∃ x, x = spI s (predS ⟨l, none⟩).2 := ⟨_, rfl⟩
   obtain ⟨b1, hb1⟩ : ∃ x, x = (predS ⟨l, none⟩).2.bad.isSome := ⟨_, rfl⟩
   have hst1 : stV s (predS ⟨l, none⟩).2 = .agg #[.string s, .int .i64 i1, .bool b1] := by rw [hi1, hb1]; rfl
   rw [hst1] at hpc hbl
   have HPC := mk0 hpc
   have HBL := mk0 hbl
   have HPS := mk0 hps
   have HLE := mk0 (And.intro hlt hple)
   have HOK3 := mk0 hok3
   have HSK := mk0 hskip
   have HX := mk0 (fun (h : (blanksS (predS ⟨l, none⟩).2).bad = none) => blanksS_good h)
   clear hok hok2 hok3 hpc hps hlt hple hbl hskip hi1 hb1 hst1
   obtain ⟨c0, c1, c2, f0, f1, f2⟩ := spot_cells KB1.out
   go_wp2_with fail
   refine (HPC.out _).mono ?_
   rintro e w1 ⟨v, rfl, ⟨x, rfl, hx⟩, hb⟩
   unfold prV
   clear c0 c1 c2 f0 f1 f2
   have k1_ := mk0 ((hb.block _ (blk_lt KB1.out)).trans KB1.out)
   have n_ := mk0 (below_then HB.out HB.out.size hb)
   have o_ := mk0 (Kd.R_below HO.out hb)
   clear KB1 HB HO
   have KB1 := k1_
   have HB := n_
   have HO := o_
   clear k1_ n_ o_
   obtain ⟨c0, c1, c2, f0, f1, f2⟩ := spot_cells KB1.out
   have HXE := mk0 (fun h => hx (HX.out h))
   clear hx HX HPC
   go_upto_region 9 with (fail)
   go_wp2_with fail
   have hb := below_alloc (below_alloc (Below.refl w1.heap.size w1) (.cells #[.string s, .int .i64 i1, .bool b1] 177)) (.cells #[.string ⟨x.name.toArray⟩, .int .i64 x.op, .int .i64 x.lo, .int .i64 x.hi, .string ⟨x.str.toArray⟩] 158)
   obtain ⟨m1, m2⟩ := heap_push2 w1.heap (.cells #[.string s, .int .i64 i1, .bool b1] 177 (0, 0)) (.cells #[.string ⟨x.name.toArray⟩, .int .i64 x.op, .int .i64 x.lo, .int .i64 x.hi, .string ⟨x.str.toArray⟩] 158 (0, 0))
   have KB8 : Aside0 (((w1.alloc (.cells #[.string s, .int .i64 i1, .bool b1] 177)).alloc (.cells #[.string ⟨x.name.toArray⟩, .int .i64 x.op, .int .i64 x.lo, .int .i64 x.hi, .string ⟨x.str.toArray⟩] 158)).heap[w1.heap.size]? = some (spotC s i1 b1)) := ⟨m1⟩
   have KB9 : Aside0 (((w1.alloc (.cells #[.string s, .int .i64 i1, .bool b1] 177)).alloc (.cells #[.string ⟨x.name.toArray⟩, .int .i64 x.op, .int .i64 x.lo, .int .i64 x.hi, .string ⟨x.str.toArray⟩] 158)).heap[w1.heap.size + 1]? = some (prC ⟨x.name.toArray⟩ x.op x.lo x.hi ⟨x.str.toArray⟩)) := ⟨m2⟩
   have HLT := mk0 (blk_lt KB1.out)
   have HOB := mk0 (Kd.R_mono (Kd.R_bound HO.out) (ok' := fun k => k ≠ w.heap.size ∧ k < w1.heap.size) (fun k hk => ⟨hk.1, hk.2.2.1⟩))
   clear m1 m2
   clear c0 c1 c2 f0 f1 f2
   have k1_ := mk0 ((hb.block _ (blk_lt KB1.out)).trans KB1.out)
   have n_ := mk0 (below_then HB.out HB.out.size hb)
   have o_ := mk0 (Kd.R_below HO.out hb)
   clear KB1 HB HO
   have KB1 := k1_
   have HB := n_
   have HO := o_
   clear k1_ n_ o_
   have ho8 := Kd.R_alloc (Kd.R_alloc HOB.out (.cells #[.string s, .int .i64 i1, .bool b1] 177)) (.cells #[.string ⟨x.name.toArray⟩, .int .i64 x.op, .int .i64 x.lo, .int .i64 x.hi, .string ⟨x.str.toArray⟩] 158)
   have HO8 := mk0 (Kd.R_mono ho8 (ok' := fun k => k ≠ w.heap.size ∧ k ≠ w1.heap.size ∧ k ≠ w1.heap.size + 1) (fun k hk => ⟨hk.1, by omega, by omega⟩))
   clear ho8 HOB HO
   generalize (w1.alloc (.cells #[.string s, .int .i64 i1, .bool b1] 177)).alloc (.cells #[.string ⟨x.name.toArray⟩, .int .i64 x.op, .int .i64 x.lo, .int .i64 x.hi, .string ⟨x.str.toArray⟩] 158) = w2 at KB1 KB8 KB9 HB HO8 ⊢
   generalize w1.heap.size = g8 at KB8 KB9 HLT HO8 ⊢
   refine (HBL.out _).mono ?_
   rintro e w3 ⟨rfl, hb⟩
   clear HBL
   have HO := HO8
   clear HO8
   have k1_ := mk0 ((hb.block _ (blk_lt KB1.out)).trans KB1.out)
   have n_ := mk0 (below_then HB.out HB.out.size hb)
   have o_ := mk0 (Kd.R_below HO.out hb)
   clear KB1 HB HO
   have KB1 := k1_
   have HB := n_
   have HO := o_
   clear k1_ n_ o_
   have k8_ := mk0 ((hb.block _ (blk_lt KB8.out)).trans KB8.out)
   have k9_ := mk0 ((hb.block _ (blk_lt KB9.out)).trans KB9.out)
   clear KB8 KB9
   have KB8 := k8_
   have KB9 := k9_
   clear k8_ k9_
   have ne1 : ¬ (w.heap.size = g8) := by have := HLT.out; omega
   have ne2 : ¬ (w.heap.size = g8 + 1) := by have := HLT.out; omega
   cases hbb : (blanksS (predS ⟨l, none⟩).2).bad with
   | some n =>
    have hst3 : stV s (blanksS (predS ⟨l, none⟩).2) = .agg #[.string s, .int .i64 ((s.size - n : Nat) : Int), .bool true] := stV_of_bad hbb
    rw [hst3]
    have hres := HPS.out
    rw [hbb] at hres
    have HF := mk0 (fun e w' (ho : RParseNo w ((s.size - n : Nat) : Int) 2 e w') => HNOP.out n e w' hres ho)
    generalize ((s.size - n : Nat) : Int) = i3 at HF ⊢
    clear hres hbb hst3
    obtain ⟨c0, c1, c2, f0, f1, f2⟩ := spot_cells KB1.out
    obtain ⟨d0, d1, d2, g0, g1, g2⟩ := spot_cells KB8.out
    obtain ⟨x0, x1, x2, x3, x4, y0, y1, y2, y3, y4⟩ := prc_cells KB9.out
    go_wp2_with fail
    go_quiet (fail)
    go_wp2
    go_ret3
    have hbe := spot_below (g := g8) HB.out (by have := HLT.out; omega) s i3 true
    exact HF.out _ _ ⟨rfl, pw_below_drewN hbe _⟩
   | none =>
    obtain ⟨L, hbe⟩ : ∃ L, blanksS (predS ⟨l, none⟩).2 = ⟨L, none⟩ := ⟨_, good_eta hbb⟩
    have hxe := HXE.out hbb
    obtain ⟨M, hM⟩ := HSK.out L hbe
    have hres := HPS.out
    have hle := HLE.out
    have hok := HOK3.out
    rw [hbb, ← hxe] at hres
    rw [hbe] at hres hle hok ⊢
    rw [stV_good]
    simp only at hres hle
    have hLs : L.length ≤ s.size := P_le hok
    obtain ⟨i3, hi3⟩ : ∃ i, s.size - L.length = i := ⟨_, rfl⟩
    rw [hi3]
    have HI3 := mk0 (And.intro hi3 hLs)
    have HRES := mk0 hres
    have HM := mk0 hM
    have HOK := mk0 hok
    have HLL := mk0 (Nat.le_trans hle.2 hle.1)
    clear hbb hbe hxe hM hres hle hok hi3 hLs HXE HSK HPS HLE HOK3
    obtain ⟨c0, c1, c2, f0, f1, f2⟩ := spot_cells KB1.out
    obtain ⟨d0, d1, d2, g0, g1, g2⟩ := spot_cells KB8.out
    obtain ⟨x0, x1, x2, x3, x4, y0, y1, y2, y3, y4⟩ := prc_cells KB9.out
    go_upto_region 10 with (fail)
    clear c0 c1 c2 f0 f1 f2
    clear d0 d1 d2 g0 g1 g2 x0 x1 x2 x3 x4 y0 y1 y2 y3 y4
    have k1_ := mk0 (spot_far KB1.out ne1 s (i3 : Int) false)
    have k8_ := mk0 (spot_set KB8.out s (i3 : Int) false)
    have k9_ := mk0 (spot_far KB9.out (show g8 + 1 ≠ g8 by omega) s (i3 : Int) false)
    have n_ := mk0 (spot_below (g := g8) HB.out (by have := HLT.out; omega) s (i3 : Int) false)
    have o_ := mk0 (Kd.R_far (p := ⟨g8, 2, none⟩) (Kd.R_far (p := ⟨g8, 1, none⟩) (Kd.R_far (p := ⟨g8, 0, none⟩) HO.out (fun k hk => hk.2.1) (.string s)) (fun k hk => hk.2.1) (.int .i64 (i3 : Int))) (fun k hk => hk.2.1) (.bool false))
    clear KB1 KB8 KB9 HB HO
    have KB1 := k1_
    have KB8 := k8_
    have KB9 := k9_
    have HB := n_
    have HO8 := mk0 (Kd.R_mono o_.out (ok' := fun k => k ≠ w.heap.size ∧ k ≠ g8) (fun k hk => ⟨hk.1, hk.2.1⟩))
    clear k1_ k8_ k9_ n_ o_
    generalize ((w3.setCell ⟨g8, 0, none⟩ (.string s)).setCell ⟨g8, 1, none⟩ (.int .i64 (i3 : Int))).setCell ⟨g8, 2, none⟩ (.bool false) = w4 at KB1 KB8 KB9 HB HO8 ⊢
    have HLT := mk0 (And.intro HLT.out (And.intro (blk_lt KB8.out) (blk_lt KB1.out)))
    have HO := HO8
    obtain ⟨c0, c1, c2, f0, f1, f2⟩ := spot_cells KB1.out
    obtain ⟨d0, d1, d2, g0, g1, g2⟩ := spot_cells KB8.out
    obtain ⟨x0, x1, x2, x3, x4, y0, y1, y2, y3, y4⟩ := prc_cells KB9.out
    by_cases hL : L = []
    ·
     have he : ((i3 : Int) == (s.size : Int)) = true := by have h := HI3.out.1; rw [hL] at h; simp at h; simp [h]
     have hres := HRES.out
     rw [if_pos hL] at hres
     have HF := mk0 (fun e w' (ho : RParseOk w (acc ++ [x]) e w') => HOKP.out (acc ++ [x]) e w' hres ho)
     clear hres hL
     go_wp2_with ((with_reducible refine gate_builtin (b := .append) (xs := #[.tmp 35, .tmp 37]) rfl ?_); at_builtin; go_loud (refine Kd.R_append k158 (w0 := w) w.heap.size rfl (.tmp 35) (.tmp 37) 109 158 (.agg #[(.string ⟨#[]⟩), (.int .i64 0), (.int .i64 0), (.int .i64 0), (.string ⟨#[]⟩)]) 56 rfl Tryz.underlying109 info158 rfl (by decide) (by omega) _ (acc.map toPQ) (toPQ x) [.string ⟨x.name.toArray⟩, .int .i64 x.op, .int .i64 x.lo, .int .i64 x.hi, .string ⟨x.str.toArray⟩] (fun k => k ≠ w.heap.size ∧ k ≠ g8) (fun _ => False) rfl ?aX ?aP (fun _ hk => hk.elim) ?aF ?aO HB.out HB.out.size ?aL ?_; (case aX => first | rfl | (go_simp; done) | (go_simp; rfl)); (case aP => exact k158_mkM _ _ _ (toPQ x)); (case aF => exact (fun k hk => by have := HLT.out; omega)); (case aO => exact (Kd.R_mono (Kd.R_bound HO8.out) (fun k hk => hk.1))); (case aL => have := HN.out; simp; omega); intro v9 w9 ho hb hg hat; rw [show acc.map toPQ ++ [toPQ x] = (acc ++ [x]).map toPQ by simp] at ho; have n0_ := mk0 ho; have n1_ := mk0 hb; have n2_ := mk0 ((hg.block _ (blk_lt KB1.out) (fun e => (HO8.out.1 _ e.symm).1 rfl)).trans KB1.out); have n3_ := mk0 ((hg.block _ (blk_lt KB8.out) (fun e => (HO8.out.1 _ e.symm).2 rfl)).trans KB8.out); clear HO HO8 HB KB1 KB8 ho hb hg hat KB9 c0 c1 c2 f0 f1 f2 d0 d1 d2 g0 g1 g2 x0 x1 x2 x3 x4 y0 y1 y2 y3 y4; have HO := n0_; have HB := n1_; have KB1 := n2_; have KB8 := n3_; clear n0_ n1_ n2_ n3_; obtain ⟨c0, c1, c2, f0, f1, f2⟩ := spot_cells KB1.out; obtain ⟨d0, d1, d2, g0, g1, g2⟩ := spot_cells KB8.out))
     go_ret3
     exact HF.out _ _ ⟨_, rfl, Kd.R_mono HO.out (fun _ _ => trivial), HB.out⟩
    ·
     have hL0 : 0 < L.length := List.length_pos_iff.mpr hL
     have he : ((i3 : Int) == (s.size : Int)) = false := by have h := HI3.out; simp; omega
     have hres := HRES.out
     rw [if_neg hL] at hres
     have HRES := mk0 hres
     have hwd := fun w => rword_calls s ⟨L, none⟩ w hs HOK.out
     rw [stV_good, HI3.out.1] at hwd
     have hoka := wordS_ok HOK.out
     obtain ⟨a, ha⟩ : ∃ a, a = wordS ⟨L, none⟩ := ⟨_, rfl⟩
     rw [← ha] at hwd hoka
     have HA := mk0 ha
     obtain ⟨i5, hi5⟩ : ∃ x, x = spI s a.2 := ⟨_, rfl⟩
     obtain ⟨b5, hb5⟩ : ∃ x, x = a.2.bad.isSome := ⟨_, rfl⟩
     have hst5 : stV s a.2 = .agg #[.string s, .int .i64 i5, .bool b5] := by rw [hi5, hb5]; rfl
     rw [hst5] at hwd
     have HWD := mk0 hwd
     have HI5 := mk0 hi5
     have HB5 := mk0 hb5
     have HOKA := mk0 hoka
     clear hL hL0 hres hwd hoka ha hi5 hb5 hst5
     go_wp2_with ((with_reducible refine gate_builtin (b := .append) (xs := #[.tmp 35, .tmp 37]) rfl ?_); at_builtin; go_loud (refine Kd.R_append k158 (w0 := w) w.heap.size rfl (.tmp 35) (.tmp 37) 109 158 (.agg #[(.string ⟨#[]⟩), (.int .i64 0), (.int .i64 0), (.int .i64 0), (.string ⟨#[]⟩)]) 56 rfl Tryz.underlying109 info158 rfl (by decide) (by omega) _ (acc.map toPQ) (toPQ x) [.string ⟨x.name.toArray⟩, .int .i64 x.op, .int .i64 x.lo, .int .i64 x.hi, .string ⟨x.str.toArray⟩] (fun k => k ≠ w.heap.size ∧ k ≠ g8) (fun _ => False) rfl ?aX ?aP (fun _ hk => hk.elim) ?aF ?aO HB.out HB.out.size ?aL ?_; (case aX => first | rfl | (go_simp; done) | (go_simp; rfl)); (case aP => exact k158_mkM _ _ _ (toPQ x)); (case aF => exact (fun k hk => by have := HLT.out; omega)); (case aO => exact (Kd.R_mono (Kd.R_bound HO8.out) (fun k hk => hk.1))); (case aL => have := HN.out; simp; omega); intro v9 w9 ho hb hg hat; rw [show acc.map toPQ ++ [toPQ x] = (acc ++ [x]).map toPQ by simp] at ho; have n0_ := mk0 ho; have n1_ := mk0 hb; have n2_ := mk0 ((hg.block _ (blk_lt KB1.out) (fun e => (HO8.out.1 _ e.symm).1 rfl)).trans KB1.out); have n3_ := mk0 ((hg.block _ (blk_lt KB8.out) (fun e => (HO8.out.1 _ e.symm).2 rfl)).trans KB8.out); clear HO HO8 HB KB1 KB8 ho hb hg hat KB9 c0 c1 c2 f0 f1 f2 d0 d1 d2 g0 g1 g2 x0 x1 x2 x3 x4 y0 y1 y2 y3 y4; have HO := n0_; have HB := n1_; have KB1 := n2_; have KB8 := n3_; clear n0_ n1_ n2_ n3_; obtain ⟨c0, c1, c2, f0, f1, f2⟩ := spot_cells KB1.out; obtain ⟨d0, d1, d2, g0, g1, g2⟩ := spot_cells KB8.out))
     refine (HWD.out _).mono ?_
     rintro e w10 ⟨rfl, hb⟩
     clear HWD
     have k8_ := mk0 ((hb.block _ (blk_lt KB8.out)).trans KB8.out)
     clear KB8 d0 d1 d2 g0 g1 g2
     have KB8 := k8_
     clear k8_
     clear c0 c1 c2 f0 f1 f2
     have k1_ := mk0 ((hb.block _ (blk_lt KB1.out)).trans KB1.out)
     have n_ := mk0 (below_then HB.out HB.out.size hb)
     have o_ := mk0 (Kd.R_below HO.out hb)
     clear KB1 HB HO
     have KB1 := k1_
     have HB := n_
     have HO := o_
     clear k1_ n_ o_
     go_upto_region 16 with (fail)
     have hb := below_alloc (Below.refl w10.heap.size w10) (.cells #[.string s, .int .i64 i5, .bool b5] 177)
     have KB10 : Aside0 ((w10.alloc (.cells #[.string s, .int .i64 i5, .bool b5] 177)).heap[w10.heap.size]? = some (spotC s i5 b5)) := ⟨heap_alloc_new w10 _⟩
     have HL10 := mk0 (blk_lt KB1.out)
     have k8_ := mk0 ((hb.block _ (blk_lt KB8.out)).trans KB8.out)
     clear KB8
     have KB8 := k8_
     clear k8_
     have k1_ := mk0 ((hb.block _ (blk_lt KB1.out)).trans KB1.out)
     have n_ := mk0 (below_then HB.out HB.out.size hb)
     have o_ := mk0 (Kd.R_below HO.out hb)
     clear KB1 HB HO
     have KB1 := k1_
     have HB := n_
     have HO := o_
     clear k1_ n_ o_
     generalize w10.alloc (.cells #[.string s, .int .i64 i5, .bool b5] 177) = w11 at KB1 KB8 KB10 HB HO ⊢
     generalize w10.heap.size = g10 at KB10 HL10 ⊢
     obtain ⟨c0, c1, c2, f0, f1, f2⟩ := spot_cells KB1.out
     obtain ⟨d0, d1, d2, g0, g1, g2⟩ := spot_cells KB8.out
     obtain ⟨z0, z1, z2, z3, z4, z5⟩ := spot_cells KB10.out
     cases hab : a.2.bad with
     | some n =>
      have hb5 : b5 = true := by rw [HB5.out, hab]; rfl
      subst hb5
      have hbad : (andS ⟨L, none⟩).bad = some L.length := andS_bad1 HM.out (by rw [← HA.out]; exact hab)
      have hres := HRES.out
      unfold PN at hres
      rw [hbad] at hres
      have HF := mk0 (fun e w' (ho : RParseNo w ((s.size - L.length : Nat) : Int) 2 e w') => HNOP.out L.length e w' hres ho)
      rw [HI3.out.1] at HF
      clear hab hbad hres
      go_wp2_with fail
      go_quiet (fail)
      go_wp2
      go_ret3
      exact HF.out _ _ ⟨rfl, pw_below_drewN HB.out _⟩
     | none =>
      have hb5 : b5 = false := by rw [HB5.out, hab]; rfl
      subst hb5
      by_cases han : a.1 = [97, 110, 100]
      ·
       have q9 : (a.1 == [97, 110, 100]) = true := by simpa using han
       have hand : andS ⟨L, none⟩ = a.2 := by unfold andS; rw [← HA.out, if_pos han]
       have hres := HRES.out
       rw [hand] at hres
       unfold PN at hres
       rw [hab] at hres
       have hlt2 : a.2.l.length < L.length := by rw [← hand]; exact andS_lt rfl (by rw [hand]; exact hab)
       have hi5 : i5 = ((s.size - a.2.l.length : Nat) : Int) := by rw [HI5.out]; unfold spI; rw [hab]; rfl
       have HREL := mk0 (And.intro hres (And.intro hlt2 (And.intro hi5 HOKA.out.1)))
       clear hab han hand hres hlt2 hi5
       go_wp2_with fail
       go_roundg (gk - 1)
       case measure => have := HN.out; have := HREL.out; have := HLL.out; omega
       case rel => exact ⟨acc ++ [x], a.2.l, j + 1, ⟨HREL.out.2.2.2, HREL.out.1.symm, by have := HN.out; have := HREL.out; have := HLL.out; omega, by have := HN.out; simp; omega, by have := HN.out; have := HREL.out; have := HLL.out; omega⟩, by first | rfl | (congr 1; omega), ⟨Kd.R_far (p := ⟨w.heap.size, 2, none⟩) (Kd.R_far (p := ⟨w.heap.size, 1, none⟩) (Kd.R_far (p := ⟨w.heap.size, 0, none⟩) (Kd.R_mono HO.out (ok' := fun k => k ≠ w.heap.size) (fun k hk => hk.1)) (fun k hk => hk) _) (fun k hk => hk) _) (fun k hk => hk) _⟩, ⟨by rw [← HREL.out.2.2.1]; exact spot_set KB1.out s i5 false⟩, ⟨spot_below (g := w.heap.size) HB.out (Nat.le_refl _) s i5 false⟩⟩
      ·
       have q9 : (a.1 == [97, 110, 100]) = false := by simpa using han
       have hbad : (andS ⟨L, none⟩).bad = some L.length := andS_bad2 (by rw [← HA.out]; exact hab) (by rw [← HA.out]; exact han)
       have hres := HRES.out
       unfold PN at hres
       rw [hbad] at hres
       have HF := mk0 (fun e w' (ho : RParseNo w ((s.size - L.length : Nat) : Int) 2 e w') => HNOP.out L.length e w' hres ho)
       rw [HI3.out.1] at HF
       clear hab han hbad hres
       go_wp2_with fail
       go_quiet (fail)
       go_wp2
       go_ret3
       exact HF.out _ _ ⟨rfl, pw_below_drewN HB.out _⟩
end Go.Proofs.YtlokmijoaocofaaGreatDoor.Mine
end
