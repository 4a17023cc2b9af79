/- Texts of one claim, one behind the other, made short by a program. -/
import Derived.Test.YtnmpijbcajclgaaGreatDoorMN7
import Derived.LaidEql
import Derived.Stop.Asserts
import Derived.RowKitTokens
import Derived.Deep.RegionWith
import Derived.Outline
import Derived.Laws.RangeAny
import Derived.Laws.Concat
import Derived.Shelf.Abstract
import Derived.Shelf.GgClosure.StringsIndexFuncTop
import Derived.Ground.GgwProg
import Derived.Lib.DecodeN
import Derived.Laws.RangeString
set_option linter.unusedSimpArgs false
set_option linter.unusedVariables false
set_option maxRecDepth 100000
section
namespace Go.Proofs.YtnmpijbcajclgaaGreatDoor.Mine
open Go.RowKit YtnmpijbcajclgaaGreatDoorW.PrintWords YtnmpijbcajclgaaGreatDoorW.PrintLast YtnmpijbcajclgaaGreatDoorW.PrintMore
open PNodeAlone
def toP (x : Pr) : S168 := ⟨⟨x.name.toArray⟩, x.op, x.lo, x.hi, ⟨x.str.toArray⟩⟩
def IsFault (w : World) (b : Nat) (wh : ByteArray) (at_ c : Int) : Prop := w.heap[b]? = some (.cells #[.string wh, .int .i64 at_, .iface 49 (.int .i64 c)] 180 (0, 0))
def sFilter : ByteArray := ⟨#[102, 105, 108, 116, 101, 114]⟩
def parseR (s : ByteArray) : List Pr ⊕ (Int × Int) :=
 if 300 < s.size then .inr (0, 1) else
 match parseS (s.size + 1) ⟨bytes s, none⟩ [] with
 | .inl xs => .inl xs
 | .inr n => .inr (((s.size - n : Nat) : Int), 2)
def ParseOk (w : World) (xs : List Pr) (e : Ending) (w' : World) : Prop := ∃ v, e = .returned (.tuple #[v, .nilIface]) ∧ Kd.R k168 168 w' w.heap.size (fun _ => True) v (xs.map toP) ∧ Below w.heap.size w w'
def ParseNo (w : World) (at_ c : Int) (e : Ending) (w' : World) : Prop := ∃ b, w.heap.size ≤ b ∧ e = .returned (.tuple #[.slice none 0 0, .iface 178 (.pointer (some ⟨b, 0, none⟩))]) ∧ IsFault w' b sFilter at_ c ∧ Below w.heap.size w w'
def ParsePost (w : World) (s : ByteArray) (e : Ending) (w' : World) : Prop :=
 match parseR s with
 | .inl xs => ParseOk w xs e w'
 | .inr (at_, c) => ParseNo w at_ c e w'
theorem info168 : (Tryz.prog.info? 168).map (fun i => (i.zero, i.size, i.bytes)) = some (some (.agg #[(.string ⟨#[]⟩), (.int .i64 0), (.int .i64 0), (.int .i64 0), (.string ⟨#[]⟩)]), 5, 56) := by kernel_rfl
theorem R_call {α : Type} {d : Kd α} {e : Nat} {w0 W W' : World} {g base : Nat} {s : ByteArray} {st : St} {v : Value} {xs : List α} (hi : IsP w0 W g s st) (ho : d.R e W base (fun _ => True) v xs) (ht : ∀ q, q ∈ e :: d.E → q ≠ 254) (hk : KeepBut W W' g none) : d.R e W' base (fun _ => True) v xs :=
 Kd.R_mono (Kd.R_keep (IsS254.apart hi.2 ho ht) hk (fun _ h => h.2)) (fun _ _ => trivial)
theorem IsP.grown {w0 W W1 : World} {g : Nat} {s : ByteArray} {st : St} {row : Option Nat} (h : IsP w0 W g s st) (hg : W.grownBy W1 row) (hn : some g ≠ row) : IsP w0 W1 g s st := ⟨h.1, h.2.grown hg hn⟩
theorem rel_next {s : ByteArray} {R : List Pr ⊕ Nat} {gk : Nat} {l : List UInt8} {acc : List Pr} {x : Pr} {st4 : St} {wr w : World} {v : Value}
 (hF : R = match st4.bad with | some n => .inr n | none => parseS (gk - 2) st4 (acc ++ [x])) (hlt : st4.bad = none → st4.l.length < l.length) (hl : acc.length + l.length ≤ s.size) (hk : l.length + 1 < gk)
 (ho : Kd.R k168 168 wr w.heap.size (fun _ => True) v ((acc ++ [x]).map toP)) :
 (st4.bad = none ∧ st4.l.length + 1 < gk - 1 ∧ parseS (gk - 1 - 1) st4 (acc ++ [x]) = R ∧ (acc ++ [x]).length + st4.l.length ≤ s.size ∧ Kd.R k168 168 wr w.heap.size (fun _ => True) v ((acc ++ [x]).map toP)) ∨ (∃ m, st4.bad = some m ∧ 0 < gk - 1 ∧ R = .inr m) := by
 cases hb : st4.bad with
 | none =>
  rw [hb] at hF
  have := hlt hb
  exact Or.inl ⟨rfl, by omega, by rw [show gk - 1 - 1 = gk - 2 by omega]; exact hF.symm, by simp; omega, ho⟩
 | some m =>
  rw [hb] at hF
  exact Or.inr ⟨m, rfl, by omega, hF⟩
set_option maxHeartbeats 1000000 in
theorem parse_long (s : ByteArray) (w : World) (hs : s.size ≤ 1000) (h : 300 < s.size) : Calls Tryz.prog 83 #[.string s] w (ParsePost w s) := by
 have hr : parseR s = .inr (0, 1) := by unfold parseR; rw [if_pos h]
 have HR := mk0 hr
 clear hr
 have h1 := decide_eq_true (show (300 : Int) < (s.size : Int) by omega)
 go_enter Tryz.func83, Tryz.ntmps83
 go_wp2
 go_ret2
 unfold ParsePost
 rw [HR.out]
 exact ⟨w.heap.size, Nat.le_refl _, rfl, heap_alloc_new w _, (Below.refl _ _).alloc (Nat.le_refl _) _⟩
set_option maxHeartbeats 4000000 in
theorem parse_any (s : ByteArray) (w : World) (h : s.size ≤ 300) : Calls Tryz.prog 83 #[.string s] w (ParsePost w s) := by
 have hs : s.size ≤ 1000 := by omega
 have h1 := decide_eq_false (show ¬ (300 : Int) < (s.size : Int) by omega)
 have HR := mk0 (show parseR s = match parseS (s.size + 1) ⟨bytes s, none⟩ [] with | .inl xs => .inl xs | .inr n => .inr (((s.size - n : Nat) : Int), 2) by unfold parseR; rw [if_neg (by omega)])
 generalize hR : parseS (s.size + 1) ⟨bytes s, none⟩ [] = R at HR
 have ER := mk0 hR
 clear hR
 go_enter Tryz.func83, Tryz.ntmps83
 go_wp2
 go_loopg [5, 6] (s.size + 2) (fun n v5 _ wr => ∃ (acc : List Pr) (st : St), Aside0 ((st.bad = none ∧ st.l.length + 1 < n ∧ parseS (n - 1) st acc = R ∧ acc.length + st.l.length ≤ s.size ∧ Kd.R k168 168 wr w.heap.size (fun _ => True) v5 (acc.map toP)) ∨ (∃ m, st.bad = some m ∧ 0 < n ∧ R = .inr m)) ∧ Aside0 (IsP w wr w.heap.size s st) ∧ Aside0 (Below w.heap.size w wr))
 case atStart => exact ⟨[], ⟨bytes s, none⟩, ⟨Or.inl ⟨rfl, by show (bytes s).length + 1 < s.size + 2; rw [bytes_len]; omega, ER.out, by show 0 + (bytes s).length ≤ s.size; rw [bytes_len]; omega, Kd.R_nil _ _ _ _ _⟩⟩, ⟨⟨⟨List.suffix_refl _, fun n hn => by cases hn⟩, by rw [show s.size - (bytes s).length = 0 by rw [bytes_len]; omega]; exact IsS254.new w w s 0 (-1) (Below.refl _ _)⟩⟩, ⟨(Below.refl _ _).alloc (Nat.le_refl _) _⟩⟩
 case round =>
  obtain ⟨acc, st, HA, HI, HB⟩ := hrel
  rcases HA.out with ⟨hbad, hk1, hp, hl, ho⟩ | ⟨m, hbad, hk0, hp⟩
  ·
   obtain ⟨l, b⟩ := st
   cases hbad
   have HO := mk0 ho
   have HA1 := mk0 hl
   have HP := mk0 hp
   have HKL := mk0 hk1
   clear hl hp ho HA hk1
   obtain ⟨hok, HG, hg⟩ := HI.out
   have HOK := mk0 hok
   have hc0 := cellS254_0 HG
   have hc1 := cellS254_1 HG
   have hc2 := cellS254_2 HG
   have hf0 := blk_frozen HG 0
   have hf1 := blk_frozen HG 1
   have hf2 := blk_frozen HG 2
   clear HG hg hok
   have hc2' : wr.cell? ⟨w.heap.size, 2, none⟩ = some (.int .i64 (-1)) := hc2
   clear hc2
   go_wp2_with fail
   (with_reducible refine (pred_P (w0 := w) (st := ⟨l, none⟩) hs ?side1 ?side2).mono ?_)
   case side1 => (repeat (first | (with_reducible first | exact HI.out | apply IsP.alloc | apply IsP.drewN | apply IsP.drew) | exact HI.out))
   case side2 => (repeat (first | (with_reducible first | exact HB.out | apply below_alloc | apply pw_below_drewN | apply below_drew1) | exact HB.out))
   rintro e w1 ⟨rfl, hi, hb, hk⟩
   generalize hE : predS ⟨l, none⟩ = r1 at hi ⊢
   have Er1 := mk0 hE
   clear hE
   have n0_ := mk0 hi
   have n1_ := mk0 hb
   have n2_ := mk0 (R_call (by (repeat (first | (with_reducible first | exact HI.out | apply IsP.alloc | apply IsP.drewN | apply IsP.drew) | exact HI.out))) (by (with_reducible repeat (first | apply Kd.R_alloc | apply Kd.R_drewN | apply Kd.R_drew)); exact HO.out) (by decide) hk)
   clear HI HB HO
   have HI := n0_
   have HB := n1_
   have HO := n2_
   clear n0_ n1_ n2_ hi hb hk
   clear hc0 hc1 hc2' hf0 hf1 hf2
   unfold prV
   go_wp2_with ((with_reducible refine gate_builtin (b := .append) (xs := #[.tmp 22, .tmp 25]) rfl ?_); at_builtin; refine Kd.R_append k168 (w0 := w) w.heap.size rfl (.tmp 22) (.tmp 25) 116 168 (.agg #[(.string ⟨#[]⟩), (.int .i64 0), (.int .i64 0), (.int .i64 0), (.string ⟨#[]⟩)]) 56 rfl Tryz.underlying116 info168 rfl (by decide) (by omega) u5 (acc.map toP) (toP r1.1) [.string ⟨r1.1.name.toArray⟩, .int .i64 r1.1.op, .int .i64 r1.1.lo, .int .i64 r1.1.hi, .string ⟨r1.1.str.toArray⟩] (fun _ => True) (fun _ => False) rfl ?aX ?aP (fun _ hk => hk.elim) ?aF ?aO ?aB ?aS ?aL ?_; (case aX => first | rfl | (go_simp; done) | (go_simp; rfl)); (case aP => exact k168_mkM _ _ _ (toP r1.1)); (case aB => (repeat (first | (with_reducible first | exact HB.out | apply below_alloc | apply pw_below_drewN | apply below_drew1) | exact HB.out))); (case aF => exact (fun _ _ => trivial)); (case aO => (with_reducible repeat (first | apply Kd.R_alloc | apply Kd.R_drewN | apply Kd.R_drew)); exact HO.out); (case aS => exact below_size (by (repeat (first | (with_reducible first | exact HB.out | apply below_alloc | apply pw_below_drewN | apply below_drew1) | exact HB.out)))); (case aL => have := HA1.out; simp; omega); intro v5 w5 ho hb hg hat; rw [show acc.map toP ++ [toP r1.1] = (acc ++ [r1.1]).map toP by simp] at ho; have n0_ := mk0 (IsP.grown (by (repeat (first | (with_reducible first | exact HI.out | apply IsP.alloc | apply IsP.drewN | apply IsP.drew) | exact HI.out))) hg (IsS254.own_ne HI.out.2 HO.out (by decide))); have n1_ := mk0 hb; have n2_ := mk0 ho; clear HI HB HO ho hb hg hat; have HI := n0_; have HB := n1_; have HO := n2_; clear n0_ n1_ n2_)
   go_wp2_with fail
   (with_reducible refine (blanks_P (w0 := w) (st := r1.2) hs ?side1 ?side2).mono ?_)
   case side1 => (repeat (first | (with_reducible first | exact HI.out | apply IsP.alloc | apply IsP.drewN | apply IsP.drew) | exact HI.out))
   case side2 => (repeat (first | (with_reducible first | exact HB.out | apply below_alloc | apply pw_below_drewN | apply below_drew1) | exact HB.out))
   rintro e w6 ⟨rfl, hi, hb, hk⟩
   generalize hE : blanksS r1.2 = s2 at hi ⊢
   have Es2 := mk0 hE
   clear hE
   have n0_ := mk0 hi
   have n1_ := mk0 hb
   have n2_ := mk0 (R_call (by (repeat (first | (with_reducible first | exact HI.out | apply IsP.alloc | apply IsP.drewN | apply IsP.drew) | exact HI.out))) (by (with_reducible repeat (first | apply Kd.R_alloc | apply Kd.R_drewN | apply Kd.R_drew)); exact HO.out) (by decide) hk)
   clear HI HB HO
   have HI := n0_
   have HB := n1_
   have HO := n2_
   clear n0_ n1_ n2_ hi hb hk
   have hle := Nat.le_trans (blanksS_le r1.2) (by rw [← Er1.out]; exact predS_le (st := ⟨l, none⟩) rfl)
   rw [Es2.out] at hle
   have HLE := mk0 hle
   clear hle
   have HST := mk0 (show R = match s2.bad with | some n => .inr n | none => if s2.l = [] then .inl (acc ++ [r1.1]) else match (andS s2).bad with | some n => .inr n | none => parseS (gk - 2) (andS s2) (acc ++ [r1.1]) by
    have h5 := HP.out
    obtain ⟨kk, hkk⟩ : ∃ kk, gk = kk + 2 := ⟨gk - 2, by have := HKL.out; omega⟩
    rw [hkk, show kk + 2 - 1 = kk + 1 by omega, parseS_succ, Er1.out, Es2.out] at h5
    rw [hkk, show kk + 2 - 2 = kk by omega]
    exact h5.symm)
   clear HP Er1 Es2
   obtain ⟨hok, HG, hg⟩ := HI.out
   have HOK := mk0 hok
   have hc0 := cellS254_0 HG
   have hc1 := cellS254_1 HG
   have hc2 := cellS254_2 HG
   have hf0 := blk_frozen HG 0
   have hf1 := blk_frozen HG 1
   have hf2 := blk_frozen HG 2
   clear HG hg hok
   obtain ⟨l2, b2⟩ := s2
   obtain ⟨bd, hbd⟩ : ∃ bd, badI s b2 = bd := ⟨_, rfl⟩
   have hc2' : w6.cell? ⟨w.heap.size, 2, none⟩ = some (.int .i64 bd) := by rw [← hbd]; exact hc2
   have hc1' : w6.cell? ⟨w.heap.size, 1, none⟩ = some (.int .i64 ((s.size - l2.length : Nat) : Int)) := hc1
   clear hc2 hc1
   cases hb2 : b2 with
   | some m =>
    have q1 := decide_eq_false (show ¬ (bd < 0) by rw [← hbd, hb2]; have := badI_nn s m; omega)
    have HFIN := mk0 (show R = match (andS ⟨l2, b2⟩).bad with | some n => .inr n | none => parseS (gk - 2) (andS ⟨l2, b2⟩) (acc ++ [r1.1]) by
     have h5 := HST.out
     have h6 : andS ⟨l2, b2⟩ = ⟨l2, some m⟩ := by subst hb2; unfold andS; rw [wordS_bad rfl, if_neg (by simp), stopS_bad rfl]
     rw [h6]
     rw [hb2] at h5
     exact h5)
    have HLT := mk0 (show (andS ⟨l2, b2⟩).bad = none → (andS ⟨l2, b2⟩).l.length < l.length by
     have h6 : andS ⟨l2, b2⟩ = ⟨l2, some m⟩ := by subst hb2; unfold andS; rw [wordS_bad rfl, if_neg (by simp), stopS_bad rfl]
     rw [h6]
     intro h7
     cases h7)
    clear hbd hb2
    go_wp2_with fail
    repeat (go_quiet (fail); try go_wp2_with fail)
    go_wp2_with fail
    (with_reducible refine (word_P (w0 := w) (st := ⟨l2, b2⟩) hs ?side1 ?side2).mono ?_)
    case side1 => (repeat (first | (with_reducible first | exact HI.out | apply IsP.alloc | apply IsP.drewN | apply IsP.drew) | exact HI.out))
    case side2 => (repeat (first | (with_reducible first | exact HB.out | apply below_alloc | apply pw_below_drewN | apply below_drew1) | exact HB.out))
    rintro e w7 ⟨rfl, hi, hb, hk⟩
    generalize hE : wordS ⟨l2, b2⟩ = r3 at hi ⊢
    have Er3 := mk0 hE
    clear hE
    have n0_ := mk0 hi
    have n1_ := mk0 hb
    have n2_ := mk0 (R_call (by (repeat (first | (with_reducible first | exact HI.out | apply IsP.alloc | apply IsP.drewN | apply IsP.drew) | exact HI.out))) (by (with_reducible repeat (first | apply Kd.R_alloc | apply Kd.R_drewN | apply Kd.R_drew)); exact HO.out) (by decide) hk)
    clear HI HB HO
    have HI := n0_
    have HB := n1_
    have HO := n2_
    clear n0_ n1_ n2_ hi hb hk
    by_cases hand : r3.1 = [97, 110, 100]
    ·
     have t1 : (r3.1 == ([97, 110, 100] : List UInt8)) = true := by simpa using hand
     have HAND := mk0 (show r3.1 = [97, 110, 100] from hand)
     clear hand
     go_wp2_with fail
     go_roundg (gk - 1)
     case measure => have := HKL.out; omega
     case rel => exact ⟨acc ++ [r1.1], r3.2, ⟨rel_next (l := l) (by rw [← show andS ⟨l2, b2⟩ = r3.2 from by unfold andS; rw [Er3.out, if_pos HAND.out]]; exact HFIN.out) (by rw [← show andS ⟨l2, b2⟩ = r3.2 from by unfold andS; rw [Er3.out, if_pos HAND.out]]; exact HLT.out) HA1.out HKL.out (by (with_reducible repeat (first | apply Kd.R_alloc | apply Kd.R_drewN | apply Kd.R_drew)); exact HO.out)⟩, ⟨by (repeat (first | (with_reducible first | exact HI.out | apply IsP.alloc | apply IsP.drewN | apply IsP.drew) | exact HI.out))⟩, ⟨by (repeat (first | (with_reducible first | exact HB.out | apply below_alloc | apply pw_below_drewN | apply below_drew1) | exact HB.out))⟩⟩
    ·
     have t1 : (r3.1 == ([97, 110, 100] : List UInt8)) = false := by simpa using hand
     have HAND := mk0 (show ¬ r3.1 = [97, 110, 100] from hand)
     clear hand
     go_wp2_with fail
     go_wp2_with fail
     (with_reducible refine (stop_P (w0 := w) (st := r3.2) l2.length (P_le HOK.out) ?side1 ?side2).mono ?_)
     case side1 => (repeat (first | (with_reducible first | exact HI.out | apply IsP.alloc | apply IsP.drewN | apply IsP.drew) | exact HI.out))
     case side2 => (repeat (first | (with_reducible first | exact HB.out | apply below_alloc | apply pw_below_drewN | apply below_drew1) | exact HB.out))
     rintro e w8 ⟨rfl, hi, hb, hk⟩
     generalize hE : stopS r3.2 l2.length = s4 at hi ⊢
     have Es4 := mk0 hE
     clear hE
     have n0_ := mk0 hi
     have n1_ := mk0 hb
     have n2_ := mk0 (R_call (by (repeat (first | (with_reducible first | exact HI.out | apply IsP.alloc | apply IsP.drewN | apply IsP.drew) | exact HI.out))) (by (with_reducible repeat (first | apply Kd.R_alloc | apply Kd.R_drewN | apply Kd.R_drew)); exact HO.out) (by decide) hk)
     clear HI HB HO
     have HI := n0_
     have HB := n1_
     have HO := n2_
     clear n0_ n1_ n2_ hi hb hk
     go_wp2_with fail
     go_roundg (gk - 1)
     case measure => have := HKL.out; omega
     case rel => exact ⟨acc ++ [r1.1], s4, ⟨rel_next (l := l) (by rw [← show andS ⟨l2, b2⟩ = s4 from by unfold andS; rw [Er3.out, if_neg HAND.out]; exact Es4.out]; exact HFIN.out) (by rw [← show andS ⟨l2, b2⟩ = s4 from by unfold andS; rw [Er3.out, if_neg HAND.out]; exact Es4.out]; exact HLT.out) HA1.out HKL.out (by (with_reducible repeat (first | apply Kd.R_alloc | apply Kd.R_drewN | apply Kd.R_drew)); exact HO.out)⟩, ⟨by (repeat (first | (with_reducible first | exact HI.out | apply IsP.alloc | apply IsP.drewN | apply IsP.drew) | exact HI.out))⟩, ⟨by (repeat (first | (with_reducible first | exact HB.out | apply below_alloc | apply pw_below_drewN | apply below_drew1) | exact HB.out))⟩⟩
   | none =>
    have q1 := decide_eq_true (show bd < 0 by rw [← hbd, hb2]; show (-1 : Int) < 0; omega)
    have q2 := eq_true (show bd < 0 by rw [← hbd, hb2]; show (-1 : Int) < 0; omega)
    have hle2 := P_le HOK.out
    by_cases hl2 : l2 = []
    ·
     subst hl2
     have HFIN := mk0 (show R = .inl (acc ++ [r1.1]) by have h5 := HST.out; rw [hb2] at h5; exact h5)
     have q3 : (((s.size - ([] : List UInt8).length : Nat) : Int) == (s.size : Int)) = true := by simp
     have q4 : (((s.size - ([] : List UInt8).length : Nat)) == (s.size)) = true := by simp
     clear hbd hb2
     go_wp2_with fail
     repeat (go_quiet (fail); try go_wp2_with fail)
     go_ret2
     unfold ParsePost
     rw [HR.out, HFIN.out]
     exact ⟨v5, rfl, by (with_reducible repeat (first | apply Kd.R_alloc | apply Kd.R_drewN | apply Kd.R_drew)); exact HO.out, by (repeat (first | (with_reducible first | exact HB.out | apply below_alloc | apply pw_below_drewN | apply below_drew1) | exact HB.out))⟩
    ·
     have hpos : 0 < l2.length := List.length_pos_iff.mpr hl2
     have q3 : (((s.size - l2.length : Nat) : Int) == (s.size : Int)) = false := beq_eq_false_iff_ne.mpr (by have : l2.length ≤ s.size := hle2; omega)
     have q4 : (((s.size - l2.length : Nat)) == (s.size)) = false := beq_eq_false_iff_ne.mpr (by have : l2.length ≤ s.size := hle2; omega)
     have HFIN := mk0 (show R = match (andS ⟨l2, b2⟩).bad with | some n => .inr n | none => parseS (gk - 2) (andS ⟨l2, b2⟩) (acc ++ [r1.1]) by
      have h5 := HST.out
      rw [hb2] at h5 ⊢
      simp only at h5
      rw [if_neg hl2] at h5
      exact h5)
     have HLT := mk0 (show (andS ⟨l2, b2⟩).bad = none → (andS ⟨l2, b2⟩).l.length < l.length by
      intro h7
      have h8 := andS_lt (st := ⟨l2, b2⟩) hb2 h7
      have h9 : l2.length ≤ l.length := HLE.out
      exact Nat.lt_of_lt_of_le h8 h9)
     clear hbd hb2 hl2
     go_wp2_with fail
     repeat (go_quiet (fail); try go_wp2_with fail)
     go_wp2_with fail
     (with_reducible refine (word_P (w0 := w) (st := ⟨l2, b2⟩) hs ?side1 ?side2).mono ?_)
     case side1 => (repeat (first | (with_reducible first | exact HI.out | apply IsP.alloc | apply IsP.drewN | apply IsP.drew) | exact HI.out))
     case side2 => (repeat (first | (with_reducible first | exact HB.out | apply below_alloc | apply pw_below_drewN | apply below_drew1) | exact HB.out))
     rintro e w7 ⟨rfl, hi, hb, hk⟩
     generalize hE : wordS ⟨l2, b2⟩ = r3 at hi ⊢
     have Er3 := mk0 hE
     clear hE
     have n0_ := mk0 hi
     have n1_ := mk0 hb
     have n2_ := mk0 (R_call (by (repeat (first | (with_reducible first | exact HI.out | apply IsP.alloc | apply IsP.drewN | apply IsP.drew) | exact HI.out))) (by (with_reducible repeat (first | apply Kd.R_alloc | apply Kd.R_drewN | apply Kd.R_drew)); exact HO.out) (by decide) hk)
     clear HI HB HO
     have HI := n0_
     have HB := n1_
     have HO := n2_
     clear n0_ n1_ n2_ hi hb hk
     by_cases hand : r3.1 = [97, 110, 100]
     ·
      have t1 : (r3.1 == ([97, 110, 100] : List UInt8)) = true := by simpa using hand
      have HAND := mk0 (show r3.1 = [97, 110, 100] from hand)
      clear hand
      go_wp2_with fail
      go_roundg (gk - 1)
      case measure => have := HKL.out; omega
      case rel => exact ⟨acc ++ [r1.1], r3.2, ⟨rel_next (l := l) (by rw [← show andS ⟨l2, b2⟩ = r3.2 from by unfold andS; rw [Er3.out, if_pos HAND.out]]; exact HFIN.out) (by rw [← show andS ⟨l2, b2⟩ = r3.2 from by unfold andS; rw [Er3.out, if_pos HAND.out]]; exact HLT.out) HA1.out HKL.out (by (with_reducible repeat (first | apply Kd.R_alloc | apply Kd.R_drewN | apply Kd.R_drew)); exact HO.out)⟩, ⟨by (repeat (first | (with_reducible first | exact HI.out | apply IsP.alloc | apply IsP.drewN | apply IsP.drew) | exact HI.out))⟩, ⟨by (repeat (first | (with_reducible first | exact HB.out | apply below_alloc | apply pw_below_drewN | apply below_drew1) | exact HB.out))⟩⟩
     ·
      have t1 : (r3.1 == ([97, 110, 100] : List UInt8)) = false := by simpa using hand
      have HAND := mk0 (show ¬ r3.1 = [97, 110, 100] from hand)
      clear hand
      go_wp2_with fail
      go_wp2_with fail
      (with_reducible refine (stop_P (w0 := w) (st := r3.2) l2.length (P_le HOK.out) ?side1 ?side2).mono ?_)
      case side1 => (repeat (first | (with_reducible first | exact HI.out | apply IsP.alloc | apply IsP.drewN | apply IsP.drew) | exact HI.out))
      case side2 => (repeat (first | (with_reducible first | exact HB.out | apply below_alloc | apply pw_below_drewN | apply below_drew1) | exact HB.out))
      rintro e w8 ⟨rfl, hi, hb, hk⟩
      generalize hE : stopS r3.2 l2.length = s4 at hi ⊢
      have Es4 := mk0 hE
      clear hE
      have n0_ := mk0 hi
      have n1_ := mk0 hb
      have n2_ := mk0 (R_call (by (repeat (first | (with_reducible first | exact HI.out | apply IsP.alloc | apply IsP.drewN | apply IsP.drew) | exact HI.out))) (by (with_reducible repeat (first | apply Kd.R_alloc | apply Kd.R_drewN | apply Kd.R_drew)); exact HO.out) (by decide) hk)
      clear HI HB HO
      have HI := n0_
      have HB := n1_
      have HO := n2_
      clear n0_ n1_ n2_ hi hb hk
      go_wp2_with fail
      go_roundg (gk - 1)
      case measure => have := HKL.out; omega
      case rel => exact ⟨acc ++ [r1.1], s4, ⟨rel_next (l := l) (by rw [← show andS ⟨l2, b2⟩ = s4 from by unfold andS; rw [Er3.out, if_neg HAND.out]; exact Es4.out]; exact HFIN.out) (by rw [← show andS ⟨l2, b2⟩ = s4 from by unfold andS; rw [Er3.out, if_neg HAND.out]; exact Es4.out]; exact HLT.out) HA1.out HKL.out (by (with_reducible repeat (first | apply Kd.R_alloc | apply Kd.R_drewN | apply Kd.R_drew)); exact HO.out)⟩, ⟨by (repeat (first | (with_reducible first | exact HI.out | apply IsP.alloc | apply IsP.drewN | apply IsP.drew) | exact HI.out))⟩, ⟨by (repeat (first | (with_reducible first | exact HB.out | apply below_alloc | apply pw_below_drewN | apply below_drew1) | exact HB.out))⟩⟩
  ·
   obtain ⟨l, b⟩ := st
   cases hbad
   have HP := mk0 hp
   clear hp HA
   obtain ⟨hok, HG, hg⟩ := HI.out
   have HOK := mk0 hok
   have hc0 := cellS254_0 HG
   have hc1 := cellS254_1 HG
   have hc2 := cellS254_2 HG
   have hf0 := blk_frozen HG 0
   have hf1 := blk_frozen HG 1
   have hf2 := blk_frozen HG 2
   clear HG hg hok
   have hc2' : wr.cell? ⟨w.heap.size, 2, none⟩ = some (.int .i64 ((s.size - m : Nat) : Int)) := hc2
   have q1 := decide_eq_false (show ¬ (((s.size - m : Nat) : Int) < 0) by omega)
   clear hc2
   go_wp2
   go_region
   all_goals (try go_wp2)
   go_ret2
   unfold ParsePost
   rw [HR.out, HP.out]
   exact ⟨wr.heap.size, below_size HB.out, rfl, heap_alloc_new wr _, by (repeat (first | (with_reducible first | exact HB.out | apply below_alloc | apply pw_below_drewN | apply below_drew1) | exact HB.out))⟩
end Go.Proofs.YtnmpijbcajclgaaGreatDoor.Mine
end
section
namespace Go.Proofs.YtnmpijbcajclgaaGreatDoor.Mine
theorem parseS_fuel : ∀ (n k j : Nat) (l : List UInt8) (acc : List Pr), l.length ≤ n → l.length < k → l.length < j → parseS k ⟨l, none⟩ acc = parseS j ⟨l, none⟩ acc
 | n, k, j, l, acc, hn, hk, hj => by
  obtain ⟨k, rfl⟩ : ∃ m, k = m + 1 := ⟨k - 1, by omega⟩
  obtain ⟨j, rfl⟩ : ∃ m, j = m + 1 := ⟨j - 1, by omega⟩
  rw [parseS_succ, parseS_succ]
  cases hb : (blanksS (predS ⟨l, none⟩).2).bad with
  | some m => rfl
  | none =>
   simp only
   split
   ·
    rfl
   ·
    cases ha : (andS (blanksS (predS ⟨l, none⟩).2)).bad with
    | some m => rfl
    | none =>
     simp only
     have h1 := andS_lt hb ha
     have h2 := blanksS_le (predS ⟨l, none⟩).2
     have h3 := predS_le (st := ⟨l, none⟩) rfl
     have h4 : (predS ⟨l, none⟩).2.l.length ≤ l.length := h3
     generalize hst : andS (blanksS (predS ⟨l, none⟩).2) = st at ha h1 ⊢
     obtain ⟨l2, b2⟩ := st
     cases ha
     have h5 : l2.length < l.length := by simp only at h1; omega
     match n with
     | 0 => omega
     | n + 1 => exact parseS_fuel n k j l2 _ (by omega) (by omega) (by omega)
def PS (l : List UInt8) (acc : List Pr) : List Pr ⊕ Nat := parseS (l.length + 1) ⟨l, none⟩ acc
def PN (st : St) (acc : List Pr) : List Pr ⊕ Nat := match st.bad with | some n => .inr n | none => PS st.l acc
theorem PS_eq (l : List UInt8) (acc : List Pr) : PS l acc =
 match (blanksS (predS ⟨l, none⟩).2).bad with
 | some n => .inr n
 | none => if (blanksS (predS ⟨l, none⟩).2).l = [] then .inl (acc ++ [(predS ⟨l, none⟩).1]) else PN (andS (blanksS (predS ⟨l, none⟩).2)) (acc ++ [(predS ⟨l, none⟩).1]) := by
 unfold PS
 rw [parseS_succ]
 cases hb : (blanksS (predS ⟨l, none⟩).2).bad with
 | some m => rfl
 | none =>
  simp only
  split
  ·
   rfl
  ·
   unfold PN
   cases ha : (andS (blanksS (predS ⟨l, none⟩).2)).bad with
   | some m => rfl
   | none =>
    simp only
    have h1 := andS_lt hb ha
    have h2 := blanksS_le (predS ⟨l, none⟩).2
    have h4 : (predS ⟨l, none⟩).2.l.length ≤ l.length := predS_le (st := ⟨l, none⟩) rfl
    generalize hst : andS (blanksS (predS ⟨l, none⟩).2) = st at ha h1 ⊢
    obtain ⟨l2, b2⟩ := st
    cases ha
    have h5 : l2.length < l.length := by simp only at h1; omega
    exact parseS_fuel l2.length _ _ l2 _ (Nat.le_refl _) h5 (Nat.lt_succ_self _)
end Go.Proofs.YtnmpijbcajclgaaGreatDoor.Mine
end
section
namespace Go.Proofs.YtnmpijbcajclgaaGreatDoor.Mine
open Go.RowKit Go.Extern.Stop Go.Stop Go.Extern
section
variable {P : Program} (w : World)
theorem run_equalIn_iface_int (d : Nat) {ti tn : TypeId} {ms : Array (String × TypeId)} {i : TypeInfo} {k : IntKind} (a b : Int)
 (hi : P.underlying ti = some (.interface ms)) (hn : P.underlying tn = some (.int k)) (hinfo : P.info? tn = some i) (hcomp : i.comparable = true) :
 (Op.equalIn (d + 2) ti (.iface tn (.int k a)) (.iface tn (.int k b))).run P w = .ok (a == b) w := by
 simp [Op.equalIn, run_underlying hi, run_underlying hn, typeInfo, hinfo, hcomp]
theorem run_eql_iface_int {ti tn : TypeId} {ms : Array (String × TypeId)} {i : TypeInfo} {k : IntKind} (a b : Int)
 (hi : P.underlying ti = some (.interface ms)) (hn : P.underlying tn = some (.int k)) (hinfo : P.info? tn = some i) (hcomp : i.comparable = true) :
 (binOp .eql ti (.iface tn (.int k a)) (.iface tn (.int k b))).run P w = .ok (.bool (a == b)) w := by
 simp only [binOp]
 simp [Op.equal, Op.maxDepth, run_equalIn_iface_int w 9998 a b hi hn hinfo hcomp]
end
def ErrIs (w : World) (c : Int) : Nat → Value → Prop
 | 0, v => v = .iface 49 (.int .i64 c)
 | n + 1, v => ∃ (b : Nat) (wh : ByteArray) (at_ : Int) (x : Value), v = .iface 178 (.pointer (some ⟨b, 0, none⟩)) ∧ w.heap[b]? = some (.cells #[.string wh, .int .i64 at_, x] 180 (0, 0)) ∧ ErrIs w c n x
theorem ErrIs.below {w w' : World} {c : Int} (hb : ∀ b, b < w.heap.size → w'.heap[b]? = w.heap[b]?) : ∀ {n : Nat} {v : Value}, ErrIs w c n v → ErrIs w' c n v
 | 0, _, h => h
 | _ + 1, _, ⟨b, wh, at_, x, hv, hc, hx⟩ => ⟨b, wh, at_, x, hv, (hb b (Array.getElem?_eq_some_iff.1 hc).1).trans hc, ErrIs.below hb hx⟩
theorem ErrIs.iface {w : World} {c : Int} : ∀ {n : Nat} {v : Value}, ErrIs w c n v → ∃ t y, v = .iface t y
 | 0, _, h => ⟨_, _, h⟩
 | _ + 1, _, ⟨_, _, _, _, h, _⟩ => ⟨_, _, h⟩
theorem info49 : (Tryz.prog.info? 49).map (·.comparable) = some true := by kernel_rfl
theorem eqCode (a b : Int) (w : World) : (binOp .eql 26 (.iface 49 (.int .i64 a)) (.iface 49 (.int .i64 b))).run Tryz.prog w = .ok (.bool (a == b)) w := by
 obtain ⟨i, hi, hc⟩ := Option.map_eq_some_iff.1 info49
 exact run_eql_iface_int w a b Tryz.underlying26 Tryz.underlying49 hi hc
theorem eqFault (a : Value) (b : Int) (w : World) : (binOp .eql 26 (.iface 178 a) (.iface 49 (.int .i64 b))).run Tryz.prog w = .ok (.bool false) w :=
 run_eql_iface_types _ _ _ _ Tryz.underlying26 (by decide) w
theorem noIsFault (v : Value) (xT : TypeId) (w : World) : (Instr.typeAssert (.iface 178 v) xT 319 true).run Tryz.prog w = .ok (.tuple #[.nilIface, .bool false]) w := run_typeAssert_lacksB Tryz.underlying319 (by kernel_rfl) (by kernel_rfl) v xT w
theorem noIsCode (v : Value) (xT : TypeId) (w : World) : (Instr.typeAssert (.iface 49 v) xT 319 true).run Tryz.prog w = .ok (.tuple #[.nilIface, .bool false]) w := run_typeAssert_lacksB Tryz.underlying319 (by kernel_rfl) (by kernel_rfl) v xT w
theorem unwrapFault (v : Value) (xT : TypeId) (w : World) : (Instr.typeAssert (.iface 178 v) xT 285 true).run Tryz.prog w = .ok (.tuple #[.iface 178 v, .bool true]) w := run_typeAssert_hasB Tryz.underlying285 (by kernel_rfl) v xT w
theorem noUnwrapCode (v : Value) (xT : TypeId) (w : World) : (Instr.typeAssert (.iface 49 v) xT 285 true).run Tryz.prog w = .ok (.tuple #[.nilIface, .bool false]) w := run_typeAssert_lacksB Tryz.underlying285 (by kernel_rfl) (by kernel_rfl) v xT w
theorem noUnwrapsCode (v : Value) (xT : TypeId) (w : World) : (Instr.typeAssert (.iface 49 v) xT 286 true).run Tryz.prog w = .ok (.tuple #[.nilIface, .bool false]) w := run_typeAssert_lacksB Tryz.underlying286 (by kernel_rfl) (by kernel_rfl) v xT w
theorem nilAheadF (a : Addr) (w : World) : (nilAhead 489 178 (.pointer (some a)) "Unwrap").run Tryz.prog w = .ok (some false) w := by kernel_rfl
theorem methodUnwrap (a : Addr) (w : World) : (Go.method 489 178 (.pointer (some a)) "Unwrap").run Tryz.prog w = .ok (280, .pointer (some a)) w := by kernel_rfl
theorem unwrap_calls (b : Nat) (x : Value) (w : World) (hc : w.cell? ⟨b, 2, none⟩ = some x) : Calls Tryz.prog 280 #[.pointer (some ⟨b, 0, none⟩)] w fun e w' => e = .returned x ∧ w = w' := by
 go_enter Tryz.func280, Tryz.ntmps280
 go_wp2
 go_ret
 exact ⟨rfl, rfl⟩
set_option maxHeartbeats 1000000 in
theorem is_loop (c c2 : Int) (n : Nat) (v : Value) (w : World) (h : ErrIs w c n v) :
 Calls Tryz.prog 151 #[v, .iface 49 (.int .i64 c2), .bool true] w fun e w' => e = .returned (.bool (c == c2)) ∧ w = w' := by
 have e1 := eqCode
 have e2 := eqFault
 have e3 := noIsFault
 have e4 := noIsCode
 have e5 := unwrapFault
 have e6 := noUnwrapCode
 have e7 := noUnwrapsCode
 have e8 := nilAheadF
 have e9 := methodUnwrap
 have HH : Aside (ErrIs w c n v) := h
 clear h
 go_enter Tryz.func151, Tryz.ntmps151
 go_wp2
 go_loopg [0] (n + 1) (fun k v0 wr => wr = w ∧ 0 < k ∧ Aside (ErrIs w c (k - 1) v0))
 case atStart => exact ⟨rfl, by omega, HH⟩
 case round =>
  obtain ⟨hw, hk, HE⟩ := hrel
  subst hw
  obtain ⟨k, rfl⟩ : ∃ k, gk = k + 1 := ⟨gk - 1, by omega⟩
  simp only [Nat.add_sub_cancel] at HE
  cases k with
  | zero =>
   have hv : u0 = .iface 49 (.int .i64 c) := HE.out
   subst hv
   cases hcc : (c == c2) with
   | true =>
    go_wp2
    repeat (go_quiet (fail); try go_wp2)
    go_ret
    exact ⟨by rw [hcc]; rfl, rfl⟩
   | false =>
    go_wp2
    repeat (go_quiet (fail); try go_wp2)
    go_ret
    exact ⟨by rw [hcc]; rfl, rfl⟩
  | succ k =>
   obtain ⟨b, wh, at_, x, hv, hb, hx⟩ := HE.out
   subst hv
   have hc := cell_of_row wr b 2 _ _ _ hb
   have hc' : wr.cell? ⟨b, 2, none⟩ = some x := hc
   have HX : Aside (ErrIs wr c k x) := hx
   obtain ⟨tx, vx, hxv⟩ := hx.iface
   have hxn := run_eql_held_nil (P := Tryz.prog) wr 26 tx vx Tryz.underlying26
   subst hxv
   clear hc hb hx
   go_wp2_with (first | (go_at_call 280; refine (unwrap_calls b _ _ hc').mono ?_; rintro e w' ⟨rfl, rfl⟩))
   go_roundg (k + 1)
   case measure => omega
   case rel => exact ⟨rfl, by omega, HX⟩
theorem typeOfCode (v : Value) (w : World) : (ReflectliteType.typeOf #[.iface 49 v]).run Tryz.prog w = .ok (.iface 278 (.agg #[.pointer (some ⟨4, 49, none⟩)])) w := by kernel_rfl
theorem methodComparable (h : Value) (w : World) : (Go.method 489 278 (.agg #[h]) "Comparable").run Tryz.prog w = .ok (287, .agg #[h]) w := by kernel_rfl
theorem isComparable (w : World) : ((ReflectliteType.method fun t => do Rtype.noPackHeld "Comparable" t; (fun a => Value.bool a.comparable) <$> typeInfo t) #[.agg #[.pointer (some ⟨4, 49, none⟩)]]).run Tryz.prog w = .ok (.bool true) w := by kernel_rfl
set_option maxHeartbeats 1000000 in
theorem is_err (c c2 : Int) (n : Nat) (v : Value) (w : World) (h : ErrIs w c n v) :
 Calls Tryz.prog 85 #[v, .iface 49 (.int .i64 c2)] w fun e w' => e = .returned (.bool (c == c2)) ∧ w = w' := by
 obtain ⟨tx, vx, rfl⟩ := h.iface
 have HH : Aside (ErrIs w c n (.iface tx vx)) := h
 clear h
 have n1 := run_eql_held_nil (P := Tryz.prog) w 26 tx vx Tryz.underlying26
 have n2 := run_eql_held_nil (P := Tryz.prog) w 26 49 (.int .i64 c2) Tryz.underlying26
 have h8 := @run_callFunc_extern Tryz.prog 150 _ ReflectliteType.typeOf Tryz.func150 (by kernel_rfl) (by kernel_rfl) (by kernel_rfl) (by kernel_rfl)
 have h32 := @run_callFunc_extern Tryz.prog 287 _ (ReflectliteType.method fun t => do Rtype.noPackHeld "Comparable" t; pure (.bool (← typeInfo t).comparable)) Tryz.func287 (by kernel_rfl) (by kernel_rfl) (by kernel_rfl) (by kernel_rfl)
 have t1 := typeOfCode
 have m1 := methodComparable
 have c1 := isComparable
 go_enter Tryz.func85, Tryz.ntmps85
 go_wp2_with (first | (go_at_call 151; refine (is_loop c c2 n _ _ HH.out).mono ?_; rintro e w' ⟨rfl, rfl⟩))
 go_ret
 exact ⟨rfl, rfl⟩
theorem is_nil (c2 : Int) (w : World) : Calls Tryz.prog 85 #[.nilIface, .iface 49 (.int .i64 c2)] w fun e w' => e = .returned (.bool false) ∧ w = w' := by
 have hn := run_eql_iface_nil_left (P := Tryz.prog) w 49 (.int .i64 c2) Tryz.underlying26
 go_enter Tryz.func85, Tryz.ntmps85
 go_wp2
 go_ret
 exact ⟨rfl, rfl⟩
end Go.Proofs.YtnmpijbcajclgaaGreatDoor.Mine
end
section
namespace Go.Proofs.YtnmpijbcajclgaaGreatDoor.Mine
open Go.RowKit YtnmpijbcajclgaaGreatDoorW.PrintWords YtnmpijbcajclgaaGreatDoorW.PrintLast YtnmpijbcajclgaaGreatDoorW.PrintMore
open PNodeAlone
theorem parse_P (s : ByteArray) (w : World) (h : s.size ≤ 1000) : Calls Tryz.prog 83 #[.string s] w (ParsePost w s) := by
 by_cases h3 : 300 < s.size
 ·
  exact parse_long s w h h3
 ·
  exact parse_any s w (by omega)
theorem ParsePost.ok {w w' : World} {s : ByteArray} {xs : List Pr} {e : Ending} (h : ParsePost w s e w') (hr : parseR s = .inl xs) : ParseOk w xs e w' := by
 unfold ParsePost at h
 rw [hr] at h
 exact h
theorem ParsePost.no {w w' : World} {s : ByteArray} {a c : Int} {e : Ending} (h : ParsePost w s e w') (hr : parseR s = .inr (a, c)) : ParseNo w a c e w' := by
 unfold ParsePost at h
 rw [hr] at h
 exact h
theorem IsFault.errIs {w : World} {b : Nat} {wh : ByteArray} {at_ c : Int} (h : IsFault w b wh at_ c) : ErrIs w c 1 (.iface 178 (.pointer (some ⟨b, 0, none⟩))) := ⟨b, wh, at_, _, rfl, h, rfl⟩
theorem IsFault.keep {w w' : World} {b : Nat} {wh : ByteArray} {at_ c : Int} (h : IsFault w b wh at_ c) (hb : Below w.heap.size w w') : IsFault w' b wh at_ c := (hb.block b (Array.getElem?_eq_some_iff.1 h).1).trans h
theorem parseR_ok {s : ByteArray} {xs : List Pr} (h : parseR s = .inl xs) : s.size ≤ 300 ∧ PS (bytes s) [] = .inl xs := by
 unfold parseR at h
 split at h
 ·
  cases h
 ·
  rename_i hs
  refine ⟨by omega, ?_⟩
  unfold PS
  rw [bytes_len]
  split at h
  ·
   rename_i ys hy
   rw [hy]
   exact congrArg _ (by injection h)
  ·
   cases h
theorem PS_count : ∀ (n : Nat) (l : List UInt8) (acc xs : List Pr), l.length ≤ n → PS l acc = .inl xs → xs.length ≤ acc.length + l.length + 1
 | n, l, acc, xs, hn, h => by
  rw [PS_eq] at h
  cases hb : (blanksS (predS ⟨l, none⟩).2).bad with
  | some m => rw [hb] at h; cases h
  | none =>
   rw [hb] at h
   simp only at h
   by_cases hs : (blanksS (predS ⟨l, none⟩).2).l = []
   ·
    rw [if_pos hs] at h
    cases h
    simp
   ·
    rw [if_neg hs] at h
    unfold PN at h
    cases ha : (andS (blanksS (predS ⟨l, none⟩).2)).bad with
    | some m => rw [ha] at h; cases h
    | none =>
     rw [ha] at h
     have h1 := andS_lt hb ha
     have h2 := blanksS_le (predS ⟨l, none⟩).2
     have h3 : (predS ⟨l, none⟩).2.l.length ≤ l.length := predS_le (st := ⟨l, none⟩) rfl
     match n with
     | 0 => omega
     | n + 1 =>
      have := PS_count n _ _ _ (by omega) h
      simp at this
      omega
theorem parse_count {s : ByteArray} {xs : List Pr} (h : parseR s = .inl xs) : xs.length ≤ 301 := by
 obtain ⟨h1, h2⟩ := parseR_ok h
 have := PS_count _ _ _ _ (Nat.le_refl _) h2
 rw [bytes_len] at this
 simp at this
 omega
def isChar (c : UInt8) : Bool := decide (32 ≤ c ∧ c ≤ 126)
end Go.Proofs.YtnmpijbcajclgaaGreatDoor.Mine
end
section
namespace Go.Proofs.YtnmpijbcajclgaaGreatDoor.Mine
open Go.RowKit YtnmpijbcajclgaaGreatDoorW.PrintWords
structure BelowP (W : World) where
 w : World
 h : Below W.heap.size W w
instance BelowP.inh (W : World) : Inhabited (BelowP W) := ⟨⟨W, Below.refl _ _⟩⟩
theorem BelowP.cell {W : World} {a : Addr} {v : Value} (h : W.cell? a = some v) (p : BelowP W) : p.w.cell? a = some v := (p.h.cell (World.block_lt_of_cell? W _ h)).trans h
theorem wp_region_quiet_below {P : Program} {id : Nat} {Q : Exit → Act → World → Prop} {a : Act} {W : World} {l : List Oper} (hm : P.follows .mixedOrders = true) (hB : Region.lexB .any l.toArray = true)
 (h : wpQuiet P l.toArray (fun w' => ∃ p : BelowP W, w' = p.w) (fun a' => ∀ w', (∃ p : BelowP W, w' = p.w) → Q .normal a' w') l a) : (Code.region id l.toArray true).wp P Q a W :=
 wp_region_quiet (C := fun w' => ∃ p : BelowP W, w' = p.w) hm hB ⟨⟨W.drew, (Below.refl _ _).drew⟩, rfl⟩ (by simpa using h)
theorem Calls.below_of {P : Program} {f : FuncId} {args : Array Value} {W : World} {p : BelowP W} {v : Value}
 (h : Calls P f args p.w fun e w' => e = .returned v ∧ Below p.w.heap.size p.w w') : Calls P f args p.w fun e w'' => e = .returned v ∧ ∃ q : BelowP W, w'' = q.w :=
 h.mono fun _ w' ⟨he, hb⟩ => ⟨he, ⟨w', below_then p.h p.h.size hb⟩, rfl⟩
end Go.Proofs.YtnmpijbcajclgaaGreatDoor.Mine
end
section
namespace Go.Proofs.YtnmpijbcajclgaaGreatDoor.Mine
open Go.RowKit YtnmpijbcajclgaaGreatDoorW.PrintWords YtnmpijbcajclgaaGreatDoorW.PrintLast YtnmpijbcajclgaaGreatDoorW.PrintMore
open PNodeAlone
def idxFrom {α : Type} (p : α → Bool) : List α → Nat → Int
 | [], _ => -1
 | x :: r, i => if p x then (i : Int) else idxFrom p r (i + 1)
def idxB {α : Type} (p : α → Bool) (l : List α) : Int := idxFrom p l 0
def CloAt {α : Type} (g : Nat) (lb : Array Value) (enc : α → Value) (p : α → Bool) (w : World) : Prop :=
 ∀ (W : World) (x : α), Below w.heap.size w W → Calls Tryz.prog g (#[enc x] ++ lb) W fun e w' => e = .returned (.bool (p x)) ∧ Below W.heap.size W w'
def CloOn {α : Type} (g : Nat) (lb : Array Value) (enc : α → Value) (p : α → Bool) (w : World) (L : List α) : Prop :=
 ∀ (W : World) (x : α), x ∈ L → Below w.heap.size w W → Calls Tryz.prog g (#[enc x] ++ lb) W fun e w' => e = .returned (.bool (p x)) ∧ Below W.heap.size W w'
theorem CloAt.on {α : Type} {g : Nat} {lb : Array Value} {enc : α → Value} {p : α → Bool} {w : World} (h : CloAt g lb enc p w) (L : List α) : CloOn g lb enc p w L := fun W x _ hb => h W x hb
def enc46 (x : S168) : Value := .agg #[.string x.f0, .int .i64 x.f1, .int .i64 x.f2, .int .i64 x.f3, .string x.f4]
def enc95 (x : S30) : Value := .agg #[.string x.f0, .int .i64 x.f1, .int .i64 x.f2, .int .i64 x.f3]
set_option maxHeartbeats 1000000 in
theorem idx46_calls (g : Nat) (lb : Array Value) (p : S168 → Bool) (A : Option Addr) (n c : Nat) (L : List S168) (w : World) (eg : ∀ args w, (callFunc g args).run Tryz.prog w = .ok (.enter g args) w) (hn : L.length = n) (hr : Kd.C k168 w A n L) (hl : n ≤ 100000)
 (hp : CloOn g lb enc46 p w L) :
 Calls Tryz.prog 207 #[.slice A n c, .func (.func g) #[] lb] w fun e w' => e = .returned (.int .i64 (idxB p L)) ∧ Below w.heap.size w w' := by
 have HR := mk0 hr
 have HP := mk0 hp
 have HN := mk0 hn
 clear hr hp hn
 go_enter Tryz.func207, Tryz.ntmps207
 go_wp2_with fail
 go_loopg [5, 8] (n + 1) (fun k v5 v8 W => ∃ i : Nat, Aside0 (i ≤ n ∧ k + i = n + 1 ∧ idxB p L = idxFrom p (L.drop i) i) ∧ v8 = .int .i64 (i : Int) ∧ Aside0 (Below w.heap.size w W))
 case atStart => exact ⟨0, ⟨by omega, by omega, rfl⟩, rfl, ⟨Below.refl _ _⟩⟩
 case round =>
  obtain ⟨i, HM, rfl, HB⟩ := hrel
  by_cases hi : i < n
  ·
   have b1 : decide ((i : Int) < (n : Int)) = true := decide_eq_true (by omega)
   have b2 : decide (i < n) = true := decide_eq_true (by omega)
   have p1 : (0 : Int) ≤ (i : Int) := by omega
   have p2 : (i : Int) < (n : Int) := by omega
   obtain ⟨ad, e, hcs⟩ := at_T168 HR.out i p1 p2
   cases e
   rw [Int.toNat_natCast] at hcs
   have hrd : rd_T168 L (i : Int) = L.getD i z168 := rfl
   rw [hrd] at hcs
   have hdr : L.drop i = L.getD i z168 :: L.drop (i + 1) := by
    rw [List.drop_eq_getElem_cons (by have := HN.out; omega), List.getD_eq_getElem?_getD, List.getElem?_eq_getElem (by have := HN.out; omega)]
    rfl
   have HD := mk0 hdr
   have HCL := mk0 (HP.out _ (L.getD i z168) (by rw [List.getD_eq_getElem?_getD, List.getElem?_eq_getElem (by have := HN.out; omega)]; exact List.getElem_mem _) HB.out)
   clear hrd hdr
   generalize L.getD i z168 = x at hcs HD HCL
   cases hpx : p x with
   | true =>
    have HX := mk0 hpx
    clear hpx
    rw [HX.out] at HCL
    obtain ⟨h0, h1, h2, h3, h4⟩ := hcs; replace h0 := (HB.out.cell (World.block_lt_of_cell? w _ h0)).trans h0; replace h1 := (HB.out.cell (World.block_lt_of_cell? w _ h1)).trans h1; replace h2 := (HB.out.cell (World.block_lt_of_cell? w _ h2)).trans h2; replace h3 := (HB.out.cell (World.block_lt_of_cell? w _ h3)).trans h3; replace h4 := (HB.out.cell (World.block_lt_of_cell? w _ h4)).trans h4
    go_wp2_with fail
    refine HCL.out.mono ?_
    rintro e w2 ⟨rfl, hb⟩
    have n_ := mk0 (below_then HB.out HB.out.size hb)
    clear HB hb
    have HB := n_
    clear n_
    go_wp2
    go_ret
    exact ⟨by rw [HM.out.2.2, HD.out]; simp [idxFrom, HX.out], HB.out⟩
   | false =>
    have HX := mk0 hpx
    clear hpx
    rw [HX.out] at HCL
    obtain ⟨h0, h1, h2, h3, h4⟩ := hcs; replace h0 := (HB.out.cell (World.block_lt_of_cell? w _ h0)).trans h0; replace h1 := (HB.out.cell (World.block_lt_of_cell? w _ h1)).trans h1; replace h2 := (HB.out.cell (World.block_lt_of_cell? w _ h2)).trans h2; replace h3 := (HB.out.cell (World.block_lt_of_cell? w _ h3)).trans h3; replace h4 := (HB.out.cell (World.block_lt_of_cell? w _ h4)).trans h4
    go_wp2_with fail
    refine HCL.out.mono ?_
    rintro e w2 ⟨rfl, hb⟩
    have n_ := mk0 (below_then HB.out HB.out.size hb)
    clear HB hb
    have HB := n_
    clear n_
    go_wp2_with fail
    go_roundg (gk - 1)
    case measure => have := HM.out; omega
    case rel => exact ⟨i + 1, ⟨by omega, by have := HM.out; omega, by rw [HM.out.2.2, HD.out]; simp [idxFrom, HX.out]⟩, rfl, HB⟩
  ·
   have b1 : decide ((i : Int) < (n : Int)) = false := decide_eq_false (by omega)
   have b2 : decide (i < n) = false := decide_eq_false (by omega)
   have hd : L.drop i = [] := List.drop_eq_nil_iff.2 (by have := HN.out; omega)
   have HE := mk0 hd
   clear hd hi
   go_wp2
   go_ret
   exact ⟨by rw [HM.out.2.2, HE.out]; rfl, HB.out⟩
set_option maxHeartbeats 1000000 in
theorem idx95_calls (g : Nat) (lb : Array Value) (p : S30 → Bool) (A : Option Addr) (n c : Nat) (L : List S30) (w : World) (eg : ∀ args w, (callFunc g args).run Tryz.prog w = .ok (.enter g args) w) (hn : L.length = n) (hr : Kd.C k30 w A n L) (hl : n ≤ 100000)
 (hp : CloOn g lb enc95 p w L) :
 Calls Tryz.prog 142 #[.slice A n c, .func (.func g) #[] lb] w fun e w' => e = .returned (.int .i64 (idxB p L)) ∧ Below w.heap.size w w' := by
 have HR := mk0 hr
 have HP := mk0 hp
 have HN := mk0 hn
 clear hr hp hn
 go_enter Tryz.func142, Tryz.ntmps142
 go_wp2_with fail
 go_loopg [5, 8] (n + 1) (fun k v5 v8 W => ∃ i : Nat, Aside0 (i ≤ n ∧ k + i = n + 1 ∧ idxB p L = idxFrom p (L.drop i) i) ∧ v8 = .int .i64 (i : Int) ∧ Aside0 (Below w.heap.size w W))
 case atStart => exact ⟨0, ⟨by omega, by omega, rfl⟩, rfl, ⟨Below.refl _ _⟩⟩
 case round =>
  obtain ⟨i, HM, rfl, HB⟩ := hrel
  by_cases hi : i < n
  ·
   have b1 : decide ((i : Int) < (n : Int)) = true := decide_eq_true (by omega)
   have b2 : decide (i < n) = true := decide_eq_true (by omega)
   have p1 : (0 : Int) ≤ (i : Int) := by omega
   have p2 : (i : Int) < (n : Int) := by omega
   obtain ⟨ad, e, hcs⟩ := at_T30 HR.out i p1 p2
   cases e
   rw [Int.toNat_natCast] at hcs
   have hrd : rd_T30 L (i : Int) = L.getD i z30 := rfl
   rw [hrd] at hcs
   have hdr : L.drop i = L.getD i z30 :: L.drop (i + 1) := by
    rw [List.drop_eq_getElem_cons (by have := HN.out; omega), List.getD_eq_getElem?_getD, List.getElem?_eq_getElem (by have := HN.out; omega)]
    rfl
   have HD := mk0 hdr
   have HCL := mk0 (HP.out _ (L.getD i z30) (by rw [List.getD_eq_getElem?_getD, List.getElem?_eq_getElem (by have := HN.out; omega)]; exact List.getElem_mem _) HB.out)
   clear hrd hdr
   generalize L.getD i z30 = x at hcs HD HCL
   cases hpx : p x with
   | true =>
    have HX := mk0 hpx
    clear hpx
    rw [HX.out] at HCL
    obtain ⟨h0, h1, h2, h3⟩ := hcs; replace h0 := (HB.out.cell (World.block_lt_of_cell? w _ h0)).trans h0; replace h1 := (HB.out.cell (World.block_lt_of_cell? w _ h1)).trans h1; replace h2 := (HB.out.cell (World.block_lt_of_cell? w _ h2)).trans h2; replace h3 := (HB.out.cell (World.block_lt_of_cell? w _ h3)).trans h3
    go_wp2_with fail
    refine HCL.out.mono ?_
    rintro e w2 ⟨rfl, hb⟩
    have n_ := mk0 (below_then HB.out HB.out.size hb)
    clear HB hb
    have HB := n_
    clear n_
    go_wp2
    go_ret
    exact ⟨by rw [HM.out.2.2, HD.out]; simp [idxFrom, HX.out], HB.out⟩
   | false =>
    have HX := mk0 hpx
    clear hpx
    rw [HX.out] at HCL
    obtain ⟨h0, h1, h2, h3⟩ := hcs; replace h0 := (HB.out.cell (World.block_lt_of_cell? w _ h0)).trans h0; replace h1 := (HB.out.cell (World.block_lt_of_cell? w _ h1)).trans h1; replace h2 := (HB.out.cell (World.block_lt_of_cell? w _ h2)).trans h2; replace h3 := (HB.out.cell (World.block_lt_of_cell? w _ h3)).trans h3
    go_wp2_with fail
    refine HCL.out.mono ?_
    rintro e w2 ⟨rfl, hb⟩
    have n_ := mk0 (below_then HB.out HB.out.size hb)
    clear HB hb
    have HB := n_
    clear n_
    go_wp2_with fail
    go_roundg (gk - 1)
    case measure => have := HM.out; omega
    case rel => exact ⟨i + 1, ⟨by omega, by have := HM.out; omega, by rw [HM.out.2.2, HD.out]; simp [idxFrom, HX.out]⟩, rfl, HB⟩
  ·
   have b1 : decide ((i : Int) < (n : Int)) = false := decide_eq_false (by omega)
   have b2 : decide (i < n) = false := decide_eq_false (by omega)
   have hd : L.drop i = [] := List.drop_eq_nil_iff.2 (by have := HN.out; omega)
   have HE := mk0 hd
   clear hd hi
   go_wp2
   go_ret
   exact ⟨by rw [HM.out.2.2, HE.out]; rfl, HB.out⟩
theorem idxFrom_range {α : Type} (p : α → Bool) : ∀ (l : List α) (i : Nat), (idxFrom p l i = -1 ∧ l.any p = false) ∨ ((i : Int) ≤ idxFrom p l i ∧ l.any p = true)
 | [], _ => Or.inl ⟨rfl, rfl⟩
 | x :: r, i => by
  cases h : p x with
  | true => exact Or.inr ⟨by simp [idxFrom, h], by simp [h]⟩
  | false =>
   rcases idxFrom_range p r (i + 1) with ⟨h1, h2⟩ | ⟨h1, h2⟩
   ·
    exact Or.inl ⟨by simp [idxFrom, h, h1], by simp [h, h2]⟩
   ·
    exact Or.inr ⟨by simp only [idxFrom, h]; simp; omega, by simp [h, h2]⟩
theorem idxB_any {α : Type} (p : α → Bool) (l : List α) : decide (0 ≤ idxB p l) = l.any p := by
 rcases idxFrom_range p l 0 with ⟨h1, h2⟩ | ⟨h1, h2⟩
 ·
  rw [h2]
  unfold idxB
  rw [h1]
  rfl
 ·
  rw [h2]
  exact decide_eq_true h1
theorem cont46_calls (g : Nat) (lb : Array Value) (p : S168 → Bool) (A : Option Addr) (n c : Nat) (L : List S168) (w : World) (eg : ∀ args w, (callFunc g args).run Tryz.prog w = .ok (.enter g args) w) (hn : L.length = n) (hr : Kd.C k168 w A n L) (hl : n ≤ 100000)
 (hp : CloOn g lb enc46 p w L) :
 Calls Tryz.prog 147 #[.slice A n c, .func (.func g) #[] lb] w fun e w' => e = .returned (.bool (L.any p)) ∧ Below w.heap.size w w' := by
 have HC := mk0 (idx46_calls g lb p A n c L w eg hn hr hl hp)
 have HX := mk0 (idxB_any p L)
 generalize idxB p L = z at HC HX
 clear hr hn hp
 go_enter Tryz.func147, Tryz.ntmps147
 go_wp2_with fail
 refine HC.out.mono ?_
 rintro e w2 ⟨rfl, hb⟩
 go_wp2
 go_ret
 exact ⟨by rw [← HX.out]; rfl, hb⟩
theorem find_clo (nm : ByteArray) (B : Nat) (w : World) (hc : w.cell? ⟨B, 0, none⟩ = some (.string nm)) : CloAt 152 #[.pointer (some ⟨B, 0, none⟩)] enc95 (fun x => x.f0.toList == nm.toList) w := fun W x hb => by
 have h0 := (hb.cell (World.block_lt_of_cell? w _ hc)).trans hc
 have hlt := World.block_lt_of_cell? W _ h0
 show Calls _ _ #[enc95 x, .pointer (some ⟨B, 0, none⟩)] W _
 unfold enc95
 go_enter Tryz.func152, Tryz.ntmps152
 go_wp2
 go_ret
 exact ⟨rfl, below_alloc (Below.refl _ _) _⟩
theorem same_clo (nm : ByteArray) (B : Nat) (w : World) (hc : w.cell? ⟨B, 0, none⟩ = some (.string nm)) : CloAt 148 #[.pointer (some ⟨B, 0, none⟩)] enc46 (fun x => x.f0.toList == nm.toList) w := fun W x hb => by
 have h0 := (hb.cell (World.block_lt_of_cell? w _ hc)).trans hc
 have hlt := World.block_lt_of_cell? W _ h0
 show Calls _ _ #[enc46 x, .pointer (some ⟨B, 0, none⟩)] W _
 unfold enc46
 go_enter Tryz.func148, Tryz.ntmps148
 go_wp2
 go_ret
 exact ⟨rfl, below_alloc (Below.refl _ _) _⟩
def findB (nm : ByteArray) (L : List S30) : Int := idxB (fun x => x.f0.toList == nm.toList) L
theorem find_calls (A : Option Addr) (n c : Nat) (L : List S30) (nm : ByteArray) (w : World) (hn : L.length = n) (hr : Kd.C k30 w A n L) (hl : n ≤ 100000) :
 Calls Tryz.prog 88 #[.slice A n c, .string nm] w fun e w' => e = .returned (.int .i64 (findB nm L)) ∧ Below w.heap.size w w' := by
 have hb := below_alloc (Below.refl w.heap.size w) (.cells #[.string nm] 9)
 have hcl := find_clo nm w.heap.size (w.alloc (.cells #[.string nm] 9)) (cell_of_row _ _ 0 _ _ _ (heap_alloc_new w _))
 have HC := mk0 (idx95_calls _ _ _ A n c L (w.alloc (.cells #[.string nm] 9)) (enters_of Tryz.func152 (by kernel_rfl) rfl) hn (Kd.C_below hr hb) hl (hcl.on L))
 clear hr hn hcl
 go_enter Tryz.func88, Tryz.ntmps88
 go_wp2_with fail
 refine HC.out.mono ?_
 rintro e w2 ⟨rfl, hb2⟩
 go_wp2
 go_ret
 exact ⟨rfl, below_then hb hb.size hb2⟩
theorem vfault_calls (i c : Int) (w : World) : Calls Tryz.prog 79 #[.int .i64 i, .int .i64 c] w fun e w' => ∃ b, w.heap.size ≤ b ∧ e = .returned (.iface 178 (.pointer (some ⟨b, 0, none⟩))) ∧ IsFault w' b ⟨#[118, 97, 108, 117, 101]⟩ i c ∧ Below w.heap.size w w' := by
 go_enter Tryz.func79, Tryz.ntmps79
 go_wp2
 go_ret
 exact ⟨w.heap.size, Nat.le_refl _, rfl, heap_alloc_new w _, below_alloc (Below.refl _ _) _⟩
end Go.Proofs.YtnmpijbcajclgaaGreatDoor.Mine
end
section
namespace Go.Proofs
open Go.Shelf
def Tryz.laysGw17_ren : Go.Shelf.Ren := ⟨fun | 17 => 140 | 15 => 201 | 20 => 237 | n => n, fun | 9 => 9 | 23 => 250 | 4 => 4 | 3 => 3 | 0 => 0 | 21 => 21 | n => n, fun | n => n⟩
theorem Tryz.laysGw17 : Go.Proofs.LaysGw.n17 Tryz.prog Tryz.laysGw17_ren := {
 mixed := by kernel_rfl
 f15 := Tryz.func201.trans (congrArg some (by kernel_rfl))
 f17 := Tryz.func140.trans (congrArg some (by kernel_rfl))
 f20 := Tryz.func237.trans (congrArg some (by kernel_rfl))
 t0 := Tryz.underlying0
 a0 := Tryz.isAgg0
 z0 := Tryz.sizeOf0
 v0 := Tryz.zeroValue0
 i0 := by kernel_rfl
 t3 := Tryz.underlying3
 a3 := Tryz.isAgg3
 z3 := Tryz.sizeOf3
 v3 := Tryz.zeroValue3
 i3 := by kernel_rfl
 t4 := Tryz.underlying4
 a4 := Tryz.isAgg4
 z4 := Tryz.sizeOf4
 v4 := Tryz.zeroValue4
 i4 := by kernel_rfl
 t9 := Tryz.underlying9
 a9 := Tryz.isAgg9
 z9 := Tryz.sizeOf9
 v9 := Tryz.zeroValue9
 i9 := by kernel_rfl
 t21 := Tryz.underlying21
 a21 := Tryz.isAgg21
 z21 := Tryz.sizeOf21
 v21 := Tryz.zeroValue21
 i21 := by kernel_rfl
 t23 := Tryz.underlying250
 a23 := Tryz.isAgg250
 z23 := Tryz.sizeOf250
 v23 := Tryz.zeroValue250
 i23 := by kernel_rfl }
open Go.RowKit Go.Lib in
theorem Tryz.strings_ContainsFunc (g : Nat) (lb : Array Value) (eg : ∀ args w, (callFunc g args).run Tryz.prog w = .ok (.enter g args) w) (p : Nat → Bool) (s : ByteArray) (w : World) (hp : PredAt Tryz.prog g lb encR p w) :
 Calls Tryz.prog 140 #[.string s, .func (.func g) #[] lb] w fun e w' => e = .returned (.bool (decide (0 ≤ Lib.idxFunc p true s))) ∧ Below w.heap.size w w' := Any.strings_ContainsFunc Tryz.laysGw17 g lb eg p s w hp
end Go.Proofs
end
section
namespace Go.Proofs.YtnmpijbcajclgaaGreatDoor.Mine
open Go.RowKit YtnmpijbcajclgaaGreatDoorW.PrintWords Go.Lib
theorem decode_hi (s : ByteArray) (i : Nat) (hi : i < s.size) (h : 128 ≤ (s[i]'hi).toNat) : 128 ≤ (Utf8.decode s i).1 := by
 have hg : s.get! i = s[i]'hi := by simp [ByteArray.get!, hi]; rfl
 rw [decode_at, hg]
 generalize (s[i]'hi).toNat = b0 at h
 generalize (s.get! (i + 1)).toNat = b1
 generalize (s.get! (i + 2)).toNat = b2
 generalize (s.get! (i + 3)).toNat = b3
 unfold decodeN
 repeat' split
 all_goals first | (exfalso; omega) | (simp only; omega)
def badR (r : Nat) : Bool := decide (r < 32) || decide (126 < r)
theorem idx_chars (s : ByteArray) : ∀ (f i : Nat), s.size - i ≤ f → i ≤ s.size → (decide (0 ≤ idxFuncFrom badR true s f i) = !((s.data.toList.drop i).all isChar))
 | 0, i, hf, hi => by
  have : i = s.size := by omega
  have hd : s.data.toList.drop i = [] := List.drop_eq_nil_iff.2 (by rw [Array.length_toList]; exact Nat.le_of_eq this.symm)
  rw [hd]
  rfl
 | f + 1, i, hf, hi => by
  by_cases hlt : i < s.size
  ·
   have hd : s.data.toList.drop i = (s[i]'hlt) :: s.data.toList.drop (i + 1) := by
    rw [List.drop_eq_getElem_cons (by rw [Array.length_toList]; exact hlt)]
    rfl
   rw [hd, List.all_cons]
   unfold idxFuncFrom
   rw [if_pos hlt]
   by_cases ha : (s[i]'hlt).toNat < 128
   ·
    rw [decode_ascii s i hlt ha]
    have hc : badR (s[i]'hlt).toNat = !(isChar (s[i]'hlt)) := by
     simp only [badR, isChar, UInt8.le_iff_toNat_le]
     have e1 : (32 : UInt8).toNat = 32 := rfl
     have e2 : (126 : UInt8).toNat = 126 := rfl
     rw [e1, e2, Bool.eq_iff_iff]
     simp only [Bool.or_eq_true, decide_eq_true_eq, Bool.not_eq_true', decide_eq_false_iff_not]
     omega
    simp only [hc]
    cases hx : isChar (s[i]'hlt) with
    | false => simp
    | true =>
     simp only [Bool.not_true, Bool.true_and]
     rw [if_neg (by simp)]
     exact idx_chars s f (i + 1) (by omega) (by omega)
   ·
    have hd := decode_hi s i hlt (by omega)
    have hb : badR (Utf8.decode s i).1 = true := by
     simp only [badR, Bool.or_eq_true, decide_eq_true_eq]
     omega
    have hx : isChar (s[i]'hlt) = false := by
     simp only [isChar, UInt8.le_iff_toNat_le]
     have e2 : (126 : UInt8).toNat = 126 := rfl
     rw [e2]
     simp
     omega
    rw [if_pos hb, hx]
    simp
  ·
   have : i = s.size := by omega
   have hd : s.data.toList.drop i = [] := List.drop_eq_nil_iff.2 (by rw [Array.length_toList]; exact Nat.le_of_eq this.symm)
   rw [hd, idxFuncFrom_end _ _ _ _ _ hlt]
   rfl
theorem str_pred (w : World) : PredAt Tryz.prog 208 #[] encR badR w := fun W r _ => by
 unfold FnGives
 by_cases h1 : r < 32 <;> by_cases h2 : 126 < r
 all_goals
  have z1 : (r : Int) < 32 ↔ r < 32 := by omega
  have z2 : (126 : Int) < (r : Int) ↔ 126 < r := by omega
  go_enter Tryz.func208, Tryz.ntmps208
  go_wp2
  all_goals first | (exfalso; omega) | (go_ret; exact ⟨by simp [badR, h1, h2], 0, rfl⟩)
def strOk (s : ByteArray) : Bool := decide (s.size ≤ 40) && s.data.toList.all isChar
theorem str_calls (s : ByteArray) (w : World) : Calls Tryz.prog 149 #[.string s] w fun e w' => e = .returned (.bool (strOk s)) ∧ Below w.heap.size w w' := by
 have hC := fun W => Tryz.strings_ContainsFunc 208 #[] (enters_of Tryz.func208 (by kernel_rfl) rfl) badR s W (str_pred W)
 have hX : decide (0 ≤ Lib.idxFunc badR true s) = !(s.data.toList.all isChar) := idx_chars s s.size 0 (by omega) (by omega)
 by_cases h : s.size ≤ 40
 ·
  have h1 : decide ((s.size : Int) ≤ 40) = true := decide_eq_true (by omega)
  have h2 : decide (s.size ≤ 40) = true := decide_eq_true h
  have HX := mk0 hX
  have HC := mk0 hC
  clear hX hC
  go_enter Tryz.func149, Tryz.ntmps149
  go_wp2_with fail
  refine (HC.out _).mono ?_
  rintro e w1 ⟨rfl, hb⟩
  rw [HX.out]
  go_wp2
  go_ret
  exact ⟨by simp [strOk, h2], hb⟩
 ·
  have h1 : decide ((s.size : Int) ≤ 40) = false := decide_eq_false (by omega)
  have h2 : decide (s.size ≤ 40) = false := decide_eq_false h
  clear hX hC
  go_enter Tryz.func149, Tryz.ntmps149
  go_wp2
  go_ret
  exact ⟨by simp [strOk, h2], Below.refl _ _⟩
end Go.Proofs.YtnmpijbcajclgaaGreatDoor.Mine
end
