/-
  The contract of filter.Parse: what it hands back is what the plain parser of Plain says. Condition: the text at most 1000 bytes.
-/
import Derived.Test.YthaapijjjgkacaaDoorPred
import Derived.Test.YthaapijjjgkacaaDoorPlain2
set_option linter.unusedSimpArgs false
set_option linter.unusedVariables false
namespace Go.Proofs.YthaapijjjgkacaaDoor.Mine
open Go.RowKit Go.Proofs.YthaapijjjgkacaaDoorW.PrintWords Go.Proofs.YthaapijjjgkacaaDoorW.PrintLast Go.Proofs.YthaapijjjgkacaaDoorW.PrintMore
open Go.Proofs.YthaapijjjgkacaaDoor.PFilterReads

def toP (x : Pr) : S46 := ⟨⟨x.name.toArray⟩, x.op, x.lo, x.hi, ⟨x.str.toArray⟩⟩
/-- A fault in memory: where, the place, the code. -/
def IsFault (w : World) (b : Nat) (wh : ByteArray) (at_ c : Int) : Prop := w.heap[b]? = some (.cells #[.string wh, .int .i64 at_, .iface 35 (.int .i64 c)] 71 (0, 0))
def sFilter : ByteArray := ⟨#[102, 105, 108, 116, 101, 114]⟩
/-- What a text is: its predicates, or the place and the code. -/
def parseR (s : ByteArray) : List Pr ⊕ (Int × Int) :=
  if 300 < s.size then .inr (0, 1) else
  match parseS (s.size + 1) ⟨bytes s, none⟩ [] with
  | .inl xs => .inl xs
  | .inr n => .inr (((s.size - n : Nat) : Int), 2)
def ParseOk (w : World) (xs : List Pr) (e : Ending) (w' : World) : Prop := ∃ v, e = .returned (.tuple #[v, .nilIface]) ∧ Kd.R k46 46 w' w.heap.size (fun _ => True) v (xs.map toP) ∧ Below w.heap.size w w'
def ParseNo (w : World) (at_ c : Int) (e : Ending) (w' : World) : Prop := ∃ b, w.heap.size ≤ b ∧ e = .returned (.tuple #[.slice none 0 0, .iface 67 (.pointer (some ⟨b, 0, none⟩))]) ∧ IsFault w' b sFilter at_ c ∧ Below w.heap.size w w'
def ParsePost (w : World) (s : ByteArray) (e : Ending) (w' : World) : Prop :=
  match parseR s with
  | .inl xs => ParseOk w xs e w'
  | .inr (at_, c) => ParseNo w at_ c e w'

theorem info46 : (Tryd.prog.info? 46).map (fun i => (i.zero, i.size, i.bytes)) = some (some (.agg #[(.string ⟨#[]⟩), (.int .i64 0), (.int .i64 0), (.int .i64 0), (.string ⟨#[]⟩)]), 5, 56) := by kernel_rfl
theorem R_call {α : Type} {d : Kd α} {e : Nat} {w0 W W' : World} {g base : Nat} {s : ByteArray} {st : St} {v : Value} {xs : List α} (hi : IsP w0 W g s st) (ho : d.R e W base (fun _ => True) v xs) (ht : ∀ q, q ∈ e :: d.E → q ≠ 74) (hk : KeepBut W W' g none) : d.R e W' base (fun _ => True) v xs :=
  Kd.R_mono (Kd.R_keep (IsS74.apart hi.2 ho ht) hk (fun _ h => h.2)) (fun _ _ => trivial)
theorem IsP.grown {w0 W W1 : World} {g : Nat} {s : ByteArray} {st : St} {row : Option Nat} (h : IsP w0 W g s st) (hg : W.grownBy W1 row) (hn : some g ≠ row) : IsP w0 W1 g s st := ⟨h.1, h.2.grown hg hn⟩
theorem rel_next {s : ByteArray} {R : List Pr ⊕ Nat} {gk : Nat} {l : List UInt8} {acc : List Pr} {x : Pr} {st4 : St} {wr w : World} {v : Value}
    (hF : R = match st4.bad with | some n => .inr n | none => parseS (gk - 2) st4 (acc ++ [x])) (hlt : st4.bad = none → st4.l.length < l.length) (hl : acc.length + l.length ≤ s.size) (hk : l.length + 1 < gk)
    (ho : Kd.R k46 46 wr w.heap.size (fun _ => True) v ((acc ++ [x]).map toP)) :
    (st4.bad = none ∧ st4.l.length + 1 < gk - 1 ∧ parseS (gk - 1 - 1) st4 (acc ++ [x]) = R ∧ (acc ++ [x]).length + st4.l.length ≤ s.size ∧ Kd.R k46 46 wr w.heap.size (fun _ => True) v ((acc ++ [x]).map toP)) ∨ (∃ m, st4.bad = some m ∧ 0 < gk - 1 ∧ R = .inr m) := by
  cases hb : st4.bad with
  | none =>
    rw [hb] at hF
    have := hlt hb
    exact Or.inl ⟨rfl, by omega, by rw [show gk - 1 - 1 = gk - 2 by omega]; exact hF.symm, by simp; omega, ho⟩
  | some m =>
    rw [hb] at hF
    exact Or.inr ⟨m, rfl, by omega, hF⟩
set_option maxHeartbeats 1000000 in
set_option maxRecDepth 100000 in
theorem parse_long (s : ByteArray) (w : World) (hs : s.size ≤ 1000) (h : 300 < s.size) : Calls Tryd.prog 13 #[.string s] w (ParsePost w s) := by
  have hr : parseR s = .inr (0, 1) := by unfold parseR; rw [if_pos h]
  have HR := Aside0.mk hr
  clear hr
  have h1 := decide_eq_true (show (300 : Int) < (s.size : Int) by omega)
  go_enter Tryd.func13, Tryd.ntmps13
  go_wp2
  go_ret2
  unfold ParsePost
  rw [HR.out]
  exact ⟨w.heap.size, Nat.le_refl _, rfl, heap_alloc_new w _, (Below.refl _ _).alloc (Nat.le_refl _) _⟩

set_option maxHeartbeats 4000000 in
set_option maxRecDepth 100000 in
theorem parse_any (s : ByteArray) (w : World) (h : s.size ≤ 300) : Calls Tryd.prog 13 #[.string s] w (ParsePost w s) := by
  have hs : s.size ≤ 1000 := by omega
  have h1 := decide_eq_false (show ¬ (300 : Int) < (s.size : Int) by omega)
  have HR := Aside0.mk (show parseR s = match parseS (s.size + 1) ⟨bytes s, none⟩ [] with | .inl xs => .inl xs | .inr n => .inr (((s.size - n : Nat) : Int), 2) by unfold parseR; rw [if_neg (by omega)])
  generalize hR : parseS (s.size + 1) ⟨bytes s, none⟩ [] = R at HR
  have ER := Aside0.mk hR
  clear hR
  go_enter Tryd.func13, Tryd.ntmps13
  go_wp2
  go_loopg [5, 6] (s.size + 2) (fun n v5 _ wr => ∃ (acc : List Pr) (st : St), Aside0 ((st.bad = none ∧ st.l.length + 1 < n ∧ parseS (n - 1) st acc = R ∧ acc.length + st.l.length ≤ s.size ∧ Kd.R k46 46 wr w.heap.size (fun _ => True) v5 (acc.map toP)) ∨ (∃ m, st.bad = some m ∧ 0 < n ∧ R = .inr m)) ∧ Aside0 (IsP w wr w.heap.size s st) ∧ Aside0 (Below w.heap.size w wr))
  case atStart => exact ⟨[], ⟨bytes s, none⟩, ⟨Or.inl ⟨rfl, by show (bytes s).length + 1 < s.size + 2; rw [bytes_len]; omega, ER.out, by show 0 + (bytes s).length ≤ s.size; rw [bytes_len]; omega, Kd.R_nil _ _ _ _ _⟩⟩, ⟨⟨⟨List.suffix_refl _, fun n hn => by cases hn⟩, by rw [show s.size - (bytes s).length = 0 by rw [bytes_len]; omega]; exact IsS74.new w w s 0 (-1) (Below.refl _ _)⟩⟩, ⟨(Below.refl _ _).alloc (Nat.le_refl _) _⟩⟩
  case round =>
    obtain ⟨acc, st, HA, HI, HB⟩ := hrel
    rcases HA.out with ⟨hbad, hk1, hp, hl, ho⟩ | ⟨m, hbad, hk0, hp⟩
    · obtain ⟨l, b⟩ := st
      cases hbad
      have HO := Aside0.mk ho
      have HA1 := Aside0.mk hl
      have HP := Aside0.mk hp
      have HKL := Aside0.mk hk1
      clear hl hp ho HA hk1
      obtain ⟨hok, HG, hg⟩ := HI.out
      have HOK := Aside0.mk hok
      have hc0 := cellS74_0 HG
      have hc1 := cellS74_1 HG
      have hc2 := cellS74_2 HG
      have hf0 := blk_frozen HG 0
      have hf1 := blk_frozen HG 1
      have hf2 := blk_frozen HG 2
      clear HG hg hok
      have hc2' : wr.cell? ⟨w.heap.size, 2, none⟩ = some (.int .i64 (-1)) := hc2
      clear hc2
      go_wp2_with fail
      (with_reducible refine (pred_P (w0 := w) (st := ⟨l, none⟩) hs ?side1 ?side2).mono ?_)
      case side1 => (repeat (first | (with_reducible first | exact HI.out | apply IsP.alloc | apply IsP.drewN | apply IsP.drew) | exact HI.out))
      case side2 => (repeat (first | (with_reducible first | exact HB.out | apply below_alloc | apply pw_below_drewN | apply below_drew1) | exact HB.out))
      rintro e w1 ⟨rfl, hi, hb, hk⟩
      generalize hE : predS ⟨l, none⟩ = r1 at hi ⊢
      have Er1 := Aside0.mk hE
      clear hE
      have n0_ := Aside0.mk hi
      have n1_ := Aside0.mk hb
      have n2_ := Aside0.mk (R_call (by (repeat (first | (with_reducible first | exact HI.out | apply IsP.alloc | apply IsP.drewN | apply IsP.drew) | exact HI.out))) (by (with_reducible repeat (first | apply Kd.R_alloc | apply Kd.R_drewN | apply Kd.R_drew)); exact HO.out) (by decide) hk)
      clear HI HB HO
      have HI := n0_
      have HB := n1_
      have HO := n2_
      clear n0_ n1_ n2_ hi hb hk
      clear hc0 hc1 hc2' hf0 hf1 hf2
      unfold prV
      go_wp2_with ((with_reducible refine gate_builtin (b := .append) (xs := #[.tmp 22, .tmp 25]) rfl ?_); at_builtin; refine Kd.R_append k46 (w0 := w) w.heap.size rfl (.tmp 22) (.tmp 25) 26 46 (.agg #[(.string ⟨#[]⟩), (.int .i64 0), (.int .i64 0), (.int .i64 0), (.string ⟨#[]⟩)]) 56 rfl Tryd.underlying26 info46 rfl (by decide) (by omega) u5 (acc.map toP) (toP r1.1) [.string ⟨r1.1.name.toArray⟩, .int .i64 r1.1.op, .int .i64 r1.1.lo, .int .i64 r1.1.hi, .string ⟨r1.1.str.toArray⟩] (fun _ => True) (fun _ => False) rfl ?aX ?aP (fun _ hk => hk.elim) ?aF ?aO ?aB ?aS ?aL ?_; (case aX => first | rfl | (go_simp; done) | (go_simp; rfl)); (case aP => exact k46_mkM _ _ _ (toP r1.1)); (case aB => (repeat (first | (with_reducible first | exact HB.out | apply below_alloc | apply pw_below_drewN | apply below_drew1) | exact HB.out))); (case aF => exact (fun _ _ => trivial)); (case aO => (with_reducible repeat (first | apply Kd.R_alloc | apply Kd.R_drewN | apply Kd.R_drew)); exact HO.out); (case aS => exact below_size (by (repeat (first | (with_reducible first | exact HB.out | apply below_alloc | apply pw_below_drewN | apply below_drew1) | exact HB.out)))); (case aL => have := HA1.out; simp; omega); intro v5 w5 ho hb hg hat; rw [show acc.map toP ++ [toP r1.1] = (acc ++ [r1.1]).map toP by simp] at ho; have n0_ := Aside0.mk (IsP.grown (by (repeat (first | (with_reducible first | exact HI.out | apply IsP.alloc | apply IsP.drewN | apply IsP.drew) | exact HI.out))) hg (IsS74.own_ne HI.out.2 HO.out (by decide))); have n1_ := Aside0.mk hb; have n2_ := Aside0.mk ho; clear HI HB HO ho hb hg hat; have HI := n0_; have HB := n1_; have HO := n2_; clear n0_ n1_ n2_)
      go_wp2_with fail
      (with_reducible refine (blanks_P (w0 := w) (st := r1.2) hs ?side1 ?side2).mono ?_)
      case side1 => (repeat (first | (with_reducible first | exact HI.out | apply IsP.alloc | apply IsP.drewN | apply IsP.drew) | exact HI.out))
      case side2 => (repeat (first | (with_reducible first | exact HB.out | apply below_alloc | apply pw_below_drewN | apply below_drew1) | exact HB.out))
      rintro e w6 ⟨rfl, hi, hb, hk⟩
      generalize hE : blanksS r1.2 = s2 at hi ⊢
      have Es2 := Aside0.mk hE
      clear hE
      have n0_ := Aside0.mk hi
      have n1_ := Aside0.mk hb
      have n2_ := Aside0.mk (R_call (by (repeat (first | (with_reducible first | exact HI.out | apply IsP.alloc | apply IsP.drewN | apply IsP.drew) | exact HI.out))) (by (with_reducible repeat (first | apply Kd.R_alloc | apply Kd.R_drewN | apply Kd.R_drew)); exact HO.out) (by decide) hk)
      clear HI HB HO
      have HI := n0_
      have HB := n1_
      have HO := n2_
      clear n0_ n1_ n2_ hi hb hk
      have hle := Nat.le_trans (blanksS_le r1.2) (by rw [← Er1.out]; exact predS_le (st := ⟨l, none⟩) rfl)
      rw [Es2.out] at hle
      have HLE := Aside0.mk hle
      clear hle
      have HST := Aside0.mk (show R = match s2.bad with | some n => .inr n | none => if s2.l = [] then .inl (acc ++ [r1.1]) else match (andS s2).bad with | some n => .inr n | none => parseS (gk - 2) (andS s2) (acc ++ [r1.1]) by
        have h5 := HP.out
        obtain ⟨kk, hkk⟩ : ∃ kk, gk = kk + 2 := ⟨gk - 2, by have := HKL.out; omega⟩
        rw [hkk, show kk + 2 - 1 = kk + 1 by omega, parseS_succ, Er1.out, Es2.out] at h5
        rw [hkk, show kk + 2 - 2 = kk by omega]
        exact h5.symm)
      clear HP Er1 Es2
      obtain ⟨hok, HG, hg⟩ := HI.out
      have HOK := Aside0.mk hok
      have hc0 := cellS74_0 HG
      have hc1 := cellS74_1 HG
      have hc2 := cellS74_2 HG
      have hf0 := blk_frozen HG 0
      have hf1 := blk_frozen HG 1
      have hf2 := blk_frozen HG 2
      clear HG hg hok
      obtain ⟨l2, b2⟩ := s2
      obtain ⟨bd, hbd⟩ : ∃ bd, badI s b2 = bd := ⟨_, rfl⟩
      have hc2' : w6.cell? ⟨w.heap.size, 2, none⟩ = some (.int .i64 bd) := by rw [← hbd]; exact hc2
      have hc1' : w6.cell? ⟨w.heap.size, 1, none⟩ = some (.int .i64 ((s.size - l2.length : Nat) : Int)) := hc1
      clear hc2 hc1
      cases hb2 : b2 with
      | some m =>
        have q1 := decide_eq_false (show ¬ (bd < 0) by rw [← hbd, hb2]; have := badI_nn s m; omega)
        have HFIN := Aside0.mk (show R = match (andS ⟨l2, b2⟩).bad with | some n => .inr n | none => parseS (gk - 2) (andS ⟨l2, b2⟩) (acc ++ [r1.1]) by
          have h5 := HST.out
          have h6 : andS ⟨l2, b2⟩ = ⟨l2, some m⟩ := by subst hb2; unfold andS; rw [wordS_bad rfl, if_neg (by simp), stopS_bad rfl]
          rw [h6]
          rw [hb2] at h5
          exact h5)
        have HLT := Aside0.mk (show (andS ⟨l2, b2⟩).bad = none → (andS ⟨l2, b2⟩).l.length < l.length by
          have h6 : andS ⟨l2, b2⟩ = ⟨l2, some m⟩ := by subst hb2; unfold andS; rw [wordS_bad rfl, if_neg (by simp), stopS_bad rfl]
          rw [h6]
          intro h7
          cases h7)
        clear hbd hb2
        go_wp2_with fail
        repeat (go_quiet (fail); try go_wp2_with fail)
        go_wp2_with fail
        (with_reducible refine (word_P (w0 := w) (st := ⟨l2, b2⟩) hs ?side1 ?side2).mono ?_)
        case side1 => (repeat (first | (with_reducible first | exact HI.out | apply IsP.alloc | apply IsP.drewN | apply IsP.drew) | exact HI.out))
        case side2 => (repeat (first | (with_reducible first | exact HB.out | apply below_alloc | apply pw_below_drewN | apply below_drew1) | exact HB.out))
        rintro e w7 ⟨rfl, hi, hb, hk⟩
        generalize hE : wordS ⟨l2, b2⟩ = r3 at hi ⊢
        have Er3 := Aside0.mk hE
        clear hE
        have n0_ := Aside0.mk hi
        have n1_ := Aside0.mk hb
        have n2_ := Aside0.mk (R_call (by (repeat (first | (with_reducible first | exact HI.out | apply IsP.alloc | apply IsP.drewN | apply IsP.drew) | exact HI.out))) (by (with_reducible repeat (first | apply Kd.R_alloc | apply Kd.R_drewN | apply Kd.R_drew)); exact HO.out) (by decide) hk)
        clear HI HB HO
        have HI := n0_
        have HB := n1_
        have HO := n2_
        clear n0_ n1_ n2_ hi hb hk
        by_cases hand : r3.1 = [97, 110, 100]
        · have t1 : (r3.1 == ([97, 110, 100] : List UInt8)) = true := by simpa using hand
          have HAND := Aside0.mk (show r3.1 = [97, 110, 100] from hand)
          clear hand
          go_wp2_with fail
          go_roundg (gk - 1)
          case measure => have := HKL.out; omega
          case rel => exact ⟨acc ++ [r1.1], r3.2, ⟨rel_next (l := l) (by rw [← show andS ⟨l2, b2⟩ = r3.2 from by unfold andS; rw [Er3.out, if_pos HAND.out]]; exact HFIN.out) (by rw [← show andS ⟨l2, b2⟩ = r3.2 from by unfold andS; rw [Er3.out, if_pos HAND.out]]; exact HLT.out) HA1.out HKL.out (by (with_reducible repeat (first | apply Kd.R_alloc | apply Kd.R_drewN | apply Kd.R_drew)); exact HO.out)⟩, ⟨by (repeat (first | (with_reducible first | exact HI.out | apply IsP.alloc | apply IsP.drewN | apply IsP.drew) | exact HI.out))⟩, ⟨by (repeat (first | (with_reducible first | exact HB.out | apply below_alloc | apply pw_below_drewN | apply below_drew1) | exact HB.out))⟩⟩
        · have t1 : (r3.1 == ([97, 110, 100] : List UInt8)) = false := by simpa using hand
          have HAND := Aside0.mk (show ¬ r3.1 = [97, 110, 100] from hand)
          clear hand
          go_wp2_with fail
          go_wp2_with fail
          (with_reducible refine (stop_P (w0 := w) (st := r3.2) l2.length (P_le HOK.out) ?side1 ?side2).mono ?_)
          case side1 => (repeat (first | (with_reducible first | exact HI.out | apply IsP.alloc | apply IsP.drewN | apply IsP.drew) | exact HI.out))
          case side2 => (repeat (first | (with_reducible first | exact HB.out | apply below_alloc | apply pw_below_drewN | apply below_drew1) | exact HB.out))
          rintro e w8 ⟨rfl, hi, hb, hk⟩
          generalize hE : stopS r3.2 l2.length = s4 at hi ⊢
          have Es4 := Aside0.mk hE
          clear hE
          have n0_ := Aside0.mk hi
          have n1_ := Aside0.mk hb
          have n2_ := Aside0.mk (R_call (by (repeat (first | (with_reducible first | exact HI.out | apply IsP.alloc | apply IsP.drewN | apply IsP.drew) | exact HI.out))) (by (with_reducible repeat (first | apply Kd.R_alloc | apply Kd.R_drewN | apply Kd.R_drew)); exact HO.out) (by decide) hk)
          clear HI HB HO
          have HI := n0_
          have HB := n1_
          have HO := n2_
          clear n0_ n1_ n2_ hi hb hk
          go_wp2_with fail
          go_roundg (gk - 1)
          case measure => have := HKL.out; omega
          case rel => exact ⟨acc ++ [r1.1], s4, ⟨rel_next (l := l) (by rw [← show andS ⟨l2, b2⟩ = s4 from by unfold andS; rw [Er3.out, if_neg HAND.out]; exact Es4.out]; exact HFIN.out) (by rw [← show andS ⟨l2, b2⟩ = s4 from by unfold andS; rw [Er3.out, if_neg HAND.out]; exact Es4.out]; exact HLT.out) HA1.out HKL.out (by (with_reducible repeat (first | apply Kd.R_alloc | apply Kd.R_drewN | apply Kd.R_drew)); exact HO.out)⟩, ⟨by (repeat (first | (with_reducible first | exact HI.out | apply IsP.alloc | apply IsP.drewN | apply IsP.drew) | exact HI.out))⟩, ⟨by (repeat (first | (with_reducible first | exact HB.out | apply below_alloc | apply pw_below_drewN | apply below_drew1) | exact HB.out))⟩⟩
      | none =>
        have q1 := decide_eq_true (show bd < 0 by rw [← hbd, hb2]; show (-1 : Int) < 0; omega)
        have q2 := eq_true (show bd < 0 by rw [← hbd, hb2]; show (-1 : Int) < 0; omega)
        have hle2 := P_le HOK.out
        by_cases hl2 : l2 = []
        · subst hl2
          have HFIN := Aside0.mk (show R = .inl (acc ++ [r1.1]) by have h5 := HST.out; rw [hb2] at h5; exact h5)
          have q3 : (((s.size - ([] : List UInt8).length : Nat) : Int) == (s.size : Int)) = true := by simp
          have q4 : (((s.size - ([] : List UInt8).length : Nat)) == (s.size)) = true := by simp
          clear hbd hb2
          go_wp2_with fail
          repeat (go_quiet (fail); try go_wp2_with fail)
          go_ret2
          unfold ParsePost
          rw [HR.out, HFIN.out]
          exact ⟨v5, rfl, by (with_reducible repeat (first | apply Kd.R_alloc | apply Kd.R_drewN | apply Kd.R_drew)); exact HO.out, by (repeat (first | (with_reducible first | exact HB.out | apply below_alloc | apply pw_below_drewN | apply below_drew1) | exact HB.out))⟩
        · have hpos : 0 < l2.length := List.length_pos_iff.mpr hl2
          have q3 : (((s.size - l2.length : Nat) : Int) == (s.size : Int)) = false := beq_eq_false_iff_ne.mpr (by have : l2.length ≤ s.size := hle2; omega)
          have q4 : (((s.size - l2.length : Nat)) == (s.size)) = false := beq_eq_false_iff_ne.mpr (by have : l2.length ≤ s.size := hle2; omega)
          have HFIN := Aside0.mk (show R = match (andS ⟨l2, b2⟩).bad with | some n => .inr n | none => parseS (gk - 2) (andS ⟨l2, b2⟩) (acc ++ [r1.1]) by
            have h5 := HST.out
            rw [hb2] at h5 ⊢
            simp only at h5
            rw [if_neg hl2] at h5
            exact h5)
          have HLT := Aside0.mk (show (andS ⟨l2, b2⟩).bad = none → (andS ⟨l2, b2⟩).l.length < l.length by
            intro h7
            have h8 := andS_lt (st := ⟨l2, b2⟩) hb2 h7
            have h9 : l2.length ≤ l.length := HLE.out
            exact Nat.lt_of_lt_of_le h8 h9)
          clear hbd hb2 hl2
          go_wp2_with fail
          repeat (go_quiet (fail); try go_wp2_with fail)
          go_wp2_with fail
          (with_reducible refine (word_P (w0 := w) (st := ⟨l2, b2⟩) hs ?side1 ?side2).mono ?_)
          case side1 => (repeat (first | (with_reducible first | exact HI.out | apply IsP.alloc | apply IsP.drewN | apply IsP.drew) | exact HI.out))
          case side2 => (repeat (first | (with_reducible first | exact HB.out | apply below_alloc | apply pw_below_drewN | apply below_drew1) | exact HB.out))
          rintro e w7 ⟨rfl, hi, hb, hk⟩
          generalize hE : wordS ⟨l2, b2⟩ = r3 at hi ⊢
          have Er3 := Aside0.mk hE
          clear hE
          have n0_ := Aside0.mk hi
          have n1_ := Aside0.mk hb
          have n2_ := Aside0.mk (R_call (by (repeat (first | (with_reducible first | exact HI.out | apply IsP.alloc | apply IsP.drewN | apply IsP.drew) | exact HI.out))) (by (with_reducible repeat (first | apply Kd.R_alloc | apply Kd.R_drewN | apply Kd.R_drew)); exact HO.out) (by decide) hk)
          clear HI HB HO
          have HI := n0_
          have HB := n1_
          have HO := n2_
          clear n0_ n1_ n2_ hi hb hk
          by_cases hand : r3.1 = [97, 110, 100]
          · have t1 : (r3.1 == ([97, 110, 100] : List UInt8)) = true := by simpa using hand
            have HAND := Aside0.mk (show r3.1 = [97, 110, 100] from hand)
            clear hand
            go_wp2_with fail
            go_roundg (gk - 1)
            case measure => have := HKL.out; omega
            case rel => exact ⟨acc ++ [r1.1], r3.2, ⟨rel_next (l := l) (by rw [← show andS ⟨l2, b2⟩ = r3.2 from by unfold andS; rw [Er3.out, if_pos HAND.out]]; exact HFIN.out) (by rw [← show andS ⟨l2, b2⟩ = r3.2 from by unfold andS; rw [Er3.out, if_pos HAND.out]]; exact HLT.out) HA1.out HKL.out (by (with_reducible repeat (first | apply Kd.R_alloc | apply Kd.R_drewN | apply Kd.R_drew)); exact HO.out)⟩, ⟨by (repeat (first | (with_reducible first | exact HI.out | apply IsP.alloc | apply IsP.drewN | apply IsP.drew) | exact HI.out))⟩, ⟨by (repeat (first | (with_reducible first | exact HB.out | apply below_alloc | apply pw_below_drewN | apply below_drew1) | exact HB.out))⟩⟩
          · have t1 : (r3.1 == ([97, 110, 100] : List UInt8)) = false := by simpa using hand
            have HAND := Aside0.mk (show ¬ r3.1 = [97, 110, 100] from hand)
            clear hand
            go_wp2_with fail
            go_wp2_with fail
            (with_reducible refine (stop_P (w0 := w) (st := r3.2) l2.length (P_le HOK.out) ?side1 ?side2).mono ?_)
            case side1 => (repeat (first | (with_reducible first | exact HI.out | apply IsP.alloc | apply IsP.drewN | apply IsP.drew) | exact HI.out))
            case side2 => (repeat (first | (with_reducible first | exact HB.out | apply below_alloc | apply pw_below_drewN | apply below_drew1) | exact HB.out))
            rintro e w8 ⟨rfl, hi, hb, hk⟩
            generalize hE : stopS r3.2 l2.length = s4 at hi ⊢
            have Es4 := Aside0.mk hE
            clear hE
            have n0_ := Aside0.mk hi
            have n1_ := Aside0.mk hb
            have n2_ := Aside0.mk (R_call (by (repeat (first | (with_reducible first | exact HI.out | apply IsP.alloc | apply IsP.drewN | apply IsP.drew) | exact HI.out))) (by (with_reducible repeat (first | apply Kd.R_alloc | apply Kd.R_drewN | apply Kd.R_drew)); exact HO.out) (by decide) hk)
            clear HI HB HO
            have HI := n0_
            have HB := n1_
            have HO := n2_
            clear n0_ n1_ n2_ hi hb hk
            go_wp2_with fail
            go_roundg (gk - 1)
            case measure => have := HKL.out; omega
            case rel => exact ⟨acc ++ [r1.1], s4, ⟨rel_next (l := l) (by rw [← show andS ⟨l2, b2⟩ = s4 from by unfold andS; rw [Er3.out, if_neg HAND.out]; exact Es4.out]; exact HFIN.out) (by rw [← show andS ⟨l2, b2⟩ = s4 from by unfold andS; rw [Er3.out, if_neg HAND.out]; exact Es4.out]; exact HLT.out) HA1.out HKL.out (by (with_reducible repeat (first | apply Kd.R_alloc | apply Kd.R_drewN | apply Kd.R_drew)); exact HO.out)⟩, ⟨by (repeat (first | (with_reducible first | exact HI.out | apply IsP.alloc | apply IsP.drewN | apply IsP.drew) | exact HI.out))⟩, ⟨by (repeat (first | (with_reducible first | exact HB.out | apply below_alloc | apply pw_below_drewN | apply below_drew1) | exact HB.out))⟩⟩
    · obtain ⟨l, b⟩ := st
      cases hbad
      have HP := Aside0.mk hp
      clear hp HA
      obtain ⟨hok, HG, hg⟩ := HI.out
      have HOK := Aside0.mk hok
      have hc0 := cellS74_0 HG
      have hc1 := cellS74_1 HG
      have hc2 := cellS74_2 HG
      have hf0 := blk_frozen HG 0
      have hf1 := blk_frozen HG 1
      have hf2 := blk_frozen HG 2
      clear HG hg hok
      have hc2' : wr.cell? ⟨w.heap.size, 2, none⟩ = some (.int .i64 ((s.size - m : Nat) : Int)) := hc2
      have q1 := decide_eq_false (show ¬ (((s.size - m : Nat) : Int) < 0) by omega)
      clear hc2
      go_wp2
      go_region
      all_goals (try go_wp2)
      go_ret2
      unfold ParsePost
      rw [HR.out, HP.out]
      exact ⟨wr.heap.size, below_size HB.out, rfl, heap_alloc_new wr _, by (repeat (first | (with_reducible first | exact HB.out | apply below_alloc | apply pw_below_drewN | apply below_drew1) | exact HB.out))⟩
end Go.Proofs.YthaapijjjgkacaaDoor.Mine
