/-
  Texts of this claim, one behind the other: what each one proves, and its conditions, stand at its head.
-/
import Derived.Test.YtlokmijoaocofaaMT1
import Derived.Lib.LazyBuf
set_option linter.unusedSimpArgs false
set_option linter.unusedVariables false
section
/-
  The contract of the filter parser's text: what stands between quotes. Conditions: the parser's block as IsS132 has it, the text at most 1000 bytes.
-/
namespace Go.Proofs.Ytlokmijoaocofaa.Mine
open Go.RowKit Go.Proofs.YtlokmijoaocofaaW.PrintWords Go.Proofs.YtlokmijoaocofaaW.PrintLast Go.Proofs.YtlokmijoaocofaaW.PrintMore
open Go.Proofs.Ytlokmijoaocofaa.PBoardAgain

def numsB (l : List UInt8) : List Int := l.map fun b => (b.toNat : Int)
theorem numsB_snoc (l : List UInt8) (c : UInt8) : numsB (l ++ [c]) = numsB l ++ [(c.toNat : Int)] := by simp [numsB]
theorem str_numsB (l : List UInt8) : strOfNums (numsB l) = ⟨l.toArray⟩ := Lib.Lz.strOfNums_map l
/-- what is left of a text from a place on -/
def dropB (s : ByteArray) (i : Nat) : List UInt8 := s.data.toList.drop i
theorem dropB_nil {s : ByteArray} {i : Nat} (h : s.size ≤ i) : dropB s i = [] := List.drop_eq_nil_of_le (by simpa using h)
theorem dropB_cons {s : ByteArray} {i : Nat} (h : i < s.size) : dropB s i = s[i]'h :: dropB s (i + 1) := by
  unfold dropB
  rw [List.drop_eq_getElem_cons (by simpa using h)]
  rfl
theorem dropB_len (s : ByteArray) (i : Nat) : (dropB s i).length = s.size - i := by simp [dropB]
theorem c_eq {c : UInt8} {n : Nat} (hn : n < 256) : ((c.toNat : Int) == (n : Int)) = decide (c = UInt8.ofNat n) := by
  rw [Bool.eq_iff_iff]
  simp only [beq_iff_eq, decide_eq_true_eq]
  constructor
  · intro h
    have h2 : c.toNat = n := by omega
    rw [← h2]; simp
  · rintro rfl
    simp [Nat.mod_eq_of_lt hn]

/-- What 'text' leaves behind the quote at which it began. -/
def TextPost (w0 w : World) (g : Nat) (s : ByteArray) (l : List UInt8) (e : Ending) (w' : World) : Prop :=
  (∃ t r, textL l [] = (some t, r) ∧ e = .returned (.string ⟨t.toArray⟩) ∧ IsS132 w0 w' g s ((s.size - r.length : Nat) : Int) (-1) ∧ Below w0.heap.size w0 w' ∧ KeepBut w w' g none)
  ∨ (∃ r, textL l [] = (none, r) ∧ e = .returned (.string ⟨#[]⟩) ∧ IsS132 w0 w' g s ((s.size - r.length : Nat) : Int) ((s.size - r.length : Nat) : Int) ∧ Below w0.heap.size w0 w' ∧ KeepBut w w' g none)

set_option maxHeartbeats 4000000 in
set_option maxRecDepth 100000 in
theorem text_calls (k : Nat) (g : Nat) (s : ByteArray) (at0 at1 : Nat) (w0 w : World) (hI : IsS132 w0 w g s at0 (-1)) (hB : Below w0.heap.size w0 w) (hs : s.size ≤ 1000)
    (hm : filter_parser_mark.f k s at0 (-1) (⟨#[34]⟩ : ByteArray) = some (s, (at1 : Int), -1)) (hf : at1 ≤ s.size) :
    Calls Try.prog 72 #[.pointer (some ⟨g, 0, none⟩)] w (TextPost w0 w g s (dropB s at1)) := by
  have HI := Aside0.mk hI
  have HB := Aside0.mk hB
  have HK := Aside0.mk (KeepBut.refl w g none)
  have HM := Aside0.mk hm
  have HS := Aside0.mk hs
  have HL := Aside0.mk hB.size
  clear hI hB hm
  go_enter Try.func72, Try.ntmps72
  go_wp2_with (go_at_call 71; (with_reducible refine (filter_parser_mark.calls k g s at0 (-1) (⟨#[34]⟩ : ByteArray) s at1 (-1) w0 _ ?side1 ?side2 HM.out).mono ?_); (case side1 => (repeat (first | (with_reducible first | exact HI.out | apply IsS132.alloc | apply IsS132.drewN | apply IsS132.drew | apply IsS132.set_0 | apply IsS132.set_1 | apply IsS132.set_2) | exact HI.out))); (case side2 => (repeat (first | (with_reducible first | exact HB.out | apply below_alloc | apply pw_below_drewN | apply below_drew1 | refine below_set ?_ (IsS132.ge HI.out)) | exact HB.out))); rintro e w2 ⟨rfl, hi, hb, hk⟩; have n0_ := Aside0.mk hi; have n1_ := Aside0.mk hb; have n2_ := Aside0.mk (KeepBut.trans (by (repeat (first | (with_reducible first | exact HK.out | apply KeepBut.set_ | apply keep_drewN | apply keep_drew | apply keep_alloc) | exact HK.out))) hk (Or.inl rfl)); clear HI HB HK hi hb hk; have HI := n0_; have HB := n1_; have HK := n2_; clear n0_ n1_ n2_; obtain ⟨HG, hg⟩ := HI.out; have hc0 := cellS132_0 HG; have hc1 := cellS132_1 HG; have hc2 := cellS132_2 HG; have hf0 := blk_frozen HG 0; have hf1 := blk_frozen HG 1; have hf2 := blk_frozen HG 2; clear HG hg)
  clear hc0 hc1 hc2 hf0 hf1 hf2
  go_loopg [3] (s.size + 2) (fun n v3 wr => ∃ (acc : List UInt8) (at_ : Nat) (bad : Int), Aside0 (at_ ≤ s.size ∧ ((bad = -1 ∧ s.size + 2 ≤ at_ + n ∧ acc.length ≤ at_ ∧ textL (dropB s at_) acc = textL (dropB s at1) [] ∧ Kd.R (Kd.int .u8) 5 wr w.heap.size (fun _ => True) v3 (numsB acc)) ∨ (bad = at_ ∧ 1 ≤ n ∧ textL (dropB s at1) [] = (none, dropB s at_)))) ∧ Aside0 (IsS132 w0 wr g s at_ bad) ∧ Aside0 (KeepBut w wr g none) ∧ Aside0 (Below w0.heap.size w0 wr))
  case atStart => exact ⟨[], at1, -1, ⟨hf, Or.inl ⟨rfl, by omega, by simp, rfl, Kd.R_nil _ _ _ _ _⟩⟩, HI, HK, HB⟩
  case round =>
    clear HI HK HB HM
    obtain ⟨acc, at_, bad, HA, HI, HK, HB⟩ := hrel
    have hlb : at_ ≤ s.size := HA.out.1
    rcases HA.out.2 with ⟨rfl, hn, hl, ht, ho⟩ | ⟨rfl, hn, ht⟩
    · have HA2 := Aside0.mk ht
      have HA1 := Aside0.mk hl
      have HO := Aside0.mk ho
      clear ht hl ho HA
      by_cases hlt : at_ < s.size
      · obtain ⟨c, hc⟩ : ∃ c, s[at_]'hlt = c := ⟨_, rfl⟩
        have hx : ∀ h : at_ < s.size, s[at_]'h = c := fun _ => hc
        have hd := dropB_cons hlt
        rw [hc] at hd
        have HD := Aside0.mk hd
        clear hc hd
        have q1 := eq_true (show ((at_ : Int) < (s.size : Int)) by omega)
        have q2 := eq_true (show (0 : Int) ≤ (at_ : Int) by omega)
        have q3 := decide_eq_false (show ¬ ((s.size : Int) ≤ (at_ : Int)) by omega)
        obtain ⟨HG, hg⟩ := HI.out
        have hc0 := cellS132_0 HG
        have hc1 := cellS132_1 HG
        have hc2 := cellS132_2 HG
        have hf0 := blk_frozen HG 0
        have hf1 := blk_frozen HG 1
        have hf2 := blk_frozen HG 2
        clear HG hg
        by_cases h34 : c = 34
        · have e34 : ((c.toNat : Int) == 34) = true := by rw [h34]; rfl
          have HC := Aside0.mk h34
          clear h34
          have hcv := fun m => own_string (P := Try.prog) Try.underlying161 Try.underlying5 Try.underlying9 (Kd.own_of_R (show Kd.R (Kd.int .u8) 5 ((wr.drewN m).setCell ⟨g, 1, none⟩ (.int .i64 ((at_ : Int) + 1))) w.heap.size (fun _ => True) u3 (numsB acc) from Kd.R_mono (Kd.R_far (p := ⟨g, 1, none⟩) (IsS132.apart (by (repeat (first | (with_reducible first | exact HI.out | apply IsS132.alloc | apply IsS132.drewN | apply IsS132.drew | apply IsS132.set_0 | apply IsS132.set_1 | apply IsS132.set_2) | exact HI.out)) : IsS132 w0 _ g s _ _) (by (with_reducible repeat (first | apply Kd.R_alloc | apply Kd.R_drewN | apply Kd.R_drew)); exact HO.out) (by decide)) (fun _ hk => hk.2) (.int .i64 ((at_ : Int) + 1))) (fun _ _ => trivial)))
          go_wp2
          repeat (go_quiet (fail); try go_wp2)
          go_ret
          exact Or.inl ⟨acc, dropB s (at_ + 1), by rw [← HA2.out, HD.out, textL_q _ _ HC.out], by rw [str_numsB]; rfl, by rw [dropB_len, show ((s.size - (s.size - (at_ + 1)) : Nat) : Int) = (at_ : Int) + 1 by omega]; (repeat (first | (with_reducible first | exact HI.out | apply IsS132.alloc | apply IsS132.drewN | apply IsS132.drew | apply IsS132.set_0 | apply IsS132.set_1 | apply IsS132.set_2) | exact HI.out)), by (repeat (first | (with_reducible first | exact HB.out | apply below_alloc | apply pw_below_drewN | apply below_drew1 | refine below_set ?_ (IsS132.ge HI.out)) | exact HB.out)), by (repeat (first | (with_reducible first | exact HK.out | apply KeepBut.set_ | apply keep_drewN | apply keep_drew | apply keep_alloc) | exact HK.out))⟩
        · have e34 : ((c.toNat : Int) == 34) = false := by rw [show (34 : Int) = ((34 : Nat) : Int) from rfl, c_eq (by decide)]; simpa using h34
          by_cases h92 : c = 92
          · have e92 : ((c.toNat : Int) == 92) = true := by rw [h92]; rfl
            have HC := Aside0.mk (show c = 92 from h92)
            clear h34 h92
            by_cases hlt1 : at_ + 1 < s.size
            · obtain ⟨d, hd1⟩ : ∃ d, s[at_ + 1]'hlt1 = d := ⟨_, rfl⟩
              have hx1 : ∀ h : at_ + 1 < s.size, s[at_ + 1]'h = d := fun _ => hd1
              have hd2 := dropB_cons hlt1
              rw [hd1] at hd2
              have HD1 := Aside0.mk hd2
              clear hd1 hd2
              have p1 := eq_true (show ((at_ : Int) + 1 < (s.size : Int)) by omega)
              have p2 := eq_true (show (0 : Int) ≤ (at_ : Int) + 1 by omega)
              have p3 := decide_eq_false (show ¬ ((s.size : Int) ≤ (at_ : Int) + 1) by omega)
              have p4 : ((at_ : Int) + 1).toNat = at_ + 1 := by omega
              by_cases d34 : d = 34
              · have f34 : ((d.toNat : Int) != 34) = false := by rw [d34]; rfl
                have HC2 := Aside0.mk (show textL (dropB s at_) acc = textL (dropB s (at_ + 2)) (acc ++ [d]) by rw [HD.out, HD1.out, textL_b1 _ _ HC.out (Or.inl d34)])
                clear d34
                go_wp2_with ((with_reducible refine gate_builtin (b := .append) (xs := #[.tmp 115, .tmp 117]) rfl ?_); at_builtin; refine Kd.R_append (Kd.int .u8) w.heap.size rfl (.tmp 115) (.tmp 117) 161 5 (.int .u8 0) 1 rfl Try.underlying161 info5 rfl (by decide) (by omega) u3 (numsB acc) (d.toNat : Int) [.int .u8 (d.toNat : Int)] (fun _ => True) (fun _ => False) rfl ?aX ?aP (fun _ hk => hk.elim) ?aF ?aO (Below.refl _ _) ?aS ?aL ?_; (case aX => first | rfl | (go_simp; done) | (go_simp; rfl)); (case aP => exact rfl); (case aF => exact (fun _ _ => trivial)); (case aO => exact (by (with_reducible repeat (first | apply Kd.R_alloc | apply Kd.R_drewN | apply Kd.R_drew)); exact (Kd.R_mono (Kd.R_far (p := ⟨g, 1, none⟩) (IsS132.apart (by (repeat (first | (with_reducible first | exact HI.out | apply IsS132.alloc | apply IsS132.drewN | apply IsS132.drew | apply IsS132.set_0 | apply IsS132.set_1 | apply IsS132.set_2) | exact HI.out)) : IsS132 w0 _ g s _ _) (by (with_reducible repeat (first | apply Kd.R_alloc | apply Kd.R_drewN | apply Kd.R_drew)); exact HO.out) (by decide)) (fun _ hk => hk.2) (_)) (fun _ _ => trivial)))); (case aS => exact (keep_size (w := w) (g := g) (row := none) (by (repeat (first | (with_reducible first | exact HK.out | apply KeepBut.set_ | apply keep_drewN | apply keep_drew | apply keep_alloc) | exact HK.out))))); (case aL => have := HA1.out; have := HS.out; simp [numsB]; omega); intro v3 w3 ho hb hg hat; rw [← numsB_snoc] at ho; have n0_ := Aside0.mk (IsS132.grown (by (repeat (first | (with_reducible first | exact HI.out | apply IsS132.alloc | apply IsS132.drewN | apply IsS132.drew | apply IsS132.set_0 | apply IsS132.set_1 | apply IsS132.set_2) | exact HI.out))) hg (IsS132.own_ne HI.out HO.out (by decide))); have n1_ := Aside0.mk (below_weaken (by (repeat (first | (with_reducible first | exact HB.out | apply below_alloc | apply pw_below_drewN | apply below_drew1 | refine below_set ?_ (IsS132.ge HI.out)) | exact HB.out))) HL.out hb); have n2_ := Aside0.mk (KeepBut.trans (by (repeat (first | (with_reducible first | exact HK.out | apply KeepBut.set_ | apply keep_drewN | apply keep_drew | apply keep_alloc) | exact HK.out))) (KeepBut.of_grown hg g) (Kd.R_base2 HO.out)); have n3_ := Aside0.mk ho; clear HI HB HK HO ho hb hg hat; have HI := n0_; have HB := n1_; have HK := n2_; have HO := n3_; clear n0_ n1_ n2_ n3_; obtain ⟨HG, hg⟩ := HI.out; have hc0 := cellS132_0 HG; have hc1 := cellS132_1 HG; have hc2 := cellS132_2 HG; have hf0 := blk_frozen HG 0; have hf1 := blk_frozen HG 1; have hf2 := blk_frozen HG 2; clear HG hg)
                repeat (go_quiet (fail); try go_wp2_with ((with_reducible refine gate_builtin (b := .append) (xs := #[.tmp 115, .tmp 117]) rfl ?_); at_builtin; refine Kd.R_append (Kd.int .u8) w.heap.size rfl (.tmp 115) (.tmp 117) 161 5 (.int .u8 0) 1 rfl Try.underlying161 info5 rfl (by decide) (by omega) u3 (numsB acc) (d.toNat : Int) [.int .u8 (d.toNat : Int)] (fun _ => True) (fun _ => False) rfl ?aX ?aP (fun _ hk => hk.elim) ?aF ?aO (Below.refl _ _) ?aS ?aL ?_; (case aX => first | rfl | (go_simp; done) | (go_simp; rfl)); (case aP => exact rfl); (case aF => exact (fun _ _ => trivial)); (case aO => exact (by (with_reducible repeat (first | apply Kd.R_alloc | apply Kd.R_drewN | apply Kd.R_drew)); exact (Kd.R_mono (Kd.R_far (p := ⟨g, 1, none⟩) (IsS132.apart (by (repeat (first | (with_reducible first | exact HI.out | apply IsS132.alloc | apply IsS132.drewN | apply IsS132.drew | apply IsS132.set_0 | apply IsS132.set_1 | apply IsS132.set_2) | exact HI.out)) : IsS132 w0 _ g s _ _) (by (with_reducible repeat (first | apply Kd.R_alloc | apply Kd.R_drewN | apply Kd.R_drew)); exact HO.out) (by decide)) (fun _ hk => hk.2) (_)) (fun _ _ => trivial)))); (case aS => exact (keep_size (w := w) (g := g) (row := none) (by (repeat (first | (with_reducible first | exact HK.out | apply KeepBut.set_ | apply keep_drewN | apply keep_drew | apply keep_alloc) | exact HK.out))))); (case aL => have := HA1.out; have := HS.out; simp [numsB]; omega); intro v3 w3 ho hb hg hat; rw [← numsB_snoc] at ho; have n0_ := Aside0.mk (IsS132.grown (by (repeat (first | (with_reducible first | exact HI.out | apply IsS132.alloc | apply IsS132.drewN | apply IsS132.drew | apply IsS132.set_0 | apply IsS132.set_1 | apply IsS132.set_2) | exact HI.out))) hg (IsS132.own_ne HI.out HO.out (by decide))); have n1_ := Aside0.mk (below_weaken (by (repeat (first | (with_reducible first | exact HB.out | apply below_alloc | apply pw_below_drewN | apply below_drew1 | refine below_set ?_ (IsS132.ge HI.out)) | exact HB.out))) HL.out hb); have n2_ := Aside0.mk (KeepBut.trans (by (repeat (first | (with_reducible first | exact HK.out | apply KeepBut.set_ | apply keep_drewN | apply keep_drew | apply keep_alloc) | exact HK.out))) (KeepBut.of_grown hg g) (Kd.R_base2 HO.out)); have n3_ := Aside0.mk ho; clear HI HB HK HO ho hb hg hat; have HI := n0_; have HB := n1_; have HK := n2_; have HO := n3_; clear n0_ n1_ n2_ n3_; obtain ⟨HG, hg⟩ := HI.out; have hc0 := cellS132_0 HG; have hc1 := cellS132_1 HG; have hc2 := cellS132_2 HG; have hf0 := blk_frozen HG 0; have hf1 := blk_frozen HG 1; have hf2 := blk_frozen HG 2; clear HG hg))
                go_roundg (gk - 1)
                case measure => omega
                case rel => exact ⟨acc ++ [d], at_ + 2, -1, ⟨by omega, Or.inl ⟨rfl, by omega, by have := HA1.out; simp; omega, HC2.out.symm.trans HA2.out, Kd.R_mono (Kd.R_far (p := ⟨g, 1, none⟩) (IsS132.apart (by (repeat (first | (with_reducible first | exact HI.out | apply IsS132.alloc | apply IsS132.drewN | apply IsS132.drew | apply IsS132.set_0 | apply IsS132.set_1 | apply IsS132.set_2) | exact HI.out)) : IsS132 w0 _ g s _ _) (by (with_reducible repeat (first | apply Kd.R_alloc | apply Kd.R_drewN | apply Kd.R_drew)); exact HO.out) (by decide)) (fun _ hk => hk.2) (_)) (fun _ _ => trivial)⟩⟩, ⟨by rw [show ((at_ + 2 : Nat) : Int) = (at_ : Int) + 1 + 1 by omega]; (repeat (first | (with_reducible first | exact HI.out | apply IsS132.alloc | apply IsS132.drewN | apply IsS132.drew | apply IsS132.set_0 | apply IsS132.set_1 | apply IsS132.set_2) | exact HI.out))⟩, ⟨by (repeat (first | (with_reducible first | exact HK.out | apply KeepBut.set_ | apply keep_drewN | apply keep_drew | apply keep_alloc) | exact HK.out))⟩, ⟨by (repeat (first | (with_reducible first | exact HB.out | apply below_alloc | apply pw_below_drewN | apply below_drew1 | refine below_set ?_ (IsS132.ge HI.out)) | exact HB.out))⟩⟩
              · have f34 : ((d.toNat : Int) != 34) = true := by rw [bne, show (34 : Int) = ((34 : Nat) : Int) from rfl, c_eq (by decide)]; simpa using d34
                by_cases d92 : d = 92
                · have f92 : ((d.toNat : Int) != 92) = false := by rw [d92]; rfl
                  have HC2 := Aside0.mk (show textL (dropB s at_) acc = textL (dropB s (at_ + 2)) (acc ++ [d]) by rw [HD.out, HD1.out, textL_b1 _ _ HC.out (Or.inr d92)])
                  clear d34 d92
                  go_wp2_with ((with_reducible refine gate_builtin (b := .append) (xs := #[.tmp 115, .tmp 117]) rfl ?_); at_builtin; refine Kd.R_append (Kd.int .u8) w.heap.size rfl (.tmp 115) (.tmp 117) 161 5 (.int .u8 0) 1 rfl Try.underlying161 info5 rfl (by decide) (by omega) u3 (numsB acc) (d.toNat : Int) [.int .u8 (d.toNat : Int)] (fun _ => True) (fun _ => False) rfl ?aX ?aP (fun _ hk => hk.elim) ?aF ?aO (Below.refl _ _) ?aS ?aL ?_; (case aX => first | rfl | (go_simp; done) | (go_simp; rfl)); (case aP => exact rfl); (case aF => exact (fun _ _ => trivial)); (case aO => exact (by (with_reducible repeat (first | apply Kd.R_alloc | apply Kd.R_drewN | apply Kd.R_drew)); exact (Kd.R_mono (Kd.R_far (p := ⟨g, 1, none⟩) (IsS132.apart (by (repeat (first | (with_reducible first | exact HI.out | apply IsS132.alloc | apply IsS132.drewN | apply IsS132.drew | apply IsS132.set_0 | apply IsS132.set_1 | apply IsS132.set_2) | exact HI.out)) : IsS132 w0 _ g s _ _) (by (with_reducible repeat (first | apply Kd.R_alloc | apply Kd.R_drewN | apply Kd.R_drew)); exact HO.out) (by decide)) (fun _ hk => hk.2) (_)) (fun _ _ => trivial)))); (case aS => exact (keep_size (w := w) (g := g) (row := none) (by (repeat (first | (with_reducible first | exact HK.out | apply KeepBut.set_ | apply keep_drewN | apply keep_drew | apply keep_alloc) | exact HK.out))))); (case aL => have := HA1.out; have := HS.out; simp [numsB]; omega); intro v3 w3 ho hb hg hat; rw [← numsB_snoc] at ho; have n0_ := Aside0.mk (IsS132.grown (by (repeat (first | (with_reducible first | exact HI.out | apply IsS132.alloc | apply IsS132.drewN | apply IsS132.drew | apply IsS132.set_0 | apply IsS132.set_1 | apply IsS132.set_2) | exact HI.out))) hg (IsS132.own_ne HI.out HO.out (by decide))); have n1_ := Aside0.mk (below_weaken (by (repeat (first | (with_reducible first | exact HB.out | apply below_alloc | apply pw_below_drewN | apply below_drew1 | refine below_set ?_ (IsS132.ge HI.out)) | exact HB.out))) HL.out hb); have n2_ := Aside0.mk (KeepBut.trans (by (repeat (first | (with_reducible first | exact HK.out | apply KeepBut.set_ | apply keep_drewN | apply keep_drew | apply keep_alloc) | exact HK.out))) (KeepBut.of_grown hg g) (Kd.R_base2 HO.out)); have n3_ := Aside0.mk ho; clear HI HB HK HO ho hb hg hat; have HI := n0_; have HB := n1_; have HK := n2_; have HO := n3_; clear n0_ n1_ n2_ n3_; obtain ⟨HG, hg⟩ := HI.out; have hc0 := cellS132_0 HG; have hc1 := cellS132_1 HG; have hc2 := cellS132_2 HG; have hf0 := blk_frozen HG 0; have hf1 := blk_frozen HG 1; have hf2 := blk_frozen HG 2; clear HG hg)
                  repeat (go_quiet (fail); try go_wp2_with ((with_reducible refine gate_builtin (b := .append) (xs := #[.tmp 115, .tmp 117]) rfl ?_); at_builtin; refine Kd.R_append (Kd.int .u8) w.heap.size rfl (.tmp 115) (.tmp 117) 161 5 (.int .u8 0) 1 rfl Try.underlying161 info5 rfl (by decide) (by omega) u3 (numsB acc) (d.toNat : Int) [.int .u8 (d.toNat : Int)] (fun _ => True) (fun _ => False) rfl ?aX ?aP (fun _ hk => hk.elim) ?aF ?aO (Below.refl _ _) ?aS ?aL ?_; (case aX => first | rfl | (go_simp; done) | (go_simp; rfl)); (case aP => exact rfl); (case aF => exact (fun _ _ => trivial)); (case aO => exact (by (with_reducible repeat (first | apply Kd.R_alloc | apply Kd.R_drewN | apply Kd.R_drew)); exact (Kd.R_mono (Kd.R_far (p := ⟨g, 1, none⟩) (IsS132.apart (by (repeat (first | (with_reducible first | exact HI.out | apply IsS132.alloc | apply IsS132.drewN | apply IsS132.drew | apply IsS132.set_0 | apply IsS132.set_1 | apply IsS132.set_2) | exact HI.out)) : IsS132 w0 _ g s _ _) (by (with_reducible repeat (first | apply Kd.R_alloc | apply Kd.R_drewN | apply Kd.R_drew)); exact HO.out) (by decide)) (fun _ hk => hk.2) (_)) (fun _ _ => trivial)))); (case aS => exact (keep_size (w := w) (g := g) (row := none) (by (repeat (first | (with_reducible first | exact HK.out | apply KeepBut.set_ | apply keep_drewN | apply keep_drew | apply keep_alloc) | exact HK.out))))); (case aL => have := HA1.out; have := HS.out; simp [numsB]; omega); intro v3 w3 ho hb hg hat; rw [← numsB_snoc] at ho; have n0_ := Aside0.mk (IsS132.grown (by (repeat (first | (with_reducible first | exact HI.out | apply IsS132.alloc | apply IsS132.drewN | apply IsS132.drew | apply IsS132.set_0 | apply IsS132.set_1 | apply IsS132.set_2) | exact HI.out))) hg (IsS132.own_ne HI.out HO.out (by decide))); have n1_ := Aside0.mk (below_weaken (by (repeat (first | (with_reducible first | exact HB.out | apply below_alloc | apply pw_below_drewN | apply below_drew1 | refine below_set ?_ (IsS132.ge HI.out)) | exact HB.out))) HL.out hb); have n2_ := Aside0.mk (KeepBut.trans (by (repeat (first | (with_reducible first | exact HK.out | apply KeepBut.set_ | apply keep_drewN | apply keep_drew | apply keep_alloc) | exact HK.out))) (KeepBut.of_grown hg g) (Kd.R_base2 HO.out)); have n3_ := Aside0.mk ho; clear HI HB HK HO ho hb hg hat; have HI := n0_; have HB := n1_; have HK := n2_; have HO := n3_; clear n0_ n1_ n2_ n3_; obtain ⟨HG, hg⟩ := HI.out; have hc0 := cellS132_0 HG; have hc1 := cellS132_1 HG; have hc2 := cellS132_2 HG; have hf0 := blk_frozen HG 0; have hf1 := blk_frozen HG 1; have hf2 := blk_frozen HG 2; clear HG hg))
                  go_roundg (gk - 1)
                  case measure => omega
                  case rel => exact ⟨acc ++ [d], at_ + 2, -1, ⟨by omega, Or.inl ⟨rfl, by omega, by have := HA1.out; simp; omega, HC2.out.symm.trans HA2.out, Kd.R_mono (Kd.R_far (p := ⟨g, 1, none⟩) (IsS132.apart (by (repeat (first | (with_reducible first | exact HI.out | apply IsS132.alloc | apply IsS132.drewN | apply IsS132.drew | apply IsS132.set_0 | apply IsS132.set_1 | apply IsS132.set_2) | exact HI.out)) : IsS132 w0 _ g s _ _) (by (with_reducible repeat (first | apply Kd.R_alloc | apply Kd.R_drewN | apply Kd.R_drew)); exact HO.out) (by decide)) (fun _ hk => hk.2) (_)) (fun _ _ => trivial)⟩⟩, ⟨by rw [show ((at_ + 2 : Nat) : Int) = (at_ : Int) + 1 + 1 by omega]; (repeat (first | (with_reducible first | exact HI.out | apply IsS132.alloc | apply IsS132.drewN | apply IsS132.drew | apply IsS132.set_0 | apply IsS132.set_1 | apply IsS132.set_2) | exact HI.out))⟩, ⟨by (repeat (first | (with_reducible first | exact HK.out | apply KeepBut.set_ | apply keep_drewN | apply keep_drew | apply keep_alloc) | exact HK.out))⟩, ⟨by (repeat (first | (with_reducible first | exact HB.out | apply below_alloc | apply pw_below_drewN | apply below_drew1 | refine below_set ?_ (IsS132.ge HI.out)) | exact HB.out))⟩⟩
                · have f92 : ((d.toNat : Int) != 92) = true := by rw [bne, show (92 : Int) = ((92 : Nat) : Int) from rfl, c_eq (by decide)]; simpa using d92
                  have HC2 := Aside0.mk (show textL (dropB s at_) acc = (none, dropB s (at_ + 1)) by rw [HD.out, HD1.out, textL_b2 _ _ HC.out (by simp [d34, d92])])
                  clear d34 d92
                  go_wp2_with (go_at_call 54; (with_reducible refine (filter_parser_stop.calls g s (at_ + 1) (-1) (at_ + 1) s (at_ + 1) (at_ + 1) w0 _ ?side1 ?side2 rfl).mono ?_); (case side1 => (repeat (first | (with_reducible first | exact HI.out | apply IsS132.alloc | apply IsS132.drewN | apply IsS132.drew | apply IsS132.set_0 | apply IsS132.set_1 | apply IsS132.set_2) | exact HI.out))); (case side2 => (repeat (first | (with_reducible first | exact HB.out | apply below_alloc | apply pw_below_drewN | apply below_drew1 | refine below_set ?_ (IsS132.ge HI.out)) | exact HB.out))); rintro e w2 ⟨rfl, hi, hb, hk⟩; have n0_ := Aside0.mk hi; have n1_ := Aside0.mk hb; have n2_ := Aside0.mk (KeepBut.trans (by (repeat (first | (with_reducible first | exact HK.out | apply KeepBut.set_ | apply keep_drewN | apply keep_drew | apply keep_alloc) | exact HK.out))) hk (Or.inl rfl)); clear HI HB HK hi hb hk; have HI := n0_; have HB := n1_; have HK := n2_; clear n0_ n1_ n2_; obtain ⟨HG, hg⟩ := HI.out; have hc0 := cellS132_0 HG; have hc1 := cellS132_1 HG; have hc2 := cellS132_2 HG; have hf0 := blk_frozen HG 0; have hf1 := blk_frozen HG 1; have hf2 := blk_frozen HG 2; clear HG hg)
                  repeat (go_quiet (fail); try go_wp2_with (go_at_call 54; (with_reducible refine (filter_parser_stop.calls g s (at_ + 1) (-1) (at_ + 1) s (at_ + 1) (at_ + 1) w0 _ ?side1 ?side2 rfl).mono ?_); (case side1 => (repeat (first | (with_reducible first | exact HI.out | apply IsS132.alloc | apply IsS132.drewN | apply IsS132.drew | apply IsS132.set_0 | apply IsS132.set_1 | apply IsS132.set_2) | exact HI.out))); (case side2 => (repeat (first | (with_reducible first | exact HB.out | apply below_alloc | apply pw_below_drewN | apply below_drew1 | refine below_set ?_ (IsS132.ge HI.out)) | exact HB.out))); rintro e w2 ⟨rfl, hi, hb, hk⟩; have n0_ := Aside0.mk hi; have n1_ := Aside0.mk hb; have n2_ := Aside0.mk (KeepBut.trans (by (repeat (first | (with_reducible first | exact HK.out | apply KeepBut.set_ | apply keep_drewN | apply keep_drew | apply keep_alloc) | exact HK.out))) hk (Or.inl rfl)); clear HI HB HK hi hb hk; have HI := n0_; have HB := n1_; have HK := n2_; clear n0_ n1_ n2_; obtain ⟨HG, hg⟩ := HI.out; have hc0 := cellS132_0 HG; have hc1 := cellS132_1 HG; have hc2 := cellS132_2 HG; have hf0 := blk_frozen HG 0; have hf1 := blk_frozen HG 1; have hf2 := blk_frozen HG 2; clear HG hg))
                  go_roundg 1
                  case measure => omega
                  case rel => exact ⟨acc, (at_ + 1), ((at_ + 1) : Nat), ⟨by omega, Or.inr ⟨rfl, by omega, HA2.out.symm.trans HC2.out⟩⟩, ⟨by first | (rw [show ((at_ + 1 : Nat) : Int) = (at_ : Int) + 1 by omega]; (repeat (first | (with_reducible first | exact HI.out | apply IsS132.alloc | apply IsS132.drewN | apply IsS132.drew | apply IsS132.set_0 | apply IsS132.set_1 | apply IsS132.set_2) | exact HI.out))) | (repeat (first | (with_reducible first | exact HI.out | apply IsS132.alloc | apply IsS132.drewN | apply IsS132.drew | apply IsS132.set_0 | apply IsS132.set_1 | apply IsS132.set_2) | exact HI.out))⟩, ⟨by (repeat (first | (with_reducible first | exact HK.out | apply KeepBut.set_ | apply keep_drewN | apply keep_drew | apply keep_alloc) | exact HK.out))⟩, ⟨by (repeat (first | (with_reducible first | exact HB.out | apply below_alloc | apply pw_below_drewN | apply below_drew1 | refine below_set ?_ (IsS132.ge HI.out)) | exact HB.out))⟩⟩
            · have p3 := decide_eq_true (show ((s.size : Int) ≤ (at_ : Int) + 1) by omega)
              have HC2 := Aside0.mk (show textL (dropB s at_) acc = (none, dropB s (at_ + 1)) by rw [HD.out, dropB_nil (show s.size ≤ at_ + 1 by omega), textL_b0 _ HC.out])
              go_wp2_with (go_at_call 54; (with_reducible refine (filter_parser_stop.calls g s (at_ + 1) (-1) (at_ + 1) s (at_ + 1) (at_ + 1) w0 _ ?side1 ?side2 rfl).mono ?_); (case side1 => (repeat (first | (with_reducible first | exact HI.out | apply IsS132.alloc | apply IsS132.drewN | apply IsS132.drew | apply IsS132.set_0 | apply IsS132.set_1 | apply IsS132.set_2) | exact HI.out))); (case side2 => (repeat (first | (with_reducible first | exact HB.out | apply below_alloc | apply pw_below_drewN | apply below_drew1 | refine below_set ?_ (IsS132.ge HI.out)) | exact HB.out))); rintro e w2 ⟨rfl, hi, hb, hk⟩; have n0_ := Aside0.mk hi; have n1_ := Aside0.mk hb; have n2_ := Aside0.mk (KeepBut.trans (by (repeat (first | (with_reducible first | exact HK.out | apply KeepBut.set_ | apply keep_drewN | apply keep_drew | apply keep_alloc) | exact HK.out))) hk (Or.inl rfl)); clear HI HB HK hi hb hk; have HI := n0_; have HB := n1_; have HK := n2_; clear n0_ n1_ n2_; obtain ⟨HG, hg⟩ := HI.out; have hc0 := cellS132_0 HG; have hc1 := cellS132_1 HG; have hc2 := cellS132_2 HG; have hf0 := blk_frozen HG 0; have hf1 := blk_frozen HG 1; have hf2 := blk_frozen HG 2; clear HG hg)
              repeat (go_quiet (fail); try go_wp2_with (go_at_call 54; (with_reducible refine (filter_parser_stop.calls g s (at_ + 1) (-1) (at_ + 1) s (at_ + 1) (at_ + 1) w0 _ ?side1 ?side2 rfl).mono ?_); (case side1 => (repeat (first | (with_reducible first | exact HI.out | apply IsS132.alloc | apply IsS132.drewN | apply IsS132.drew | apply IsS132.set_0 | apply IsS132.set_1 | apply IsS132.set_2) | exact HI.out))); (case side2 => (repeat (first | (with_reducible first | exact HB.out | apply below_alloc | apply pw_below_drewN | apply below_drew1 | refine below_set ?_ (IsS132.ge HI.out)) | exact HB.out))); rintro e w2 ⟨rfl, hi, hb, hk⟩; have n0_ := Aside0.mk hi; have n1_ := Aside0.mk hb; have n2_ := Aside0.mk (KeepBut.trans (by (repeat (first | (with_reducible first | exact HK.out | apply KeepBut.set_ | apply keep_drewN | apply keep_drew | apply keep_alloc) | exact HK.out))) hk (Or.inl rfl)); clear HI HB HK hi hb hk; have HI := n0_; have HB := n1_; have HK := n2_; clear n0_ n1_ n2_; obtain ⟨HG, hg⟩ := HI.out; have hc0 := cellS132_0 HG; have hc1 := cellS132_1 HG; have hc2 := cellS132_2 HG; have hf0 := blk_frozen HG 0; have hf1 := blk_frozen HG 1; have hf2 := blk_frozen HG 2; clear HG hg))
              go_roundg 1
              case measure => omega
              case rel => exact ⟨acc, (at_ + 1), ((at_ + 1) : Nat), ⟨by omega, Or.inr ⟨rfl, by omega, HA2.out.symm.trans HC2.out⟩⟩, ⟨by first | (rw [show ((at_ + 1 : Nat) : Int) = (at_ : Int) + 1 by omega]; (repeat (first | (with_reducible first | exact HI.out | apply IsS132.alloc | apply IsS132.drewN | apply IsS132.drew | apply IsS132.set_0 | apply IsS132.set_1 | apply IsS132.set_2) | exact HI.out))) | (repeat (first | (with_reducible first | exact HI.out | apply IsS132.alloc | apply IsS132.drewN | apply IsS132.drew | apply IsS132.set_0 | apply IsS132.set_1 | apply IsS132.set_2) | exact HI.out))⟩, ⟨by (repeat (first | (with_reducible first | exact HK.out | apply KeepBut.set_ | apply keep_drewN | apply keep_drew | apply keep_alloc) | exact HK.out))⟩, ⟨by (repeat (first | (with_reducible first | exact HB.out | apply below_alloc | apply pw_below_drewN | apply below_drew1 | refine below_set ?_ (IsS132.ge HI.out)) | exact HB.out))⟩⟩
          · have e92 : ((c.toNat : Int) == 92) = false := by rw [show (92 : Int) = ((92 : Nat) : Int) from rfl, c_eq (by decide)]; simpa using h92
            by_cases hp : 32 ≤ c ∧ c ≤ 126
            · have g1 := decide_eq_true (show (32 : Int) ≤ (c.toNat : Int) by have := UInt8.le_iff_toNat_le.mp hp.1; simp at this; omega)
              have g2 := decide_eq_true (show (c.toNat : Int) ≤ 126 by have := UInt8.le_iff_toNat_le.mp hp.2; simp at this; omega)
              have HC2 := Aside0.mk (show textL (dropB s at_) acc = textL (dropB s (at_ + 1)) (acc ++ [c]) by rw [HD.out, textL_p _ _ h34 h92 hp])
              clear h34 h92 hp
              go_wp2_with ((with_reducible refine gate_builtin (b := .append) (xs := #[.tmp 115, .tmp 117]) rfl ?_); at_builtin; refine Kd.R_append (Kd.int .u8) w.heap.size rfl (.tmp 115) (.tmp 117) 161 5 (.int .u8 0) 1 rfl Try.underlying161 info5 rfl (by decide) (by omega) u3 (numsB acc) (c.toNat : Int) [.int .u8 (c.toNat : Int)] (fun _ => True) (fun _ => False) rfl ?aX ?aP (fun _ hk => hk.elim) ?aF ?aO (Below.refl _ _) ?aS ?aL ?_; (case aX => first | rfl | (go_simp; done) | (go_simp; rfl)); (case aP => exact rfl); (case aF => exact (fun _ _ => trivial)); (case aO => exact (by (with_reducible repeat (first | apply Kd.R_alloc | apply Kd.R_drewN | apply Kd.R_drew)); exact HO.out)); (case aS => exact (keep_size (w := w) (g := g) (row := none) (by (repeat (first | (with_reducible first | exact HK.out | apply KeepBut.set_ | apply keep_drewN | apply keep_drew | apply keep_alloc) | exact HK.out))))); (case aL => have := HA1.out; have := HS.out; simp [numsB]; omega); intro v3 w3 ho hb hg hat; rw [← numsB_snoc] at ho; have n0_ := Aside0.mk (IsS132.grown (by (repeat (first | (with_reducible first | exact HI.out | apply IsS132.alloc | apply IsS132.drewN | apply IsS132.drew | apply IsS132.set_0 | apply IsS132.set_1 | apply IsS132.set_2) | exact HI.out))) hg (IsS132.own_ne HI.out HO.out (by decide))); have n1_ := Aside0.mk (below_weaken (by (repeat (first | (with_reducible first | exact HB.out | apply below_alloc | apply pw_below_drewN | apply below_drew1 | refine below_set ?_ (IsS132.ge HI.out)) | exact HB.out))) HL.out hb); have n2_ := Aside0.mk (KeepBut.trans (by (repeat (first | (with_reducible first | exact HK.out | apply KeepBut.set_ | apply keep_drewN | apply keep_drew | apply keep_alloc) | exact HK.out))) (KeepBut.of_grown hg g) (Kd.R_base2 HO.out)); have n3_ := Aside0.mk ho; clear HI HB HK HO ho hb hg hat; have HI := n0_; have HB := n1_; have HK := n2_; have HO := n3_; clear n0_ n1_ n2_ n3_; obtain ⟨HG, hg⟩ := HI.out; have hc0 := cellS132_0 HG; have hc1 := cellS132_1 HG; have hc2 := cellS132_2 HG; have hf0 := blk_frozen HG 0; have hf1 := blk_frozen HG 1; have hf2 := blk_frozen HG 2; clear HG hg)
              repeat (go_quiet (fail); try go_wp2_with ((with_reducible refine gate_builtin (b := .append) (xs := #[.tmp 115, .tmp 117]) rfl ?_); at_builtin; refine Kd.R_append (Kd.int .u8) w.heap.size rfl (.tmp 115) (.tmp 117) 161 5 (.int .u8 0) 1 rfl Try.underlying161 info5 rfl (by decide) (by omega) u3 (numsB acc) (c.toNat : Int) [.int .u8 (c.toNat : Int)] (fun _ => True) (fun _ => False) rfl ?aX ?aP (fun _ hk => hk.elim) ?aF ?aO (Below.refl _ _) ?aS ?aL ?_; (case aX => first | rfl | (go_simp; done) | (go_simp; rfl)); (case aP => exact rfl); (case aF => exact (fun _ _ => trivial)); (case aO => exact (by (with_reducible repeat (first | apply Kd.R_alloc | apply Kd.R_drewN | apply Kd.R_drew)); exact HO.out)); (case aS => exact (keep_size (w := w) (g := g) (row := none) (by (repeat (first | (with_reducible first | exact HK.out | apply KeepBut.set_ | apply keep_drewN | apply keep_drew | apply keep_alloc) | exact HK.out))))); (case aL => have := HA1.out; have := HS.out; simp [numsB]; omega); intro v3 w3 ho hb hg hat; rw [← numsB_snoc] at ho; have n0_ := Aside0.mk (IsS132.grown (by (repeat (first | (with_reducible first | exact HI.out | apply IsS132.alloc | apply IsS132.drewN | apply IsS132.drew | apply IsS132.set_0 | apply IsS132.set_1 | apply IsS132.set_2) | exact HI.out))) hg (IsS132.own_ne HI.out HO.out (by decide))); have n1_ := Aside0.mk (below_weaken (by (repeat (first | (with_reducible first | exact HB.out | apply below_alloc | apply pw_below_drewN | apply below_drew1 | refine below_set ?_ (IsS132.ge HI.out)) | exact HB.out))) HL.out hb); have n2_ := Aside0.mk (KeepBut.trans (by (repeat (first | (with_reducible first | exact HK.out | apply KeepBut.set_ | apply keep_drewN | apply keep_drew | apply keep_alloc) | exact HK.out))) (KeepBut.of_grown hg g) (Kd.R_base2 HO.out)); have n3_ := Aside0.mk ho; clear HI HB HK HO ho hb hg hat; have HI := n0_; have HB := n1_; have HK := n2_; have HO := n3_; clear n0_ n1_ n2_ n3_; obtain ⟨HG, hg⟩ := HI.out; have hc0 := cellS132_0 HG; have hc1 := cellS132_1 HG; have hc2 := cellS132_2 HG; have hf0 := blk_frozen HG 0; have hf1 := blk_frozen HG 1; have hf2 := blk_frozen HG 2; clear HG hg))
              go_roundg (gk - 1)
              case measure => omega
              case rel => exact ⟨acc ++ [c], at_ + 1, -1, ⟨by omega, Or.inl ⟨rfl, by omega, by have := HA1.out; simp; omega, HC2.out.symm.trans HA2.out, Kd.R_mono (Kd.R_far (p := ⟨g, 1, none⟩) (IsS132.apart (by (repeat (first | (with_reducible first | exact HI.out | apply IsS132.alloc | apply IsS132.drewN | apply IsS132.drew | apply IsS132.set_0 | apply IsS132.set_1 | apply IsS132.set_2) | exact HI.out)) : IsS132 w0 _ g s _ _) (by (with_reducible repeat (first | apply Kd.R_alloc | apply Kd.R_drewN | apply Kd.R_drew)); exact HO.out) (by decide)) (fun _ hk => hk.2) (_)) (fun _ _ => trivial)⟩⟩, ⟨by rw [show ((at_ + 1 : Nat) : Int) = (at_ : Int) + 1 by omega]; (repeat (first | (with_reducible first | exact HI.out | apply IsS132.alloc | apply IsS132.drewN | apply IsS132.drew | apply IsS132.set_0 | apply IsS132.set_1 | apply IsS132.set_2) | exact HI.out))⟩, ⟨by (repeat (first | (with_reducible first | exact HK.out | apply KeepBut.set_ | apply keep_drewN | apply keep_drew | apply keep_alloc) | exact HK.out))⟩, ⟨by (repeat (first | (with_reducible first | exact HB.out | apply below_alloc | apply pw_below_drewN | apply below_drew1 | refine below_set ?_ (IsS132.ge HI.out)) | exact HB.out))⟩⟩
            · have HC2 := Aside0.mk (show textL (dropB s at_) acc = (none, dropB s at_) by rw [HD.out, textL_n _ _ h34 h92 hp])
              clear h34 h92
              by_cases g0 : 32 ≤ c
              · have g1 := decide_eq_true (show (32 : Int) ≤ (c.toNat : Int) by have := UInt8.le_iff_toNat_le.mp g0; simp at this; omega)
                have g2 := decide_eq_false (show ¬ (c.toNat : Int) ≤ 126 by intro hh; exact hp ⟨g0, by rw [UInt8.le_iff_toNat_le]; simp; omega⟩)
                clear g0 hp
                go_wp2_with (go_at_call 54; (with_reducible refine (filter_parser_stop.calls g s at_ (-1) at_ s at_ at_ w0 _ ?side1 ?side2 rfl).mono ?_); (case side1 => (repeat (first | (with_reducible first | exact HI.out | apply IsS132.alloc | apply IsS132.drewN | apply IsS132.drew | apply IsS132.set_0 | apply IsS132.set_1 | apply IsS132.set_2) | exact HI.out))); (case side2 => (repeat (first | (with_reducible first | exact HB.out | apply below_alloc | apply pw_below_drewN | apply below_drew1 | refine below_set ?_ (IsS132.ge HI.out)) | exact HB.out))); rintro e w2 ⟨rfl, hi, hb, hk⟩; have n0_ := Aside0.mk hi; have n1_ := Aside0.mk hb; have n2_ := Aside0.mk (KeepBut.trans (by (repeat (first | (with_reducible first | exact HK.out | apply KeepBut.set_ | apply keep_drewN | apply keep_drew | apply keep_alloc) | exact HK.out))) hk (Or.inl rfl)); clear HI HB HK hi hb hk; have HI := n0_; have HB := n1_; have HK := n2_; clear n0_ n1_ n2_; obtain ⟨HG, hg⟩ := HI.out; have hc0 := cellS132_0 HG; have hc1 := cellS132_1 HG; have hc2 := cellS132_2 HG; have hf0 := blk_frozen HG 0; have hf1 := blk_frozen HG 1; have hf2 := blk_frozen HG 2; clear HG hg)
                repeat (go_quiet (fail); try go_wp2_with (go_at_call 54; (with_reducible refine (filter_parser_stop.calls g s at_ (-1) at_ s at_ at_ w0 _ ?side1 ?side2 rfl).mono ?_); (case side1 => (repeat (first | (with_reducible first | exact HI.out | apply IsS132.alloc | apply IsS132.drewN | apply IsS132.drew | apply IsS132.set_0 | apply IsS132.set_1 | apply IsS132.set_2) | exact HI.out))); (case side2 => (repeat (first | (with_reducible first | exact HB.out | apply below_alloc | apply pw_below_drewN | apply below_drew1 | refine below_set ?_ (IsS132.ge HI.out)) | exact HB.out))); rintro e w2 ⟨rfl, hi, hb, hk⟩; have n0_ := Aside0.mk hi; have n1_ := Aside0.mk hb; have n2_ := Aside0.mk (KeepBut.trans (by (repeat (first | (with_reducible first | exact HK.out | apply KeepBut.set_ | apply keep_drewN | apply keep_drew | apply keep_alloc) | exact HK.out))) hk (Or.inl rfl)); clear HI HB HK hi hb hk; have HI := n0_; have HB := n1_; have HK := n2_; clear n0_ n1_ n2_; obtain ⟨HG, hg⟩ := HI.out; have hc0 := cellS132_0 HG; have hc1 := cellS132_1 HG; have hc2 := cellS132_2 HG; have hf0 := blk_frozen HG 0; have hf1 := blk_frozen HG 1; have hf2 := blk_frozen HG 2; clear HG hg))
                go_roundg 1
                case measure => omega
                case rel => exact ⟨acc, at_, (at_ : Nat), ⟨by omega, Or.inr ⟨rfl, by omega, HA2.out.symm.trans HC2.out⟩⟩, ⟨by first | (rw [show ((at_ + 1 : Nat) : Int) = (at_ : Int) + 1 by omega]; (repeat (first | (with_reducible first | exact HI.out | apply IsS132.alloc | apply IsS132.drewN | apply IsS132.drew | apply IsS132.set_0 | apply IsS132.set_1 | apply IsS132.set_2) | exact HI.out))) | (repeat (first | (with_reducible first | exact HI.out | apply IsS132.alloc | apply IsS132.drewN | apply IsS132.drew | apply IsS132.set_0 | apply IsS132.set_1 | apply IsS132.set_2) | exact HI.out))⟩, ⟨by (repeat (first | (with_reducible first | exact HK.out | apply KeepBut.set_ | apply keep_drewN | apply keep_drew | apply keep_alloc) | exact HK.out))⟩, ⟨by (repeat (first | (with_reducible first | exact HB.out | apply below_alloc | apply pw_below_drewN | apply below_drew1 | refine below_set ?_ (IsS132.ge HI.out)) | exact HB.out))⟩⟩
              · have g1 := decide_eq_false (show ¬ (32 : Int) ≤ (c.toNat : Int) by intro hh; exact g0 (by rw [UInt8.le_iff_toNat_le]; simp; omega))
                clear g0 hp
                go_wp2_with (go_at_call 54; (with_reducible refine (filter_parser_stop.calls g s at_ (-1) at_ s at_ at_ w0 _ ?side1 ?side2 rfl).mono ?_); (case side1 => (repeat (first | (with_reducible first | exact HI.out | apply IsS132.alloc | apply IsS132.drewN | apply IsS132.drew | apply IsS132.set_0 | apply IsS132.set_1 | apply IsS132.set_2) | exact HI.out))); (case side2 => (repeat (first | (with_reducible first | exact HB.out | apply below_alloc | apply pw_below_drewN | apply below_drew1 | refine below_set ?_ (IsS132.ge HI.out)) | exact HB.out))); rintro e w2 ⟨rfl, hi, hb, hk⟩; have n0_ := Aside0.mk hi; have n1_ := Aside0.mk hb; have n2_ := Aside0.mk (KeepBut.trans (by (repeat (first | (with_reducible first | exact HK.out | apply KeepBut.set_ | apply keep_drewN | apply keep_drew | apply keep_alloc) | exact HK.out))) hk (Or.inl rfl)); clear HI HB HK hi hb hk; have HI := n0_; have HB := n1_; have HK := n2_; clear n0_ n1_ n2_; obtain ⟨HG, hg⟩ := HI.out; have hc0 := cellS132_0 HG; have hc1 := cellS132_1 HG; have hc2 := cellS132_2 HG; have hf0 := blk_frozen HG 0; have hf1 := blk_frozen HG 1; have hf2 := blk_frozen HG 2; clear HG hg)
                repeat (go_quiet (fail); try go_wp2_with (go_at_call 54; (with_reducible refine (filter_parser_stop.calls g s at_ (-1) at_ s at_ at_ w0 _ ?side1 ?side2 rfl).mono ?_); (case side1 => (repeat (first | (with_reducible first | exact HI.out | apply IsS132.alloc | apply IsS132.drewN | apply IsS132.drew | apply IsS132.set_0 | apply IsS132.set_1 | apply IsS132.set_2) | exact HI.out))); (case side2 => (repeat (first | (with_reducible first | exact HB.out | apply below_alloc | apply pw_below_drewN | apply below_drew1 | refine below_set ?_ (IsS132.ge HI.out)) | exact HB.out))); rintro e w2 ⟨rfl, hi, hb, hk⟩; have n0_ := Aside0.mk hi; have n1_ := Aside0.mk hb; have n2_ := Aside0.mk (KeepBut.trans (by (repeat (first | (with_reducible first | exact HK.out | apply KeepBut.set_ | apply keep_drewN | apply keep_drew | apply keep_alloc) | exact HK.out))) hk (Or.inl rfl)); clear HI HB HK hi hb hk; have HI := n0_; have HB := n1_; have HK := n2_; clear n0_ n1_ n2_; obtain ⟨HG, hg⟩ := HI.out; have hc0 := cellS132_0 HG; have hc1 := cellS132_1 HG; have hc2 := cellS132_2 HG; have hf0 := blk_frozen HG 0; have hf1 := blk_frozen HG 1; have hf2 := blk_frozen HG 2; clear HG hg))
                go_roundg 1
                case measure => omega
                case rel => exact ⟨acc, at_, (at_ : Nat), ⟨by omega, Or.inr ⟨rfl, by omega, HA2.out.symm.trans HC2.out⟩⟩, ⟨by first | (rw [show ((at_ + 1 : Nat) : Int) = (at_ : Int) + 1 by omega]; (repeat (first | (with_reducible first | exact HI.out | apply IsS132.alloc | apply IsS132.drewN | apply IsS132.drew | apply IsS132.set_0 | apply IsS132.set_1 | apply IsS132.set_2) | exact HI.out))) | (repeat (first | (with_reducible first | exact HI.out | apply IsS132.alloc | apply IsS132.drewN | apply IsS132.drew | apply IsS132.set_0 | apply IsS132.set_1 | apply IsS132.set_2) | exact HI.out))⟩, ⟨by (repeat (first | (with_reducible first | exact HK.out | apply KeepBut.set_ | apply keep_drewN | apply keep_drew | apply keep_alloc) | exact HK.out))⟩, ⟨by (repeat (first | (with_reducible first | exact HB.out | apply below_alloc | apply pw_below_drewN | apply below_drew1 | refine below_set ?_ (IsS132.ge HI.out)) | exact HB.out))⟩⟩
      · have q3 := decide_eq_true (show ((s.size : Int) ≤ (at_ : Int)) by omega)
        obtain rfl : at_ = s.size := by omega
        obtain ⟨HG, hg⟩ := HI.out
        have hc0 := cellS132_0 HG
        have hc1 := cellS132_1 HG
        have hc2 := cellS132_2 HG
        have hf0 := blk_frozen HG 0
        have hf1 := blk_frozen HG 1
        have hf2 := blk_frozen HG 2
        clear HG hg
        go_wp2_with (go_at_call 54; (with_reducible refine (filter_parser_stop.calls g s s.size (-1) s.size s s.size s.size w0 _ ?side1 ?side2 rfl).mono ?_); (case side1 => (repeat (first | (with_reducible first | exact HI.out | apply IsS132.alloc | apply IsS132.drewN | apply IsS132.drew | apply IsS132.set_0 | apply IsS132.set_1 | apply IsS132.set_2) | exact HI.out))); (case side2 => (repeat (first | (with_reducible first | exact HB.out | apply below_alloc | apply pw_below_drewN | apply below_drew1 | refine below_set ?_ (IsS132.ge HI.out)) | exact HB.out))); rintro e w2 ⟨rfl, hi, hb, hk⟩; have n0_ := Aside0.mk hi; have n1_ := Aside0.mk hb; have n2_ := Aside0.mk (KeepBut.trans (by (repeat (first | (with_reducible first | exact HK.out | apply KeepBut.set_ | apply keep_drewN | apply keep_drew | apply keep_alloc) | exact HK.out))) hk (Or.inl rfl)); clear HI HB HK hi hb hk; have HI := n0_; have HB := n1_; have HK := n2_; clear n0_ n1_ n2_; obtain ⟨HG, hg⟩ := HI.out; have hc0 := cellS132_0 HG; have hc1 := cellS132_1 HG; have hc2 := cellS132_2 HG; have hf0 := blk_frozen HG 0; have hf1 := blk_frozen HG 1; have hf2 := blk_frozen HG 2; clear HG hg)
        repeat (go_quiet (fail); try go_wp2_with (go_at_call 54; (with_reducible refine (filter_parser_stop.calls g s s.size (-1) s.size s s.size s.size w0 _ ?side1 ?side2 rfl).mono ?_); (case side1 => (repeat (first | (with_reducible first | exact HI.out | apply IsS132.alloc | apply IsS132.drewN | apply IsS132.drew | apply IsS132.set_0 | apply IsS132.set_1 | apply IsS132.set_2) | exact HI.out))); (case side2 => (repeat (first | (with_reducible first | exact HB.out | apply below_alloc | apply pw_below_drewN | apply below_drew1 | refine below_set ?_ (IsS132.ge HI.out)) | exact HB.out))); rintro e w2 ⟨rfl, hi, hb, hk⟩; have n0_ := Aside0.mk hi; have n1_ := Aside0.mk hb; have n2_ := Aside0.mk (KeepBut.trans (by (repeat (first | (with_reducible first | exact HK.out | apply KeepBut.set_ | apply keep_drewN | apply keep_drew | apply keep_alloc) | exact HK.out))) hk (Or.inl rfl)); clear HI HB HK hi hb hk; have HI := n0_; have HB := n1_; have HK := n2_; clear n0_ n1_ n2_; obtain ⟨HG, hg⟩ := HI.out; have hc0 := cellS132_0 HG; have hc1 := cellS132_1 HG; have hc2 := cellS132_2 HG; have hf0 := blk_frozen HG 0; have hf1 := blk_frozen HG 1; have hf2 := blk_frozen HG 2; clear HG hg))
        go_ret
        exact Or.inr ⟨[], by rw [← HA2.out, dropB_nil (Nat.le_refl _), textL_nil], by first | rfl | simp, by simp only [List.length_nil, Nat.sub_zero]; (repeat (first | (with_reducible first | exact HI.out | apply IsS132.alloc | apply IsS132.drewN | apply IsS132.drew | apply IsS132.set_0 | apply IsS132.set_1 | apply IsS132.set_2) | exact HI.out)), by (repeat (first | (with_reducible first | exact HB.out | apply below_alloc | apply pw_below_drewN | apply below_drew1 | refine below_set ?_ (IsS132.ge HI.out)) | exact HB.out)), by (repeat (first | (with_reducible first | exact HK.out | apply KeepBut.set_ | apply keep_drewN | apply keep_drew | apply keep_alloc) | exact HK.out))⟩
    · have hb0 := decide_eq_false (show ¬ ((at_ : Int) < 0) by omega)
      have HA2 := Aside0.mk ht
      clear ht HA
      obtain ⟨HG, hg⟩ := HI.out
      have hc0 := cellS132_0 HG
      have hc1 := cellS132_1 HG
      have hc2 := cellS132_2 HG
      have hf0 := blk_frozen HG 0
      have hf1 := blk_frozen HG 1
      have hf2 := blk_frozen HG 2
      clear HG hg
      go_wp2
      go_ret
      exact Or.inr ⟨dropB s at_, HA2.out, by first | rfl | simp, by rw [dropB_len, Nat.sub_sub_self hlb]; (repeat (first | (with_reducible first | exact HI.out | apply IsS132.alloc | apply IsS132.drewN | apply IsS132.drew | apply IsS132.set_0 | apply IsS132.set_1 | apply IsS132.set_2) | exact HI.out)), by (repeat (first | (with_reducible first | exact HB.out | apply below_alloc | apply pw_below_drewN | apply below_drew1 | refine below_set ?_ (IsS132.ge HI.out)) | exact HB.out)), by (repeat (first | (with_reducible first | exact HK.out | apply KeepBut.set_ | apply keep_drewN | apply keep_drew | apply keep_alloc) | exact HK.out))⟩
end Go.Proofs.Ytlokmijoaocofaa.Mine
end
section
/-
  The parser's number, as the kit's printer writes it.
-/
namespace Go.Proofs.Ytlokmijoaocofaa.PBoardAgain
open Go.RowKit Go.Proofs.YtlokmijoaocofaaW.PrintWords Go.Proofs.YtlokmijoaocofaaW.PrintLast Go.Proofs.YtlokmijoaocofaaW.PrintMore
attribute [local go_sem] max2_int min2_int max_two min_two max_three min_three max_four min_four   -- for this text's walks alone

/-! ### filter_parser_number: function 73 -/
mutual
def filter_parser_number.j0 : Nat → Int → Int → Int → Bool → ByteArray → Int → Int → Option (Int × ByteArray × Int × Int)
  | 0, _, _, _, _, _, _, _ => none
  | k + 1, x3, x4, x5, x39, x1000, x1001, x1002 => if x39 = true then (filter_parser_number.j1 k x3 (-1) x5 x1000 (wrap64 (x1001 + 1)) x1002) else (filter_parser_number.j1 k x3 x4 x5 x1000 x1001 x1002)
def filter_parser_number.j1 : Nat → Int → Int → Int → ByteArray → Int → Int → Option (Int × ByteArray × Int × Int)
  | 0, _, _, _, _, _, _ => none
  | k + 1, x3, x4, x5, x1000, x1001, x1002 => filter_parser_number.l0 k x3 x4 x5 x1001 x1000 x1001 x1002
def filter_parser_number.l0 : Nat → Int → Int → Int → Int → ByteArray → Int → Int → Option (Int × ByteArray × Int × Int)
  | 0, _, _, _, _, _, _, _ => none
  | k + 1, x3, x4, x5, x6, x1000, x1001, x1002 => if x1001 < (x1000.size : Int) then (if 0 ≤ x1001 then ((filter_digit.f (bt x1000 x1001)).bind fun t172 => (filter_parser_number.j3 k x3 x4 x5 x6 t172 x1000 x1001 x1002)) else (none)) else (filter_parser_number.j3 k x3 x4 x5 x6 false x1000 x1001 x1002)
def filter_parser_number.j3 : Nat → Int → Int → Int → Int → Bool → ByteArray → Int → Int → Option (Int × ByteArray × Int × Int)
  | 0, _, _, _, _, _, _, _, _ => none
  | k + 1, x3, x4, x5, x6, x72, x1000, x1001, x1002 => if x72 = true then (if (wrap64 (x1001 - x6)) ≥ 10 then ((filter_parser_stop.f x1000 x1001 x1002 x3).bind fun bt173 => (some (0, bt173.1, bt173.2.1, bt173.2.2))) else (if 0 ≤ x1001 then (if x1001 < (x1000.size : Int) then (filter_parser_number.l0 k x3 x4 (wrap64 ((wrap64 (10 * x5)) + (((bt x1000 x1001) - 48) % 256))) x6 x1000 (wrap64 (x1001 + 1)) x1002) else (none)) else (none))) else (if x1001 = x6 then ((filter_parser_stop.f x1000 x1001 x1002 x3).bind fun bt176 => (some (wrap64 (x4 * x5), bt176.1, bt176.2.1, bt176.2.2))) else (if (wrap64 (x1001 - x6)) > 1 then (if 0 ≤ x6 then (if x6 < (x1000.size : Int) then (if (bt x1000 x6) = 48 then ((filter_parser_stop.f x1000 x1001 x1002 x3).bind fun bt179 => (some (wrap64 (x4 * x5), bt179.1, bt179.2.1, bt179.2.2))) else (if x4 < 0 then (if x5 = 0 then ((filter_parser_stop.f x1000 x1001 x1002 x3).bind fun bt182 => (some (wrap64 (x4 * x5), bt182.1, bt182.2.1, bt182.2.2))) else (some (wrap64 (x4 * x5), x1000, x1001, x1002))) else (some (wrap64 (x4 * x5), x1000, x1001, x1002)))) else (none)) else (none)) else (if x4 < 0 then (if x5 = 0 then ((filter_parser_stop.f x1000 x1001 x1002 x3).bind fun bt185 => (some (wrap64 (x4 * x5), bt185.1, bt185.2.1, bt185.2.2))) else (some (wrap64 (x4 * x5), x1000, x1001, x1002))) else (some (wrap64 (x4 * x5), x1000, x1001, x1002)))))
end
def filter_parser_number.f (k : Nat) (s0_0 : ByteArray) (s0_1 : Int) (s0_2 : Int) : Option (Int × ByteArray × Int × Int) := (filter_parser_blanks.f k s0_0 s0_1 s0_2).bind fun bt169 => (if bt169.2.2 ≥ 0 then (some (0, bt169.1, bt169.2.1, bt169.2.2)) else (if bt169.2.1 < (bt169.1.size : Int) then (if 0 ≤ bt169.2.1 then (filter_parser_number.j0 k bt169.2.1 1 0 ((bt bt169.1 bt169.2.1) == 45) bt169.1 bt169.2.1 bt169.2.2) else (none)) else (filter_parser_number.j0 k bt169.2.1 1 0 false bt169.1 bt169.2.1 bt169.2.2)))
theorem filter_parser_number.mono_l : ∀ k, (∀ y0 y1 y2 y3 y4 y5 y6, LeO (filter_parser_number.j0 k y0 y1 y2 y3 y4 y5 y6) (filter_parser_number.j0 (k + 1) y0 y1 y2 y3 y4 y5 y6)) ∧ (∀ y0 y1 y2 y3 y4 y5, LeO (filter_parser_number.j1 k y0 y1 y2 y3 y4 y5) (filter_parser_number.j1 (k + 1) y0 y1 y2 y3 y4 y5)) ∧ (∀ y0 y1 y2 y3 y4 y5 y6, LeO (filter_parser_number.l0 k y0 y1 y2 y3 y4 y5 y6) (filter_parser_number.l0 (k + 1) y0 y1 y2 y3 y4 y5 y6)) ∧ (∀ y0 y1 y2 y3 y4 y5 y6 y7, LeO (filter_parser_number.j3 k y0 y1 y2 y3 y4 y5 y6 y7) (filter_parser_number.j3 (k + 1) y0 y1 y2 y3 y4 y5 y6 y7))
  | 0 => ⟨fun _ _ _ _ _ _ _ r h => by simp [filter_parser_number.j0] at h, fun _ _ _ _ _ _ r h => by simp [filter_parser_number.j1] at h, fun _ _ _ _ _ _ _ r h => by simp [filter_parser_number.l0] at h, fun _ _ _ _ _ _ _ _ r h => by simp [filter_parser_number.j3] at h⟩
  | k + 1 => by
    obtain ⟨ih0, ih1, ih2, ih3⟩ := filter_parser_number.mono_l k
    refine ⟨?_, ?_, ?_, ?_⟩
    · intro y0 y1 y2 y3 y4 y5 y6
      unfold filter_parser_number.j0
      repeat' first
      | (with_reducible exact ih0 _ _ _ _ _ _ _)
      | (with_reducible exact ih1 _ _ _ _ _ _)
      | (with_reducible exact ih2 _ _ _ _ _ _ _)
      | (with_reducible exact ih3 _ _ _ _ _ _ _ _)
      | (with_reducible exact filter_parser_blanks.mono _ _ _ _)
      | (with_reducible exact LeO.refl _)
      | (with_reducible exact LeO.none _)
      | (with_reducible refine LeO.ite ?_ ?_)
      | (with_reducible refine LeO.bind ?_ (fun _ => ?_))
      | exact ih0 _ _ _ _ _ _ _
      | exact ih1 _ _ _ _ _ _
      | exact ih2 _ _ _ _ _ _ _
      | exact ih3 _ _ _ _ _ _ _ _
      | exact filter_parser_blanks.mono _ _ _ _
      | exact LeO.none _
      | refine LeO.ite ?_ ?_
      | refine LeO.bind ?_ (fun _ => ?_)
    · intro y0 y1 y2 y3 y4 y5
      unfold filter_parser_number.j1
      repeat' first
      | (with_reducible exact ih0 _ _ _ _ _ _ _)
      | (with_reducible exact ih1 _ _ _ _ _ _)
      | (with_reducible exact ih2 _ _ _ _ _ _ _)
      | (with_reducible exact ih3 _ _ _ _ _ _ _ _)
      | (with_reducible exact filter_parser_blanks.mono _ _ _ _)
      | (with_reducible exact LeO.refl _)
      | (with_reducible exact LeO.none _)
      | (with_reducible refine LeO.ite ?_ ?_)
      | (with_reducible refine LeO.bind ?_ (fun _ => ?_))
      | exact ih0 _ _ _ _ _ _ _
      | exact ih1 _ _ _ _ _ _
      | exact ih2 _ _ _ _ _ _ _
      | exact ih3 _ _ _ _ _ _ _ _
      | exact filter_parser_blanks.mono _ _ _ _
      | exact LeO.none _
      | refine LeO.ite ?_ ?_
      | refine LeO.bind ?_ (fun _ => ?_)
    · intro y0 y1 y2 y3 y4 y5 y6
      unfold filter_parser_number.l0
      repeat' first
      | (with_reducible exact ih0 _ _ _ _ _ _ _)
      | (with_reducible exact ih1 _ _ _ _ _ _)
      | (with_reducible exact ih2 _ _ _ _ _ _ _)
      | (with_reducible exact ih3 _ _ _ _ _ _ _ _)
      | (with_reducible exact filter_parser_blanks.mono _ _ _ _)
      | (with_reducible exact LeO.refl _)
      | (with_reducible exact LeO.none _)
      | (with_reducible refine LeO.ite ?_ ?_)
      | (with_reducible refine LeO.bind ?_ (fun _ => ?_))
      | exact ih0 _ _ _ _ _ _ _
      | exact ih1 _ _ _ _ _ _
      | exact ih2 _ _ _ _ _ _ _
      | exact ih3 _ _ _ _ _ _ _ _
      | exact filter_parser_blanks.mono _ _ _ _
      | exact LeO.none _
      | refine LeO.ite ?_ ?_
      | refine LeO.bind ?_ (fun _ => ?_)
    · intro y0 y1 y2 y3 y4 y5 y6 y7
      unfold filter_parser_number.j3
      repeat' first
      | (with_reducible exact ih0 _ _ _ _ _ _ _)
      | (with_reducible exact ih1 _ _ _ _ _ _)
      | (with_reducible exact ih2 _ _ _ _ _ _ _)
      | (with_reducible exact ih3 _ _ _ _ _ _ _ _)
      | (with_reducible exact filter_parser_blanks.mono _ _ _ _)
      | (with_reducible exact LeO.refl _)
      | (with_reducible exact LeO.none _)
      | (with_reducible refine LeO.ite ?_ ?_)
      | (with_reducible refine LeO.bind ?_ (fun _ => ?_))
      | exact ih0 _ _ _ _ _ _ _
      | exact ih1 _ _ _ _ _ _
      | exact ih2 _ _ _ _ _ _ _
      | exact ih3 _ _ _ _ _ _ _ _
      | exact filter_parser_blanks.mono _ _ _ _
      | exact LeO.none _
      | refine LeO.ite ?_ ?_
      | refine LeO.bind ?_ (fun _ => ?_)
theorem filter_parser_number.mono : ∀ a0 a1 a2 k, LeO (filter_parser_number.f k a0 a1 a2) (filter_parser_number.f (k + 1) a0 a1 a2) := by
  intro a0 a1 a2 k
  obtain ⟨ih0, ih1, ih2, ih3⟩ := filter_parser_number.mono_l k
  unfold filter_parser_number.f
  repeat' first
      | (with_reducible exact ih0 _ _ _ _ _ _ _)
      | (with_reducible exact ih1 _ _ _ _ _ _)
      | (with_reducible exact ih2 _ _ _ _ _ _ _)
      | (with_reducible exact ih3 _ _ _ _ _ _ _ _)
      | (with_reducible exact filter_parser_blanks.mono _ _ _ _)
      | (with_reducible exact LeO.refl _)
      | (with_reducible exact LeO.none _)
      | (with_reducible refine LeO.ite ?_ ?_)
      | (with_reducible refine LeO.bind ?_ (fun _ => ?_))
      | exact ih0 _ _ _ _ _ _ _
      | exact ih1 _ _ _ _ _ _
      | exact ih2 _ _ _ _ _ _ _
      | exact ih3 _ _ _ _ _ _ _ _
      | exact filter_parser_blanks.mono _ _ _ _
      | exact LeO.none _
      | refine LeO.ite ?_ ?_
      | refine LeO.bind ?_ (fun _ => ?_)
set_option maxHeartbeats 8000000 in
set_option maxRecDepth 100000 in
theorem filter_parser_number.calls (k : Nat) (g : Nat) (s0_0 : ByteArray) (s0_1 : Int) (s0_2 : Int) (r1 : Int) (r2 : ByteArray) (r3 : Int) (r4 : Int) (w0 w : World) (hI : IsS132 w0 w g s0_0 s0_1 s0_2) (hB : Below w0.heap.size w0 w) (h : filter_parser_number.f k s0_0 s0_1 s0_2 = some (r1, r2, r3, r4)) :
    Calls Try.prog 73 #[.pointer (some ⟨g, 0, none⟩)] w fun e w' => e = .returned (.int .i64 r1) ∧ IsS132 w0 w' g r2 r3 r4 ∧ Below w0.heap.size w0 w' ∧ KeepBut w w' g none := by
  have HI0 := Aside0.mk hI
  have HK := Aside0.mk (KeepBut.refl w g none)
  have HL := Aside0.mk hB.size
  clear hI
  have HW0 := Aside0.mk hB.size
  have HB := Aside0.mk hB
  clear hB
  have H : ((filter_parser_blanks.f k s0_0 s0_1 s0_2).bind fun bt169 => (if bt169.2.2 ≥ 0 then (some (0, bt169.1, bt169.2.1, bt169.2.2)) else (if bt169.2.1 < (bt169.1.size : Int) then (if 0 ≤ bt169.2.1 then (filter_parser_number.j0 k bt169.2.1 1 0 ((bt bt169.1 bt169.2.1) == 45) bt169.1 bt169.2.1 bt169.2.2) else (none)) else (filter_parser_number.j0 k bt169.2.1 1 0 false bt169.1 bt169.2.1 bt169.2.2)))) = some (r1, r2, r3, r4) := h
  clear h
  replace H := Option.bind_eq_some_iff.mp H
  obtain ⟨⟨t169, t170, t171⟩, A20, H⟩ := H
  replace H : (if t171 ≥ 0 then (some (0, t169, t170, t171)) else (if t170 < (t169.size : Int) then (if 0 ≤ t170 then (filter_parser_number.j0 k t170 1 0 ((bt t169 t170) == 45) t169 t170 t171) else (none)) else (filter_parser_number.j0 k t170 1 0 false t169 t170 t171))) = some (r1, r2, r3, r4) := H
  have A2 := Aside0.mk A20
  clear A20
  by_cases c3 : t171 ≥ 0
  · rw [if_pos c3] at H
    have c3b0 : decide (0 ≤ t171) = true := decide_eq_true c3
    clear c3
    simp only [Option.some.injEq, Prod.mk.injEq] at H
    obtain ⟨rfl, rfl, rfl, rfl⟩ := H
    go_enter Try.func73, Try.ntmps73
    go_wp2_with (first | (go_at_call 52; (with_reducible refine (filter_parser_blanks.calls k g s0_0 s0_1 s0_2 t169 t170 t171 w0 _ ?side1 ?side2 A2.out).mono ?_); (case side1 => repeat (first | (with_reducible first | exact HI0.out | apply IsS132.alloc | apply IsS132.drewN | apply IsS132.drew | apply IsS132.set_0 | apply IsS132.set_1 | apply IsS132.set_2) | exact HI0.out)); (case side2 => repeat (first | (with_reducible first | exact HB.out | apply below_alloc | apply pw_below_drewN | apply below_drew1 | refine below_set ?_ (IsS132.ge HI0.out)) | exact HB.out)); rintro e w4 ⟨rfl, hi, hb, hk⟩; have n0_ := Aside0.mk (KeepBut.trans (by repeat (first | (with_reducible first | exact HK.out | apply KeepBut.set_ | apply keep_drewN | apply keep_drew | apply keep_alloc) | exact HK.out)) hk (.inl rfl)); have n1_ := Aside0.mk (hb); have n2_ := Aside0.mk (hi); clear HK; clear HB; clear HI0; have HK := n0_; have HB := n1_; have HI0 := n2_; clear n0_ n1_ n2_; (try clear hb); (try clear hb2); (try clear hk); (try clear hi); obtain ⟨HGz5, hgz5⟩ := HI0.out; have hcz5_0 := cellS132_0 HGz5; have hcz5_1 := cellS132_1 HGz5; have hcz5_2 := cellS132_2 HGz5; have hfz5_0 := blk_frozen HGz5 0; have hfz5_1 := blk_frozen HGz5 1; have hfz5_2 := blk_frozen HGz5 2; clear HGz5 hgz5))
    repeat (go_quiet (first | (go_at_call 52; (with_reducible refine (filter_parser_blanks.calls k g s0_0 s0_1 s0_2 t169 t170 t171 w0 _ ?side1 ?side2 A2.out).mono ?_); (case side1 => repeat (first | (with_reducible first | exact HI0.out | apply IsS132.alloc | apply IsS132.drewN | apply IsS132.drew | apply IsS132.set_0 | apply IsS132.set_1 | apply IsS132.set_2) | exact HI0.out)); (case side2 => repeat (first | (with_reducible first | exact HB.out | apply below_alloc | apply pw_below_drewN | apply below_drew1 | refine below_set ?_ (IsS132.ge HI0.out)) | exact HB.out)); rintro e w4 ⟨rfl, hi, hb, hk⟩; have n0_ := Aside0.mk (KeepBut.trans (by repeat (first | (with_reducible first | exact HK.out | apply KeepBut.set_ | apply keep_drewN | apply keep_drew | apply keep_alloc) | exact HK.out)) hk (.inl rfl)); have n1_ := Aside0.mk (hb); have n2_ := Aside0.mk (hi); clear HK; clear HB; clear HI0; have HK := n0_; have HB := n1_; have HI0 := n2_; clear n0_ n1_ n2_; (try clear hb); (try clear hb2); (try clear hk); (try clear hi); obtain ⟨HGz5, hgz5⟩ := HI0.out; have hcz5_0 := cellS132_0 HGz5; have hcz5_1 := cellS132_1 HGz5; have hcz5_2 := cellS132_2 HGz5; have hfz5_0 := blk_frozen HGz5 0; have hfz5_1 := blk_frozen HGz5 1; have hfz5_2 := blk_frozen HGz5 2; clear HGz5 hgz5)); try go_wp2_with (first | (go_at_call 52; (with_reducible refine (filter_parser_blanks.calls k g s0_0 s0_1 s0_2 t169 t170 t171 w0 _ ?side1 ?side2 A2.out).mono ?_); (case side1 => repeat (first | (with_reducible first | exact HI0.out | apply IsS132.alloc | apply IsS132.drewN | apply IsS132.drew | apply IsS132.set_0 | apply IsS132.set_1 | apply IsS132.set_2) | exact HI0.out)); (case side2 => repeat (first | (with_reducible first | exact HB.out | apply below_alloc | apply pw_below_drewN | apply below_drew1 | refine below_set ?_ (IsS132.ge HI0.out)) | exact HB.out)); rintro e w4 ⟨rfl, hi, hb, hk⟩; have n0_ := Aside0.mk (KeepBut.trans (by repeat (first | (with_reducible first | exact HK.out | apply KeepBut.set_ | apply keep_drewN | apply keep_drew | apply keep_alloc) | exact HK.out)) hk (.inl rfl)); have n1_ := Aside0.mk (hb); have n2_ := Aside0.mk (hi); clear HK; clear HB; clear HI0; have HK := n0_; have HB := n1_; have HI0 := n2_; clear n0_ n1_ n2_; (try clear hb); (try clear hb2); (try clear hk); (try clear hi); obtain ⟨HGz5, hgz5⟩ := HI0.out; have hcz5_0 := cellS132_0 HGz5; have hcz5_1 := cellS132_1 HGz5; have hcz5_2 := cellS132_2 HGz5; have hfz5_0 := blk_frozen HGz5 0; have hfz5_1 := blk_frozen HGz5 1; have hfz5_2 := blk_frozen HGz5 2; clear HGz5 hgz5)))
    go_ret
    exact ⟨by first | rfl | (simp [errW_none, errW_some] <;> rfl) | (simp [*, errW_none, errW_some] <;> rfl), by repeat (first | (with_reducible first | exact HI0.out | apply IsS132.alloc | apply IsS132.drewN | apply IsS132.drew | apply IsS132.set_0 | apply IsS132.set_1 | apply IsS132.set_2) | exact HI0.out), by repeat (first | (with_reducible first | exact HB.out | apply below_alloc | apply pw_below_drewN | apply below_drew1 | refine below_set ?_ (IsS132.ge HI0.out)) | exact HB.out), by repeat (first | (with_reducible first | exact HK.out | apply KeepBut.set_ | apply keep_drewN | apply keep_drew | apply keep_alloc) | exact HK.out)⟩
  · rw [if_neg c3] at H
    have c3b0 : decide (0 ≤ t171) = false := decide_eq_false c3
    clear c3
    have HC6 := Aside0.mk H
    clear H
    go_enter Try.func73, Try.ntmps73
    go_upto_region 5 with (first | (go_at_call 52; (with_reducible refine (filter_parser_blanks.calls k g s0_0 s0_1 s0_2 t169 t170 t171 w0 _ ?side1 ?side2 A2.out).mono ?_); (case side1 => repeat (first | (with_reducible first | exact HI0.out | apply IsS132.alloc | apply IsS132.drewN | apply IsS132.drew | apply IsS132.set_0 | apply IsS132.set_1 | apply IsS132.set_2) | exact HI0.out)); (case side2 => repeat (first | (with_reducible first | exact HB.out | apply below_alloc | apply pw_below_drewN | apply below_drew1 | refine below_set ?_ (IsS132.ge HI0.out)) | exact HB.out)); rintro e w7 ⟨rfl, hi, hb, hk⟩; have n0_ := Aside0.mk (KeepBut.trans (by repeat (first | (with_reducible first | exact HK.out | apply KeepBut.set_ | apply keep_drewN | apply keep_drew | apply keep_alloc) | exact HK.out)) hk (.inl rfl)); have n1_ := Aside0.mk (hb); have n2_ := Aside0.mk (hi); clear HK; clear HB; clear HI0; have HK := n0_; have HB := n1_; have HI0 := n2_; clear n0_ n1_ n2_; (try clear hb); (try clear hb2); (try clear hk); (try clear hi); obtain ⟨HGz8, hgz8⟩ := HI0.out; have hcz8_0 := cellS132_0 HGz8; have hcz8_1 := cellS132_1 HGz8; have hcz8_2 := cellS132_2 HGz8; have hfz8_0 := blk_frozen HGz8 0; have hfz8_1 := blk_frozen HGz8 1; have hfz8_2 := blk_frozen HGz8 2; clear HGz8 hgz8))
    repeat (go_quiet (first | (go_at_call 52; (with_reducible refine (filter_parser_blanks.calls k g s0_0 s0_1 s0_2 t169 t170 t171 w0 _ ?side1 ?side2 A2.out).mono ?_); (case side1 => repeat (first | (with_reducible first | exact HI0.out | apply IsS132.alloc | apply IsS132.drewN | apply IsS132.drew | apply IsS132.set_0 | apply IsS132.set_1 | apply IsS132.set_2) | exact HI0.out)); (case side2 => repeat (first | (with_reducible first | exact HB.out | apply below_alloc | apply pw_below_drewN | apply below_drew1 | refine below_set ?_ (IsS132.ge HI0.out)) | exact HB.out)); rintro e w7 ⟨rfl, hi, hb, hk⟩; have n0_ := Aside0.mk (KeepBut.trans (by repeat (first | (with_reducible first | exact HK.out | apply KeepBut.set_ | apply keep_drewN | apply keep_drew | apply keep_alloc) | exact HK.out)) hk (.inl rfl)); have n1_ := Aside0.mk (hb); have n2_ := Aside0.mk (hi); clear HK; clear HB; clear HI0; have HK := n0_; have HB := n1_; have HI0 := n2_; clear n0_ n1_ n2_; (try clear hb); (try clear hb2); (try clear hk); (try clear hi); obtain ⟨HGz8, hgz8⟩ := HI0.out; have hcz8_0 := cellS132_0 HGz8; have hcz8_1 := cellS132_1 HGz8; have hcz8_2 := cellS132_2 HGz8; have hfz8_0 := blk_frozen HGz8 0; have hfz8_1 := blk_frozen HGz8 1; have hfz8_2 := blk_frozen HGz8 2; clear HGz8 hgz8)); go_upto_region 5 with (first | (go_at_call 52; (with_reducible refine (filter_parser_blanks.calls k g s0_0 s0_1 s0_2 t169 t170 t171 w0 _ ?side1 ?side2 A2.out).mono ?_); (case side1 => repeat (first | (with_reducible first | exact HI0.out | apply IsS132.alloc | apply IsS132.drewN | apply IsS132.drew | apply IsS132.set_0 | apply IsS132.set_1 | apply IsS132.set_2) | exact HI0.out)); (case side2 => repeat (first | (with_reducible first | exact HB.out | apply below_alloc | apply pw_below_drewN | apply below_drew1 | refine below_set ?_ (IsS132.ge HI0.out)) | exact HB.out)); rintro e w7 ⟨rfl, hi, hb, hk⟩; have n0_ := Aside0.mk (KeepBut.trans (by repeat (first | (with_reducible first | exact HK.out | apply KeepBut.set_ | apply keep_drewN | apply keep_drew | apply keep_alloc) | exact HK.out)) hk (.inl rfl)); have n1_ := Aside0.mk (hb); have n2_ := Aside0.mk (hi); clear HK; clear HB; clear HI0; have HK := n0_; have HB := n1_; have HI0 := n2_; clear n0_ n1_ n2_; (try clear hb); (try clear hb2); (try clear hk); (try clear hi); obtain ⟨HGz8, hgz8⟩ := HI0.out; have hcz8_0 := cellS132_0 HGz8; have hcz8_1 := cellS132_1 HGz8; have hcz8_2 := cellS132_2 HGz8; have hfz8_0 := blk_frozen HGz8 0; have hfz8_1 := blk_frozen HGz8 1; have hfz8_2 := blk_frozen HGz8 2; clear HGz8 hgz8)))
    (try simp only [Act.put, List.setIfInBounds_toArray, List.set_cons_zero, List.set_cons_succ])
    go_cut [39] (fun v39 wc => ∃ (kq : Nat) (x39_5 : Bool), v39 = .bool x39_5 ∧ Aside0 (filter_parser_number.j0 kq t170 1 0 x39_5 t169 t170 t171 = some (r1, r2, r3, r4)) ∧ Aside0 (kq ≤ k) ∧ Aside0 (IsS132 w0 wc g t169 t170 t171) ∧ Aside0 (KeepBut w wc g none) ∧ Aside0 (Below w0.heap.size w0 wc))
    case first =>
      have H := HC6.out
      clear HC6
      by_cases c9 : t170 < (t169.size : Int)
      · rw [if_pos c9] at H
        have c9b0 : decide (t170 < (t169.size : Int)) = true := decide_eq_true c9
        clear c9
        (first | rw [c9b0] | (simp only [i64_w, i32_w]; rw [c9b0]) | skip)
        by_cases c10 : 0 ≤ t170
        · rw [if_pos c10] at H
          have c10b0 : decide (0 ≤ t170) = true := decide_eq_true c10
          clear c10
          have H' := Aside0.mk H
          clear H
          obtain ⟨HGz12, hgz12⟩ := HI0.out
          have hcz12_0 := cellS132_0 HGz12
          have hcz12_1 := cellS132_1 HGz12
          have hcz12_2 := cellS132_2 HGz12
          have hfz12_0 := blk_frozen HGz12 0
          have hfz12_1 := blk_frozen HGz12 1
          have hfz12_2 := blk_frozen HGz12 2
          clear HGz12 hgz12
          have p11 : 0 ≤ (t170 : Int) := of_decide_eq_true (by first | (with_reducible assumption) | assumption)
          have q11 : t170 < (t169.size : Int) := of_decide_eq_true (by first | (with_reducible assumption) | assumption)
          have hx11 := bt_at t169 t170
          replace p11 := eq_true p11
          replace q11 := eq_true q11
          go_wp2
          repeat (go_quiet (fail); try go_wp2)
          go_meet
          case rel => exact ⟨_, (((bt t169 t170) == 45)), (by first | rfl | (simp; done) | (simp [*]; done)), H', ⟨by first | omega | exact Nat.le_refl _⟩, ⟨by repeat (first | (with_reducible first | exact HI0.out | apply IsS132.alloc | apply IsS132.drewN | apply IsS132.drew | apply IsS132.set_0 | apply IsS132.set_1 | apply IsS132.set_2) | exact HI0.out)⟩, ⟨by repeat (first | (with_reducible first | exact HK.out | apply KeepBut.set_ | apply keep_drewN | apply keep_drew | apply keep_alloc) | exact HK.out)⟩, ⟨by repeat (first | (with_reducible first | exact HB.out | apply below_alloc | apply pw_below_drewN | apply below_drew1 | refine below_set ?_ (IsS132.ge HI0.out)) | exact HB.out)⟩⟩
        · rw [if_neg c10] at H
          exact absurd H (by simp)
      · rw [if_neg c9] at H
        have c9b0 : decide (t170 < (t169.size : Int)) = false := decide_eq_false c9
        clear c9
        (first | rw [c9b0] | (simp only [i64_w, i32_w]; rw [c9b0]) | skip)
        have H' := Aside0.mk H
        clear H
        obtain ⟨HGz13, hgz13⟩ := HI0.out
        have hcz13_0 := cellS132_0 HGz13
        have hcz13_1 := cellS132_1 HGz13
        have hcz13_2 := cellS132_2 HGz13
        have hfz13_0 := blk_frozen HGz13 0
        have hfz13_1 := blk_frozen HGz13 1
        have hfz13_2 := blk_frozen HGz13 2
        clear HGz13 hgz13
        go_wp2
        repeat (go_quiet (fail); try go_wp2)
        go_meet
        case rel => exact ⟨_, (false), (by first | rfl | (simp; done) | (simp [*]; done)), H', ⟨by first | omega | exact Nat.le_refl _⟩, ⟨by repeat (first | (with_reducible first | exact HI0.out | apply IsS132.alloc | apply IsS132.drewN | apply IsS132.drew | apply IsS132.set_0 | apply IsS132.set_1 | apply IsS132.set_2) | exact HI0.out)⟩, ⟨by repeat (first | (with_reducible first | exact HK.out | apply KeepBut.set_ | apply keep_drewN | apply keep_drew | apply keep_alloc) | exact HK.out)⟩, ⟨by repeat (first | (with_reducible first | exact HB.out | apply below_alloc | apply pw_below_drewN | apply below_drew1 | refine below_set ?_ (IsS132.ge HI0.out)) | exact HB.out)⟩⟩
    case rest =>
      clear HC6
      try clear c1
      try clear p1
      try clear q1
      try clear hx1
      try clear p2
      try clear c3
      try clear c3b0
      try clear c7
      try clear c9
      try clear c9b0
      try clear c10
      try clear c10b0
      try clear p11
      try clear q11
      try clear hx11
      try clear hcz12_0
      try clear hcz12_1
      try clear hcz12_2
      try clear hcz13_0
      try clear hcz13_1
      try clear hcz13_2
      try clear hcz5_0
      try clear hcz5_1
      try clear hcz5_2
      try clear hcz8_0
      try clear hcz8_1
      try clear hcz8_2
      try clear hfz12_0
      try clear hfz12_1
      try clear hfz12_2
      try clear hfz13_0
      try clear hfz13_1
      try clear hfz13_2
      try clear hfz5_0
      try clear hfz5_1
      try clear hfz5_2
      try clear hfz8_0
      try clear hfz8_1
      try clear hfz8_2
      try clear p11
      try clear q11
      obtain ⟨kq, x39_5, rfl, HA, HJ5, HI0, HK, HB⟩ := hcut
      cases kq with
      | zero => exact absurd HA.out (by simp [filter_parser_number.j0])
      | succ kj5 =>
        have H := HA.out
        clear HA
        simp only [filter_parser_number.j0] at H
        have HC14 := Aside0.mk H
        clear H
        go_upto_if 39 with (fail)
        repeat (go_quiet (fail); go_upto_if 39 with (fail))
        go_cut [4] (fun v4 wc => ∃ (kq : Nat) (x4_13 : Int) (x1001_13 : Int), v4 = .int .i64 x4_13 ∧ Aside0 (filter_parser_number.j1 kq t170 x4_13 0 t169 x1001_13 t171 = some (r1, r2, r3, r4)) ∧ Aside0 (kq ≤ kj5) ∧ Aside0 (IsS132 w0 wc g t169 x1001_13 t171) ∧ Aside0 (KeepBut w wc g none) ∧ Aside0 (Below w0.heap.size w0 wc))
        case first =>
          have H := HC14.out
          clear HC14
          by_cases c15 : x39_5 = true
          · subst c15
            have H1 : (filter_parser_number.j1 kj5 t170 (-1) 0 t169 (wrap64 (t170 + 1)) t171) = some (r1, r2, r3, r4) := by rw [if_pos rfl] at H; exact H
            clear H
            have H := H1
            clear H1
            have H' := Aside0.mk H
            clear H
            obtain ⟨HGz16, hgz16⟩ := HI0.out
            have hcz16_0 := cellS132_0 HGz16
            have hcz16_1 := cellS132_1 HGz16
            have hcz16_2 := cellS132_2 HGz16
            have hfz16_0 := blk_frozen HGz16 0
            have hfz16_1 := blk_frozen HGz16 1
            have hfz16_2 := blk_frozen HGz16 2
            clear HGz16 hgz16
            go_wp2
            repeat (go_quiet (fail); try go_wp2)
            go_meet
            case rel => exact ⟨_, ((-1)), (wrap64 (t170 + 1)), (by first | rfl | (simp; done) | (simp [*]; done)), H', ⟨by have := HJ5.out; first | omega | exact Nat.le_refl _⟩, ⟨by repeat (first | (with_reducible first | exact HI0.out | apply IsS132.alloc | apply IsS132.drewN | apply IsS132.drew | apply IsS132.set_0 | apply IsS132.set_1 | apply IsS132.set_2) | exact HI0.out)⟩, ⟨by repeat (first | (with_reducible first | exact HK.out | apply KeepBut.set_ | apply keep_drewN | apply keep_drew | apply keep_alloc) | exact HK.out)⟩, ⟨by repeat (first | (with_reducible first | exact HB.out | apply below_alloc | apply pw_below_drewN | apply below_drew1 | refine below_set ?_ (IsS132.ge HI0.out)) | exact HB.out)⟩⟩
          · replace c15 := Bool.eq_false_iff.mpr c15
            subst c15
            have H1 : (filter_parser_number.j1 kj5 t170 1 0 t169 t170 t171) = some (r1, r2, r3, r4) := by rw [if_neg (show ¬ (false = true) by decide)] at H; exact H
            clear H
            have H := H1
            clear H1
            have H' := Aside0.mk H
            clear H
            go_wp2
            repeat (go_quiet (fail); try go_wp2)
            go_meet
            case rel => exact ⟨_, (1), (t170), (by first | rfl | (simp; done) | (simp [*]; done)), H', ⟨by have := HJ5.out; first | omega | exact Nat.le_refl _⟩, ⟨by repeat (first | (with_reducible first | exact HI0.out | apply IsS132.alloc | apply IsS132.drewN | apply IsS132.drew | apply IsS132.set_0 | apply IsS132.set_1 | apply IsS132.set_2) | exact HI0.out)⟩, ⟨by repeat (first | (with_reducible first | exact HK.out | apply KeepBut.set_ | apply keep_drewN | apply keep_drew | apply keep_alloc) | exact HK.out)⟩, ⟨by repeat (first | (with_reducible first | exact HB.out | apply below_alloc | apply pw_below_drewN | apply below_drew1 | refine below_set ?_ (IsS132.ge HI0.out)) | exact HB.out)⟩⟩
        case rest =>
          clear HC14
          try clear c1
          try clear p1
          try clear q1
          try clear hx1
          try clear p2
          try clear c3
          try clear c3b0
          try clear p6
          try clear c7
          try clear c9
          try clear c9b0
          try clear c10
          try clear c10b0
          try clear p11
          try clear q11
          try clear hx11
          try clear c15
          try clear hcz12_0
          try clear hcz12_1
          try clear hcz12_2
          try clear hcz13_0
          try clear hcz13_1
          try clear hcz13_2
          try clear hcz16_0
          try clear hcz16_1
          try clear hcz16_2
          try clear hcz5_0
          try clear hcz5_1
          try clear hcz5_2
          try clear hcz8_0
          try clear hcz8_1
          try clear hcz8_2
          try clear hfz12_0
          try clear hfz12_1
          try clear hfz12_2
          try clear hfz13_0
          try clear hfz13_1
          try clear hfz13_2
          try clear hfz16_0
          try clear hfz16_1
          try clear hfz16_2
          try clear hfz5_0
          try clear hfz5_1
          try clear hfz5_2
          try clear hfz8_0
          try clear hfz8_1
          try clear hfz8_2
          try clear p1
          try clear p11
          try clear p2
          try clear q1
          try clear q11
          obtain ⟨kq, x4_13, x1001_13, rfl, HA, HJ13, HI0, HK, HB⟩ := hcut
          cases kq with
          | zero => exact absurd HA.out (by simp [filter_parser_number.j1])
          | succ kj13 =>
            have H := HA.out
            clear HA
            simp only [filter_parser_number.j1] at H
            have H' := Aside0.mk H
            clear H
            obtain ⟨HGz17, hgz17⟩ := HI0.out
            have hcz17_0 := cellS132_0 HGz17
            have hcz17_1 := cellS132_1 HGz17
            have hcz17_2 := cellS132_2 HGz17
            have hfz17_0 := blk_frozen HGz17 0
            have hfz17_1 := blk_frozen HGz17 1
            have hfz17_2 := blk_frozen HGz17 2
            clear HGz17 hgz17
            go_wp2
            repeat (go_quiet (fail); try go_wp2)
            go_loopg [5] kj13 (fun kq v5 w' => ∃ (x5_3 : Int) (x1000_3 : ByteArray) (x1001_3 : Int) (x1002_3 : Int), v5 = .int .i64 x5_3 ∧ Aside0 (filter_parser_number.l0 kq t170 x4_13 x5_3 x1001_13 x1000_3 x1001_3 x1002_3 = some (r1, r2, r3, r4)) ∧ Aside0 (kq ≤ kj13) ∧ Aside0 (IsS132 w0 w' g x1000_3 x1001_3 x1002_3) ∧ Aside0 (KeepBut w w' g none) ∧ Aside0 (Below w0.heap.size w0 w'))
            case atStart => exact ⟨(0), (t169), (x1001_13), (t171), (by first | rfl | (simp; done) | (simp [*]; done)), H', ⟨Nat.le_refl _⟩, ⟨by repeat (first | (with_reducible first | exact HI0.out | apply IsS132.alloc | apply IsS132.drewN | apply IsS132.drew | apply IsS132.set_0 | apply IsS132.set_1 | apply IsS132.set_2) | exact HI0.out)⟩, ⟨by repeat (first | (with_reducible first | exact HK.out | apply KeepBut.set_ | apply keep_drewN | apply keep_drew | apply keep_alloc) | exact HK.out)⟩, ⟨by repeat (first | (with_reducible first | exact HB.out | apply below_alloc | apply pw_below_drewN | apply below_drew1 | refine below_set ?_ (IsS132.ge HI0.out)) | exact HB.out)⟩⟩
            case round =>
              clear H'
              try clear c1
              try clear p1
              try clear q1
              try clear hx1
              try clear p2
              try clear c3
              try clear c3b0
              try clear p6
              try clear c7
              try clear c9
              try clear c9b0
              try clear c10
              try clear c10b0
              try clear p11
              try clear q11
              try clear hx11
              try clear c15
              try clear hcz12_0
              try clear hcz12_1
              try clear hcz12_2
              try clear hcz13_0
              try clear hcz13_1
              try clear hcz13_2
              try clear hcz16_0
              try clear hcz16_1
              try clear hcz16_2
              try clear hcz17_0
              try clear hcz17_1
              try clear hcz17_2
              try clear hcz5_0
              try clear hcz5_1
              try clear hcz5_2
              try clear hcz8_0
              try clear hcz8_1
              try clear hcz8_2
              try clear hfz12_0
              try clear hfz12_1
              try clear hfz12_2
              try clear hfz13_0
              try clear hfz13_1
              try clear hfz13_2
              try clear hfz16_0
              try clear hfz16_1
              try clear hfz16_2
              try clear hfz17_0
              try clear hfz17_1
              try clear hfz17_2
              try clear hfz5_0
              try clear hfz5_1
              try clear hfz5_2
              try clear hfz8_0
              try clear hfz8_1
              try clear hfz8_2
              try clear p1
              try clear p11
              try clear p2
              try clear p6
              try clear q1
              try clear q11
              obtain ⟨x5_3, x1000_3, x1001_3, x1002_3, rfl, HA, HK3, HI0, HK, HB⟩ := hrel
              cases gk with
              | zero => exact absurd HA.out (by simp [filter_parser_number.l0])
              | succ k3 =>
                have H := HA.out
                clear HA
                simp only [filter_parser_number.l0] at H
                have HC18 := Aside0.mk H
                clear H
                go_upto_region 9 with (fail)
                repeat (go_quiet (fail); go_upto_region 9 with (fail))
                go_cut [72] (fun v72 wc => ∃ (kq : Nat) (x72_17 : Bool), v72 = .bool x72_17 ∧ Aside0 (filter_parser_number.j3 kq t170 x4_13 x5_3 x1001_13 x72_17 x1000_3 x1001_3 x1002_3 = some (r1, r2, r3, r4)) ∧ Aside0 (kq ≤ k3) ∧ Aside0 (IsS132 w0 wc g x1000_3 x1001_3 x1002_3) ∧ Aside0 (KeepBut w wc g none) ∧ Aside0 (Below w0.heap.size w0 wc))
                case first =>
                  have H := HC18.out
                  clear HC18
                  by_cases c19 : x1001_3 < (x1000_3.size : Int)
                  · rw [if_pos c19] at H
                    have c19b0 : decide (x1001_3 < (x1000_3.size : Int)) = true := decide_eq_true c19
                    clear c19
                    (first | rw [c19b0] | (simp only [i64_w, i32_w]; rw [c19b0]) | skip)
                    by_cases c20 : 0 ≤ x1001_3
                    · rw [if_pos c20] at H
                      have c20b0 : decide (0 ≤ x1001_3) = true := decide_eq_true c20
                      clear c20
                      replace H := Option.bind_eq_some_iff.mp H
                      obtain ⟨t172, A220, H⟩ := H
                      replace H : (filter_parser_number.j3 k3 t170 x4_13 x5_3 x1001_13 t172 x1000_3 x1001_3 x1002_3) = some (r1, r2, r3, r4) := H
                      have A22 := Aside0.mk A220
                      clear A220
                      have H' := Aside0.mk H
                      clear H
                      obtain ⟨HGz23, hgz23⟩ := HI0.out
                      have hcz23_0 := cellS132_0 HGz23
                      have hcz23_1 := cellS132_1 HGz23
                      have hcz23_2 := cellS132_2 HGz23
                      have hfz23_0 := blk_frozen HGz23 0
                      have hfz23_1 := blk_frozen HGz23 1
                      have hfz23_2 := blk_frozen HGz23 2
                      clear HGz23 hgz23
                      have p21 : 0 ≤ (x1001_3 : Int) := of_decide_eq_true (by first | (with_reducible assumption) | assumption)
                      have q21 : x1001_3 < (x1000_3.size : Int) := of_decide_eq_true (by first | (with_reducible assumption) | assumption)
                      have hx21 := bt_at x1000_3 x1001_3
                      replace p21 := eq_true p21
                      replace q21 := eq_true q21
                      go_wp2_with (first | (go_at_call 75; (with_reducible refine (filter_digit.calls (bt x1000_3 x1001_3) t172 _ A22.out).mono ?_); rintro e w' ⟨rfl, ⟨nd, rfl⟩⟩; (try first | exact ⟨rfl, _, World.drewN_drewN _ _ _⟩ | exact ⟨rfl, _, Eq.trans (World.drewN_drewN _ _ _) (congrArg (World.drewN _) (Nat.add_assoc _ _ _))⟩)))
                      repeat (go_quiet (first | (go_at_call 75; (with_reducible refine (filter_digit.calls (bt x1000_3 x1001_3) t172 _ A22.out).mono ?_); rintro e w' ⟨rfl, ⟨nd, rfl⟩⟩; (try first | exact ⟨rfl, _, World.drewN_drewN _ _ _⟩ | exact ⟨rfl, _, Eq.trans (World.drewN_drewN _ _ _) (congrArg (World.drewN _) (Nat.add_assoc _ _ _))⟩))); try go_wp2_with (first | (go_at_call 75; (with_reducible refine (filter_digit.calls (bt x1000_3 x1001_3) t172 _ A22.out).mono ?_); rintro e w' ⟨rfl, ⟨nd, rfl⟩⟩; (try first | exact ⟨rfl, _, World.drewN_drewN _ _ _⟩ | exact ⟨rfl, _, Eq.trans (World.drewN_drewN _ _ _) (congrArg (World.drewN _) (Nat.add_assoc _ _ _))⟩))))
                      go_meet
                      case rel => exact ⟨_, (t172), (by first | rfl | (simp; done) | (simp [*]; done)), H', ⟨by have := HJ5.out; have := HJ13.out; have := HK3.out; first | omega | exact Nat.le_refl _⟩, ⟨by repeat (first | (with_reducible first | exact HI0.out | apply IsS132.alloc | apply IsS132.drewN | apply IsS132.drew | apply IsS132.set_0 | apply IsS132.set_1 | apply IsS132.set_2) | exact HI0.out)⟩, ⟨by repeat (first | (with_reducible first | exact HK.out | apply KeepBut.set_ | apply keep_drewN | apply keep_drew | apply keep_alloc) | exact HK.out)⟩, ⟨by repeat (first | (with_reducible first | exact HB.out | apply below_alloc | apply pw_below_drewN | apply below_drew1 | refine below_set ?_ (IsS132.ge HI0.out)) | exact HB.out)⟩⟩
                    · rw [if_neg c20] at H
                      exact absurd H (by simp)
                  · rw [if_neg c19] at H
                    have c19b0 : decide (x1001_3 < (x1000_3.size : Int)) = false := decide_eq_false c19
                    clear c19
                    (first | rw [c19b0] | (simp only [i64_w, i32_w]; rw [c19b0]) | skip)
                    have H' := Aside0.mk H
                    clear H
                    obtain ⟨HGz24, hgz24⟩ := HI0.out
                    have hcz24_0 := cellS132_0 HGz24
                    have hcz24_1 := cellS132_1 HGz24
                    have hcz24_2 := cellS132_2 HGz24
                    have hfz24_0 := blk_frozen HGz24 0
                    have hfz24_1 := blk_frozen HGz24 1
                    have hfz24_2 := blk_frozen HGz24 2
                    clear HGz24 hgz24
                    go_wp2
                    repeat (go_quiet (fail); try go_wp2)
                    go_meet
                    case rel => exact ⟨_, (false), (by first | rfl | (simp; done) | (simp [*]; done)), H', ⟨by have := HJ5.out; have := HJ13.out; have := HK3.out; first | omega | exact Nat.le_refl _⟩, ⟨by repeat (first | (with_reducible first | exact HI0.out | apply IsS132.alloc | apply IsS132.drewN | apply IsS132.drew | apply IsS132.set_0 | apply IsS132.set_1 | apply IsS132.set_2) | exact HI0.out)⟩, ⟨by repeat (first | (with_reducible first | exact HK.out | apply KeepBut.set_ | apply keep_drewN | apply keep_drew | apply keep_alloc) | exact HK.out)⟩, ⟨by repeat (first | (with_reducible first | exact HB.out | apply below_alloc | apply pw_below_drewN | apply below_drew1 | refine below_set ?_ (IsS132.ge HI0.out)) | exact HB.out)⟩⟩
                case rest =>
                  clear HC18
                  try clear c1
                  try clear p1
                  try clear q1
                  try clear hx1
                  try clear c2
                  try clear p2
                  try clear q2
                  try clear hx2
                  try clear c3
                  try clear c3b0
                  try clear p6
                  try clear c7
                  try clear c9
                  try clear c9b0
                  try clear c10
                  try clear c10b0
                  try clear p11
                  try clear q11
                  try clear hx11
                  try clear c15
                  try clear c19
                  try clear c19b0
                  try clear c20
                  try clear c20b0
                  try clear p21
                  try clear q21
                  try clear hx21
                  try clear hcz12_0
                  try clear hcz12_1
                  try clear hcz12_2
                  try clear hcz13_0
                  try clear hcz13_1
                  try clear hcz13_2
                  try clear hcz16_0
                  try clear hcz16_1
                  try clear hcz16_2
                  try clear hcz17_0
                  try clear hcz17_1
                  try clear hcz17_2
                  try clear hcz23_0
                  try clear hcz23_1
                  try clear hcz23_2
                  try clear hcz24_0
                  try clear hcz24_1
                  try clear hcz24_2
                  try clear hcz5_0
                  try clear hcz5_1
                  try clear hcz5_2
                  try clear hcz8_0
                  try clear hcz8_1
                  try clear hcz8_2
                  try clear hfz12_0
                  try clear hfz12_1
                  try clear hfz12_2
                  try clear hfz13_0
                  try clear hfz13_1
                  try clear hfz13_2
                  try clear hfz16_0
                  try clear hfz16_1
                  try clear hfz16_2
                  try clear hfz17_0
                  try clear hfz17_1
                  try clear hfz17_2
                  try clear hfz23_0
                  try clear hfz23_1
                  try clear hfz23_2
                  try clear hfz24_0
                  try clear hfz24_1
                  try clear hfz24_2
                  try clear hfz5_0
                  try clear hfz5_1
                  try clear hfz5_2
                  try clear hfz8_0
                  try clear hfz8_1
                  try clear hfz8_2
                  try clear p1
                  try clear p11
                  try clear p2
                  try clear p21
                  try clear p6
                  try clear q1
                  try clear q11
                  try clear q21
                  obtain ⟨kq, x72_17, rfl, HA, HJ17, HI0, HK, HB⟩ := hcut
                  cases kq with
                  | zero => exact absurd HA.out (by simp [filter_parser_number.j3])
                  | succ kj17 =>
                    have H := HA.out
                    clear HA
                    simp only [filter_parser_number.j3] at H
                    by_cases c25 : x72_17 = true
                    · subst c25
                      have H1 : (if (wrap64 (x1001_3 - x1001_13)) ≥ 10 then ((filter_parser_stop.f x1000_3 x1001_3 x1002_3 t170).bind fun bt173 => (some (0, bt173.1, bt173.2.1, bt173.2.2))) else (if 0 ≤ x1001_3 then (if x1001_3 < (x1000_3.size : Int) then (filter_parser_number.l0 kj17 t170 x4_13 (wrap64 ((wrap64 (10 * x5_3)) + (((bt x1000_3 x1001_3) - 48) % 256))) x1001_13 x1000_3 (wrap64 (x1001_3 + 1)) x1002_3) else (none)) else (none))) = some (r1, r2, r3, r4) := by rw [if_pos rfl] at H; exact H
                      clear H
                      have H := H1
                      clear H1
                      by_cases c26 : (wrap64 (x1001_3 - x1001_13)) ≥ 10
                      · rw [if_pos c26] at H
                        have c26b0 : decide (10 ≤ (wrap64 (x1001_3 - x1001_13))) = true := decide_eq_true c26
                        clear c26
                        replace H := Option.bind_eq_some_iff.mp H
                        obtain ⟨⟨t173, t174, t175⟩, A270, H⟩ := H
                        replace H : (some (0, t173, t174, t175)) = some (r1, r2, r3, r4) := H
                        have A27 := Aside0.mk A270
                        clear A270
                        simp only [Option.some.injEq, Prod.mk.injEq] at H
                        obtain ⟨rfl, rfl, rfl, rfl⟩ := H
                        obtain ⟨HGz28, hgz28⟩ := HI0.out
                        have hcz28_0 := cellS132_0 HGz28
                        have hcz28_1 := cellS132_1 HGz28
                        have hcz28_2 := cellS132_2 HGz28
                        have hfz28_0 := blk_frozen HGz28 0
                        have hfz28_1 := blk_frozen HGz28 1
                        have hfz28_2 := blk_frozen HGz28 2
                        clear HGz28 hgz28
                        go_wp2_with (first | (go_at_call 54; (with_reducible refine (filter_parser_stop.calls g x1000_3 x1001_3 x1002_3 t170 t173 t174 t175 w0 _ ?side1 ?side2 A27.out).mono ?_); (case side1 => repeat (first | (with_reducible first | exact HI0.out | apply IsS132.alloc | apply IsS132.drewN | apply IsS132.drew | apply IsS132.set_0 | apply IsS132.set_1 | apply IsS132.set_2) | exact HI0.out)); (case side2 => repeat (first | (with_reducible first | exact HB.out | apply below_alloc | apply pw_below_drewN | apply below_drew1 | refine below_set ?_ (IsS132.ge HI0.out)) | exact HB.out)); rintro e w29 ⟨rfl, hi, hb, hk⟩; have n0_ := Aside0.mk (KeepBut.trans (by repeat (first | (with_reducible first | exact HK.out | apply KeepBut.set_ | apply keep_drewN | apply keep_drew | apply keep_alloc) | exact HK.out)) hk (.inl rfl)); have n1_ := Aside0.mk (hb); have n2_ := Aside0.mk (hi); clear HK; clear HB; clear HI0; have HK := n0_; have HB := n1_; have HI0 := n2_; clear n0_ n1_ n2_; (try clear hb); (try clear hb2); (try clear hk); (try clear hi)))
                        repeat (go_quiet (first | (go_at_call 54; (with_reducible refine (filter_parser_stop.calls g x1000_3 x1001_3 x1002_3 t170 t173 t174 t175 w0 _ ?side1 ?side2 A27.out).mono ?_); (case side1 => repeat (first | (with_reducible first | exact HI0.out | apply IsS132.alloc | apply IsS132.drewN | apply IsS132.drew | apply IsS132.set_0 | apply IsS132.set_1 | apply IsS132.set_2) | exact HI0.out)); (case side2 => repeat (first | (with_reducible first | exact HB.out | apply below_alloc | apply pw_below_drewN | apply below_drew1 | refine below_set ?_ (IsS132.ge HI0.out)) | exact HB.out)); rintro e w29 ⟨rfl, hi, hb, hk⟩; have n0_ := Aside0.mk (KeepBut.trans (by repeat (first | (with_reducible first | exact HK.out | apply KeepBut.set_ | apply keep_drewN | apply keep_drew | apply keep_alloc) | exact HK.out)) hk (.inl rfl)); have n1_ := Aside0.mk (hb); have n2_ := Aside0.mk (hi); clear HK; clear HB; clear HI0; have HK := n0_; have HB := n1_; have HI0 := n2_; clear n0_ n1_ n2_; (try clear hb); (try clear hb2); (try clear hk); (try clear hi))); try go_wp2_with (first | (go_at_call 54; (with_reducible refine (filter_parser_stop.calls g x1000_3 x1001_3 x1002_3 t170 t173 t174 t175 w0 _ ?side1 ?side2 A27.out).mono ?_); (case side1 => repeat (first | (with_reducible first | exact HI0.out | apply IsS132.alloc | apply IsS132.drewN | apply IsS132.drew | apply IsS132.set_0 | apply IsS132.set_1 | apply IsS132.set_2) | exact HI0.out)); (case side2 => repeat (first | (with_reducible first | exact HB.out | apply below_alloc | apply pw_below_drewN | apply below_drew1 | refine below_set ?_ (IsS132.ge HI0.out)) | exact HB.out)); rintro e w29 ⟨rfl, hi, hb, hk⟩; have n0_ := Aside0.mk (KeepBut.trans (by repeat (first | (with_reducible first | exact HK.out | apply KeepBut.set_ | apply keep_drewN | apply keep_drew | apply keep_alloc) | exact HK.out)) hk (.inl rfl)); have n1_ := Aside0.mk (hb); have n2_ := Aside0.mk (hi); clear HK; clear HB; clear HI0; have HK := n0_; have HB := n1_; have HI0 := n2_; clear n0_ n1_ n2_; (try clear hb); (try clear hb2); (try clear hk); (try clear hi))))
                        go_ret
                        exact ⟨by first | rfl | (simp [errW_none, errW_some] <;> rfl) | (simp [*, errW_none, errW_some] <;> rfl), by repeat (first | (with_reducible first | exact HI0.out | apply IsS132.alloc | apply IsS132.drewN | apply IsS132.drew | apply IsS132.set_0 | apply IsS132.set_1 | apply IsS132.set_2) | exact HI0.out), by repeat (first | (with_reducible first | exact HB.out | apply below_alloc | apply pw_below_drewN | apply below_drew1 | refine below_set ?_ (IsS132.ge HI0.out)) | exact HB.out), by repeat (first | (with_reducible first | exact HK.out | apply KeepBut.set_ | apply keep_drewN | apply keep_drew | apply keep_alloc) | exact HK.out)⟩
                      · rw [if_neg c26] at H
                        have c26b0 : decide (10 ≤ (wrap64 (x1001_3 - x1001_13))) = false := decide_eq_false c26
                        clear c26
                        by_cases c30 : 0 ≤ x1001_3
                        · rw [if_pos c30] at H
                          have c30b0 : decide (0 ≤ x1001_3) = true := decide_eq_true c30
                          clear c30
                          by_cases c31 : x1001_3 < (x1000_3.size : Int)
                          · rw [if_pos c31] at H
                            have c31b0 : decide (x1001_3 < (x1000_3.size : Int)) = true := decide_eq_true c31
                            clear c31
                            have H' := Aside0.mk H
                            clear H
                            obtain ⟨HGz33, hgz33⟩ := HI0.out
                            have hcz33_0 := cellS132_0 HGz33
                            have hcz33_1 := cellS132_1 HGz33
                            have hcz33_2 := cellS132_2 HGz33
                            have hfz33_0 := blk_frozen HGz33 0
                            have hfz33_1 := blk_frozen HGz33 1
                            have hfz33_2 := blk_frozen HGz33 2
                            clear HGz33 hgz33
                            have p32 : 0 ≤ (x1001_3 : Int) := of_decide_eq_true (by first | (with_reducible assumption) | assumption)
                            have q32 : x1001_3 < (x1000_3.size : Int) := of_decide_eq_true (by first | (with_reducible assumption) | assumption)
                            have hx32 := bt_at x1000_3 x1001_3
                            replace p32 := eq_true p32
                            replace q32 := eq_true q32
                            go_wp2
                            repeat (go_quiet (fail); try go_wp2)
                            go_roundg kj17
                            case measure => have := HJ5.out; have := HJ13.out; have := HK3.out; have := HJ17.out; omega
                            case rel => exact ⟨(wrap64 ((wrap64 (10 * x5_3)) + (((bt x1000_3 x1001_3) - 48) % 256))), (x1000_3), (wrap64 (x1001_3 + 1)), (x1002_3), (by first | rfl | (simp; done) | (simp [*]; done)), H', ⟨by have := HJ5.out; have := HJ13.out; have := HK3.out; have := HJ17.out; omega⟩, ⟨by repeat (first | (with_reducible first | exact HI0.out | apply IsS132.alloc | apply IsS132.drewN | apply IsS132.drew | apply IsS132.set_0 | apply IsS132.set_1 | apply IsS132.set_2) | exact HI0.out)⟩, ⟨by repeat (first | (with_reducible first | exact HK.out | apply KeepBut.set_ | apply keep_drewN | apply keep_drew | apply keep_alloc) | exact HK.out)⟩, ⟨by repeat (first | (with_reducible first | exact HB.out | apply below_alloc | apply pw_below_drewN | apply below_drew1 | refine below_set ?_ (IsS132.ge HI0.out)) | exact HB.out)⟩⟩
                          · rw [if_neg c31] at H
                            exact absurd H (by simp)
                        · rw [if_neg c30] at H
                          exact absurd H (by simp)
                    · replace c25 := Bool.eq_false_iff.mpr c25
                      subst c25
                      have H1 : (if x1001_3 = x1001_13 then ((filter_parser_stop.f x1000_3 x1001_3 x1002_3 t170).bind fun bt176 => (some (wrap64 (x4_13 * x5_3), bt176.1, bt176.2.1, bt176.2.2))) else (if (wrap64 (x1001_3 - x1001_13)) > 1 then (if 0 ≤ x1001_13 then (if x1001_13 < (x1000_3.size : Int) then (if (bt x1000_3 x1001_13) = 48 then ((filter_parser_stop.f x1000_3 x1001_3 x1002_3 t170).bind fun bt179 => (some (wrap64 (x4_13 * x5_3), bt179.1, bt179.2.1, bt179.2.2))) else (if x4_13 < 0 then (if x5_3 = 0 then ((filter_parser_stop.f x1000_3 x1001_3 x1002_3 t170).bind fun bt182 => (some (wrap64 (x4_13 * x5_3), bt182.1, bt182.2.1, bt182.2.2))) else (some (wrap64 (x4_13 * x5_3), x1000_3, x1001_3, x1002_3))) else (some (wrap64 (x4_13 * x5_3), x1000_3, x1001_3, x1002_3)))) else (none)) else (none)) else (if x4_13 < 0 then (if x5_3 = 0 then ((filter_parser_stop.f x1000_3 x1001_3 x1002_3 t170).bind fun bt185 => (some (wrap64 (x4_13 * x5_3), bt185.1, bt185.2.1, bt185.2.2))) else (some (wrap64 (x4_13 * x5_3), x1000_3, x1001_3, x1002_3))) else (some (wrap64 (x4_13 * x5_3), x1000_3, x1001_3, x1002_3))))) = some (r1, r2, r3, r4) := by rw [if_neg (show ¬ (false = true) by decide)] at H; exact H
                      clear H
                      have H := H1
                      clear H1
                      by_cases c34 : x1001_3 = x1001_13
                      · rw [if_pos c34] at H
                        have c34b0 : (x1001_3 == x1001_13) = true := beq_iff_eq.mpr c34
                        have c34b1 : (x1001_3 != x1001_13) = false := bne_eq_false_iff_eq.mpr c34
                        clear c34
                        replace H := Option.bind_eq_some_iff.mp H
                        obtain ⟨⟨t176, t177, t178⟩, A350, H⟩ := H
                        replace H : (some (wrap64 (x4_13 * x5_3), t176, t177, t178)) = some (r1, r2, r3, r4) := H
                        have A35 := Aside0.mk A350
                        clear A350
                        simp only [Option.some.injEq, Prod.mk.injEq] at H
                        obtain ⟨rfl, rfl, rfl, rfl⟩ := H
                        obtain ⟨HGz36, hgz36⟩ := HI0.out
                        have hcz36_0 := cellS132_0 HGz36
                        have hcz36_1 := cellS132_1 HGz36
                        have hcz36_2 := cellS132_2 HGz36
                        have hfz36_0 := blk_frozen HGz36 0
                        have hfz36_1 := blk_frozen HGz36 1
                        have hfz36_2 := blk_frozen HGz36 2
                        clear HGz36 hgz36
                        go_wp2_with (first | (go_at_call 54; (with_reducible refine (filter_parser_stop.calls g x1000_3 x1001_3 x1002_3 t170 t176 t177 t178 w0 _ ?side1 ?side2 A35.out).mono ?_); (case side1 => repeat (first | (with_reducible first | exact HI0.out | apply IsS132.alloc | apply IsS132.drewN | apply IsS132.drew | apply IsS132.set_0 | apply IsS132.set_1 | apply IsS132.set_2) | exact HI0.out)); (case side2 => repeat (first | (with_reducible first | exact HB.out | apply below_alloc | apply pw_below_drewN | apply below_drew1 | refine below_set ?_ (IsS132.ge HI0.out)) | exact HB.out)); rintro e w37 ⟨rfl, hi, hb, hk⟩; have n0_ := Aside0.mk (KeepBut.trans (by repeat (first | (with_reducible first | exact HK.out | apply KeepBut.set_ | apply keep_drewN | apply keep_drew | apply keep_alloc) | exact HK.out)) hk (.inl rfl)); have n1_ := Aside0.mk (hb); have n2_ := Aside0.mk (hi); clear HK; clear HB; clear HI0; have HK := n0_; have HB := n1_; have HI0 := n2_; clear n0_ n1_ n2_; (try clear hb); (try clear hb2); (try clear hk); (try clear hi)))
                        repeat (go_quiet (first | (go_at_call 54; (with_reducible refine (filter_parser_stop.calls g x1000_3 x1001_3 x1002_3 t170 t176 t177 t178 w0 _ ?side1 ?side2 A35.out).mono ?_); (case side1 => repeat (first | (with_reducible first | exact HI0.out | apply IsS132.alloc | apply IsS132.drewN | apply IsS132.drew | apply IsS132.set_0 | apply IsS132.set_1 | apply IsS132.set_2) | exact HI0.out)); (case side2 => repeat (first | (with_reducible first | exact HB.out | apply below_alloc | apply pw_below_drewN | apply below_drew1 | refine below_set ?_ (IsS132.ge HI0.out)) | exact HB.out)); rintro e w37 ⟨rfl, hi, hb, hk⟩; have n0_ := Aside0.mk (KeepBut.trans (by repeat (first | (with_reducible first | exact HK.out | apply KeepBut.set_ | apply keep_drewN | apply keep_drew | apply keep_alloc) | exact HK.out)) hk (.inl rfl)); have n1_ := Aside0.mk (hb); have n2_ := Aside0.mk (hi); clear HK; clear HB; clear HI0; have HK := n0_; have HB := n1_; have HI0 := n2_; clear n0_ n1_ n2_; (try clear hb); (try clear hb2); (try clear hk); (try clear hi))); try go_wp2_with (first | (go_at_call 54; (with_reducible refine (filter_parser_stop.calls g x1000_3 x1001_3 x1002_3 t170 t176 t177 t178 w0 _ ?side1 ?side2 A35.out).mono ?_); (case side1 => repeat (first | (with_reducible first | exact HI0.out | apply IsS132.alloc | apply IsS132.drewN | apply IsS132.drew | apply IsS132.set_0 | apply IsS132.set_1 | apply IsS132.set_2) | exact HI0.out)); (case side2 => repeat (first | (with_reducible first | exact HB.out | apply below_alloc | apply pw_below_drewN | apply below_drew1 | refine below_set ?_ (IsS132.ge HI0.out)) | exact HB.out)); rintro e w37 ⟨rfl, hi, hb, hk⟩; have n0_ := Aside0.mk (KeepBut.trans (by repeat (first | (with_reducible first | exact HK.out | apply KeepBut.set_ | apply keep_drewN | apply keep_drew | apply keep_alloc) | exact HK.out)) hk (.inl rfl)); have n1_ := Aside0.mk (hb); have n2_ := Aside0.mk (hi); clear HK; clear HB; clear HI0; have HK := n0_; have HB := n1_; have HI0 := n2_; clear n0_ n1_ n2_; (try clear hb); (try clear hb2); (try clear hk); (try clear hi))))
                        go_ret
                        exact ⟨by first | rfl | (simp [errW_none, errW_some] <;> rfl) | (simp [*, errW_none, errW_some] <;> rfl), by repeat (first | (with_reducible first | exact HI0.out | apply IsS132.alloc | apply IsS132.drewN | apply IsS132.drew | apply IsS132.set_0 | apply IsS132.set_1 | apply IsS132.set_2) | exact HI0.out), by repeat (first | (with_reducible first | exact HB.out | apply below_alloc | apply pw_below_drewN | apply below_drew1 | refine below_set ?_ (IsS132.ge HI0.out)) | exact HB.out), by repeat (first | (with_reducible first | exact HK.out | apply KeepBut.set_ | apply keep_drewN | apply keep_drew | apply keep_alloc) | exact HK.out)⟩
                      · rw [if_neg c34] at H
                        have c34b0 : (x1001_3 == x1001_13) = false := beq_eq_false_iff_ne.mpr c34
                        have c34b1 : (x1001_3 != x1001_13) = true := bne_iff_ne.mpr c34
                        by_cases c38 : (wrap64 (x1001_3 - x1001_13)) > 1
                        · rw [if_pos c38] at H
                          have c38b0 : decide (1 < (wrap64 (x1001_3 - x1001_13))) = true := decide_eq_true c38
                          clear c38
                          by_cases c39 : 0 ≤ x1001_13
                          · rw [if_pos c39] at H
                            have c39b0 : decide (0 ≤ x1001_13) = true := decide_eq_true c39
                            clear c39
                            by_cases c40 : x1001_13 < (x1000_3.size : Int)
                            · rw [if_pos c40] at H
                              have c40b0 : decide (x1001_13 < (x1000_3.size : Int)) = true := decide_eq_true c40
                              clear c40
                              by_cases c42 : (bt x1000_3 x1001_13) = 48
                              · rw [if_pos c42] at H
                                have c42b0 : ((bt x1000_3 x1001_13) == 48) = true := beq_iff_eq.mpr c42
                                have c42b1 : ((bt x1000_3 x1001_13) != 48) = false := bne_eq_false_iff_eq.mpr c42
                                clear c42
                                replace H := Option.bind_eq_some_iff.mp H
                                obtain ⟨⟨t179, t180, t181⟩, A430, H⟩ := H
                                replace H : (some (wrap64 (x4_13 * x5_3), t179, t180, t181)) = some (r1, r2, r3, r4) := H
                                have A43 := Aside0.mk A430
                                clear A430
                                simp only [Option.some.injEq, Prod.mk.injEq] at H
                                obtain ⟨rfl, rfl, rfl, rfl⟩ := H
                                obtain ⟨HGz44, hgz44⟩ := HI0.out
                                have hcz44_0 := cellS132_0 HGz44
                                have hcz44_1 := cellS132_1 HGz44
                                have hcz44_2 := cellS132_2 HGz44
                                have hfz44_0 := blk_frozen HGz44 0
                                have hfz44_1 := blk_frozen HGz44 1
                                have hfz44_2 := blk_frozen HGz44 2
                                clear HGz44 hgz44
                                have p41 : 0 ≤ (x1001_13 : Int) := of_decide_eq_true (by first | (with_reducible assumption) | assumption)
                                have q41 : x1001_13 < (x1000_3.size : Int) := of_decide_eq_true (by first | (with_reducible assumption) | assumption)
                                have hx41 := bt_at x1000_3 x1001_13
                                replace p41 := eq_true p41
                                replace q41 := eq_true q41
                                go_wp2_with (first | (go_at_call 54; (with_reducible refine (filter_parser_stop.calls g x1000_3 x1001_3 x1002_3 t170 t179 t180 t181 w0 _ ?side1 ?side2 A43.out).mono ?_); (case side1 => repeat (first | (with_reducible first | exact HI0.out | apply IsS132.alloc | apply IsS132.drewN | apply IsS132.drew | apply IsS132.set_0 | apply IsS132.set_1 | apply IsS132.set_2) | exact HI0.out)); (case side2 => repeat (first | (with_reducible first | exact HB.out | apply below_alloc | apply pw_below_drewN | apply below_drew1 | refine below_set ?_ (IsS132.ge HI0.out)) | exact HB.out)); rintro e w45 ⟨rfl, hi, hb, hk⟩; have n0_ := Aside0.mk (KeepBut.trans (by repeat (first | (with_reducible first | exact HK.out | apply KeepBut.set_ | apply keep_drewN | apply keep_drew | apply keep_alloc) | exact HK.out)) hk (.inl rfl)); have n1_ := Aside0.mk (hb); have n2_ := Aside0.mk (hi); clear HK; clear HB; clear HI0; have HK := n0_; have HB := n1_; have HI0 := n2_; clear n0_ n1_ n2_; (try clear hb); (try clear hb2); (try clear hk); (try clear hi)))
                                repeat (go_quiet (first | (go_at_call 54; (with_reducible refine (filter_parser_stop.calls g x1000_3 x1001_3 x1002_3 t170 t179 t180 t181 w0 _ ?side1 ?side2 A43.out).mono ?_); (case side1 => repeat (first | (with_reducible first | exact HI0.out | apply IsS132.alloc | apply IsS132.drewN | apply IsS132.drew | apply IsS132.set_0 | apply IsS132.set_1 | apply IsS132.set_2) | exact HI0.out)); (case side2 => repeat (first | (with_reducible first | exact HB.out | apply below_alloc | apply pw_below_drewN | apply below_drew1 | refine below_set ?_ (IsS132.ge HI0.out)) | exact HB.out)); rintro e w45 ⟨rfl, hi, hb, hk⟩; have n0_ := Aside0.mk (KeepBut.trans (by repeat (first | (with_reducible first | exact HK.out | apply KeepBut.set_ | apply keep_drewN | apply keep_drew | apply keep_alloc) | exact HK.out)) hk (.inl rfl)); have n1_ := Aside0.mk (hb); have n2_ := Aside0.mk (hi); clear HK; clear HB; clear HI0; have HK := n0_; have HB := n1_; have HI0 := n2_; clear n0_ n1_ n2_; (try clear hb); (try clear hb2); (try clear hk); (try clear hi))); try go_wp2_with (first | (go_at_call 54; (with_reducible refine (filter_parser_stop.calls g x1000_3 x1001_3 x1002_3 t170 t179 t180 t181 w0 _ ?side1 ?side2 A43.out).mono ?_); (case side1 => repeat (first | (with_reducible first | exact HI0.out | apply IsS132.alloc | apply IsS132.drewN | apply IsS132.drew | apply IsS132.set_0 | apply IsS132.set_1 | apply IsS132.set_2) | exact HI0.out)); (case side2 => repeat (first | (with_reducible first | exact HB.out | apply below_alloc | apply pw_below_drewN | apply below_drew1 | refine below_set ?_ (IsS132.ge HI0.out)) | exact HB.out)); rintro e w45 ⟨rfl, hi, hb, hk⟩; have n0_ := Aside0.mk (KeepBut.trans (by repeat (first | (with_reducible first | exact HK.out | apply KeepBut.set_ | apply keep_drewN | apply keep_drew | apply keep_alloc) | exact HK.out)) hk (.inl rfl)); have n1_ := Aside0.mk (hb); have n2_ := Aside0.mk (hi); clear HK; clear HB; clear HI0; have HK := n0_; have HB := n1_; have HI0 := n2_; clear n0_ n1_ n2_; (try clear hb); (try clear hb2); (try clear hk); (try clear hi))))
                                go_ret
                                exact ⟨by first | rfl | (simp [errW_none, errW_some] <;> rfl) | (simp [*, errW_none, errW_some] <;> rfl), by repeat (first | (with_reducible first | exact HI0.out | apply IsS132.alloc | apply IsS132.drewN | apply IsS132.drew | apply IsS132.set_0 | apply IsS132.set_1 | apply IsS132.set_2) | exact HI0.out), by repeat (first | (with_reducible first | exact HB.out | apply below_alloc | apply pw_below_drewN | apply below_drew1 | refine below_set ?_ (IsS132.ge HI0.out)) | exact HB.out), by repeat (first | (with_reducible first | exact HK.out | apply KeepBut.set_ | apply keep_drewN | apply keep_drew | apply keep_alloc) | exact HK.out)⟩
                              · rw [if_neg c42] at H
                                have c42b0 : ((bt x1000_3 x1001_13) == 48) = false := beq_eq_false_iff_ne.mpr c42
                                have c42b1 : ((bt x1000_3 x1001_13) != 48) = true := bne_iff_ne.mpr c42
                                by_cases c46 : x4_13 < 0
                                · rw [if_pos c46] at H
                                  have c46b0 : decide (x4_13 < 0) = true := decide_eq_true c46
                                  clear c46
                                  by_cases c47 : x5_3 = 0
                                  · rw [if_pos c47] at H
                                    have c47b0 : (x5_3 == 0) = true := beq_iff_eq.mpr c47
                                    have c47b1 : (x5_3 != 0) = false := bne_eq_false_iff_eq.mpr c47
                                    clear c47
                                    replace H := Option.bind_eq_some_iff.mp H
                                    obtain ⟨⟨t182, t183, t184⟩, A480, H⟩ := H
                                    replace H : (some (wrap64 (x4_13 * x5_3), t182, t183, t184)) = some (r1, r2, r3, r4) := H
                                    have A48 := Aside0.mk A480
                                    clear A480
                                    simp only [Option.some.injEq, Prod.mk.injEq] at H
                                    obtain ⟨rfl, rfl, rfl, rfl⟩ := H
                                    obtain ⟨HGz49, hgz49⟩ := HI0.out
                                    have hcz49_0 := cellS132_0 HGz49
                                    have hcz49_1 := cellS132_1 HGz49
                                    have hcz49_2 := cellS132_2 HGz49
                                    have hfz49_0 := blk_frozen HGz49 0
                                    have hfz49_1 := blk_frozen HGz49 1
                                    have hfz49_2 := blk_frozen HGz49 2
                                    clear HGz49 hgz49
                                    have p41 : 0 ≤ (x1001_13 : Int) := of_decide_eq_true (by first | (with_reducible assumption) | assumption)
                                    have q41 : x1001_13 < (x1000_3.size : Int) := of_decide_eq_true (by first | (with_reducible assumption) | assumption)
                                    have hx41 := bt_at x1000_3 x1001_13
                                    replace p41 := eq_true p41
                                    replace q41 := eq_true q41
                                    go_wp2_with (first | (go_at_call 54; (with_reducible refine (filter_parser_stop.calls g x1000_3 x1001_3 x1002_3 t170 t182 t183 t184 w0 _ ?side1 ?side2 A48.out).mono ?_); (case side1 => repeat (first | (with_reducible first | exact HI0.out | apply IsS132.alloc | apply IsS132.drewN | apply IsS132.drew | apply IsS132.set_0 | apply IsS132.set_1 | apply IsS132.set_2) | exact HI0.out)); (case side2 => repeat (first | (with_reducible first | exact HB.out | apply below_alloc | apply pw_below_drewN | apply below_drew1 | refine below_set ?_ (IsS132.ge HI0.out)) | exact HB.out)); rintro e w50 ⟨rfl, hi, hb, hk⟩; have n0_ := Aside0.mk (KeepBut.trans (by repeat (first | (with_reducible first | exact HK.out | apply KeepBut.set_ | apply keep_drewN | apply keep_drew | apply keep_alloc) | exact HK.out)) hk (.inl rfl)); have n1_ := Aside0.mk (hb); have n2_ := Aside0.mk (hi); clear HK; clear HB; clear HI0; have HK := n0_; have HB := n1_; have HI0 := n2_; clear n0_ n1_ n2_; (try clear hb); (try clear hb2); (try clear hk); (try clear hi)))
                                    repeat (go_quiet (first | (go_at_call 54; (with_reducible refine (filter_parser_stop.calls g x1000_3 x1001_3 x1002_3 t170 t182 t183 t184 w0 _ ?side1 ?side2 A48.out).mono ?_); (case side1 => repeat (first | (with_reducible first | exact HI0.out | apply IsS132.alloc | apply IsS132.drewN | apply IsS132.drew | apply IsS132.set_0 | apply IsS132.set_1 | apply IsS132.set_2) | exact HI0.out)); (case side2 => repeat (first | (with_reducible first | exact HB.out | apply below_alloc | apply pw_below_drewN | apply below_drew1 | refine below_set ?_ (IsS132.ge HI0.out)) | exact HB.out)); rintro e w50 ⟨rfl, hi, hb, hk⟩; have n0_ := Aside0.mk (KeepBut.trans (by repeat (first | (with_reducible first | exact HK.out | apply KeepBut.set_ | apply keep_drewN | apply keep_drew | apply keep_alloc) | exact HK.out)) hk (.inl rfl)); have n1_ := Aside0.mk (hb); have n2_ := Aside0.mk (hi); clear HK; clear HB; clear HI0; have HK := n0_; have HB := n1_; have HI0 := n2_; clear n0_ n1_ n2_; (try clear hb); (try clear hb2); (try clear hk); (try clear hi))); try go_wp2_with (first | (go_at_call 54; (with_reducible refine (filter_parser_stop.calls g x1000_3 x1001_3 x1002_3 t170 t182 t183 t184 w0 _ ?side1 ?side2 A48.out).mono ?_); (case side1 => repeat (first | (with_reducible first | exact HI0.out | apply IsS132.alloc | apply IsS132.drewN | apply IsS132.drew | apply IsS132.set_0 | apply IsS132.set_1 | apply IsS132.set_2) | exact HI0.out)); (case side2 => repeat (first | (with_reducible first | exact HB.out | apply below_alloc | apply pw_below_drewN | apply below_drew1 | refine below_set ?_ (IsS132.ge HI0.out)) | exact HB.out)); rintro e w50 ⟨rfl, hi, hb, hk⟩; have n0_ := Aside0.mk (KeepBut.trans (by repeat (first | (with_reducible first | exact HK.out | apply KeepBut.set_ | apply keep_drewN | apply keep_drew | apply keep_alloc) | exact HK.out)) hk (.inl rfl)); have n1_ := Aside0.mk (hb); have n2_ := Aside0.mk (hi); clear HK; clear HB; clear HI0; have HK := n0_; have HB := n1_; have HI0 := n2_; clear n0_ n1_ n2_; (try clear hb); (try clear hb2); (try clear hk); (try clear hi))))
                                    go_ret
                                    exact ⟨by first | rfl | (simp [errW_none, errW_some] <;> rfl) | (simp [*, errW_none, errW_some] <;> rfl), by repeat (first | (with_reducible first | exact HI0.out | apply IsS132.alloc | apply IsS132.drewN | apply IsS132.drew | apply IsS132.set_0 | apply IsS132.set_1 | apply IsS132.set_2) | exact HI0.out), by repeat (first | (with_reducible first | exact HB.out | apply below_alloc | apply pw_below_drewN | apply below_drew1 | refine below_set ?_ (IsS132.ge HI0.out)) | exact HB.out), by repeat (first | (with_reducible first | exact HK.out | apply KeepBut.set_ | apply keep_drewN | apply keep_drew | apply keep_alloc) | exact HK.out)⟩
                                  · rw [if_neg c47] at H
                                    have c47b0 : (x5_3 == 0) = false := beq_eq_false_iff_ne.mpr c47
                                    have c47b1 : (x5_3 != 0) = true := bne_iff_ne.mpr c47
                                    simp only [Option.some.injEq, Prod.mk.injEq] at H
                                    obtain ⟨rfl, rfl, rfl, rfl⟩ := H
                                    obtain ⟨HGz51, hgz51⟩ := HI0.out
                                    have hcz51_0 := cellS132_0 HGz51
                                    have hcz51_1 := cellS132_1 HGz51
                                    have hcz51_2 := cellS132_2 HGz51
                                    have hfz51_0 := blk_frozen HGz51 0
                                    have hfz51_1 := blk_frozen HGz51 1
                                    have hfz51_2 := blk_frozen HGz51 2
                                    clear HGz51 hgz51
                                    have p41 : 0 ≤ (x1001_13 : Int) := of_decide_eq_true (by first | (with_reducible assumption) | assumption)
                                    have q41 : x1001_13 < (x1000_3.size : Int) := of_decide_eq_true (by first | (with_reducible assumption) | assumption)
                                    have hx41 := bt_at x1000_3 x1001_13
                                    replace p41 := eq_true p41
                                    replace q41 := eq_true q41
                                    go_wp2
                                    repeat (go_quiet (fail); try go_wp2)
                                    go_ret
                                    exact ⟨by first | rfl | (simp [errW_none, errW_some] <;> rfl) | (simp [*, errW_none, errW_some] <;> rfl), by repeat (first | (with_reducible first | exact HI0.out | apply IsS132.alloc | apply IsS132.drewN | apply IsS132.drew | apply IsS132.set_0 | apply IsS132.set_1 | apply IsS132.set_2) | exact HI0.out), by repeat (first | (with_reducible first | exact HB.out | apply below_alloc | apply pw_below_drewN | apply below_drew1 | refine below_set ?_ (IsS132.ge HI0.out)) | exact HB.out), by repeat (first | (with_reducible first | exact HK.out | apply KeepBut.set_ | apply keep_drewN | apply keep_drew | apply keep_alloc) | exact HK.out)⟩
                                · rw [if_neg c46] at H
                                  have c46b0 : decide (x4_13 < 0) = false := decide_eq_false c46
                                  clear c46
                                  simp only [Option.some.injEq, Prod.mk.injEq] at H
                                  obtain ⟨rfl, rfl, rfl, rfl⟩ := H
                                  obtain ⟨HGz52, hgz52⟩ := HI0.out
                                  have hcz52_0 := cellS132_0 HGz52
                                  have hcz52_1 := cellS132_1 HGz52
                                  have hcz52_2 := cellS132_2 HGz52
                                  have hfz52_0 := blk_frozen HGz52 0
                                  have hfz52_1 := blk_frozen HGz52 1
                                  have hfz52_2 := blk_frozen HGz52 2
                                  clear HGz52 hgz52
                                  have p41 : 0 ≤ (x1001_13 : Int) := of_decide_eq_true (by first | (with_reducible assumption) | assumption)
                                  have q41 : x1001_13 < (x1000_3.size : Int) := of_decide_eq_true (by first | (with_reducible assumption) | assumption)
                                  have hx41 := bt_at x1000_3 x1001_13
                                  replace p41 := eq_true p41
                                  replace q41 := eq_true q41
                                  go_wp2
                                  repeat (go_quiet (fail); try go_wp2)
                                  go_ret
                                  exact ⟨by first | rfl | (simp [errW_none, errW_some] <;> rfl) | (simp [*, errW_none, errW_some] <;> rfl), by repeat (first | (with_reducible first | exact HI0.out | apply IsS132.alloc | apply IsS132.drewN | apply IsS132.drew | apply IsS132.set_0 | apply IsS132.set_1 | apply IsS132.set_2) | exact HI0.out), by repeat (first | (with_reducible first | exact HB.out | apply below_alloc | apply pw_below_drewN | apply below_drew1 | refine below_set ?_ (IsS132.ge HI0.out)) | exact HB.out), by repeat (first | (with_reducible first | exact HK.out | apply KeepBut.set_ | apply keep_drewN | apply keep_drew | apply keep_alloc) | exact HK.out)⟩
                            · rw [if_neg c40] at H
                              exact absurd H (by simp)
                          · rw [if_neg c39] at H
                            exact absurd H (by simp)
                        · rw [if_neg c38] at H
                          have c38b0 : decide (1 < (wrap64 (x1001_3 - x1001_13))) = false := decide_eq_false c38
                          clear c38
                          by_cases c53 : x4_13 < 0
                          · rw [if_pos c53] at H
                            have c53b0 : decide (x4_13 < 0) = true := decide_eq_true c53
                            clear c53
                            by_cases c54 : x5_3 = 0
                            · rw [if_pos c54] at H
                              have c54b0 : (x5_3 == 0) = true := beq_iff_eq.mpr c54
                              have c54b1 : (x5_3 != 0) = false := bne_eq_false_iff_eq.mpr c54
                              clear c54
                              replace H := Option.bind_eq_some_iff.mp H
                              obtain ⟨⟨t185, t186, t187⟩, A550, H⟩ := H
                              replace H : (some (wrap64 (x4_13 * x5_3), t185, t186, t187)) = some (r1, r2, r3, r4) := H
                              have A55 := Aside0.mk A550
                              clear A550
                              simp only [Option.some.injEq, Prod.mk.injEq] at H
                              obtain ⟨rfl, rfl, rfl, rfl⟩ := H
                              obtain ⟨HGz56, hgz56⟩ := HI0.out
                              have hcz56_0 := cellS132_0 HGz56
                              have hcz56_1 := cellS132_1 HGz56
                              have hcz56_2 := cellS132_2 HGz56
                              have hfz56_0 := blk_frozen HGz56 0
                              have hfz56_1 := blk_frozen HGz56 1
                              have hfz56_2 := blk_frozen HGz56 2
                              clear HGz56 hgz56
                              go_wp2_with (first | (go_at_call 54; (with_reducible refine (filter_parser_stop.calls g x1000_3 x1001_3 x1002_3 t170 t185 t186 t187 w0 _ ?side1 ?side2 A55.out).mono ?_); (case side1 => repeat (first | (with_reducible first | exact HI0.out | apply IsS132.alloc | apply IsS132.drewN | apply IsS132.drew | apply IsS132.set_0 | apply IsS132.set_1 | apply IsS132.set_2) | exact HI0.out)); (case side2 => repeat (first | (with_reducible first | exact HB.out | apply below_alloc | apply pw_below_drewN | apply below_drew1 | refine below_set ?_ (IsS132.ge HI0.out)) | exact HB.out)); rintro e w57 ⟨rfl, hi, hb, hk⟩; have n0_ := Aside0.mk (KeepBut.trans (by repeat (first | (with_reducible first | exact HK.out | apply KeepBut.set_ | apply keep_drewN | apply keep_drew | apply keep_alloc) | exact HK.out)) hk (.inl rfl)); have n1_ := Aside0.mk (hb); have n2_ := Aside0.mk (hi); clear HK; clear HB; clear HI0; have HK := n0_; have HB := n1_; have HI0 := n2_; clear n0_ n1_ n2_; (try clear hb); (try clear hb2); (try clear hk); (try clear hi)))
                              repeat (go_quiet (first | (go_at_call 54; (with_reducible refine (filter_parser_stop.calls g x1000_3 x1001_3 x1002_3 t170 t185 t186 t187 w0 _ ?side1 ?side2 A55.out).mono ?_); (case side1 => repeat (first | (with_reducible first | exact HI0.out | apply IsS132.alloc | apply IsS132.drewN | apply IsS132.drew | apply IsS132.set_0 | apply IsS132.set_1 | apply IsS132.set_2) | exact HI0.out)); (case side2 => repeat (first | (with_reducible first | exact HB.out | apply below_alloc | apply pw_below_drewN | apply below_drew1 | refine below_set ?_ (IsS132.ge HI0.out)) | exact HB.out)); rintro e w57 ⟨rfl, hi, hb, hk⟩; have n0_ := Aside0.mk (KeepBut.trans (by repeat (first | (with_reducible first | exact HK.out | apply KeepBut.set_ | apply keep_drewN | apply keep_drew | apply keep_alloc) | exact HK.out)) hk (.inl rfl)); have n1_ := Aside0.mk (hb); have n2_ := Aside0.mk (hi); clear HK; clear HB; clear HI0; have HK := n0_; have HB := n1_; have HI0 := n2_; clear n0_ n1_ n2_; (try clear hb); (try clear hb2); (try clear hk); (try clear hi))); try go_wp2_with (first | (go_at_call 54; (with_reducible refine (filter_parser_stop.calls g x1000_3 x1001_3 x1002_3 t170 t185 t186 t187 w0 _ ?side1 ?side2 A55.out).mono ?_); (case side1 => repeat (first | (with_reducible first | exact HI0.out | apply IsS132.alloc | apply IsS132.drewN | apply IsS132.drew | apply IsS132.set_0 | apply IsS132.set_1 | apply IsS132.set_2) | exact HI0.out)); (case side2 => repeat (first | (with_reducible first | exact HB.out | apply below_alloc | apply pw_below_drewN | apply below_drew1 | refine below_set ?_ (IsS132.ge HI0.out)) | exact HB.out)); rintro e w57 ⟨rfl, hi, hb, hk⟩; have n0_ := Aside0.mk (KeepBut.trans (by repeat (first | (with_reducible first | exact HK.out | apply KeepBut.set_ | apply keep_drewN | apply keep_drew | apply keep_alloc) | exact HK.out)) hk (.inl rfl)); have n1_ := Aside0.mk (hb); have n2_ := Aside0.mk (hi); clear HK; clear HB; clear HI0; have HK := n0_; have HB := n1_; have HI0 := n2_; clear n0_ n1_ n2_; (try clear hb); (try clear hb2); (try clear hk); (try clear hi))))
                              go_ret
                              exact ⟨by first | rfl | (simp [errW_none, errW_some] <;> rfl) | (simp [*, errW_none, errW_some] <;> rfl), by repeat (first | (with_reducible first | exact HI0.out | apply IsS132.alloc | apply IsS132.drewN | apply IsS132.drew | apply IsS132.set_0 | apply IsS132.set_1 | apply IsS132.set_2) | exact HI0.out), by repeat (first | (with_reducible first | exact HB.out | apply below_alloc | apply pw_below_drewN | apply below_drew1 | refine below_set ?_ (IsS132.ge HI0.out)) | exact HB.out), by repeat (first | (with_reducible first | exact HK.out | apply KeepBut.set_ | apply keep_drewN | apply keep_drew | apply keep_alloc) | exact HK.out)⟩
                            · rw [if_neg c54] at H
                              have c54b0 : (x5_3 == 0) = false := beq_eq_false_iff_ne.mpr c54
                              have c54b1 : (x5_3 != 0) = true := bne_iff_ne.mpr c54
                              simp only [Option.some.injEq, Prod.mk.injEq] at H
                              obtain ⟨rfl, rfl, rfl, rfl⟩ := H
                              obtain ⟨HGz58, hgz58⟩ := HI0.out
                              have hcz58_0 := cellS132_0 HGz58
                              have hcz58_1 := cellS132_1 HGz58
                              have hcz58_2 := cellS132_2 HGz58
                              have hfz58_0 := blk_frozen HGz58 0
                              have hfz58_1 := blk_frozen HGz58 1
                              have hfz58_2 := blk_frozen HGz58 2
                              clear HGz58 hgz58
                              go_wp2
                              repeat (go_quiet (fail); try go_wp2)
                              go_ret
                              exact ⟨by first | rfl | (simp [errW_none, errW_some] <;> rfl) | (simp [*, errW_none, errW_some] <;> rfl), by repeat (first | (with_reducible first | exact HI0.out | apply IsS132.alloc | apply IsS132.drewN | apply IsS132.drew | apply IsS132.set_0 | apply IsS132.set_1 | apply IsS132.set_2) | exact HI0.out), by repeat (first | (with_reducible first | exact HB.out | apply below_alloc | apply pw_below_drewN | apply below_drew1 | refine below_set ?_ (IsS132.ge HI0.out)) | exact HB.out), by repeat (first | (with_reducible first | exact HK.out | apply KeepBut.set_ | apply keep_drewN | apply keep_drew | apply keep_alloc) | exact HK.out)⟩
                          · rw [if_neg c53] at H
                            have c53b0 : decide (x4_13 < 0) = false := decide_eq_false c53
                            clear c53
                            simp only [Option.some.injEq, Prod.mk.injEq] at H
                            obtain ⟨rfl, rfl, rfl, rfl⟩ := H
                            obtain ⟨HGz59, hgz59⟩ := HI0.out
                            have hcz59_0 := cellS132_0 HGz59
                            have hcz59_1 := cellS132_1 HGz59
                            have hcz59_2 := cellS132_2 HGz59
                            have hfz59_0 := blk_frozen HGz59 0
                            have hfz59_1 := blk_frozen HGz59 1
                            have hfz59_2 := blk_frozen HGz59 2
                            clear HGz59 hgz59
                            go_wp2
                            repeat (go_quiet (fail); try go_wp2)
                            go_ret
                            exact ⟨by first | rfl | (simp [errW_none, errW_some] <;> rfl) | (simp [*, errW_none, errW_some] <;> rfl), by repeat (first | (with_reducible first | exact HI0.out | apply IsS132.alloc | apply IsS132.drewN | apply IsS132.drew | apply IsS132.set_0 | apply IsS132.set_1 | apply IsS132.set_2) | exact HI0.out), by repeat (first | (with_reducible first | exact HB.out | apply below_alloc | apply pw_below_drewN | apply below_drew1 | refine below_set ?_ (IsS132.ge HI0.out)) | exact HB.out), by repeat (first | (with_reducible first | exact HK.out | apply KeepBut.set_ | apply keep_drewN | apply keep_drew | apply keep_alloc) | exact HK.out)⟩

end Go.Proofs.Ytlokmijoaocofaa.PBoardAgain
end
section
/-
  Contracts of the filter parser's methods, each in terms of the plain functions of Plain: from a state to a state. Conditions: the parser's block, the text at most 1000 bytes.
-/
namespace Go.Proofs.Ytlokmijoaocofaa.Mine
open Go.RowKit Go.Proofs.YtlokmijoaocofaaW.PrintWords Go.Proofs.YtlokmijoaocofaaW.PrintLast Go.Proofs.YtlokmijoaocofaaW.PrintMore
open Go.Proofs.Ytlokmijoaocofaa.PBoardAgain

/-! ### places and what is left -/
def bytes (s : ByteArray) : List UInt8 := s.data.toList
theorem bytes_len (s : ByteArray) : (bytes s).length = s.size := by simp [bytes]
theorem suf_drop {s : ByteArray} {l : List UInt8} (h : l <:+ bytes s) : l = dropB s (s.size - l.length) := by
  obtain ⟨t, ht⟩ := h
  have h1 : (bytes s).length = t.length + l.length := by rw [← ht]; simp
  rw [bytes_len] at h1
  unfold dropB
  rw [show s.data.toList = t ++ l from ht.symm, show s.size - l.length = t.length by omega]
  simp
theorem drop_suf (s : ByteArray) (i : Nat) : dropB s i <:+ bytes s := List.drop_suffix _ _
theorem bt_cons {s : ByteArray} {i : Nat} {c : UInt8} {r : List UInt8} (h : dropB s i = c :: r) : i < s.size ∧ bt s (i : Int) = (c.toNat : Int) ∧ dropB s (i + 1) = r := by
  have h1 : i < s.size := by
    rcases Nat.lt_or_ge i s.size with h1 | h1
    · exact h1
    · rw [dropB_nil h1] at h; cases h
  rw [dropB_cons h1] at h
  injection h with h2 h3
  exact ⟨h1, by simp [bt, h1, h2], h3⟩
theorem wrap_in {x : Int} (h0 : -9223372036854775808 ≤ x) (h1 : x ≤ 9223372036854775807) : wrap64 x = x := by unfold wrap64; omega

/-! ### what the printed functions come to -/
theorem blanks_l0 (s : ByteArray) (hs : s.size ≤ 1000) (d : Nat) : ∀ (k i : Nat), i ≤ s.size → s.size - i = d → d < k →
    filter_parser_blanks.l0 k s (i : Int) (-1) = some (s, ((s.size - (skip (dropB s i)).length : Nat) : Int), -1) := by
  induction d with
  | zero =>
    intro k i h0 hd hk
    obtain ⟨k, rfl⟩ : ∃ m, k = m + 1 := ⟨k - 1, by omega⟩
    simp only [filter_parser_blanks.l0]
    rw [if_pos (by omega), if_neg (by omega), dropB_nil (by omega)]
    simp [skip]
    omega
  | succ d ih =>
    intro k i h0 hd hk
    obtain ⟨k, rfl⟩ : ∃ m, k = m + 1 := ⟨k - 1, by omega⟩
    have hlt : i < s.size := by omega
    have hc := dropB_cons hlt
    obtain ⟨h1, h2, h3⟩ := bt_cons hc
    simp only [filter_parser_blanks.l0]
    rw [if_pos (by omega), if_pos (by omega), if_pos (by omega), h2]
    by_cases h32 : s[i] = 32
    · rw [if_pos (by rw [h32]; rfl), wrap_in (by omega) (by omega), show (i : Int) + 1 = ((i + 1 : Nat) : Int) by omega, ih k (i + 1) (by omega) (by omega) (by omega), hc]
      simp [skip, h32]
    · have hn : ¬ ((s[i].toNat : Int) = 32) := by
        intro h
        exact h32 (UInt8.toNat_inj.mp (by simpa using (by omega : s[i].toNat = 32)))
      rw [if_neg hn, hc, skip, if_neg h32, ← hc, dropB_len]
      congr 3
      omega
theorem blanks_f {s : ByteArray} (hs : s.size ≤ 1000) {i : Nat} (hi : i ≤ s.size) : filter_parser_blanks.f (s.size + 1) s (i : Int) (-1) = some (s, ((s.size - (skip (dropB s i)).length : Nat) : Int), -1) :=
  blanks_l0 s hs (s.size - i) _ i hi rfl (by omega)
theorem blanks_bad {s : ByteArray} (i : Int) {b : Int} (hb : 0 ≤ b) : filter_parser_blanks.f 1 s i b = some (s, i, b) := by
  simp only [filter_parser_blanks.f, filter_parser_blanks.l0]
  rw [if_neg (by omega)]

/-! ### the state of a parser in memory -/
def badI (s : ByteArray) : Option Nat → Int
  | none => -1
  | some n => ((s.size - n : Nat) : Int)
def IsP (w0 w : World) (g : Nat) (s : ByteArray) (st : St) : Prop := st.ok (bytes s) ∧ IsS132 w0 w g s ((s.size - st.l.length : Nat) : Int) (badI s st.bad)
/-- A method's post: what it hands back, the state behind it, and that nothing else has turned. -/
def PostP (w0 w : World) (g : Nat) (s : ByteArray) (v : Value) (st : St) (e : Ending) (w' : World) : Prop :=
  e = .returned v ∧ IsP w0 w' g s st ∧ Below w0.heap.size w0 w' ∧ KeepBut w w' g none
theorem badI_nn (s : ByteArray) (n : Nat) : 0 ≤ badI s (some n) := by simp [badI]
section
variable {g : Nat} {s : ByteArray} {w0 w : World} {st : St}
theorem P_le (h : st.ok (bytes s)) : st.l.length ≤ s.size := by have := h.le; rwa [bytes_len] at this
theorem P_drop (h : st.ok (bytes s)) : dropB s (s.size - st.l.length) = st.l := (suf_drop h.1).symm

theorem blanks_P (hs : s.size ≤ 1000) (hI : IsP w0 w g s st) (hB : Below w0.heap.size w0 w) :
    Calls Try.prog 52 #[.pointer (some ⟨g, 0, none⟩)] w (PostP w0 w g s (.tuple #[]) (blanksS st)) := by
  obtain ⟨hok, hi⟩ := hI
  have hok2 := blanksS_ok hok
  obtain ⟨l, b⟩ := st
  cases b with
  | none =>
    have h := blanks_f hs (Nat.sub_le s.size l.length)
    rw [P_drop (st := ⟨l, none⟩) hok] at h
    exact (filter_parser_blanks.calls _ g s _ _ _ _ _ w0 w hi hB h).mono fun e w' ⟨he, h1, h2, h3⟩ => ⟨he, ⟨hok2, h1⟩, h2, h3⟩
  | some n =>
    exact (filter_parser_blanks.calls _ g s _ _ _ _ _ w0 w hi hB (blanks_bad _ (badI_nn s n))).mono fun e w' ⟨he, h1, h2, h3⟩ => ⟨he, ⟨hok2, h1⟩, h2, h3⟩

theorem stop_P (n : Nat) (hn : n ≤ s.size) (hI : IsP w0 w g s st) (hB : Below w0.heap.size w0 w) :
    Calls Try.prog 54 #[.pointer (some ⟨g, 0, none⟩), .int .i64 ((s.size - n : Nat) : Int)] w (PostP w0 w g s (.tuple #[]) (stopS st n)) := by
  obtain ⟨hok, hi⟩ := hI
  have hok2 := stopS_ok (n := n) hok (by rw [bytes_len]; exact hn)
  obtain ⟨l, b⟩ := st
  cases b with
  | none =>
    exact (filter_parser_stop.calls g s _ _ ((s.size - n : Nat) : Int) s _ _ w0 w hi hB (by simp only [filter_parser_stop.f]; rw [if_pos (by simp [badI])]; rfl)).mono fun e w' ⟨he, h1, h2, h3⟩ => ⟨he, ⟨hok2, h1⟩, h2, h3⟩
  | some m =>
    exact (filter_parser_stop.calls g s _ _ ((s.size - n : Nat) : Int) s _ _ w0 w hi hB (by simp only [filter_parser_stop.f]; rw [if_neg (by have := badI_nn s m; omega)]; rfl)).mono fun e w' ⟨he, h1, h2, h3⟩ => ⟨he, ⟨hok2, h1⟩, h2, h3⟩

theorem mark_f {s m : ByteArray} (hs : s.size ≤ 1000) (hm : m.size ≤ 1000) {i : Nat} (hi : i ≤ s.size) :
    filter_parser_mark.f (s.size + 1) s (i : Int) (-1) m = some (s, ((s.size - (markL (bytes m) (skip (dropB s i))).l.length : Nat) : Int), badI s (markL (bytes m) (skip (dropB s i))).bad) := by
  have hsuf : skip (dropB s i) <:+ bytes s := (skip_suf _).trans (drop_suf s i)
  have hd := suf_drop hsuf
  have hle : (skip (dropB s i)).length ≤ s.size := by have := hsuf.length_le; rwa [bytes_len] at this
  simp only [filter_parser_mark.f]
  rw [blanks_f hs hi]
  simp only [Option.bind_some]
  generalize skip (dropB s i) = L at hd hle ⊢
  rw [if_neg (by omega), wrap_in (by omega) (by omega)]
  have hml : (bytes m).length = m.size := bytes_len m
  by_cases h1 : (s.size : Int) - ((s.size - L.length : Nat) : Int) < (m.size : Int)
  · have hp : (bytes m).isPrefixOf L = false := by
      rw [Bool.eq_false_iff]
      intro hp
      have := (List.isPrefixOf_iff_prefix.mp hp).length_le
      omega
    rw [if_pos h1]
    simp [markL, hp, filter_parser_stop.f, badI]
  · rw [if_neg h1, if_pos (by omega), wrap_in (by omega) (by omega), if_pos (by omega), if_pos (by omega)]
    have he : (s.extract (((s.size - L.length : Nat) : Int)).toNat ((((s.size - L.length : Nat) : Int) + (m.size : Int))).toNat).toList = L.take m.size := by
      rw [Lib.extract_toList, show (((s.size - L.length : Nat) : Int)).toNat = s.size - L.length by omega, show ((((s.size - L.length : Nat) : Int) + (m.size : Int))).toNat - (s.size - L.length) = m.size by omega]
      exact congrArg _ hd.symm
    rw [he, Lib.toList_data]
    by_cases h2 : L.take m.size = m.data.toList
    · have hp : (bytes m).isPrefixOf L = true := List.isPrefixOf_iff_prefix.mpr (List.prefix_iff_eq_take.mpr (by rw [hml]; exact h2.symm))
      rw [if_pos h2]
      simp [markL, hp, badI, hml]
      omega
    · have hp : (bytes m).isPrefixOf L = false := by
        rw [Bool.eq_false_iff]
        intro hp
        have := List.prefix_iff_eq_take.mp (List.isPrefixOf_iff_prefix.mp hp)
        rw [hml] at this
        exact h2 this.symm
      rw [if_neg h2]
      simp [markL, hp, filter_parser_stop.f, badI]
theorem mark_bad {s m : ByteArray} (i : Int) {b : Int} (hb : 0 ≤ b) : filter_parser_mark.f 1 s i b m = some (s, i, b) := by
  simp only [filter_parser_mark.f]
  rw [blanks_bad i hb]
  simp only [Option.bind_some]
  rw [if_pos hb]
  simp only [filter_parser_stop.f]
  rw [if_neg (by omega)]
  rfl
theorem mark_P (m : ByteArray) (hm : m.size ≤ 1000) (hs : s.size ≤ 1000) (hI : IsP w0 w g s st) (hB : Below w0.heap.size w0 w) :
    Calls Try.prog 71 #[.pointer (some ⟨g, 0, none⟩), .string m] w (PostP w0 w g s (.tuple #[]) (markS (bytes m) st)) := by
  obtain ⟨hok, hi⟩ := hI
  have hok2 := markS_ok (m := bytes m) hok
  obtain ⟨l, b⟩ := st
  cases b with
  | none =>
    have h := mark_f hs hm (Nat.sub_le s.size l.length)
    rw [P_drop (st := ⟨l, none⟩) hok] at h
    exact (filter_parser_mark.calls _ g s _ _ _ _ _ _ w0 w hi hB h).mono fun e w' ⟨he, h1, h2, h3⟩ => ⟨he, ⟨hok2, h1⟩, h2, h3⟩
  | some n =>
    exact (filter_parser_mark.calls _ g s _ _ _ _ _ _ w0 w hi hB (mark_bad _ (badI_nn s n))).mono fun e w' ⟨he, h1, h2, h3⟩ => ⟨he, ⟨hok2, h1⟩, h2, h3⟩
end
theorem isLet_u (c : UInt8) : isLet (c.toNat : Int) = isL c := by
  rw [isLet, isL, decide_eq_decide, UInt8.le_iff_toNat_le, UInt8.le_iff_toNat_le, show (97 : UInt8).toNat = 97 from rfl, show (122 : UInt8).toNat = 122 from rfl]
  omega
theorem isDig_u (c : UInt8) : isDig (c.toNat : Int) = isD c := by
  rw [isDig, isD, decide_eq_decide, UInt8.le_iff_toNat_le, UInt8.le_iff_toNat_le, show (48 : UInt8).toNat = 48 from rfl, show (57 : UInt8).toNat = 57 from rfl]
  omega
theorem take_while_len (p : UInt8 → Bool) (r : List UInt8) : r.take (r.takeWhile p).length = r.takeWhile p := (List.prefix_iff_eq_take.mp (List.takeWhile_prefix p)).symm
theorem while_len (p : UInt8 → Bool) (r : List UInt8) : (r.takeWhile p).length + (r.dropWhile p).length = r.length := by
  rw [← List.length_append, List.takeWhile_append_dropWhile]
theorem wordGo_tail (s : ByteArray) (frm : Nat) : ∀ (k at_ : Nat), frm < at_ → at_ ≤ s.size → s.size - at_ ≤ k → wordGo s frm k at_ = at_ + ((dropB s at_).takeWhile isA).length
  | 0, at_, _, h1, h2 => by rw [dropB_nil (by omega)]; simp [wordGo]
  | k + 1, at_, h0, h1, h2 => by
    rcases Nat.lt_or_ge at_ s.size with hlt | hge
    · have hc := dropB_cons hlt
      obtain ⟨_, hb, _⟩ := bt_cons hc
      have hok : wordOk s frm at_ = isA s[at_] := by simp [wordOk, hb, isLet_u, isDig_u, isA, h0]
      unfold wordGo
      rw [hok, hc, List.takeWhile_cons]
      by_cases ha : isA s[at_] = true
      · rw [if_pos ⟨hlt, ha⟩, if_pos ha, wordGo_tail s frm k (at_ + 1) (by omega) (by omega) (by omega)]
        simp
        omega
      · rw [if_neg (fun h => ha h.2), if_neg ha]
        simp
    · unfold wordGo
      rw [if_neg (fun h => by omega), dropB_nil hge]
      simp
theorem wordGo_head (s : ByteArray) (l : List UInt8) (hl : l <:+ bytes s) (hle : l.length ≤ s.size) : wordGo s (s.size - l.length) (s.size - (s.size - l.length)) (s.size - l.length) = s.size - (wordL l).2.l.length := by
  have hd := suf_drop hl
  match l with
  | [] => simp [wordL, wordGo]
  | c :: r =>
    have hlt : s.size - (c :: r).length < s.size := by simp at hle ⊢; omega
    obtain ⟨_, hb, h3⟩ := bt_cons hd.symm
    obtain ⟨k, hk⟩ : ∃ k, s.size - (s.size - (c :: r).length) = k + 1 := ⟨r.length, by simp at hle ⊢; omega⟩
    rw [hk]
    have hok : wordOk s (s.size - (c :: r).length) (s.size - (c :: r).length) = isL c := by simp only [wordOk, hb, isLet_u]; simp
    unfold wordGo
    rw [hok]
    by_cases hc : isL c = true
    · have hw := while_len isA r
      rw [if_pos ⟨hlt, hc⟩, wordGo_tail _ _ _ _ (by omega) (by omega) (by simp at hk hle ⊢; omega), h3]
      simp only [wordL, hc, if_true]
      simp at hle ⊢
      omega
    · rw [if_neg (fun h => hc h.2)]
      simp [wordL, hc]
theorem word_str (s : ByteArray) (l : List UInt8) (hl : l <:+ bytes s) (hle : l.length ≤ s.size) : s.extract (s.size - l.length) (s.size - (wordL l).2.l.length) = ⟨(wordL l).1.toArray⟩ := by
  have hd := suf_drop hl
  have h : (s.extract (s.size - l.length) (s.size - (wordL l).2.l.length)).data.toList = (wordL l).1 := by
    rw [Lib.extract_data, show s.data.toList.drop (s.size - l.length) = l from hd.symm]
    match l with
    | [] => simp [wordL]
    | c :: r =>
      have hw := while_len isA r
      by_cases hc : isL c = true
      · simp only [wordL, hc, if_true]
        rw [show s.size - (r.dropWhile isA).length - (s.size - (c :: r).length) = (r.takeWhile isA).length + 1 by simp at hle ⊢; omega, List.take_succ_cons, take_while_len]
      · simp [wordL, hc]
  rw [← h]
theorem word_state (s : ByteArray) (l : List UInt8) (hle : l.length ≤ s.size) : (if s.size - (wordL l).2.l.length = s.size - l.length then ((s.size - l.length : Nat) : Int) else -1) = badI s (wordL l).2.bad := by
  match l with
  | [] => simp [wordL, badI]
  | c :: r =>
    have hw := while_len isA r
    by_cases hc : isL c = true
    · simp only [wordL, hc, if_true]
      rw [if_neg (by simp at hle ⊢; omega)]
      rfl
    · simp [wordL, hc, badI]

set_option maxHeartbeats 1000000 in
set_option maxRecDepth 100000 in
theorem word_bad (g : Nat) (s : ByteArray) (at0 : Nat) (b : Int) (w0 w : World) (hI : IsS132 w0 w g s at0 b) (hB : Below w0.heap.size w0 w) (h1 : at0 ≤ s.size) (hs : s.size ≤ 1000) (hb : 0 ≤ b) :
    Calls Try.prog 53 #[.pointer (some ⟨g, 0, none⟩)] w fun e w' => e = .returned (.string ⟨#[]⟩) ∧ IsS132 w0 w' g s at0 b ∧ Below w0.heap.size w0 w' ∧ KeepBut w w' g none := by
  have HI := Aside0.mk hI
  have HB := Aside0.mk hB
  have HK := Aside0.mk (KeepBut.refl w g none)
  have HS := Aside0.mk hs
  have HX := Aside0.mk (show s.extract at0 at0 = ⟨#[]⟩ by simp; rfl)
  clear hI hB
  go_enter Try.func53, Try.ntmps53
  go_wp2_with (go_at_call 52; (with_reducible refine (filter_parser_blanks.calls 1 g s at0 b s at0 b w0 _ ?side1 ?side2 (blanks_bad _ hb)).mono ?_); (case side1 => (repeat (first | (with_reducible first | exact HI.out | apply IsS132.alloc | apply IsS132.drewN | apply IsS132.drew | apply IsS132.set_0 | apply IsS132.set_1 | apply IsS132.set_2) | exact HI.out))); (case side2 => (repeat (first | (with_reducible first | exact HB.out | apply below_alloc | apply pw_below_drewN | apply below_drew1 | refine below_set ?_ (IsS132.ge HI.out)) | exact HB.out))); rintro e w2 ⟨rfl, hi, hb, hk⟩; have n0_ := Aside0.mk hi; have n1_ := Aside0.mk hb; have n2_ := Aside0.mk (KeepBut.trans (by (repeat (first | (with_reducible first | exact HK.out | apply KeepBut.set_ | apply keep_drewN | apply keep_drew | apply keep_alloc) | exact HK.out))) hk (Or.inl rfl)); clear HI HB HK hi hb hk; have HI := n0_; have HB := n1_; have HK := n2_; clear n0_ n1_ n2_; obtain ⟨HG, hg⟩ := HI.out; have hc0 := cellS132_0 HG; have hc1 := cellS132_1 HG; have hc2 := cellS132_2 HG; have hf0 := blk_frozen HG 0; have hf1 := blk_frozen HG 1; have hf2 := blk_frozen HG 2; clear HG hg)
  clear hc0 hc1 hc2 hf0 hf1 hf2
  go_loopg [] 1 (fun _ wr => Aside0 (IsS132 w0 wr g s at0 b) ∧ Aside0 (KeepBut w wr g none) ∧ Aside0 (Below w0.heap.size w0 wr))
  case atStart => exact ⟨HI, HK, HB⟩
  case round =>
    clear HI HK HB
    obtain ⟨HI, HK, HB⟩ := hrel
    obtain ⟨HG, hg⟩ := HI.out
    have hc0 := cellS132_0 HG
    have hc1 := cellS132_1 HG
    have hc2 := cellS132_2 HG
    have hf0 := blk_frozen HG 0
    have hf1 := blk_frozen HG 1
    have hf2 := blk_frozen HG 2
    clear HG hg
    have q1 := decide_eq_false (show ¬ b < 0 by omega)
    go_wp2_with fail
    go_quiet (fail)
    go_wp2_with (go_at_call 54; (with_reducible refine (filter_parser_stop.calls g s at0 b at0 s at0 b w0 _ ?side1 ?side2 (by simp only [filter_parser_stop.f]; rw [if_neg (by omega)])).mono ?_); (case side1 => (repeat (first | (with_reducible first | exact HI.out | apply IsS132.alloc | apply IsS132.drewN | apply IsS132.drew | apply IsS132.set_0 | apply IsS132.set_1 | apply IsS132.set_2) | exact HI.out))); (case side2 => (repeat (first | (with_reducible first | exact HB.out | apply below_alloc | apply pw_below_drewN | apply below_drew1 | refine below_set ?_ (IsS132.ge HI.out)) | exact HB.out))); rintro e w2 ⟨rfl, hi, hb, hk⟩; have n0_ := Aside0.mk hi; have n1_ := Aside0.mk hb; have n2_ := Aside0.mk (KeepBut.trans (by (repeat (first | (with_reducible first | exact HK.out | apply KeepBut.set_ | apply keep_drewN | apply keep_drew | apply keep_alloc) | exact HK.out))) hk (Or.inl rfl)); clear HI HB HK hi hb hk; have HI := n0_; have HB := n1_; have HK := n2_; clear n0_ n1_ n2_; obtain ⟨HG, hg⟩ := HI.out; have hc0 := cellS132_0 HG; have hc1 := cellS132_1 HG; have hc2 := cellS132_2 HG; have hf0 := blk_frozen HG 0; have hf1 := blk_frozen HG 1; have hf2 := blk_frozen HG 2; clear HG hg)
    go_quiet (fail)
    go_wp2
    go_ret
    exact ⟨by first | rfl | (rw [HX.out]; rfl) | simp, by (repeat (first | (with_reducible first | exact HI.out | apply IsS132.alloc | apply IsS132.drewN | apply IsS132.drew | apply IsS132.set_0 | apply IsS132.set_1 | apply IsS132.set_2) | exact HI.out)), by (repeat (first | (with_reducible first | exact HB.out | apply below_alloc | apply pw_below_drewN | apply below_drew1 | refine below_set ?_ (IsS132.ge HI.out)) | exact HB.out)), by (repeat (first | (with_reducible first | exact HK.out | apply KeepBut.set_ | apply keep_drewN | apply keep_drew | apply keep_alloc) | exact HK.out))⟩
set_option maxHeartbeats 1000000 in
set_option maxRecDepth 100000 in
theorem text_mbad (k : Nat) (g : Nat) (s : ByteArray) (at0 at1 : Nat) (b0 : Int) {b : Int} (w0 w : World) (hI : IsS132 w0 w g s at0 b0) (hB : Below w0.heap.size w0 w) (hm : filter_parser_mark.f k s at0 b0 (⟨#[34]⟩ : ByteArray) = some (s, (at1 : Int), b)) (hb : 0 ≤ b) :
    Calls Try.prog 72 #[.pointer (some ⟨g, 0, none⟩)] w fun e w' => e = .returned (.string ⟨#[]⟩) ∧ IsS132 w0 w' g s at1 b ∧ Below w0.heap.size w0 w' ∧ KeepBut w w' g none := by
  have HM := Aside0.mk hm
  have HI := Aside0.mk hI
  have HB := Aside0.mk hB
  have HK := Aside0.mk (KeepBut.refl w g none)
  clear hI hB hm
  go_enter Try.func72, Try.ntmps72
  go_wp2_with (go_at_call 71; (with_reducible refine (filter_parser_mark.calls k g s at0 b0 (⟨#[34]⟩ : ByteArray) s at1 b w0 _ ?side1 ?side2 HM.out).mono ?_); (case side1 => (repeat (first | (with_reducible first | exact HI.out | apply IsS132.alloc | apply IsS132.drewN | apply IsS132.drew | apply IsS132.set_0 | apply IsS132.set_1 | apply IsS132.set_2) | exact HI.out))); (case side2 => (repeat (first | (with_reducible first | exact HB.out | apply below_alloc | apply pw_below_drewN | apply below_drew1 | refine below_set ?_ (IsS132.ge HI.out)) | exact HB.out))); rintro e w2 ⟨rfl, hi, hb, hk⟩; have n0_ := Aside0.mk hi; have n1_ := Aside0.mk hb; have n2_ := Aside0.mk (KeepBut.trans (by (repeat (first | (with_reducible first | exact HK.out | apply KeepBut.set_ | apply keep_drewN | apply keep_drew | apply keep_alloc) | exact HK.out))) hk (Or.inl rfl)); clear HI HB HK hi hb hk; have HI := n0_; have HB := n1_; have HK := n2_; clear n0_ n1_ n2_; obtain ⟨HG, hg⟩ := HI.out; have hc0 := cellS132_0 HG; have hc1 := cellS132_1 HG; have hc2 := cellS132_2 HG; have hf0 := blk_frozen HG 0; have hf1 := blk_frozen HG 1; have hf2 := blk_frozen HG 2; clear HG hg)
  clear hc0 hc1 hc2 hf0 hf1 hf2
  go_loopg [] 1 (fun _ wr => Aside0 (IsS132 w0 wr g s at1 b) ∧ Aside0 (KeepBut w wr g none) ∧ Aside0 (Below w0.heap.size w0 wr))
  case atStart => exact ⟨HI, HK, HB⟩
  case round =>
    clear HI HK HB
    obtain ⟨HI, HK, HB⟩ := hrel
    obtain ⟨HG, hg⟩ := HI.out
    have hc0 := cellS132_0 HG
    have hc1 := cellS132_1 HG
    have hc2 := cellS132_2 HG
    have hf0 := blk_frozen HG 0
    have hf1 := blk_frozen HG 1
    have hf2 := blk_frozen HG 2
    clear HG hg
    have q1 := decide_eq_false (show ¬ b < 0 by omega)
    go_wp2
    go_ret
    exact ⟨by first | rfl | simp, by (repeat (first | (with_reducible first | exact HI.out | apply IsS132.alloc | apply IsS132.drewN | apply IsS132.drew | apply IsS132.set_0 | apply IsS132.set_1 | apply IsS132.set_2) | exact HI.out)), by (repeat (first | (with_reducible first | exact HB.out | apply below_alloc | apply pw_below_drewN | apply below_drew1 | refine below_set ?_ (IsS132.ge HI.out)) | exact HB.out)), by (repeat (first | (with_reducible first | exact HK.out | apply KeepBut.set_ | apply keep_drewN | apply keep_drew | apply keep_alloc) | exact HK.out))⟩

section
variable {g : Nat} {s : ByteArray} {w0 w : World} {st : St}
theorem word_P (hs : s.size ≤ 1000) (hI : IsP w0 w g s st) (hB : Below w0.heap.size w0 w) :
    Calls Try.prog 53 #[.pointer (some ⟨g, 0, none⟩)] w (PostP w0 w g s (.string ⟨(wordS st).1.toArray⟩) (wordS st).2) := by
  obtain ⟨hok, hi⟩ := hI
  have hok2 := wordS_ok hok
  have hle := P_le hok
  obtain ⟨l, b⟩ := st
  cases b with
  | none =>
    have h := blanks_f hs (Nat.sub_le s.size l.length)
    rw [P_drop (st := ⟨l, none⟩) hok] at h
    have hsuf : skip l <:+ bytes s := (skip_suf _).trans hok.1
    have hle2 : (skip l).length ≤ s.size := by have := hsuf.length_le; rwa [bytes_len] at this
    refine (word_calls _ g s _ _ w0 w hi hB hs h (by omega)).mono ?_
    rintro e w' ⟨en, he0, he, h1, h2, h3⟩
    rw [wordGo_head s _ hsuf hle2] at he0
    subst he0
    rw [word_state s _ hle2] at h1
    rw [word_str s _ hsuf hle2] at he
    exact ⟨he, ⟨hok2, h1⟩, h2, h3⟩
  | some n =>
    exact (word_bad g s _ _ w0 w hi hB (by omega) hs (badI_nn s n)).mono fun e w' ⟨he, h1, h2, h3⟩ => ⟨he, ⟨hok2, h1⟩, h2, h3⟩

theorem text_P (hs : s.size ≤ 1000) (hI : IsP w0 w g s st) (hB : Below w0.heap.size w0 w) :
    Calls Try.prog 72 #[.pointer (some ⟨g, 0, none⟩)] w (PostP w0 w g s (.string ⟨(textS st).1.toArray⟩) (textS st).2) := by
  obtain ⟨hok, hi⟩ := hI
  have hok2 := textS_ok hok
  have hle := P_le hok
  obtain ⟨l, b⟩ := st
  cases b with
  | some n =>
    have ht : textS ⟨l, some n⟩ = ([], ⟨l, some n⟩) := textS_bad rfl
    rw [ht] at hok2 ⊢
    exact (text_mbad 1 g s _ _ _ w0 w hi hB (mark_bad _ (badI_nn s n)) (badI_nn s n)).mono fun e w' ⟨he, h1, h2, h3⟩ => ⟨he, ⟨hok2, h1⟩, h2, h3⟩
  | none =>
    have h := mark_f (m := (⟨#[34]⟩ : ByteArray)) hs (by decide) (Nat.sub_le s.size l.length)
    rw [P_drop (st := ⟨l, none⟩) hok] at h
    have hm : markL (bytes (⟨#[34]⟩ : ByteArray)) (skip l) = markS [34] ⟨l, none⟩ := rfl
    rw [hm] at h
    have hmok := markS_ok (m := [34]) hok
    cases hb : (markS [34] ⟨l, none⟩).bad with
    | none =>
      have ht : textS ⟨l, none⟩ = textR (textL (markS [34] ⟨l, none⟩).l []) := by unfold textS; rw [hb]
      rw [ht] at hok2 ⊢
      rw [hb] at h
      refine (text_calls _ g s _ _ w0 w hi hB hs h (Nat.sub_le _ _)).mono ?_
      rw [P_drop hmok]
      rintro e w' (⟨t, r, hx, he, h1, h2, h3⟩ | ⟨r, hx, he, h1, h2, h3⟩)
      · rw [hx] at hok2 ⊢
        exact ⟨he, ⟨hok2, h1⟩, h2, h3⟩
      · rw [hx] at hok2 ⊢
        exact ⟨he, ⟨hok2, h1⟩, h2, h3⟩
    | some n =>
      have ht : textS ⟨l, none⟩ = ([], markS [34] ⟨l, none⟩) := by unfold textS; rw [hb]
      rw [ht] at hok2 ⊢
      rw [hb] at h
      refine (text_mbad _ g s _ _ _ w0 w hi hB h (badI_nn s n)).mono fun e w' ⟨he, h1, h2, h3⟩ => ⟨he, ⟨hok2, ?_⟩, h2, h3⟩
      rw [hb]
      exact h1
end
end Go.Proofs.Ytlokmijoaocofaa.Mine
end
section
/-
  The contract of the filter parser's number, in terms of Plain. Conditions: the parser's block, the text at most 1000 bytes.
-/
namespace Go.Proofs.Ytlokmijoaocofaa.Mine
open Go.RowKit Go.Proofs.YtlokmijoaocofaaW.PrintWords Go.Proofs.YtlokmijoaocofaaW.PrintLast Go.Proofs.YtlokmijoaocofaaW.PrintMore
open Go.Proofs.Ytlokmijoaocofaa.PBoardAgain

theorem valD_snoc (ds : List UInt8) (c : UInt8) : valD (ds ++ [c]) = 10 * valD ds + ((c.toNat : Int) - 48) := by simp [valD]
theorem valD_go (ds : List UInt8) : ∀ n : Int, 0 ≤ n → (∀ c ∈ ds, isD c = true) → 0 ≤ ds.foldl (fun (n : Int) (c : UInt8) => 10 * n + ((c.toNat : Int) - 48)) n ∧ ds.foldl (fun (n : Int) (c : UInt8) => 10 * n + ((c.toNat : Int) - 48)) n < (n + 1) * 10 ^ ds.length := by
  induction ds with
  | nil => intro n h0 _; simp; omega
  | cons c r ih =>
    intro n h0 h
    have hc := h c (by simp)
    rw [← isDig_u] at hc
    simp only [isDig, decide_eq_true_eq] at hc
    obtain ⟨h1, h2⟩ := ih (10 * n + ((c.toNat : Int) - 48)) (by omega) (fun x hx => h x (by simp [hx]))
    refine ⟨h1, Int.lt_of_lt_of_le h2 ?_⟩
    rw [List.length_cons, Int.pow_succ, Int.mul_comm (10 ^ r.length) 10, ← Int.mul_assoc]
    exact Int.mul_le_mul_of_nonneg_right (by omega) (Int.pow_nonneg (by omega))
theorem valD_bounds (ds : List UInt8) (h : ∀ c ∈ ds, isD c = true) : 0 ≤ valD ds ∧ valD ds < 10 ^ ds.length := by
  have := valD_go ds 0 (by omega) h
  unfold valD
  rw [show ((0 : Int) + 1) * 10 ^ ds.length = 10 ^ ds.length by omega] at this
  exact this
theorem digit_f (c : UInt8) : filter_digit.f (c.toNat : Int) = some (isD c) := by
  rw [← isDig_u]
  unfold filter_digit.f isDig
  split
  · congr 1
    rw [decide_eq_decide]
    omega
  · simp
    omega
theorem stop_f (s : ByteArray) (a b : Int) : filter_parser_stop.f s a (-1) b = some (s, a, b) := by
  unfold filter_parser_stop.f
  rw [if_pos (by omega)]

theorem number_end (s : ByteArray) (first at_ frm : Nat) (sg : Int) (hsg : sg = 1 ∨ sg = -1) (pre : List UInt8) (hs : s.size ≤ 1000) (_hfr : frm ≤ s.size)
    (h0 : first ≤ at_) (h1 : at_ ≤ s.size) (hp : pre.length = at_ - first) (h10 : pre.length ≤ 10) (hd : dropB s first = pre ++ dropB s at_) (hpd : ∀ c ∈ pre, isD c = true)
    (hend : (dropB s at_).takeWhile isD = []) (k : Nat) :
    filter_parser_number.j3 (k + 1) ((s.size - frm : Nat) : Int) sg (valD pre) (first : Int) false s (at_ : Int) (-1)
      = some ((numD frm sg (dropB s first)).1, s, ((s.size - (numD frm sg (dropB s first)).2.l.length : Nat) : Int), badI s (numD frm sg (dropB s first)).2.bad) := by
  have htw : (dropB s first).takeWhile isD = pre := by
    rw [hd, List.takeWhile_append_of_pos hpd, hend, List.append_nil]
  have hdw : (dropB s first).dropWhile isD = dropB s at_ := by
    rw [hd, List.dropWhile_append_of_pos hpd]
    cases hx : dropB s at_ with
    | nil => rfl
    | cons c r =>
      rw [hx] at hend
      have : isD c = false := by
        rw [List.takeWhile_cons] at hend
        cases hc : isD c with
        | true => rw [hc] at hend; simp at hend
        | false => rfl
      rw [List.dropWhile_cons, this]
      simp
  have hb := valD_bounds pre hpd
  have hbig : valD pre ≤ 10000000000 := by
    have h3 : (10 : Int) ^ pre.length ≤ 10 ^ 10 := by exact_mod_cast Nat.pow_le_pow_right (by omega : 0 < 10) h10
    have : (10 : Int) ^ 10 = 10000000000 := by decide
    omega
  have hat : ((s.size - (dropB s at_).length : Nat) : Int) = (at_ : Int) := by rw [dropB_len]; omega
  have hw : wrap64 (sg * valD pre) = sg * valD pre := by
    rcases hsg with rfl | rfl
    · exact wrap_in (by omega) (by omega)
    · exact wrap_in (by omega) (by omega)
  have key : ∀ b : Bool, (b = true ↔ numBad sg (dropB s first)) → (if b = true then (some (sg * valD pre, s, (at_ : Int), ((s.size - frm : Nat) : Int))) else (some (sg * valD pre, s, (at_ : Int), (-1 : Int)))) = some ((numD frm sg (dropB s first)).1, s, ((s.size - (numD frm sg (dropB s first)).2.l.length : Nat) : Int), badI s (numD frm sg (dropB s first)).2.bad) := by
    intro b hbb
    unfold numD
    rw [htw, if_neg (show ¬ 10 < pre.length by omega), hdw]
    by_cases hbad : numBad sg (dropB s first)
    · rw [if_pos (hbb.mpr hbad), if_pos hbad]
      simp only [hat]
      rfl
    · rw [if_neg (fun h => hbad (hbb.mp h)), if_neg hbad]
      simp only [hat]
      rfl
  simp only [filter_parser_number.j3, hw, stop_f]
  rw [if_neg (by simp)]
  simp only [Option.bind_some]
  unfold numBad at key
  rw [htw] at key
  by_cases e1 : (at_ : Int) = (first : Int)
  · rw [if_pos e1]
    have := key true (by simp; exact Or.inl (List.eq_nil_of_length_eq_zero (by omega)))
    simpa using this
  · have hpne : pre ≠ [] := by intro h; rw [h] at hp; simp at hp; omega
    rw [if_neg e1]
    have hneg : ∀ (x : Prop), x = (sg < 0 ∧ valD pre = 0) → ((x) ↔ (if sg < 0 then (if valD pre = 0 then True else False) else False)) := by
      intro x hx
      rw [hx]
      by_cases a : sg < 0 <;> by_cases b : valD pre = 0 <;> simp [a, b]
    have tail : ∀ (q : Prop), (¬ q) → (q = (1 < pre.length ∧ (dropB s first).head? = some 48)) →
        (if sg < 0 then (if valD pre = 0 then (some (sg * valD pre, s, (at_ : Int), ((s.size - frm : Nat) : Int))) else (some (sg * valD pre, s, (at_ : Int), (-1 : Int)))) else (some (sg * valD pre, s, (at_ : Int), (-1 : Int)))) = some ((numD frm sg (dropB s first)).1, s, ((s.size - (numD frm sg (dropB s first)).2.l.length : Nat) : Int), badI s (numD frm sg (dropB s first)).2.bad) := by
      intro q hq hqe
      rw [hqe] at hq
      have := key (decide (sg < 0 ∧ valD pre = 0)) (by
        simp only [decide_eq_true_eq]
        constructor
        · exact fun h => Or.inr (Or.inr h)
        · rintro (h | h | h)
          · exact absurd h hpne
          · exact absurd h hq
          · exact h)
      rw [← this]
      by_cases a : sg < 0 <;> by_cases b : valD pre = 0 <;> simp [a, b]
    rw [wrap_in (by omega) (by omega)]
    by_cases e2 : (at_ : Int) - (first : Int) > 1
    · rw [if_pos e2, if_pos (by omega), if_pos (by omega)]
      obtain ⟨c, r, hc⟩ : ∃ c r, dropB s first = c :: r := ⟨_, _, dropB_cons (by omega)⟩
      obtain ⟨_, hbt, _⟩ := bt_cons hc
      rw [hbt]
      by_cases e3 : (c.toNat : Int) = 48
      · rw [if_pos e3]
        have := key true (by simp; exact Or.inr (Or.inl ⟨by omega, by rw [hc]; simp; exact UInt8.toNat_inj.mp (by simpa using (by omega : c.toNat = 48))⟩))
        simpa using this
      · rw [if_neg e3]
        refine tail _ ?_ rfl
        rintro ⟨_, h⟩
        rw [hc] at h
        simp at h
        rw [h] at e3
        exact e3 rfl
    · rw [if_neg e2]
      refine tail _ ?_ rfl
      rintro ⟨h, _⟩
      omega

theorem number_l0 (s : ByteArray) (first frm : Nat) (sg : Int) (hsg : sg = 1 ∨ sg = -1) (hs : s.size ≤ 1000) (hfr : frm ≤ s.size) (d : Nat) : ∀ (k at_ : Nat) (pre : List UInt8),
    first ≤ at_ → at_ ≤ s.size → pre.length = at_ - first → pre.length ≤ 10 → dropB s first = pre ++ dropB s at_ → (∀ c ∈ pre, isD c = true) → s.size - at_ = d → 2 * d + 1 < k →
    filter_parser_number.l0 k ((s.size - frm : Nat) : Int) sg (valD pre) (first : Int) s (at_ : Int) (-1)
      = some ((numD frm sg (dropB s first)).1, s, ((s.size - (numD frm sg (dropB s first)).2.l.length : Nat) : Int), badI s (numD frm sg (dropB s first)).2.bad) := by
  induction d with
  | zero =>
    intro k at_ pre h0 h1 hp h10 hd hpd he hk
    obtain ⟨k, rfl⟩ : ∃ m, k = m + 2 := ⟨k - 2, by omega⟩
    simp only [filter_parser_number.l0]
    rw [if_neg (by omega)]
    exact number_end s first at_ frm sg hsg pre hs hfr h0 h1 hp h10 hd hpd (by rw [dropB_nil (by omega)]; rfl) k
  | succ d ih =>
    intro k at_ pre h0 h1 hp h10 hd hpd he hk
    obtain ⟨k, rfl⟩ : ∃ m, k = m + 2 := ⟨k - 2, by omega⟩
    have hlt : at_ < s.size := by omega
    have hc := dropB_cons hlt
    generalize hcc : s[at_]'hlt = c at hc
    obtain ⟨_, hbt, _⟩ := bt_cons hc
    simp only [filter_parser_number.l0]
    rw [if_pos (by omega), if_pos (by omega), hbt, digit_f]
    simp only [Option.bind_some]
    cases hdc : isD c with
    | false => exact number_end s first at_ frm sg hsg pre hs hfr h0 h1 hp h10 hd hpd (by rw [hc, List.takeWhile_cons, hdc]; simp) k
    | true =>
      have hdd := hdc
      rw [← isDig_u] at hdd
      simp only [isDig, decide_eq_true_eq] at hdd
      simp only [filter_parser_number.j3, if_true, stop_f, Option.bind_some]
      rw [wrap_in (by omega) (by omega)]
      by_cases h11 : (at_ : Int) - (first : Int) ≥ 10
      · rw [if_pos h11]
        have h12 : 10 < ((dropB s first).takeWhile isD).length := by
          rw [hd, List.takeWhile_append_of_pos hpd, hc, List.takeWhile_cons, if_pos hdc]
          simp
          omega
        have h13 : (dropB s first).drop 10 = dropB s at_ := by
          rw [hd, ← show pre.length = 10 by omega, List.drop_left]
        unfold numD
        rw [if_pos h12]
        simp only [h13, dropB_len]
        have : ((s.size - (s.size - at_) : Nat) : Int) = (at_ : Int) := by omega
        rw [this]
        rfl
      · have hb := valD_bounds pre hpd
        have hbig : valD pre ≤ 1000000000 := by
          have h3 : (10 : Int) ^ pre.length ≤ 10 ^ 9 := by exact_mod_cast Nat.pow_le_pow_right (by omega : 0 < 10) (by omega : pre.length ≤ 9)
          have : (10 : Int) ^ 9 = 1000000000 := by decide
          omega
        rw [if_neg h11, if_pos (by omega), if_pos (by omega), hbt, Int.emod_eq_of_lt (by omega) (by omega), wrap_in (x := 10 * valD pre) (by omega) (by omega), wrap_in (x := 10 * valD pre + ((c.toNat : Int) - 48)) (by omega) (by omega), wrap_in (x := (at_ : Int) + 1) (by omega) (by omega),
          ← valD_snoc, show (at_ : Int) + 1 = ((at_ + 1 : Nat) : Int) by omega]
        refine ih k (at_ + 1) (pre ++ [c]) (by omega) (by omega) (by simp; omega) (by simp; omega) (by rw [hd, hc]; simp) ?_ (by omega) (by omega)
        intro x hx
        rcases List.mem_append.mp hx with hx | hx
        · exact hpd x hx
        · simp at hx; subst hx; exact hdc

theorem number_f {s : ByteArray} (hs : s.size ≤ 1000) {i : Nat} (hi : i ≤ s.size) :
    filter_parser_number.f (2 * s.size + 10) s (i : Int) (-1) = some ((numL (skip (dropB s i))).1, s, ((s.size - (numL (skip (dropB s i))).2.l.length : Nat) : Int), badI s (numL (skip (dropB s i))).2.bad) := by
  have hsuf : skip (dropB s i) <:+ bytes s := (skip_suf _).trans (drop_suf s i)
  have hd := suf_drop hsuf
  have hle : (skip (dropB s i)).length ≤ s.size := by have := hsuf.length_le; rwa [bytes_len] at this
  have hbl : filter_parser_blanks.f (2 * s.size + 10) s (i : Int) (-1) = some (s, ((s.size - (skip (dropB s i)).length : Nat) : Int), -1) := blanks_l0 s hs (s.size - i) _ i hi rfl (by omega)
  simp only [filter_parser_number.f]
  rw [hbl]
  simp only [Option.bind_some]
  generalize skip (dropB s i) = L at hd hle ⊢
  rw [if_neg (by omega)]
  have v0 : (0 : Int) = valD [] := rfl
  cases L with
  | nil =>
    rw [if_neg (by simp)]
    have e : filter_parser_number.j0 (2 * s.size + 10) ((s.size - ([] : List UInt8).length : Nat) : Int) 1 0 false s ((s.size - ([] : List UInt8).length : Nat) : Int) (-1) = filter_parser_number.l0 (2 * s.size + 8) ((s.size - ([] : List UInt8).length : Nat) : Int) 1 0 ((s.size - ([] : List UInt8).length : Nat) : Int) s ((s.size - ([] : List UInt8).length : Nat) : Int) (-1) := by
      rw [show 2 * s.size + 10 = (2 * s.size + 8) + 1 + 1 from rfl]
      simp [filter_parser_number.j0, filter_parser_number.j1]
    rw [e, v0]
    have h := number_l0 s (s.size - ([] : List UInt8).length) ([] : List UInt8).length 1 (Or.inl rfl) hs (by simp) (s.size - (s.size - ([] : List UInt8).length)) (2 * s.size + 8) (s.size - ([] : List UInt8).length) [] (Nat.le_refl _) (by omega) (by simp) (by simp) (by simp) (by simp) rfl (by omega)
    rw [← hd] at h
    exact h
  | cons c r =>
    have hlt : (s.size - (c :: r).length) < s.size := by simp at hle ⊢; omega
    obtain ⟨_, hbt, h3⟩ := bt_cons hd.symm
    rw [if_pos (by omega), if_pos (by omega), hbt]
    by_cases h45 : c = 45
    · have e : filter_parser_number.j0 (2 * s.size + 10) ((s.size - (c :: r).length : Nat) : Int) 1 0 ((c.toNat : Int) == 45) s ((s.size - (c :: r).length : Nat) : Int) (-1) = filter_parser_number.l0 (2 * s.size + 8) ((s.size - (c :: r).length : Nat) : Int) (-1) 0 ((s.size - (c :: r).length + 1 : Nat) : Int) s ((s.size - (c :: r).length + 1 : Nat) : Int) (-1) := by
        rw [show 2 * s.size + 10 = (2 * s.size + 8) + 1 + 1 from rfl]
        rw [show ((c.toNat : Int) == 45) = true by rw [h45]; rfl]
        simp only [filter_parser_number.j0, filter_parser_number.j1, if_true]
        rw [wrap_in (by omega) (by omega), show ((s.size - (c :: r).length : Nat) : Int) + 1 = ((s.size - (c :: r).length + 1 : Nat) : Int) by omega]
      rw [e, v0]
      have h := number_l0 s (s.size - (c :: r).length + 1) (c :: r).length (-1) (Or.inr rfl) hs hle (s.size - (s.size - (c :: r).length + 1)) (2 * s.size + 8) (s.size - (c :: r).length + 1) [] (Nat.le_refl _) (by omega) (by simp) (by simp) (by simp) (by simp) rfl (by omega)
      rw [h3] at h
      unfold numL
      simp only [if_pos h45]
      exact h
    · have e : filter_parser_number.j0 (2 * s.size + 10) ((s.size - (c :: r).length : Nat) : Int) 1 0 ((c.toNat : Int) == 45) s ((s.size - (c :: r).length : Nat) : Int) (-1) = filter_parser_number.l0 (2 * s.size + 8) ((s.size - (c :: r).length : Nat) : Int) 1 0 ((s.size - (c :: r).length : Nat) : Int) s ((s.size - (c :: r).length : Nat) : Int) (-1) := by
        rw [show 2 * s.size + 10 = (2 * s.size + 8) + 1 + 1 from rfl]
        have : ((c.toNat : Int) == 45) = false := by rw [show (45 : Int) = ((45 : Nat) : Int) from rfl, c_eq (by decide)]; simpa using h45
        rw [this]
        simp [filter_parser_number.j0, filter_parser_number.j1]
      rw [e, v0]
      have h := number_l0 s (s.size - (c :: r).length) (c :: r).length 1 (Or.inl rfl) hs hle (s.size - (s.size - (c :: r).length)) (2 * s.size + 8) (s.size - (c :: r).length) [] (Nat.le_refl _) (by omega) (by simp) (by simp) (by simp) (by simp) rfl (by omega)
      rw [← hd] at h
      unfold numL
      simp only [if_neg h45]
      exact h
theorem number_bad {s : ByteArray} (i : Int) {b : Int} (hb : 0 ≤ b) : filter_parser_number.f 1 s i b = some (0, s, i, b) := by
  simp only [filter_parser_number.f]
  rw [blanks_bad i hb]
  simp only [Option.bind_some]
  rw [if_pos hb]
section
variable {g : Nat} {s : ByteArray} {w0 w : World} {st : St}
theorem number_P (hs : s.size ≤ 1000) (hI : IsP w0 w g s st) (hB : Below w0.heap.size w0 w) :
    Calls Try.prog 73 #[.pointer (some ⟨g, 0, none⟩)] w (PostP w0 w g s (.int .i64 (numberS st).1) (numberS st).2) := by
  obtain ⟨hok, hi⟩ := hI
  have hok2 := numberS_ok hok
  obtain ⟨l, b⟩ := st
  cases b with
  | none =>
    have h := number_f hs (Nat.sub_le s.size l.length)
    rw [P_drop (st := ⟨l, none⟩) hok] at h
    exact (filter_parser_number.calls _ g s _ _ _ _ _ _ w0 w hi hB h).mono fun e w' ⟨he, h1, h2, h3⟩ => ⟨he, ⟨hok2, h1⟩, h2, h3⟩
  | some n =>
    exact (filter_parser_number.calls _ g s _ _ _ _ _ _ w0 w hi hB (number_bad _ (badI_nn s n))).mono fun e w' ⟨he, h1, h2, h3⟩ => ⟨he, ⟨hok2, h1⟩, h2, h3⟩
end
end Go.Proofs.Ytlokmijoaocofaa.Mine
end
section
/-
  The contract of the filter parser's pred, in terms of Plain. Conditions: the parser's block, the text at most 1000 bytes.
-/
namespace Go.Proofs.Ytlokmijoaocofaa.Mine
open Go.RowKit Go.Proofs.YtlokmijoaocofaaW.PrintWords Go.Proofs.YtlokmijoaocofaaW.PrintLast Go.Proofs.YtlokmijoaocofaaW.PrintMore
open Go.Proofs.Ytlokmijoaocofaa.PBoardAgain

section
variable {g : Nat} {s : ByteArray} {w0 w : World} {st : St}
theorem IsP.alloc (h : IsP w0 w g s st) (o : Obj) : IsP w0 (w.alloc o) g s st := ⟨h.1, h.2.alloc o⟩
theorem IsP.drewN (h : IsP w0 w g s st) (n : Nat) : IsP w0 (w.drewN n) g s st := h
theorem IsP.drew (h : IsP w0 w g s st) : IsP w0 w.drew g s st := h
theorem IsP.far {b j : Nat} {v : Value} (h : IsP w0 w g s st) (hn : g ≠ b) : IsP w0 (w.setCell ⟨b, j, none⟩ v) g s st := ⟨h.1, h.2.far (p := ⟨b, j, none⟩) hn v⟩
theorem keep_far' {u : World} {b j : Nat} {v : Value} (h : KeepBut u w g none) (hb : u.heap.size ≤ b) : KeepBut u (w.setCell ⟨b, j, none⟩ v) g none := keep_far h (p := ⟨b, j, none⟩) hb v
theorem blk_keep {w1 : World} {b : Nat} {o : Obj} (h : w.heap[b]? = some o) (hk : KeepBut w w1 g none) (hn : b ≠ g) : w1.heap[b]? = some o := (hk.2 b (blk_lt h) hn (by simp)).trans h

def prV (x : Pr) : Value := .agg #[.string ⟨x.name.toArray⟩, .int .i64 x.op, .int .i64 x.lo, .int .i64 x.hi, .string ⟨x.str.toArray⟩]
def zPr : Array Value := #[.string ⟨#[]⟩, .int .i64 0, .int .i64 0, .int .i64 0, .string ⟨#[]⟩]

set_option maxHeartbeats 4000000 in
set_option maxRecDepth 100000 in
theorem pred_P (hs : s.size ≤ 1000) (hI : IsP w0 w g s st) (hB : Below w0.heap.size w0 w) :
    Calls Try.prog 51 #[.pointer (some ⟨g, 0, none⟩)] w (PostP w0 w g s (prV (predS st).1) (predS st).2) := by
  have HI := Aside0.mk hI
  have HB := Aside0.mk hB
  have HK := Aside0.mk (KeepBut.refl w g none)
  have HL := Aside0.mk hB.size
  have HG := Aside0.mk (show g < w.heap.size from hI.2.lt)
  clear hI hB
  go_enter Try.func51, Try.ntmps51
  go_wp2_with fail
  (with_reducible refine (word_P (w0 := w0) (st := st) hs ?side1 ?side2).mono ?_)
  case side1 => (repeat (first | (with_reducible first | exact HI.out | apply IsP.alloc | apply IsP.drewN | apply IsP.drew | refine IsP.far ?_ NG1.out | refine IsP.far ?_ NG2.out) | exact HI.out))
  case side2 => (repeat (first | (with_reducible first | exact HB.out | apply below_alloc | apply pw_below_drewN | apply below_drew1 | refine below_set ?_ LB1.out | refine below_set ?_ LB2.out) | exact HB.out))
  rintro e w1 ⟨rfl, hi, hb, hk⟩
  generalize hE : wordS st = r1 at hi ⊢
  have Er1 := Aside0.mk hE
  clear hE
  have n0_ := Aside0.mk hi
  have n1_ := Aside0.mk hb
  have n2_ := Aside0.mk (KeepBut.trans (by (repeat (first | (with_reducible first | exact HK.out | apply keep_drewN | apply keep_drew | apply keep_alloc | refine keep_far ?_ LW1.out _ | refine keep_far ?_ LW2.out _) | exact HK.out))) hk (Or.inl rfl))
  clear HI HB HK
  have HI := n0_
  have HB := n1_
  have HK := n2_
  clear n0_ n1_ n2_ hi hb
  have hb1 : w1.heap[w.heap.size]? = some (.cells zPr 119 (0, 0)) := blk_keep (by exact heap_alloc_new w _) hk (by have := HG.out; omega)
  have BX1 := Aside0.mk hb1
  have NG1 := Aside0.mk (show g ≠ w.heap.size by have := HG.out; omega)
  have LW1 := Aside0.mk (Nat.le_refl w.heap.size)
  have LB1 := Aside0.mk (show w0.heap.size ≤ w.heap.size from HL.out)
  have HS1 := Aside0.mk (blk_lt hb1)
  clear hk hb1
  have HG1 := Aside0.mk (show g < w1.heap.size by have := HS1.out; have := HG.out; omega)
  have NG2 := Aside0.mk (show g ≠ w1.heap.size by have := HG1.out; omega)
  have LW2 := Aside0.mk (show w.heap.size ≤ w1.heap.size by have := HS1.out; omega)
  have LB2 := Aside0.mk (show w0.heap.size ≤ w1.heap.size by have := HS1.out; have := LB1.out; omega)
  go_wp2_with fail
  (with_reducible refine (blanks_P (w0 := w0) (st := r1.2) hs ?side1 ?side2).mono ?_)
  case side1 => (repeat (first | (with_reducible first | exact HI.out | apply IsP.alloc | apply IsP.drewN | apply IsP.drew | refine IsP.far ?_ NG1.out | refine IsP.far ?_ NG2.out) | exact HI.out))
  case side2 => (repeat (first | (with_reducible first | exact HB.out | apply below_alloc | apply pw_below_drewN | apply below_drew1 | refine below_set ?_ LB1.out | refine below_set ?_ LB2.out) | exact HB.out))
  rintro e w2 ⟨rfl, hi, hb, hk⟩
  generalize hE : blanksS r1.2 = s2 at hi ⊢
  have Es2 := Aside0.mk hE
  clear hE
  have n0_ := Aside0.mk hi
  have n1_ := Aside0.mk hb
  have n2_ := Aside0.mk (KeepBut.trans (by (repeat (first | (with_reducible first | exact HK.out | apply keep_drewN | apply keep_drew | apply keep_alloc | refine keep_far ?_ LW1.out _ | refine keep_far ?_ LW2.out _) | exact HK.out))) hk (Or.inl rfl))
  clear HI HB HK
  have HI := n0_
  have HB := n1_
  have HK := n2_
  clear n0_ n1_ n2_ hi hb
  have hb2 : w2.heap[w1.heap.size]? = some (.cells #[.string ⟨r1.1.toArray⟩, .int .i64 0, .int .i64 0, .int .i64 0, .string ⟨#[]⟩] 119 (0, 0)) := blk_keep (by exact heap_alloc_new w1 _) hk (by have := HG1.out; omega)
  have hb1 : w2.heap[w.heap.size]? = some (.cells zPr 119 (0, 0)) := blk_keep (by rw [Below.heap_alloc _ _ _ HS1.out]; exact BX1.out) hk (by have := HG.out; omega)
  have BX2 := Aside0.mk hb2
  clear BX1 hk
  have BX1 := Aside0.mk hb1
  clear hb1 hb2
  obtain ⟨hok, HG, hg⟩ := HI.out
  have HOK := Aside0.mk hok
  have hc0 := cellS132_0 HG
  have hc1 := cellS132_1 HG
  have hc2 := cellS132_2 HG
  have hf0 := blk_frozen HG 0
  have hf1 := blk_frozen HG 1
  have hf2 := blk_frozen HG 2
  clear HG hg hok
  generalize hq : s.size - s2.l.length = q at hc1
  have EQ := Aside0.mk hq
  have hqd := P_drop HOK.out
  have hql := P_le HOK.out
  rw [hq] at hqd
  clear hq
  cases hl : s2.l with
  | nil =>
    have q1 := decide_eq_false (show ¬ ((q : Int) < (s.size : Int)) by rw [hl] at hqd; have h5 := dropB_len s q; rw [hqd] at h5; simp at h5; omega)
    have q2 := decide_eq_false (show ¬ q < s.size by have := of_decide_eq_false q1; omega)
    have HL2 := Aside0.mk hl
    clear hl hqd
    go_wp2_with fail
    repeat (go_quiet (fail); try go_wp2_with fail)
    go_wp2_with fail
    (with_reducible refine (word_P (w0 := w0) (st := s2) hs ?side1 ?side2).mono ?_)
    case side1 => (repeat (first | (with_reducible first | exact HI.out | apply IsP.alloc | apply IsP.drewN | apply IsP.drew | refine IsP.far ?_ NG1.out | refine IsP.far ?_ NG2.out) | exact HI.out))
    case side2 => (repeat (first | (with_reducible first | exact HB.out | apply below_alloc | apply pw_below_drewN | apply below_drew1 | refine below_set ?_ LB1.out | refine below_set ?_ LB2.out) | exact HB.out))
    rintro e w3 ⟨rfl, hi, hb, hk⟩
    generalize hE : wordS s2 = r3 at hi ⊢
    have Er3 := Aside0.mk hE
    clear hE
    have n0_ := Aside0.mk hi
    have n1_ := Aside0.mk hb
    have n2_ := Aside0.mk (KeepBut.trans (by (repeat (first | (with_reducible first | exact HK.out | apply keep_drewN | apply keep_drew | apply keep_alloc | refine keep_far ?_ LW1.out _ | refine keep_far ?_ LW2.out _) | exact HK.out))) hk (Or.inl rfl))
    clear HI HB HK
    have HI := n0_
    have HB := n1_
    have HK := n2_
    clear n0_ n1_ n2_ hi hb
    -- the two blocks of the call's own, behind a call
    have u1_ := Aside0.mk (show w3.heap[w.heap.size]? = some (.cells zPr 119 (0, 0)) from (hk.2 _ (by have := blk_lt BX1.out; exact this) (by have := NG1.out; omega) (by simp)).trans BX1.out)
    have u2_ := Aside0.mk (show w3.heap[w1.heap.size]? = some (.cells #[.string ⟨r1.1.toArray⟩, .int .i64 0, .int .i64 0, .int .i64 0, .string ⟨#[]⟩] 119 (0, 0)) from (hk.2 _ (by have := blk_lt BX2.out; exact this) (by have := NG2.out; omega) (by simp)).trans BX2.out)
    clear BX1 BX2 hk
    have BX1 := u1_
    have BX2 := u2_
    clear u1_ u2_
    by_cases hin : r3.1 = [105, 110]
    · have t1 : (r3.1 == ([105, 110] : List UInt8)) = true := by simpa using hin
      have HIN := Aside0.mk (show r3.1 = [105, 110] from hin)
      clear hin
      obtain ⟨s4, hs4⟩ : ∃ s4, r3.2 = s4 := ⟨_, rfl⟩
      have ES4 := Aside0.mk (show (if r3.1 = [105, 110] then r3.2 else stopS r3.2 s2.l.length) = s4 by rw [if_pos HIN.out]; exact hs4)
      rw [hs4] at HI
      clear hs4
      go_wp2_with fail
      -- from 'in' on: two numbers
      go_wp2_with fail
      (with_reducible refine (number_P (w0 := w0) (st := s4) hs ?side1 ?side2).mono ?_)
      case side1 => (repeat (first | (with_reducible first | exact HI.out | apply IsP.alloc | apply IsP.drewN | apply IsP.drew | refine IsP.far ?_ NG1.out | refine IsP.far ?_ NG2.out) | exact HI.out))
      case side2 => (repeat (first | (with_reducible first | exact HB.out | apply below_alloc | apply pw_below_drewN | apply below_drew1 | refine below_set ?_ LB1.out | refine below_set ?_ LB2.out) | exact HB.out))
      rintro e w5 ⟨rfl, hi, hb, hk⟩
      generalize hE : numberS s4 = r5 at hi ⊢
      have Er5 := Aside0.mk hE
      clear hE
      have n0_ := Aside0.mk hi
      have n1_ := Aside0.mk hb
      have n2_ := Aside0.mk (KeepBut.trans (by (repeat (first | (with_reducible first | exact HK.out | apply keep_drewN | apply keep_drew | apply keep_alloc | refine keep_far ?_ LW1.out _ | refine keep_far ?_ LW2.out _) | exact HK.out))) hk (Or.inl rfl))
      clear HI HB HK
      have HI := n0_
      have HB := n1_
      have HK := n2_
      clear n0_ n1_ n2_ hi hb
      -- the two blocks of the call's own, behind a call
      have u1_ := Aside0.mk (show w5.heap[w.heap.size]? = some (.cells zPr 119 (0, 0)) from (hk.2 _ (by have := blk_lt BX1.out; exact this) (by have := NG1.out; omega) (by simp)).trans BX1.out)
      have u2_ := Aside0.mk (show w5.heap[w1.heap.size]? = some (.cells #[.string ⟨r1.1.toArray⟩, .int .i64 0, .int .i64 0, .int .i64 0, .string ⟨#[]⟩] 119 (0, 0)) from (hk.2 _ (by have := blk_lt BX2.out; exact this) (by have := NG2.out; omega) (by simp)).trans BX2.out)
      clear BX1 BX2 hk
      have BX1 := u1_
      have BX2 := u2_
      clear u1_ u2_
      have hx20 := blk_cell BX2.out 0
      have hx21 := blk_cell BX2.out 1
      have hx22 := blk_cell BX2.out 2
      have hx23 := blk_cell BX2.out 3
      have hx24 := blk_cell BX2.out 4
      have hy20 := blk_frozen BX2.out 0
      have hy21 := blk_frozen BX2.out 1
      have hy22 := blk_frozen BX2.out 2
      have hy23 := blk_frozen BX2.out 3
      have hy24 := blk_frozen BX2.out 4
      go_wp2_with fail
      clear hx20 hx21 hx22 hx23 hx24 hy20 hy21 hy22 hy23 hy24
      have u2_ := Aside0.mk (show ((w5.setCell ⟨w1.heap.size, 1, none⟩ (.int .i64 1)).setCell ⟨w1.heap.size, 2, none⟩ (.int .i64 r5.1)).heap[w1.heap.size]? = some (.cells #[.string ⟨r1.1.toArray⟩, .int .i64 1, .int .i64 r5.1, .int .i64 0, .string ⟨#[]⟩] 119 (0, 0)) by simpa using blk_set (blk_set BX2.out 1 (.int .i64 1)) 2 (.int .i64 r5.1))
      have u1_ := Aside0.mk (show ((w5.setCell ⟨w1.heap.size, 1, none⟩ (.int .i64 1)).setCell ⟨w1.heap.size, 2, none⟩ (.int .i64 r5.1)).heap[w.heap.size]? = some (.cells zPr 119 (0, 0)) from blk_far (blk_far BX1.out (p := ⟨w1.heap.size, 1, none⟩) (by have := HS1.out; show w.heap.size ≠ w1.heap.size; omega) _) (p := ⟨w1.heap.size, 2, none⟩) (by have := HS1.out; show w.heap.size ≠ w1.heap.size; omega) _)
      clear BX1 BX2
      have BX1 := u1_
      have BX2 := u2_
      clear u1_ u2_
      go_wp2_with fail
      (with_reducible refine (mark_P (w0 := w0) (st := r5.2) ⟨#[46, 46]⟩ (by decide) hs ?side1 ?side2).mono ?_)
      case side1 => (repeat (first | (with_reducible first | exact HI.out | apply IsP.alloc | apply IsP.drewN | apply IsP.drew | refine IsP.far ?_ NG1.out | refine IsP.far ?_ NG2.out) | exact HI.out))
      case side2 => (repeat (first | (with_reducible first | exact HB.out | apply below_alloc | apply pw_below_drewN | apply below_drew1 | refine below_set ?_ LB1.out | refine below_set ?_ LB2.out) | exact HB.out))
      rintro e w6 ⟨rfl, hi, hb, hk⟩
      generalize hE : markS (bytes ⟨#[46, 46]⟩) r5.2 = s6 at hi ⊢
      have Es6 := Aside0.mk hE
      clear hE
      have n0_ := Aside0.mk hi
      have n1_ := Aside0.mk hb
      have n2_ := Aside0.mk (KeepBut.trans (by (repeat (first | (with_reducible first | exact HK.out | apply keep_drewN | apply keep_drew | apply keep_alloc | refine keep_far ?_ LW1.out _ | refine keep_far ?_ LW2.out _) | exact HK.out))) hk (Or.inl rfl))
      clear HI HB HK
      have HI := n0_
      have HB := n1_
      have HK := n2_
      clear n0_ n1_ n2_ hi hb
      -- the two blocks of the call's own, behind a call
      have u1_ := Aside0.mk (show w6.heap[w.heap.size]? = some (.cells zPr 119 (0, 0)) from (hk.2 _ (by have := blk_lt BX1.out; exact this) (by have := NG1.out; omega) (by simp)).trans BX1.out)
      have u2_ := Aside0.mk (show w6.heap[w1.heap.size]? = some (.cells #[.string ⟨r1.1.toArray⟩, .int .i64 1, .int .i64 r5.1, .int .i64 0, .string ⟨#[]⟩] 119 (0, 0)) from (hk.2 _ (by have := blk_lt BX2.out; exact this) (by have := NG2.out; omega) (by simp)).trans BX2.out)
      clear BX1 BX2 hk
      have BX1 := u1_
      have BX2 := u2_
      clear u1_ u2_
      go_wp2_with fail
      (with_reducible refine (number_P (w0 := w0) (st := s6) hs ?side1 ?side2).mono ?_)
      case side1 => (repeat (first | (with_reducible first | exact HI.out | apply IsP.alloc | apply IsP.drewN | apply IsP.drew | refine IsP.far ?_ NG1.out | refine IsP.far ?_ NG2.out) | exact HI.out))
      case side2 => (repeat (first | (with_reducible first | exact HB.out | apply below_alloc | apply pw_below_drewN | apply below_drew1 | refine below_set ?_ LB1.out | refine below_set ?_ LB2.out) | exact HB.out))
      rintro e w7 ⟨rfl, hi, hb, hk⟩
      generalize hE : numberS s6 = r7 at hi ⊢
      have Er7 := Aside0.mk hE
      clear hE
      have n0_ := Aside0.mk hi
      have n1_ := Aside0.mk hb
      have n2_ := Aside0.mk (KeepBut.trans (by (repeat (first | (with_reducible first | exact HK.out | apply keep_drewN | apply keep_drew | apply keep_alloc | refine keep_far ?_ LW1.out _ | refine keep_far ?_ LW2.out _) | exact HK.out))) hk (Or.inl rfl))
      clear HI HB HK
      have HI := n0_
      have HB := n1_
      have HK := n2_
      clear n0_ n1_ n2_ hi hb
      -- the two blocks of the call's own, behind a call
      have u1_ := Aside0.mk (show w7.heap[w.heap.size]? = some (.cells zPr 119 (0, 0)) from (hk.2 _ (by have := blk_lt BX1.out; exact this) (by have := NG1.out; omega) (by simp)).trans BX1.out)
      have u2_ := Aside0.mk (show w7.heap[w1.heap.size]? = some (.cells #[.string ⟨r1.1.toArray⟩, .int .i64 1, .int .i64 r5.1, .int .i64 0, .string ⟨#[]⟩] 119 (0, 0)) from (hk.2 _ (by have := blk_lt BX2.out; exact this) (by have := NG2.out; omega) (by simp)).trans BX2.out)
      clear BX1 BX2 hk
      have BX1 := u1_
      have BX2 := u2_
      clear u1_ u2_
      have hx20 := blk_cell BX2.out 0
      have hx21 := blk_cell BX2.out 1
      have hx22 := blk_cell BX2.out 2
      have hx23 := blk_cell BX2.out 3
      have hx24 := blk_cell BX2.out 4
      have hy20 := blk_frozen BX2.out 0
      have hy21 := blk_frozen BX2.out 1
      have hy22 := blk_frozen BX2.out 2
      have hy23 := blk_frozen BX2.out 3
      have hy24 := blk_frozen BX2.out 4
      have hx10 := (blk_cell BX1.out 0).trans (show zPr[0]? = some (.string ⟨#[]⟩) from rfl)
      have hx11 := (blk_cell BX1.out 1).trans (show zPr[1]? = some (.int .i64 0) from rfl)
      have hx12 := (blk_cell BX1.out 2).trans (show zPr[2]? = some (.int .i64 0) from rfl)
      have hx13 := (blk_cell BX1.out 3).trans (show zPr[3]? = some (.int .i64 0) from rfl)
      have hx14 := (blk_cell BX1.out 4).trans (show zPr[4]? = some (.string ⟨#[]⟩) from rfl)
      have hy10 := blk_frozen BX1.out 0
      have hy11 := blk_frozen BX1.out 1
      have hy12 := blk_frozen BX1.out 2
      have hy13 := blk_frozen BX1.out 3
      have hy14 := blk_frozen BX1.out 4
      have hne1 : ¬ (w.heap.size = w1.heap.size) := by have := HS1.out; omega
      have hne2 : ¬ (w1.heap.size = w.heap.size) := by have := HS1.out; omega
      go_wp2
      refine bodyPost_ret (v := prV ⟨r1.1, 1, r5.1, r7.1, []⟩) ?_ rfl ?_
      · simp [results, Try.results51, go_sem, prV, hne1, hne2, hx10, hx11, hx12, hx13, hx14]
      · (rw [show predS st = (⟨r1.1, 1, r5.1, r7.1, []⟩, r7.2) from by unfold predS; simp only [Er1.out, Es2.out]; rw [if_neg (by simp [HL2.out]), if_neg (by simp [HL2.out])]; unfold inS; simp only [Er3.out, ES4.out, Er5.out]; rw [show markS [46, 46] r5.2 = s6 from Es6.out, Er7.out]]; exact ⟨rfl, by (repeat (first | (with_reducible first | exact HI.out | apply IsP.alloc | apply IsP.drewN | apply IsP.drew | refine IsP.far ?_ NG1.out | refine IsP.far ?_ NG2.out) | exact HI.out)), by (repeat (first | (with_reducible first | exact HB.out | apply below_alloc | apply pw_below_drewN | apply below_drew1 | refine below_set ?_ LB1.out | refine below_set ?_ LB2.out) | exact HB.out)), by (repeat (first | (with_reducible first | exact HK.out | apply keep_drewN | apply keep_drew | apply keep_alloc | refine keep_far ?_ LW1.out _ | refine keep_far ?_ LW2.out _) | exact HK.out))⟩)
    · have t1 : (r3.1 == ([105, 110] : List UInt8)) = false := by simpa using hin
      have HIN := Aside0.mk (show ¬ r3.1 = [105, 110] from hin)
      clear hin
      go_wp2_with fail
      rw [show (q : Int) = ((s.size - s2.l.length : Nat) : Int) by rw [EQ.out]]
      go_wp2_with fail
      (with_reducible refine (stop_P (w0 := w0) (st := r3.2) s2.l.length (P_le HOK.out) ?side1 ?side2).mono ?_)
      case side1 => (repeat (first | (with_reducible first | exact HI.out | apply IsP.alloc | apply IsP.drewN | apply IsP.drew | refine IsP.far ?_ NG1.out | refine IsP.far ?_ NG2.out) | exact HI.out))
      case side2 => (repeat (first | (with_reducible first | exact HB.out | apply below_alloc | apply pw_below_drewN | apply below_drew1 | refine below_set ?_ LB1.out | refine below_set ?_ LB2.out) | exact HB.out))
      rintro e w4 ⟨rfl, hi, hb, hk⟩
      generalize hE : stopS r3.2 s2.l.length = s4 at hi ⊢
      have Es4 := Aside0.mk hE
      clear hE
      have n0_ := Aside0.mk hi
      have n1_ := Aside0.mk hb
      have n2_ := Aside0.mk (KeepBut.trans (by (repeat (first | (with_reducible first | exact HK.out | apply keep_drewN | apply keep_drew | apply keep_alloc | refine keep_far ?_ LW1.out _ | refine keep_far ?_ LW2.out _) | exact HK.out))) hk (Or.inl rfl))
      clear HI HB HK
      have HI := n0_
      have HB := n1_
      have HK := n2_
      clear n0_ n1_ n2_ hi hb
      -- the two blocks of the call's own, behind a call
      have u1_ := Aside0.mk (show w4.heap[w.heap.size]? = some (.cells zPr 119 (0, 0)) from (hk.2 _ (by have := blk_lt BX1.out; exact this) (by have := NG1.out; omega) (by simp)).trans BX1.out)
      have u2_ := Aside0.mk (show w4.heap[w1.heap.size]? = some (.cells #[.string ⟨r1.1.toArray⟩, .int .i64 0, .int .i64 0, .int .i64 0, .string ⟨#[]⟩] 119 (0, 0)) from (hk.2 _ (by have := blk_lt BX2.out; exact this) (by have := NG2.out; omega) (by simp)).trans BX2.out)
      clear BX1 BX2 hk
      have BX1 := u1_
      have BX2 := u2_
      clear u1_ u2_
      have ES4 := Aside0.mk (show (if r3.1 = [105, 110] then r3.2 else stopS r3.2 s2.l.length) = s4 by rw [if_neg HIN.out]; exact Es4.out)
      go_wp2_with fail
      -- from 'in' on: two numbers
      go_wp2_with fail
      (with_reducible refine (number_P (w0 := w0) (st := s4) hs ?side1 ?side2).mono ?_)
      case side1 => (repeat (first | (with_reducible first | exact HI.out | apply IsP.alloc | apply IsP.drewN | apply IsP.drew | refine IsP.far ?_ NG1.out | refine IsP.far ?_ NG2.out) | exact HI.out))
      case side2 => (repeat (first | (with_reducible first | exact HB.out | apply below_alloc | apply pw_below_drewN | apply below_drew1 | refine below_set ?_ LB1.out | refine below_set ?_ LB2.out) | exact HB.out))
      rintro e w5 ⟨rfl, hi, hb, hk⟩
      generalize hE : numberS s4 = r5 at hi ⊢
      have Er5 := Aside0.mk hE
      clear hE
      have n0_ := Aside0.mk hi
      have n1_ := Aside0.mk hb
      have n2_ := Aside0.mk (KeepBut.trans (by (repeat (first | (with_reducible first | exact HK.out | apply keep_drewN | apply keep_drew | apply keep_alloc | refine keep_far ?_ LW1.out _ | refine keep_far ?_ LW2.out _) | exact HK.out))) hk (Or.inl rfl))
      clear HI HB HK
      have HI := n0_
      have HB := n1_
      have HK := n2_
      clear n0_ n1_ n2_ hi hb
      -- the two blocks of the call's own, behind a call
      have u1_ := Aside0.mk (show w5.heap[w.heap.size]? = some (.cells zPr 119 (0, 0)) from (hk.2 _ (by have := blk_lt BX1.out; exact this) (by have := NG1.out; omega) (by simp)).trans BX1.out)
      have u2_ := Aside0.mk (show w5.heap[w1.heap.size]? = some (.cells #[.string ⟨r1.1.toArray⟩, .int .i64 0, .int .i64 0, .int .i64 0, .string ⟨#[]⟩] 119 (0, 0)) from (hk.2 _ (by have := blk_lt BX2.out; exact this) (by have := NG2.out; omega) (by simp)).trans BX2.out)
      clear BX1 BX2 hk
      have BX1 := u1_
      have BX2 := u2_
      clear u1_ u2_
      have hx20 := blk_cell BX2.out 0
      have hx21 := blk_cell BX2.out 1
      have hx22 := blk_cell BX2.out 2
      have hx23 := blk_cell BX2.out 3
      have hx24 := blk_cell BX2.out 4
      have hy20 := blk_frozen BX2.out 0
      have hy21 := blk_frozen BX2.out 1
      have hy22 := blk_frozen BX2.out 2
      have hy23 := blk_frozen BX2.out 3
      have hy24 := blk_frozen BX2.out 4
      go_wp2_with fail
      clear hx20 hx21 hx22 hx23 hx24 hy20 hy21 hy22 hy23 hy24
      have u2_ := Aside0.mk (show ((w5.setCell ⟨w1.heap.size, 1, none⟩ (.int .i64 1)).setCell ⟨w1.heap.size, 2, none⟩ (.int .i64 r5.1)).heap[w1.heap.size]? = some (.cells #[.string ⟨r1.1.toArray⟩, .int .i64 1, .int .i64 r5.1, .int .i64 0, .string ⟨#[]⟩] 119 (0, 0)) by simpa using blk_set (blk_set BX2.out 1 (.int .i64 1)) 2 (.int .i64 r5.1))
      have u1_ := Aside0.mk (show ((w5.setCell ⟨w1.heap.size, 1, none⟩ (.int .i64 1)).setCell ⟨w1.heap.size, 2, none⟩ (.int .i64 r5.1)).heap[w.heap.size]? = some (.cells zPr 119 (0, 0)) from blk_far (blk_far BX1.out (p := ⟨w1.heap.size, 1, none⟩) (by have := HS1.out; show w.heap.size ≠ w1.heap.size; omega) _) (p := ⟨w1.heap.size, 2, none⟩) (by have := HS1.out; show w.heap.size ≠ w1.heap.size; omega) _)
      clear BX1 BX2
      have BX1 := u1_
      have BX2 := u2_
      clear u1_ u2_
      go_wp2_with fail
      (with_reducible refine (mark_P (w0 := w0) (st := r5.2) ⟨#[46, 46]⟩ (by decide) hs ?side1 ?side2).mono ?_)
      case side1 => (repeat (first | (with_reducible first | exact HI.out | apply IsP.alloc | apply IsP.drewN | apply IsP.drew | refine IsP.far ?_ NG1.out | refine IsP.far ?_ NG2.out) | exact HI.out))
      case side2 => (repeat (first | (with_reducible first | exact HB.out | apply below_alloc | apply pw_below_drewN | apply below_drew1 | refine below_set ?_ LB1.out | refine below_set ?_ LB2.out) | exact HB.out))
      rintro e w6 ⟨rfl, hi, hb, hk⟩
      generalize hE : markS (bytes ⟨#[46, 46]⟩) r5.2 = s6 at hi ⊢
      have Es6 := Aside0.mk hE
      clear hE
      have n0_ := Aside0.mk hi
      have n1_ := Aside0.mk hb
      have n2_ := Aside0.mk (KeepBut.trans (by (repeat (first | (with_reducible first | exact HK.out | apply keep_drewN | apply keep_drew | apply keep_alloc | refine keep_far ?_ LW1.out _ | refine keep_far ?_ LW2.out _) | exact HK.out))) hk (Or.inl rfl))
      clear HI HB HK
      have HI := n0_
      have HB := n1_
      have HK := n2_
      clear n0_ n1_ n2_ hi hb
      -- the two blocks of the call's own, behind a call
      have u1_ := Aside0.mk (show w6.heap[w.heap.size]? = some (.cells zPr 119 (0, 0)) from (hk.2 _ (by have := blk_lt BX1.out; exact this) (by have := NG1.out; omega) (by simp)).trans BX1.out)
      have u2_ := Aside0.mk (show w6.heap[w1.heap.size]? = some (.cells #[.string ⟨r1.1.toArray⟩, .int .i64 1, .int .i64 r5.1, .int .i64 0, .string ⟨#[]⟩] 119 (0, 0)) from (hk.2 _ (by have := blk_lt BX2.out; exact this) (by have := NG2.out; omega) (by simp)).trans BX2.out)
      clear BX1 BX2 hk
      have BX1 := u1_
      have BX2 := u2_
      clear u1_ u2_
      go_wp2_with fail
      (with_reducible refine (number_P (w0 := w0) (st := s6) hs ?side1 ?side2).mono ?_)
      case side1 => (repeat (first | (with_reducible first | exact HI.out | apply IsP.alloc | apply IsP.drewN | apply IsP.drew | refine IsP.far ?_ NG1.out | refine IsP.far ?_ NG2.out) | exact HI.out))
      case side2 => (repeat (first | (with_reducible first | exact HB.out | apply below_alloc | apply pw_below_drewN | apply below_drew1 | refine below_set ?_ LB1.out | refine below_set ?_ LB2.out) | exact HB.out))
      rintro e w7 ⟨rfl, hi, hb, hk⟩
      generalize hE : numberS s6 = r7 at hi ⊢
      have Er7 := Aside0.mk hE
      clear hE
      have n0_ := Aside0.mk hi
      have n1_ := Aside0.mk hb
      have n2_ := Aside0.mk (KeepBut.trans (by (repeat (first | (with_reducible first | exact HK.out | apply keep_drewN | apply keep_drew | apply keep_alloc | refine keep_far ?_ LW1.out _ | refine keep_far ?_ LW2.out _) | exact HK.out))) hk (Or.inl rfl))
      clear HI HB HK
      have HI := n0_
      have HB := n1_
      have HK := n2_
      clear n0_ n1_ n2_ hi hb
      -- the two blocks of the call's own, behind a call
      have u1_ := Aside0.mk (show w7.heap[w.heap.size]? = some (.cells zPr 119 (0, 0)) from (hk.2 _ (by have := blk_lt BX1.out; exact this) (by have := NG1.out; omega) (by simp)).trans BX1.out)
      have u2_ := Aside0.mk (show w7.heap[w1.heap.size]? = some (.cells #[.string ⟨r1.1.toArray⟩, .int .i64 1, .int .i64 r5.1, .int .i64 0, .string ⟨#[]⟩] 119 (0, 0)) from (hk.2 _ (by have := blk_lt BX2.out; exact this) (by have := NG2.out; omega) (by simp)).trans BX2.out)
      clear BX1 BX2 hk
      have BX1 := u1_
      have BX2 := u2_
      clear u1_ u2_
      have hx20 := blk_cell BX2.out 0
      have hx21 := blk_cell BX2.out 1
      have hx22 := blk_cell BX2.out 2
      have hx23 := blk_cell BX2.out 3
      have hx24 := blk_cell BX2.out 4
      have hy20 := blk_frozen BX2.out 0
      have hy21 := blk_frozen BX2.out 1
      have hy22 := blk_frozen BX2.out 2
      have hy23 := blk_frozen BX2.out 3
      have hy24 := blk_frozen BX2.out 4
      have hx10 := (blk_cell BX1.out 0).trans (show zPr[0]? = some (.string ⟨#[]⟩) from rfl)
      have hx11 := (blk_cell BX1.out 1).trans (show zPr[1]? = some (.int .i64 0) from rfl)
      have hx12 := (blk_cell BX1.out 2).trans (show zPr[2]? = some (.int .i64 0) from rfl)
      have hx13 := (blk_cell BX1.out 3).trans (show zPr[3]? = some (.int .i64 0) from rfl)
      have hx14 := (blk_cell BX1.out 4).trans (show zPr[4]? = some (.string ⟨#[]⟩) from rfl)
      have hy10 := blk_frozen BX1.out 0
      have hy11 := blk_frozen BX1.out 1
      have hy12 := blk_frozen BX1.out 2
      have hy13 := blk_frozen BX1.out 3
      have hy14 := blk_frozen BX1.out 4
      have hne1 : ¬ (w.heap.size = w1.heap.size) := by have := HS1.out; omega
      have hne2 : ¬ (w1.heap.size = w.heap.size) := by have := HS1.out; omega
      go_wp2
      refine bodyPost_ret (v := prV ⟨r1.1, 1, r5.1, r7.1, []⟩) ?_ rfl ?_
      · simp [results, Try.results51, go_sem, prV, hne1, hne2, hx10, hx11, hx12, hx13, hx14]
      · (rw [show predS st = (⟨r1.1, 1, r5.1, r7.1, []⟩, r7.2) from by unfold predS; simp only [Er1.out, Es2.out]; rw [if_neg (by simp [HL2.out]), if_neg (by simp [HL2.out])]; unfold inS; simp only [Er3.out, ES4.out, Er5.out]; rw [show markS [46, 46] r5.2 = s6 from Es6.out, Er7.out]]; exact ⟨rfl, by (repeat (first | (with_reducible first | exact HI.out | apply IsP.alloc | apply IsP.drewN | apply IsP.drew | refine IsP.far ?_ NG1.out | refine IsP.far ?_ NG2.out) | exact HI.out)), by (repeat (first | (with_reducible first | exact HB.out | apply below_alloc | apply pw_below_drewN | apply below_drew1 | refine below_set ?_ LB1.out | refine below_set ?_ LB2.out) | exact HB.out)), by (repeat (first | (with_reducible first | exact HK.out | apply keep_drewN | apply keep_drew | apply keep_alloc | refine keep_far ?_ LW1.out _ | refine keep_far ?_ LW2.out _) | exact HK.out))⟩)
  | cons c r =>
    rw [hl] at hqd
    obtain ⟨hlt, hbt, _⟩ := bt_cons hqd
    have hcc := dropB_cons hlt
    rw [hqd] at hcc
    have hx : ∀ h : q < s.size, s[q]'h = c := fun _ => by injection hcc with h5; exact h5.symm
    have q1 := decide_eq_true (show ((q : Int) < (s.size : Int)) by omega)
    have q2 := eq_true (show ((q : Int) < (s.size : Int)) by omega)
    have q3 := eq_true (show (0 : Int) ≤ (q : Int) by omega)
    have HL2 := Aside0.mk hl
    clear hl hqd hcc hbt
    by_cases h61 : c = 61
    · have e61 : ((c.toNat : Int) == 61) = true := by rw [h61]; rfl
      have HC := Aside0.mk h61
      clear h61
      go_wp2_with fail
      repeat (go_quiet (fail); try go_wp2_with fail)
      clear hc0 hc1 hc2 hf0 hf1 hf2 q1 q2 q3 hx
      go_wp2_with fail
      (with_reducible refine (mark_P (w0 := w0) (st := s2) ⟨#[61]⟩ (by decide) hs ?side1 ?side2).mono ?_)
      case side1 => (repeat (first | (with_reducible first | exact HI.out | apply IsP.alloc | apply IsP.drewN | apply IsP.drew | refine IsP.far ?_ NG1.out | refine IsP.far ?_ NG2.out) | exact HI.out))
      case side2 => (repeat (first | (with_reducible first | exact HB.out | apply below_alloc | apply pw_below_drewN | apply below_drew1 | refine below_set ?_ LB1.out | refine below_set ?_ LB2.out) | exact HB.out))
      rintro e w3 ⟨rfl, hi, hb, hk⟩
      generalize hE : markS (bytes ⟨#[61]⟩) s2 = s3 at hi ⊢
      have Es3 := Aside0.mk hE
      clear hE
      have n0_ := Aside0.mk hi
      have n1_ := Aside0.mk hb
      have n2_ := Aside0.mk (KeepBut.trans (by (repeat (first | (with_reducible first | exact HK.out | apply keep_drewN | apply keep_drew | apply keep_alloc | refine keep_far ?_ LW1.out _ | refine keep_far ?_ LW2.out _) | exact HK.out))) hk (Or.inl rfl))
      clear HI HB HK
      have HI := n0_
      have HB := n1_
      have HK := n2_
      clear n0_ n1_ n2_ hi hb
      -- the two blocks of the call's own, behind a call
      have u1_ := Aside0.mk (show w3.heap[w.heap.size]? = some (.cells zPr 119 (0, 0)) from (hk.2 _ (by have := blk_lt BX1.out; exact this) (by have := NG1.out; omega) (by simp)).trans BX1.out)
      have u2_ := Aside0.mk (show w3.heap[w1.heap.size]? = some (.cells #[.string ⟨r1.1.toArray⟩, .int .i64 0, .int .i64 0, .int .i64 0, .string ⟨#[]⟩] 119 (0, 0)) from (hk.2 _ (by have := blk_lt BX2.out; exact this) (by have := NG2.out; omega) (by simp)).trans BX2.out)
      clear BX1 BX2 hk
      have BX1 := u1_
      have BX2 := u2_
      clear u1_ u2_
      go_wp2_with fail
      (with_reducible refine (text_P (w0 := w0) (st := s3) hs ?side1 ?side2).mono ?_)
      case side1 => (repeat (first | (with_reducible first | exact HI.out | apply IsP.alloc | apply IsP.drewN | apply IsP.drew | refine IsP.far ?_ NG1.out | refine IsP.far ?_ NG2.out) | exact HI.out))
      case side2 => (repeat (first | (with_reducible first | exact HB.out | apply below_alloc | apply pw_below_drewN | apply below_drew1 | refine below_set ?_ LB1.out | refine below_set ?_ LB2.out) | exact HB.out))
      rintro e w4 ⟨rfl, hi, hb, hk⟩
      generalize hE : textS s3 = r4 at hi ⊢
      have Er4 := Aside0.mk hE
      clear hE
      have n0_ := Aside0.mk hi
      have n1_ := Aside0.mk hb
      have n2_ := Aside0.mk (KeepBut.trans (by (repeat (first | (with_reducible first | exact HK.out | apply keep_drewN | apply keep_drew | apply keep_alloc | refine keep_far ?_ LW1.out _ | refine keep_far ?_ LW2.out _) | exact HK.out))) hk (Or.inl rfl))
      clear HI HB HK
      have HI := n0_
      have HB := n1_
      have HK := n2_
      clear n0_ n1_ n2_ hi hb
      -- the two blocks of the call's own, behind a call
      have u1_ := Aside0.mk (show w4.heap[w.heap.size]? = some (.cells zPr 119 (0, 0)) from (hk.2 _ (by have := blk_lt BX1.out; exact this) (by have := NG1.out; omega) (by simp)).trans BX1.out)
      have u2_ := Aside0.mk (show w4.heap[w1.heap.size]? = some (.cells #[.string ⟨r1.1.toArray⟩, .int .i64 0, .int .i64 0, .int .i64 0, .string ⟨#[]⟩] 119 (0, 0)) from (hk.2 _ (by have := blk_lt BX2.out; exact this) (by have := NG2.out; omega) (by simp)).trans BX2.out)
      clear BX1 BX2 hk
      have BX1 := u1_
      have BX2 := u2_
      clear u1_ u2_
      have hx20 := blk_cell BX2.out 0
      have hx21 := blk_cell BX2.out 1
      have hx22 := blk_cell BX2.out 2
      have hx23 := blk_cell BX2.out 3
      have hx24 := blk_cell BX2.out 4
      have hy20 := blk_frozen BX2.out 0
      have hy21 := blk_frozen BX2.out 1
      have hy22 := blk_frozen BX2.out 2
      have hy23 := blk_frozen BX2.out 3
      have hy24 := blk_frozen BX2.out 4
      have hx10 := (blk_cell BX1.out 0).trans (show zPr[0]? = some (.string ⟨#[]⟩) from rfl)
      have hx11 := (blk_cell BX1.out 1).trans (show zPr[1]? = some (.int .i64 0) from rfl)
      have hx12 := (blk_cell BX1.out 2).trans (show zPr[2]? = some (.int .i64 0) from rfl)
      have hx13 := (blk_cell BX1.out 3).trans (show zPr[3]? = some (.int .i64 0) from rfl)
      have hx14 := (blk_cell BX1.out 4).trans (show zPr[4]? = some (.string ⟨#[]⟩) from rfl)
      have hy10 := blk_frozen BX1.out 0
      have hy11 := blk_frozen BX1.out 1
      have hy12 := blk_frozen BX1.out 2
      have hy13 := blk_frozen BX1.out 3
      have hy14 := blk_frozen BX1.out 4
      have hne1 : ¬ (w.heap.size = w1.heap.size) := by have := HS1.out; omega
      have hne2 : ¬ (w1.heap.size = w.heap.size) := by have := HS1.out; omega
      go_wp2
      refine bodyPost_ret (v := prV ⟨r1.1, 2, 0, 0, r4.1⟩) ?_ rfl ?_
      · simp [results, Try.results51, go_sem, prV, hne1, hne2, hx10, hx11, hx12, hx13, hx14]
      · (rw [show predS st = (⟨r1.1, 2, 0, 0, r4.1⟩, r4.2) from by unfold predS; simp only [Er1.out, Es2.out, HL2.out, HC.out, List.head?_cons, if_true]; rw [show markS [61] s2 = s3 from Es3.out, Er4.out]]; exact ⟨rfl, by (repeat (first | (with_reducible first | exact HI.out | apply IsP.alloc | apply IsP.drewN | apply IsP.drew | refine IsP.far ?_ NG1.out | refine IsP.far ?_ NG2.out) | exact HI.out)), by (repeat (first | (with_reducible first | exact HB.out | apply below_alloc | apply pw_below_drewN | apply below_drew1 | refine below_set ?_ LB1.out | refine below_set ?_ LB2.out) | exact HB.out)), by (repeat (first | (with_reducible first | exact HK.out | apply keep_drewN | apply keep_drew | apply keep_alloc | refine keep_far ?_ LW1.out _ | refine keep_far ?_ LW2.out _) | exact HK.out))⟩)
    · have e61 : ((c.toNat : Int) == 61) = false := by rw [show (61 : Int) = ((61 : Nat) : Int) from rfl, c_eq (by decide)]; simpa using h61
      by_cases h94 : c = 94
      · have e94 : ((c.toNat : Int) == 94) = true := by rw [h94]; rfl
        have HC := Aside0.mk h94
        clear h61 h94
        go_wp2_with fail
        repeat (go_quiet (fail); try go_wp2_with fail)
        clear hc0 hc1 hc2 hf0 hf1 hf2 q1 q2 q3 hx
        go_wp2_with fail
        (with_reducible refine (mark_P (w0 := w0) (st := s2) ⟨#[94, 61]⟩ (by decide) hs ?side1 ?side2).mono ?_)
        case side1 => (repeat (first | (with_reducible first | exact HI.out | apply IsP.alloc | apply IsP.drewN | apply IsP.drew | refine IsP.far ?_ NG1.out | refine IsP.far ?_ NG2.out) | exact HI.out))
        case side2 => (repeat (first | (with_reducible first | exact HB.out | apply below_alloc | apply pw_below_drewN | apply below_drew1 | refine below_set ?_ LB1.out | refine below_set ?_ LB2.out) | exact HB.out))
        rintro e w3 ⟨rfl, hi, hb, hk⟩
        generalize hE : markS (bytes ⟨#[94, 61]⟩) s2 = s3 at hi ⊢
        have Es3 := Aside0.mk hE
        clear hE
        have n0_ := Aside0.mk hi
        have n1_ := Aside0.mk hb
        have n2_ := Aside0.mk (KeepBut.trans (by (repeat (first | (with_reducible first | exact HK.out | apply keep_drewN | apply keep_drew | apply keep_alloc | refine keep_far ?_ LW1.out _ | refine keep_far ?_ LW2.out _) | exact HK.out))) hk (Or.inl rfl))
        clear HI HB HK
        have HI := n0_
        have HB := n1_
        have HK := n2_
        clear n0_ n1_ n2_ hi hb
        -- the two blocks of the call's own, behind a call
        have u1_ := Aside0.mk (show w3.heap[w.heap.size]? = some (.cells zPr 119 (0, 0)) from (hk.2 _ (by have := blk_lt BX1.out; exact this) (by have := NG1.out; omega) (by simp)).trans BX1.out)
        have u2_ := Aside0.mk (show w3.heap[w1.heap.size]? = some (.cells #[.string ⟨r1.1.toArray⟩, .int .i64 0, .int .i64 0, .int .i64 0, .string ⟨#[]⟩] 119 (0, 0)) from (hk.2 _ (by have := blk_lt BX2.out; exact this) (by have := NG2.out; omega) (by simp)).trans BX2.out)
        clear BX1 BX2 hk
        have BX1 := u1_
        have BX2 := u2_
        clear u1_ u2_
        go_wp2_with fail
        (with_reducible refine (text_P (w0 := w0) (st := s3) hs ?side1 ?side2).mono ?_)
        case side1 => (repeat (first | (with_reducible first | exact HI.out | apply IsP.alloc | apply IsP.drewN | apply IsP.drew | refine IsP.far ?_ NG1.out | refine IsP.far ?_ NG2.out) | exact HI.out))
        case side2 => (repeat (first | (with_reducible first | exact HB.out | apply below_alloc | apply pw_below_drewN | apply below_drew1 | refine below_set ?_ LB1.out | refine below_set ?_ LB2.out) | exact HB.out))
        rintro e w4 ⟨rfl, hi, hb, hk⟩
        generalize hE : textS s3 = r4 at hi ⊢
        have Er4 := Aside0.mk hE
        clear hE
        have n0_ := Aside0.mk hi
        have n1_ := Aside0.mk hb
        have n2_ := Aside0.mk (KeepBut.trans (by (repeat (first | (with_reducible first | exact HK.out | apply keep_drewN | apply keep_drew | apply keep_alloc | refine keep_far ?_ LW1.out _ | refine keep_far ?_ LW2.out _) | exact HK.out))) hk (Or.inl rfl))
        clear HI HB HK
        have HI := n0_
        have HB := n1_
        have HK := n2_
        clear n0_ n1_ n2_ hi hb
        -- the two blocks of the call's own, behind a call
        have u1_ := Aside0.mk (show w4.heap[w.heap.size]? = some (.cells zPr 119 (0, 0)) from (hk.2 _ (by have := blk_lt BX1.out; exact this) (by have := NG1.out; omega) (by simp)).trans BX1.out)
        have u2_ := Aside0.mk (show w4.heap[w1.heap.size]? = some (.cells #[.string ⟨r1.1.toArray⟩, .int .i64 0, .int .i64 0, .int .i64 0, .string ⟨#[]⟩] 119 (0, 0)) from (hk.2 _ (by have := blk_lt BX2.out; exact this) (by have := NG2.out; omega) (by simp)).trans BX2.out)
        clear BX1 BX2 hk
        have BX1 := u1_
        have BX2 := u2_
        clear u1_ u2_
        have hx20 := blk_cell BX2.out 0
        have hx21 := blk_cell BX2.out 1
        have hx22 := blk_cell BX2.out 2
        have hx23 := blk_cell BX2.out 3
        have hx24 := blk_cell BX2.out 4
        have hy20 := blk_frozen BX2.out 0
        have hy21 := blk_frozen BX2.out 1
        have hy22 := blk_frozen BX2.out 2
        have hy23 := blk_frozen BX2.out 3
        have hy24 := blk_frozen BX2.out 4
        have hx10 := (blk_cell BX1.out 0).trans (show zPr[0]? = some (.string ⟨#[]⟩) from rfl)
        have hx11 := (blk_cell BX1.out 1).trans (show zPr[1]? = some (.int .i64 0) from rfl)
        have hx12 := (blk_cell BX1.out 2).trans (show zPr[2]? = some (.int .i64 0) from rfl)
        have hx13 := (blk_cell BX1.out 3).trans (show zPr[3]? = some (.int .i64 0) from rfl)
        have hx14 := (blk_cell BX1.out 4).trans (show zPr[4]? = some (.string ⟨#[]⟩) from rfl)
        have hy10 := blk_frozen BX1.out 0
        have hy11 := blk_frozen BX1.out 1
        have hy12 := blk_frozen BX1.out 2
        have hy13 := blk_frozen BX1.out 3
        have hy14 := blk_frozen BX1.out 4
        have hne1 : ¬ (w.heap.size = w1.heap.size) := by have := HS1.out; omega
        have hne2 : ¬ (w1.heap.size = w.heap.size) := by have := HS1.out; omega
        go_wp2
        refine bodyPost_ret (v := prV ⟨r1.1, 3, 0, 0, r4.1⟩) ?_ rfl ?_
        · simp [results, Try.results51, go_sem, prV, hne1, hne2, hx10, hx11, hx12, hx13, hx14]
        · (rw [show predS st = (⟨r1.1, 3, 0, 0, r4.1⟩, r4.2) from by unfold predS; simp only [Er1.out, Es2.out, HL2.out, HC.out, List.head?_cons]; rw [if_neg (by simp), if_pos trivial, show markS [94, 61] s2 = s3 from Es3.out, Er4.out]]; exact ⟨rfl, by (repeat (first | (with_reducible first | exact HI.out | apply IsP.alloc | apply IsP.drewN | apply IsP.drew | refine IsP.far ?_ NG1.out | refine IsP.far ?_ NG2.out) | exact HI.out)), by (repeat (first | (with_reducible first | exact HB.out | apply below_alloc | apply pw_below_drewN | apply below_drew1 | refine below_set ?_ LB1.out | refine below_set ?_ LB2.out) | exact HB.out)), by (repeat (first | (with_reducible first | exact HK.out | apply keep_drewN | apply keep_drew | apply keep_alloc | refine keep_far ?_ LW1.out _ | refine keep_far ?_ LW2.out _) | exact HK.out))⟩)
      · have e94 : ((c.toNat : Int) == 94) = false := by rw [show (94 : Int) = ((94 : Nat) : Int) from rfl, c_eq (by decide)]; simpa using h94
        have H61 := Aside0.mk h61
        have H94 := Aside0.mk h94
        clear h61 h94
        go_wp2_with fail
        repeat (go_quiet (fail); try go_wp2_with fail)
        go_wp2_with fail
        (with_reducible refine (word_P (w0 := w0) (st := s2) hs ?side1 ?side2).mono ?_)
        case side1 => (repeat (first | (with_reducible first | exact HI.out | apply IsP.alloc | apply IsP.drewN | apply IsP.drew | refine IsP.far ?_ NG1.out | refine IsP.far ?_ NG2.out) | exact HI.out))
        case side2 => (repeat (first | (with_reducible first | exact HB.out | apply below_alloc | apply pw_below_drewN | apply below_drew1 | refine below_set ?_ LB1.out | refine below_set ?_ LB2.out) | exact HB.out))
        rintro e w3 ⟨rfl, hi, hb, hk⟩
        generalize hE : wordS s2 = r3 at hi ⊢
        have Er3 := Aside0.mk hE
        clear hE
        have n0_ := Aside0.mk hi
        have n1_ := Aside0.mk hb
        have n2_ := Aside0.mk (KeepBut.trans (by (repeat (first | (with_reducible first | exact HK.out | apply keep_drewN | apply keep_drew | apply keep_alloc | refine keep_far ?_ LW1.out _ | refine keep_far ?_ LW2.out _) | exact HK.out))) hk (Or.inl rfl))
        clear HI HB HK
        have HI := n0_
        have HB := n1_
        have HK := n2_
        clear n0_ n1_ n2_ hi hb
        -- the two blocks of the call's own, behind a call
        have u1_ := Aside0.mk (show w3.heap[w.heap.size]? = some (.cells zPr 119 (0, 0)) from (hk.2 _ (by have := blk_lt BX1.out; exact this) (by have := NG1.out; omega) (by simp)).trans BX1.out)
        have u2_ := Aside0.mk (show w3.heap[w1.heap.size]? = some (.cells #[.string ⟨r1.1.toArray⟩, .int .i64 0, .int .i64 0, .int .i64 0, .string ⟨#[]⟩] 119 (0, 0)) from (hk.2 _ (by have := blk_lt BX2.out; exact this) (by have := NG2.out; omega) (by simp)).trans BX2.out)
        clear BX1 BX2 hk
        have BX1 := u1_
        have BX2 := u2_
        clear u1_ u2_
        by_cases hin : r3.1 = [105, 110]
        · have t1 : (r3.1 == ([105, 110] : List UInt8)) = true := by simpa using hin
          have HIN := Aside0.mk (show r3.1 = [105, 110] from hin)
          clear hin
          obtain ⟨s4, hs4⟩ : ∃ s4, r3.2 = s4 := ⟨_, rfl⟩
          have ES4 := Aside0.mk (show (if r3.1 = [105, 110] then r3.2 else stopS r3.2 s2.l.length) = s4 by rw [if_pos HIN.out]; exact hs4)
          rw [hs4] at HI
          clear hs4
          go_wp2_with fail
          -- from 'in' on: two numbers
          go_wp2_with fail
          (with_reducible refine (number_P (w0 := w0) (st := s4) hs ?side1 ?side2).mono ?_)
          case side1 => (repeat (first | (with_reducible first | exact HI.out | apply IsP.alloc | apply IsP.drewN | apply IsP.drew | refine IsP.far ?_ NG1.out | refine IsP.far ?_ NG2.out) | exact HI.out))
          case side2 => (repeat (first | (with_reducible first | exact HB.out | apply below_alloc | apply pw_below_drewN | apply below_drew1 | refine below_set ?_ LB1.out | refine below_set ?_ LB2.out) | exact HB.out))
          rintro e w5 ⟨rfl, hi, hb, hk⟩
          generalize hE : numberS s4 = r5 at hi ⊢
          have Er5 := Aside0.mk hE
          clear hE
          have n0_ := Aside0.mk hi
          have n1_ := Aside0.mk hb
          have n2_ := Aside0.mk (KeepBut.trans (by (repeat (first | (with_reducible first | exact HK.out | apply keep_drewN | apply keep_drew | apply keep_alloc | refine keep_far ?_ LW1.out _ | refine keep_far ?_ LW2.out _) | exact HK.out))) hk (Or.inl rfl))
          clear HI HB HK
          have HI := n0_
          have HB := n1_
          have HK := n2_
          clear n0_ n1_ n2_ hi hb
          -- the two blocks of the call's own, behind a call
          have u1_ := Aside0.mk (show w5.heap[w.heap.size]? = some (.cells zPr 119 (0, 0)) from (hk.2 _ (by have := blk_lt BX1.out; exact this) (by have := NG1.out; omega) (by simp)).trans BX1.out)
          have u2_ := Aside0.mk (show w5.heap[w1.heap.size]? = some (.cells #[.string ⟨r1.1.toArray⟩, .int .i64 0, .int .i64 0, .int .i64 0, .string ⟨#[]⟩] 119 (0, 0)) from (hk.2 _ (by have := blk_lt BX2.out; exact this) (by have := NG2.out; omega) (by simp)).trans BX2.out)
          clear BX1 BX2 hk
          have BX1 := u1_
          have BX2 := u2_
          clear u1_ u2_
          have hx20 := blk_cell BX2.out 0
          have hx21 := blk_cell BX2.out 1
          have hx22 := blk_cell BX2.out 2
          have hx23 := blk_cell BX2.out 3
          have hx24 := blk_cell BX2.out 4
          have hy20 := blk_frozen BX2.out 0
          have hy21 := blk_frozen BX2.out 1
          have hy22 := blk_frozen BX2.out 2
          have hy23 := blk_frozen BX2.out 3
          have hy24 := blk_frozen BX2.out 4
          go_wp2_with fail
          clear hx20 hx21 hx22 hx23 hx24 hy20 hy21 hy22 hy23 hy24
          have u2_ := Aside0.mk (show ((w5.setCell ⟨w1.heap.size, 1, none⟩ (.int .i64 1)).setCell ⟨w1.heap.size, 2, none⟩ (.int .i64 r5.1)).heap[w1.heap.size]? = some (.cells #[.string ⟨r1.1.toArray⟩, .int .i64 1, .int .i64 r5.1, .int .i64 0, .string ⟨#[]⟩] 119 (0, 0)) by simpa using blk_set (blk_set BX2.out 1 (.int .i64 1)) 2 (.int .i64 r5.1))
          have u1_ := Aside0.mk (show ((w5.setCell ⟨w1.heap.size, 1, none⟩ (.int .i64 1)).setCell ⟨w1.heap.size, 2, none⟩ (.int .i64 r5.1)).heap[w.heap.size]? = some (.cells zPr 119 (0, 0)) from blk_far (blk_far BX1.out (p := ⟨w1.heap.size, 1, none⟩) (by have := HS1.out; show w.heap.size ≠ w1.heap.size; omega) _) (p := ⟨w1.heap.size, 2, none⟩) (by have := HS1.out; show w.heap.size ≠ w1.heap.size; omega) _)
          clear BX1 BX2
          have BX1 := u1_
          have BX2 := u2_
          clear u1_ u2_
          go_wp2_with fail
          (with_reducible refine (mark_P (w0 := w0) (st := r5.2) ⟨#[46, 46]⟩ (by decide) hs ?side1 ?side2).mono ?_)
          case side1 => (repeat (first | (with_reducible first | exact HI.out | apply IsP.alloc | apply IsP.drewN | apply IsP.drew | refine IsP.far ?_ NG1.out | refine IsP.far ?_ NG2.out) | exact HI.out))
          case side2 => (repeat (first | (with_reducible first | exact HB.out | apply below_alloc | apply pw_below_drewN | apply below_drew1 | refine below_set ?_ LB1.out | refine below_set ?_ LB2.out) | exact HB.out))
          rintro e w6 ⟨rfl, hi, hb, hk⟩
          generalize hE : markS (bytes ⟨#[46, 46]⟩) r5.2 = s6 at hi ⊢
          have Es6 := Aside0.mk hE
          clear hE
          have n0_ := Aside0.mk hi
          have n1_ := Aside0.mk hb
          have n2_ := Aside0.mk (KeepBut.trans (by (repeat (first | (with_reducible first | exact HK.out | apply keep_drewN | apply keep_drew | apply keep_alloc | refine keep_far ?_ LW1.out _ | refine keep_far ?_ LW2.out _) | exact HK.out))) hk (Or.inl rfl))
          clear HI HB HK
          have HI := n0_
          have HB := n1_
          have HK := n2_
          clear n0_ n1_ n2_ hi hb
          -- the two blocks of the call's own, behind a call
          have u1_ := Aside0.mk (show w6.heap[w.heap.size]? = some (.cells zPr 119 (0, 0)) from (hk.2 _ (by have := blk_lt BX1.out; exact this) (by have := NG1.out; omega) (by simp)).trans BX1.out)
          have u2_ := Aside0.mk (show w6.heap[w1.heap.size]? = some (.cells #[.string ⟨r1.1.toArray⟩, .int .i64 1, .int .i64 r5.1, .int .i64 0, .string ⟨#[]⟩] 119 (0, 0)) from (hk.2 _ (by have := blk_lt BX2.out; exact this) (by have := NG2.out; omega) (by simp)).trans BX2.out)
          clear BX1 BX2 hk
          have BX1 := u1_
          have BX2 := u2_
          clear u1_ u2_
          go_wp2_with fail
          (with_reducible refine (number_P (w0 := w0) (st := s6) hs ?side1 ?side2).mono ?_)
          case side1 => (repeat (first | (with_reducible first | exact HI.out | apply IsP.alloc | apply IsP.drewN | apply IsP.drew | refine IsP.far ?_ NG1.out | refine IsP.far ?_ NG2.out) | exact HI.out))
          case side2 => (repeat (first | (with_reducible first | exact HB.out | apply below_alloc | apply pw_below_drewN | apply below_drew1 | refine below_set ?_ LB1.out | refine below_set ?_ LB2.out) | exact HB.out))
          rintro e w7 ⟨rfl, hi, hb, hk⟩
          generalize hE : numberS s6 = r7 at hi ⊢
          have Er7 := Aside0.mk hE
          clear hE
          have n0_ := Aside0.mk hi
          have n1_ := Aside0.mk hb
          have n2_ := Aside0.mk (KeepBut.trans (by (repeat (first | (with_reducible first | exact HK.out | apply keep_drewN | apply keep_drew | apply keep_alloc | refine keep_far ?_ LW1.out _ | refine keep_far ?_ LW2.out _) | exact HK.out))) hk (Or.inl rfl))
          clear HI HB HK
          have HI := n0_
          have HB := n1_
          have HK := n2_
          clear n0_ n1_ n2_ hi hb
          -- the two blocks of the call's own, behind a call
          have u1_ := Aside0.mk (show w7.heap[w.heap.size]? = some (.cells zPr 119 (0, 0)) from (hk.2 _ (by have := blk_lt BX1.out; exact this) (by have := NG1.out; omega) (by simp)).trans BX1.out)
          have u2_ := Aside0.mk (show w7.heap[w1.heap.size]? = some (.cells #[.string ⟨r1.1.toArray⟩, .int .i64 1, .int .i64 r5.1, .int .i64 0, .string ⟨#[]⟩] 119 (0, 0)) from (hk.2 _ (by have := blk_lt BX2.out; exact this) (by have := NG2.out; omega) (by simp)).trans BX2.out)
          clear BX1 BX2 hk
          have BX1 := u1_
          have BX2 := u2_
          clear u1_ u2_
          have hx20 := blk_cell BX2.out 0
          have hx21 := blk_cell BX2.out 1
          have hx22 := blk_cell BX2.out 2
          have hx23 := blk_cell BX2.out 3
          have hx24 := blk_cell BX2.out 4
          have hy20 := blk_frozen BX2.out 0
          have hy21 := blk_frozen BX2.out 1
          have hy22 := blk_frozen BX2.out 2
          have hy23 := blk_frozen BX2.out 3
          have hy24 := blk_frozen BX2.out 4
          have hx10 := (blk_cell BX1.out 0).trans (show zPr[0]? = some (.string ⟨#[]⟩) from rfl)
          have hx11 := (blk_cell BX1.out 1).trans (show zPr[1]? = some (.int .i64 0) from rfl)
          have hx12 := (blk_cell BX1.out 2).trans (show zPr[2]? = some (.int .i64 0) from rfl)
          have hx13 := (blk_cell BX1.out 3).trans (show zPr[3]? = some (.int .i64 0) from rfl)
          have hx14 := (blk_cell BX1.out 4).trans (show zPr[4]? = some (.string ⟨#[]⟩) from rfl)
          have hy10 := blk_frozen BX1.out 0
          have hy11 := blk_frozen BX1.out 1
          have hy12 := blk_frozen BX1.out 2
          have hy13 := blk_frozen BX1.out 3
          have hy14 := blk_frozen BX1.out 4
          have hne1 : ¬ (w.heap.size = w1.heap.size) := by have := HS1.out; omega
          have hne2 : ¬ (w1.heap.size = w.heap.size) := by have := HS1.out; omega
          go_wp2
          refine bodyPost_ret (v := prV ⟨r1.1, 1, r5.1, r7.1, []⟩) ?_ rfl ?_
          · simp [results, Try.results51, go_sem, prV, hne1, hne2, hx10, hx11, hx12, hx13, hx14]
          · (rw [show predS st = (⟨r1.1, 1, r5.1, r7.1, []⟩, r7.2) from by unfold predS; simp only [Er1.out, Es2.out]; rw [if_neg (by rw [HL2.out]; simpa using H61.out), if_neg (by rw [HL2.out]; simpa using H94.out)]; unfold inS; simp only [Er3.out, ES4.out, Er5.out]; rw [show markS [46, 46] r5.2 = s6 from Es6.out, Er7.out]]; exact ⟨rfl, by (repeat (first | (with_reducible first | exact HI.out | apply IsP.alloc | apply IsP.drewN | apply IsP.drew | refine IsP.far ?_ NG1.out | refine IsP.far ?_ NG2.out) | exact HI.out)), by (repeat (first | (with_reducible first | exact HB.out | apply below_alloc | apply pw_below_drewN | apply below_drew1 | refine below_set ?_ LB1.out | refine below_set ?_ LB2.out) | exact HB.out)), by (repeat (first | (with_reducible first | exact HK.out | apply keep_drewN | apply keep_drew | apply keep_alloc | refine keep_far ?_ LW1.out _ | refine keep_far ?_ LW2.out _) | exact HK.out))⟩)
        · have t1 : (r3.1 == ([105, 110] : List UInt8)) = false := by simpa using hin
          have HIN := Aside0.mk (show ¬ r3.1 = [105, 110] from hin)
          clear hin
          go_wp2_with fail
          rw [show (q : Int) = ((s.size - s2.l.length : Nat) : Int) by rw [EQ.out]]
          go_wp2_with fail
          (with_reducible refine (stop_P (w0 := w0) (st := r3.2) s2.l.length (P_le HOK.out) ?side1 ?side2).mono ?_)
          case side1 => (repeat (first | (with_reducible first | exact HI.out | apply IsP.alloc | apply IsP.drewN | apply IsP.drew | refine IsP.far ?_ NG1.out | refine IsP.far ?_ NG2.out) | exact HI.out))
          case side2 => (repeat (first | (with_reducible first | exact HB.out | apply below_alloc | apply pw_below_drewN | apply below_drew1 | refine below_set ?_ LB1.out | refine below_set ?_ LB2.out) | exact HB.out))
          rintro e w4 ⟨rfl, hi, hb, hk⟩
          generalize hE : stopS r3.2 s2.l.length = s4 at hi ⊢
          have Es4 := Aside0.mk hE
          clear hE
          have n0_ := Aside0.mk hi
          have n1_ := Aside0.mk hb
          have n2_ := Aside0.mk (KeepBut.trans (by (repeat (first | (with_reducible first | exact HK.out | apply keep_drewN | apply keep_drew | apply keep_alloc | refine keep_far ?_ LW1.out _ | refine keep_far ?_ LW2.out _) | exact HK.out))) hk (Or.inl rfl))
          clear HI HB HK
          have HI := n0_
          have HB := n1_
          have HK := n2_
          clear n0_ n1_ n2_ hi hb
          -- the two blocks of the call's own, behind a call
          have u1_ := Aside0.mk (show w4.heap[w.heap.size]? = some (.cells zPr 119 (0, 0)) from (hk.2 _ (by have := blk_lt BX1.out; exact this) (by have := NG1.out; omega) (by simp)).trans BX1.out)
          have u2_ := Aside0.mk (show w4.heap[w1.heap.size]? = some (.cells #[.string ⟨r1.1.toArray⟩, .int .i64 0, .int .i64 0, .int .i64 0, .string ⟨#[]⟩] 119 (0, 0)) from (hk.2 _ (by have := blk_lt BX2.out; exact this) (by have := NG2.out; omega) (by simp)).trans BX2.out)
          clear BX1 BX2 hk
          have BX1 := u1_
          have BX2 := u2_
          clear u1_ u2_
          have ES4 := Aside0.mk (show (if r3.1 = [105, 110] then r3.2 else stopS r3.2 s2.l.length) = s4 by rw [if_neg HIN.out]; exact Es4.out)
          go_wp2_with fail
          -- from 'in' on: two numbers
          go_wp2_with fail
          (with_reducible refine (number_P (w0 := w0) (st := s4) hs ?side1 ?side2).mono ?_)
          case side1 => (repeat (first | (with_reducible first | exact HI.out | apply IsP.alloc | apply IsP.drewN | apply IsP.drew | refine IsP.far ?_ NG1.out | refine IsP.far ?_ NG2.out) | exact HI.out))
          case side2 => (repeat (first | (with_reducible first | exact HB.out | apply below_alloc | apply pw_below_drewN | apply below_drew1 | refine below_set ?_ LB1.out | refine below_set ?_ LB2.out) | exact HB.out))
          rintro e w5 ⟨rfl, hi, hb, hk⟩
          generalize hE : numberS s4 = r5 at hi ⊢
          have Er5 := Aside0.mk hE
          clear hE
          have n0_ := Aside0.mk hi
          have n1_ := Aside0.mk hb
          have n2_ := Aside0.mk (KeepBut.trans (by (repeat (first | (with_reducible first | exact HK.out | apply keep_drewN | apply keep_drew | apply keep_alloc | refine keep_far ?_ LW1.out _ | refine keep_far ?_ LW2.out _) | exact HK.out))) hk (Or.inl rfl))
          clear HI HB HK
          have HI := n0_
          have HB := n1_
          have HK := n2_
          clear n0_ n1_ n2_ hi hb
          -- the two blocks of the call's own, behind a call
          have u1_ := Aside0.mk (show w5.heap[w.heap.size]? = some (.cells zPr 119 (0, 0)) from (hk.2 _ (by have := blk_lt BX1.out; exact this) (by have := NG1.out; omega) (by simp)).trans BX1.out)
          have u2_ := Aside0.mk (show w5.heap[w1.heap.size]? = some (.cells #[.string ⟨r1.1.toArray⟩, .int .i64 0, .int .i64 0, .int .i64 0, .string ⟨#[]⟩] 119 (0, 0)) from (hk.2 _ (by have := blk_lt BX2.out; exact this) (by have := NG2.out; omega) (by simp)).trans BX2.out)
          clear BX1 BX2 hk
          have BX1 := u1_
          have BX2 := u2_
          clear u1_ u2_
          have hx20 := blk_cell BX2.out 0
          have hx21 := blk_cell BX2.out 1
          have hx22 := blk_cell BX2.out 2
          have hx23 := blk_cell BX2.out 3
          have hx24 := blk_cell BX2.out 4
          have hy20 := blk_frozen BX2.out 0
          have hy21 := blk_frozen BX2.out 1
          have hy22 := blk_frozen BX2.out 2
          have hy23 := blk_frozen BX2.out 3
          have hy24 := blk_frozen BX2.out 4
          go_wp2_with fail
          clear hx20 hx21 hx22 hx23 hx24 hy20 hy21 hy22 hy23 hy24
          have u2_ := Aside0.mk (show ((w5.setCell ⟨w1.heap.size, 1, none⟩ (.int .i64 1)).setCell ⟨w1.heap.size, 2, none⟩ (.int .i64 r5.1)).heap[w1.heap.size]? = some (.cells #[.string ⟨r1.1.toArray⟩, .int .i64 1, .int .i64 r5.1, .int .i64 0, .string ⟨#[]⟩] 119 (0, 0)) by simpa using blk_set (blk_set BX2.out 1 (.int .i64 1)) 2 (.int .i64 r5.1))
          have u1_ := Aside0.mk (show ((w5.setCell ⟨w1.heap.size, 1, none⟩ (.int .i64 1)).setCell ⟨w1.heap.size, 2, none⟩ (.int .i64 r5.1)).heap[w.heap.size]? = some (.cells zPr 119 (0, 0)) from blk_far (blk_far BX1.out (p := ⟨w1.heap.size, 1, none⟩) (by have := HS1.out; show w.heap.size ≠ w1.heap.size; omega) _) (p := ⟨w1.heap.size, 2, none⟩) (by have := HS1.out; show w.heap.size ≠ w1.heap.size; omega) _)
          clear BX1 BX2
          have BX1 := u1_
          have BX2 := u2_
          clear u1_ u2_
          go_wp2_with fail
          (with_reducible refine (mark_P (w0 := w0) (st := r5.2) ⟨#[46, 46]⟩ (by decide) hs ?side1 ?side2).mono ?_)
          case side1 => (repeat (first | (with_reducible first | exact HI.out | apply IsP.alloc | apply IsP.drewN | apply IsP.drew | refine IsP.far ?_ NG1.out | refine IsP.far ?_ NG2.out) | exact HI.out))
          case side2 => (repeat (first | (with_reducible first | exact HB.out | apply below_alloc | apply pw_below_drewN | apply below_drew1 | refine below_set ?_ LB1.out | refine below_set ?_ LB2.out) | exact HB.out))
          rintro e w6 ⟨rfl, hi, hb, hk⟩
          generalize hE : markS (bytes ⟨#[46, 46]⟩) r5.2 = s6 at hi ⊢
          have Es6 := Aside0.mk hE
          clear hE
          have n0_ := Aside0.mk hi
          have n1_ := Aside0.mk hb
          have n2_ := Aside0.mk (KeepBut.trans (by (repeat (first | (with_reducible first | exact HK.out | apply keep_drewN | apply keep_drew | apply keep_alloc | refine keep_far ?_ LW1.out _ | refine keep_far ?_ LW2.out _) | exact HK.out))) hk (Or.inl rfl))
          clear HI HB HK
          have HI := n0_
          have HB := n1_
          have HK := n2_
          clear n0_ n1_ n2_ hi hb
          -- the two blocks of the call's own, behind a call
          have u1_ := Aside0.mk (show w6.heap[w.heap.size]? = some (.cells zPr 119 (0, 0)) from (hk.2 _ (by have := blk_lt BX1.out; exact this) (by have := NG1.out; omega) (by simp)).trans BX1.out)
          have u2_ := Aside0.mk (show w6.heap[w1.heap.size]? = some (.cells #[.string ⟨r1.1.toArray⟩, .int .i64 1, .int .i64 r5.1, .int .i64 0, .string ⟨#[]⟩] 119 (0, 0)) from (hk.2 _ (by have := blk_lt BX2.out; exact this) (by have := NG2.out; omega) (by simp)).trans BX2.out)
          clear BX1 BX2 hk
          have BX1 := u1_
          have BX2 := u2_
          clear u1_ u2_
          go_wp2_with fail
          (with_reducible refine (number_P (w0 := w0) (st := s6) hs ?side1 ?side2).mono ?_)
          case side1 => (repeat (first | (with_reducible first | exact HI.out | apply IsP.alloc | apply IsP.drewN | apply IsP.drew | refine IsP.far ?_ NG1.out | refine IsP.far ?_ NG2.out) | exact HI.out))
          case side2 => (repeat (first | (with_reducible first | exact HB.out | apply below_alloc | apply pw_below_drewN | apply below_drew1 | refine below_set ?_ LB1.out | refine below_set ?_ LB2.out) | exact HB.out))
          rintro e w7 ⟨rfl, hi, hb, hk⟩
          generalize hE : numberS s6 = r7 at hi ⊢
          have Er7 := Aside0.mk hE
          clear hE
          have n0_ := Aside0.mk hi
          have n1_ := Aside0.mk hb
          have n2_ := Aside0.mk (KeepBut.trans (by (repeat (first | (with_reducible first | exact HK.out | apply keep_drewN | apply keep_drew | apply keep_alloc | refine keep_far ?_ LW1.out _ | refine keep_far ?_ LW2.out _) | exact HK.out))) hk (Or.inl rfl))
          clear HI HB HK
          have HI := n0_
          have HB := n1_
          have HK := n2_
          clear n0_ n1_ n2_ hi hb
          -- the two blocks of the call's own, behind a call
          have u1_ := Aside0.mk (show w7.heap[w.heap.size]? = some (.cells zPr 119 (0, 0)) from (hk.2 _ (by have := blk_lt BX1.out; exact this) (by have := NG1.out; omega) (by simp)).trans BX1.out)
          have u2_ := Aside0.mk (show w7.heap[w1.heap.size]? = some (.cells #[.string ⟨r1.1.toArray⟩, .int .i64 1, .int .i64 r5.1, .int .i64 0, .string ⟨#[]⟩] 119 (0, 0)) from (hk.2 _ (by have := blk_lt BX2.out; exact this) (by have := NG2.out; omega) (by simp)).trans BX2.out)
          clear BX1 BX2 hk
          have BX1 := u1_
          have BX2 := u2_
          clear u1_ u2_
          have hx20 := blk_cell BX2.out 0
          have hx21 := blk_cell BX2.out 1
          have hx22 := blk_cell BX2.out 2
          have hx23 := blk_cell BX2.out 3
          have hx24 := blk_cell BX2.out 4
          have hy20 := blk_frozen BX2.out 0
          have hy21 := blk_frozen BX2.out 1
          have hy22 := blk_frozen BX2.out 2
          have hy23 := blk_frozen BX2.out 3
          have hy24 := blk_frozen BX2.out 4
          have hx10 := (blk_cell BX1.out 0).trans (show zPr[0]? = some (.string ⟨#[]⟩) from rfl)
          have hx11 := (blk_cell BX1.out 1).trans (show zPr[1]? = some (.int .i64 0) from rfl)
          have hx12 := (blk_cell BX1.out 2).trans (show zPr[2]? = some (.int .i64 0) from rfl)
          have hx13 := (blk_cell BX1.out 3).trans (show zPr[3]? = some (.int .i64 0) from rfl)
          have hx14 := (blk_cell BX1.out 4).trans (show zPr[4]? = some (.string ⟨#[]⟩) from rfl)
          have hy10 := blk_frozen BX1.out 0
          have hy11 := blk_frozen BX1.out 1
          have hy12 := blk_frozen BX1.out 2
          have hy13 := blk_frozen BX1.out 3
          have hy14 := blk_frozen BX1.out 4
          have hne1 : ¬ (w.heap.size = w1.heap.size) := by have := HS1.out; omega
          have hne2 : ¬ (w1.heap.size = w.heap.size) := by have := HS1.out; omega
          go_wp2
          refine bodyPost_ret (v := prV ⟨r1.1, 1, r5.1, r7.1, []⟩) ?_ rfl ?_
          · simp [results, Try.results51, go_sem, prV, hne1, hne2, hx10, hx11, hx12, hx13, hx14]
          · (rw [show predS st = (⟨r1.1, 1, r5.1, r7.1, []⟩, r7.2) from by unfold predS; simp only [Er1.out, Es2.out]; rw [if_neg (by rw [HL2.out]; simpa using H61.out), if_neg (by rw [HL2.out]; simpa using H94.out)]; unfold inS; simp only [Er3.out, ES4.out, Er5.out]; rw [show markS [46, 46] r5.2 = s6 from Es6.out, Er7.out]]; exact ⟨rfl, by (repeat (first | (with_reducible first | exact HI.out | apply IsP.alloc | apply IsP.drewN | apply IsP.drew | refine IsP.far ?_ NG1.out | refine IsP.far ?_ NG2.out) | exact HI.out)), by (repeat (first | (with_reducible first | exact HB.out | apply below_alloc | apply pw_below_drewN | apply below_drew1 | refine below_set ?_ LB1.out | refine below_set ?_ LB2.out) | exact HB.out)), by (repeat (first | (with_reducible first | exact HK.out | apply keep_drewN | apply keep_drew | apply keep_alloc | refine keep_far ?_ LW1.out _ | refine keep_far ?_ LW2.out _) | exact HK.out))⟩)
end
end Go.Proofs.Ytlokmijoaocofaa.Mine
end
section
/-
  The filter parser as plain functions, more: what is left shrinks; the loop's step.
-/
namespace Go.Proofs.Ytlokmijoaocofaa.Mine
theorem predS_le {st : St} (h : st.bad = none) : (predS st).2.l.length ≤ st.l.length := (predS_ok (w := st.l) ⟨List.suffix_refl _, fun n hn => by rw [h] at hn; cases hn⟩).1.length_le
theorem blanksS_le (st : St) : (blanksS st).l.length ≤ st.l.length := by
  unfold blanksS
  split
  · exact Nat.le_refl _
  · exact (skip_suf _).length_le
theorem wordL_lt {l : List UInt8} (h : (wordL l).2.bad = none) : (wordL l).2.l.length < l.length := by
  match l with
  | [] => simp [wordL] at h
  | c :: r =>
    by_cases hc : isL c = true
    · have := (dropWhile_suf isA r).length_le
      simp only [wordL, if_pos hc, List.length_cons]
      omega
    · simp [wordL, hc] at h
theorem wordS_lt {st : St} (h0 : st.bad = none) (h : (wordS st).2.bad = none) : (wordS st).2.l.length < st.l.length := by
  obtain ⟨l, b⟩ := st
  cases h0
  have h1 := wordL_lt (l := skip l) h
  have h2 := (skip_suf l).length_le
  show (wordL (skip l)).2.l.length < l.length
  omega
/-- 'and' behind a predicate. -/
def andS (b : St) : St := if (wordS b).1 = [97, 110, 100] then (wordS b).2 else stopS (wordS b).2 b.l.length
theorem andS_ok {w : List UInt8} {st : St} (h : st.ok w) : (andS st).ok w := by
  unfold andS
  split
  · exact wordS_ok h
  · exact stopS_ok (wordS_ok h) h.le
theorem stopS_none {st : St} {n : Nat} (h : (stopS st n).bad = none) : False := by
  unfold stopS at h
  split at h
  · rename_i hb
    rw [hb] at h
    cases h
  · simp at h
theorem andS_lt {st : St} (h0 : st.bad = none) (h : (andS st).bad = none) : (andS st).l.length < st.l.length := by
  unfold andS at h ⊢
  split
  · rename_i hw
    rw [if_pos hw] at h
    exact wordS_lt h0 h
  · rename_i hw
    rw [if_neg hw] at h
    exact (stopS_none h).elim
theorem parseS_succ (k : Nat) (st : St) (acc : List Pr) : parseS (k + 1) st acc =
    match (blanksS (predS st).2).bad with
    | some n => .inr n
    | none => if (blanksS (predS st).2).l = [] then .inl (acc ++ [(predS st).1]) else
      match (andS (blanksS (predS st).2)).bad with
      | some n => .inr n
      | none => parseS k (andS (blanksS (predS st).2)) (acc ++ [(predS st).1]) := rfl
end Go.Proofs.Ytlokmijoaocofaa.Mine
end
section
/-
  The contract of filter.Parse: what it hands back is what the plain parser of Plain says. Condition: the text at most 1000 bytes.
-/
namespace Go.Proofs.Ytlokmijoaocofaa.Mine
open Go.RowKit Go.Proofs.YtlokmijoaocofaaW.PrintWords Go.Proofs.YtlokmijoaocofaaW.PrintLast Go.Proofs.YtlokmijoaocofaaW.PrintMore
open Go.Proofs.Ytlokmijoaocofaa.PBoardAgain

def toP (x : Pr) : S119 := ⟨⟨x.name.toArray⟩, x.op, x.lo, x.hi, ⟨x.str.toArray⟩⟩
/-- A fault in memory: where, the place, the code. -/
def IsFault (w : World) (b : Nat) (wh : ByteArray) (at_ c : Int) : Prop := w.heap[b]? = some (.cells #[.string wh, .int .i64 at_, .iface 47 (.int .i64 c)] 105 (0, 0))
def sFilter : ByteArray := ⟨#[102, 105, 108, 116, 101, 114]⟩
/-- What a text is: its predicates, or the place and the code. -/
def parseR (s : ByteArray) : List Pr ⊕ (Int × Int) :=
  if 300 < s.size then .inr (0, 1) else
  match parseS (s.size + 1) ⟨bytes s, none⟩ [] with
  | .inl xs => .inl xs
  | .inr n => .inr (((s.size - n : Nat) : Int), 2)
def ParseOk (w : World) (xs : List Pr) (e : Ending) (w' : World) : Prop := ∃ v, e = .returned (.tuple #[v, .nilIface]) ∧ Kd.R k119 119 w' w.heap.size (fun _ => True) v (xs.map toP) ∧ Below w.heap.size w w'
def ParseNo (w : World) (at_ c : Int) (e : Ending) (w' : World) : Prop := ∃ b, w.heap.size ≤ b ∧ e = .returned (.tuple #[.slice none 0 0, .iface 103 (.pointer (some ⟨b, 0, none⟩))]) ∧ IsFault w' b sFilter at_ c ∧ Below w.heap.size w w'
def ParsePost (w : World) (s : ByteArray) (e : Ending) (w' : World) : Prop :=
  match parseR s with
  | .inl xs => ParseOk w xs e w'
  | .inr (at_, c) => ParseNo w at_ c e w'

theorem info119 : (Try.prog.info? 119).map (fun i => (i.zero, i.size, i.bytes)) = some (some (.agg #[(.string ⟨#[]⟩), (.int .i64 0), (.int .i64 0), (.int .i64 0), (.string ⟨#[]⟩)]), 5, 56) := by kernel_rfl
theorem R_call {α : Type} {d : Kd α} {e : Nat} {w0 W W' : World} {g base : Nat} {s : ByteArray} {st : St} {v : Value} {xs : List α} (hi : IsP w0 W g s st) (ho : d.R e W base (fun _ => True) v xs) (ht : ∀ q, q ∈ e :: d.E → q ≠ 132) (hk : KeepBut W W' g none) : d.R e W' base (fun _ => True) v xs :=
  Kd.R_mono (Kd.R_keep (IsS132.apart hi.2 ho ht) hk (fun _ h => h.2)) (fun _ _ => trivial)
theorem IsP.grown {w0 W W1 : World} {g : Nat} {s : ByteArray} {st : St} {row : Option Nat} (h : IsP w0 W g s st) (hg : W.grownBy W1 row) (hn : some g ≠ row) : IsP w0 W1 g s st := ⟨h.1, h.2.grown hg hn⟩
theorem rel_next {s : ByteArray} {R : List Pr ⊕ Nat} {gk : Nat} {l : List UInt8} {acc : List Pr} {x : Pr} {st4 : St} {wr w : World} {v : Value}
    (hF : R = match st4.bad with | some n => .inr n | none => parseS (gk - 2) st4 (acc ++ [x])) (hlt : st4.bad = none → st4.l.length < l.length) (hl : acc.length + l.length ≤ s.size) (hk : l.length + 1 < gk)
    (ho : Kd.R k119 119 wr w.heap.size (fun _ => True) v ((acc ++ [x]).map toP)) :
    (st4.bad = none ∧ st4.l.length + 1 < gk - 1 ∧ parseS (gk - 1 - 1) st4 (acc ++ [x]) = R ∧ (acc ++ [x]).length + st4.l.length ≤ s.size ∧ Kd.R k119 119 wr w.heap.size (fun _ => True) v ((acc ++ [x]).map toP)) ∨ (∃ m, st4.bad = some m ∧ 0 < gk - 1 ∧ R = .inr m) := by
  cases hb : st4.bad with
  | none =>
    rw [hb] at hF
    have := hlt hb
    exact Or.inl ⟨rfl, by omega, by rw [show gk - 1 - 1 = gk - 2 by omega]; exact hF.symm, by simp; omega, ho⟩
  | some m =>
    rw [hb] at hF
    exact Or.inr ⟨m, rfl, by omega, hF⟩
set_option maxHeartbeats 1000000 in
set_option maxRecDepth 100000 in
theorem parse_long (s : ByteArray) (w : World) (hs : s.size ≤ 1000) (h : 300 < s.size) : Calls Try.prog 38 #[.string s] w (ParsePost w s) := by
  have hr : parseR s = .inr (0, 1) := by unfold parseR; rw [if_pos h]
  have HR := Aside0.mk hr
  clear hr
  have h1 := decide_eq_true (show (300 : Int) < (s.size : Int) by omega)
  go_enter Try.func38, Try.ntmps38
  go_wp2
  go_ret2
  unfold ParsePost
  rw [HR.out]
  exact ⟨w.heap.size, Nat.le_refl _, rfl, heap_alloc_new w _, (Below.refl _ _).alloc (Nat.le_refl _) _⟩

set_option maxHeartbeats 4000000 in
set_option maxRecDepth 100000 in
theorem parse_any (s : ByteArray) (w : World) (h : s.size ≤ 300) : Calls Try.prog 38 #[.string s] w (ParsePost w s) := by
  have hs : s.size ≤ 1000 := by omega
  have h1 := decide_eq_false (show ¬ (300 : Int) < (s.size : Int) by omega)
  have HR := Aside0.mk (show parseR s = match parseS (s.size + 1) ⟨bytes s, none⟩ [] with | .inl xs => .inl xs | .inr n => .inr (((s.size - n : Nat) : Int), 2) by unfold parseR; rw [if_neg (by omega)])
  generalize hR : parseS (s.size + 1) ⟨bytes s, none⟩ [] = R at HR
  have ER := Aside0.mk hR
  clear hR
  go_enter Try.func38, Try.ntmps38
  go_wp2
  go_loopg [5, 6] (s.size + 2) (fun n v5 _ wr => ∃ (acc : List Pr) (st : St), Aside0 ((st.bad = none ∧ st.l.length + 1 < n ∧ parseS (n - 1) st acc = R ∧ acc.length + st.l.length ≤ s.size ∧ Kd.R k119 119 wr w.heap.size (fun _ => True) v5 (acc.map toP)) ∨ (∃ m, st.bad = some m ∧ 0 < n ∧ R = .inr m)) ∧ Aside0 (IsP w wr w.heap.size s st) ∧ Aside0 (Below w.heap.size w wr))
  case atStart => exact ⟨[], ⟨bytes s, none⟩, ⟨Or.inl ⟨rfl, by show (bytes s).length + 1 < s.size + 2; rw [bytes_len]; omega, ER.out, by show 0 + (bytes s).length ≤ s.size; rw [bytes_len]; omega, Kd.R_nil _ _ _ _ _⟩⟩, ⟨⟨⟨List.suffix_refl _, fun n hn => by cases hn⟩, by rw [show s.size - (bytes s).length = 0 by rw [bytes_len]; omega]; exact IsS132.new w w s 0 (-1) (Below.refl _ _)⟩⟩, ⟨(Below.refl _ _).alloc (Nat.le_refl _) _⟩⟩
  case round =>
    obtain ⟨acc, st, HA, HI, HB⟩ := hrel
    rcases HA.out with ⟨hbad, hk1, hp, hl, ho⟩ | ⟨m, hbad, hk0, hp⟩
    · obtain ⟨l, b⟩ := st
      cases hbad
      have HO := Aside0.mk ho
      have HA1 := Aside0.mk hl
      have HP := Aside0.mk hp
      have HKL := Aside0.mk hk1
      clear hl hp ho HA hk1
      obtain ⟨hok, HG, hg⟩ := HI.out
      have HOK := Aside0.mk hok
      have hc0 := cellS132_0 HG
      have hc1 := cellS132_1 HG
      have hc2 := cellS132_2 HG
      have hf0 := blk_frozen HG 0
      have hf1 := blk_frozen HG 1
      have hf2 := blk_frozen HG 2
      clear HG hg hok
      have hc2' : wr.cell? ⟨w.heap.size, 2, none⟩ = some (.int .i64 (-1)) := hc2
      clear hc2
      go_wp2_with fail
      (with_reducible refine (pred_P (w0 := w) (st := ⟨l, none⟩) hs ?side1 ?side2).mono ?_)
      case side1 => (repeat (first | (with_reducible first | exact HI.out | apply IsP.alloc | apply IsP.drewN | apply IsP.drew) | exact HI.out))
      case side2 => (repeat (first | (with_reducible first | exact HB.out | apply below_alloc | apply pw_below_drewN | apply below_drew1) | exact HB.out))
      rintro e w1 ⟨rfl, hi, hb, hk⟩
      generalize hE : predS ⟨l, none⟩ = r1 at hi ⊢
      have Er1 := Aside0.mk hE
      clear hE
      have n0_ := Aside0.mk hi
      have n1_ := Aside0.mk hb
      have n2_ := Aside0.mk (R_call (by (repeat (first | (with_reducible first | exact HI.out | apply IsP.alloc | apply IsP.drewN | apply IsP.drew) | exact HI.out))) (by (with_reducible repeat (first | apply Kd.R_alloc | apply Kd.R_drewN | apply Kd.R_drew)); exact HO.out) (by decide) hk)
      clear HI HB HO
      have HI := n0_
      have HB := n1_
      have HO := n2_
      clear n0_ n1_ n2_ hi hb hk
      clear hc0 hc1 hc2' hf0 hf1 hf2
      unfold prV
      go_wp2_with ((with_reducible refine gate_builtin (b := .append) (xs := #[.tmp 22, .tmp 25]) rfl ?_); at_builtin; refine Kd.R_append k119 (w0 := w) w.heap.size rfl (.tmp 22) (.tmp 25) 76 119 (.agg #[(.string ⟨#[]⟩), (.int .i64 0), (.int .i64 0), (.int .i64 0), (.string ⟨#[]⟩)]) 56 rfl Try.underlying76 info119 rfl (by decide) (by omega) u5 (acc.map toP) (toP r1.1) [.string ⟨r1.1.name.toArray⟩, .int .i64 r1.1.op, .int .i64 r1.1.lo, .int .i64 r1.1.hi, .string ⟨r1.1.str.toArray⟩] (fun _ => True) (fun _ => False) rfl ?aX ?aP (fun _ hk => hk.elim) ?aF ?aO ?aB ?aS ?aL ?_; (case aX => first | rfl | (go_simp; done) | (go_simp; rfl)); (case aP => exact k119_mkM _ _ _ (toP r1.1)); (case aB => (repeat (first | (with_reducible first | exact HB.out | apply below_alloc | apply pw_below_drewN | apply below_drew1) | exact HB.out))); (case aF => exact (fun _ _ => trivial)); (case aO => (with_reducible repeat (first | apply Kd.R_alloc | apply Kd.R_drewN | apply Kd.R_drew)); exact HO.out); (case aS => exact below_size (by (repeat (first | (with_reducible first | exact HB.out | apply below_alloc | apply pw_below_drewN | apply below_drew1) | exact HB.out)))); (case aL => have := HA1.out; simp; omega); intro v5 w5 ho hb hg hat; rw [show acc.map toP ++ [toP r1.1] = (acc ++ [r1.1]).map toP by simp] at ho; have n0_ := Aside0.mk (IsP.grown (by (repeat (first | (with_reducible first | exact HI.out | apply IsP.alloc | apply IsP.drewN | apply IsP.drew) | exact HI.out))) hg (IsS132.own_ne HI.out.2 HO.out (by decide))); have n1_ := Aside0.mk hb; have n2_ := Aside0.mk ho; clear HI HB HO ho hb hg hat; have HI := n0_; have HB := n1_; have HO := n2_; clear n0_ n1_ n2_)
      go_wp2_with fail
      (with_reducible refine (blanks_P (w0 := w) (st := r1.2) hs ?side1 ?side2).mono ?_)
      case side1 => (repeat (first | (with_reducible first | exact HI.out | apply IsP.alloc | apply IsP.drewN | apply IsP.drew) | exact HI.out))
      case side2 => (repeat (first | (with_reducible first | exact HB.out | apply below_alloc | apply pw_below_drewN | apply below_drew1) | exact HB.out))
      rintro e w6 ⟨rfl, hi, hb, hk⟩
      generalize hE : blanksS r1.2 = s2 at hi ⊢
      have Es2 := Aside0.mk hE
      clear hE
      have n0_ := Aside0.mk hi
      have n1_ := Aside0.mk hb
      have n2_ := Aside0.mk (R_call (by (repeat (first | (with_reducible first | exact HI.out | apply IsP.alloc | apply IsP.drewN | apply IsP.drew) | exact HI.out))) (by (with_reducible repeat (first | apply Kd.R_alloc | apply Kd.R_drewN | apply Kd.R_drew)); exact HO.out) (by decide) hk)
      clear HI HB HO
      have HI := n0_
      have HB := n1_
      have HO := n2_
      clear n0_ n1_ n2_ hi hb hk
      have hle := Nat.le_trans (blanksS_le r1.2) (by rw [← Er1.out]; exact predS_le (st := ⟨l, none⟩) rfl)
      rw [Es2.out] at hle
      have HLE := Aside0.mk hle
      clear hle
      have HST := Aside0.mk (show R = match s2.bad with | some n => .inr n | none => if s2.l = [] then .inl (acc ++ [r1.1]) else match (andS s2).bad with | some n => .inr n | none => parseS (gk - 2) (andS s2) (acc ++ [r1.1]) by
        have h5 := HP.out
        obtain ⟨kk, hkk⟩ : ∃ kk, gk = kk + 2 := ⟨gk - 2, by have := HKL.out; omega⟩
        rw [hkk, show kk + 2 - 1 = kk + 1 by omega, parseS_succ, Er1.out, Es2.out] at h5
        rw [hkk, show kk + 2 - 2 = kk by omega]
        exact h5.symm)
      clear HP Er1 Es2
      obtain ⟨hok, HG, hg⟩ := HI.out
      have HOK := Aside0.mk hok
      have hc0 := cellS132_0 HG
      have hc1 := cellS132_1 HG
      have hc2 := cellS132_2 HG
      have hf0 := blk_frozen HG 0
      have hf1 := blk_frozen HG 1
      have hf2 := blk_frozen HG 2
      clear HG hg hok
      obtain ⟨l2, b2⟩ := s2
      obtain ⟨bd, hbd⟩ : ∃ bd, badI s b2 = bd := ⟨_, rfl⟩
      have hc2' : w6.cell? ⟨w.heap.size, 2, none⟩ = some (.int .i64 bd) := by rw [← hbd]; exact hc2
      have hc1' : w6.cell? ⟨w.heap.size, 1, none⟩ = some (.int .i64 ((s.size - l2.length : Nat) : Int)) := hc1
      clear hc2 hc1
      cases hb2 : b2 with
      | some m =>
        have q1 := decide_eq_false (show ¬ (bd < 0) by rw [← hbd, hb2]; have := badI_nn s m; omega)
        have HFIN := Aside0.mk (show R = match (andS ⟨l2, b2⟩).bad with | some n => .inr n | none => parseS (gk - 2) (andS ⟨l2, b2⟩) (acc ++ [r1.1]) by
          have h5 := HST.out
          have h6 : andS ⟨l2, b2⟩ = ⟨l2, some m⟩ := by subst hb2; unfold andS; rw [wordS_bad rfl, if_neg (by simp), stopS_bad rfl]
          rw [h6]
          rw [hb2] at h5
          exact h5)
        have HLT := Aside0.mk (show (andS ⟨l2, b2⟩).bad = none → (andS ⟨l2, b2⟩).l.length < l.length by
          have h6 : andS ⟨l2, b2⟩ = ⟨l2, some m⟩ := by subst hb2; unfold andS; rw [wordS_bad rfl, if_neg (by simp), stopS_bad rfl]
          rw [h6]
          intro h7
          cases h7)
        clear hbd hb2
        go_wp2_with fail
        repeat (go_quiet (fail); try go_wp2_with fail)
        go_wp2_with fail
        (with_reducible refine (word_P (w0 := w) (st := ⟨l2, b2⟩) hs ?side1 ?side2).mono ?_)
        case side1 => (repeat (first | (with_reducible first | exact HI.out | apply IsP.alloc | apply IsP.drewN | apply IsP.drew) | exact HI.out))
        case side2 => (repeat (first | (with_reducible first | exact HB.out | apply below_alloc | apply pw_below_drewN | apply below_drew1) | exact HB.out))
        rintro e w7 ⟨rfl, hi, hb, hk⟩
        generalize hE : wordS ⟨l2, b2⟩ = r3 at hi ⊢
        have Er3 := Aside0.mk hE
        clear hE
        have n0_ := Aside0.mk hi
        have n1_ := Aside0.mk hb
        have n2_ := Aside0.mk (R_call (by (repeat (first | (with_reducible first | exact HI.out | apply IsP.alloc | apply IsP.drewN | apply IsP.drew) | exact HI.out))) (by (with_reducible repeat (first | apply Kd.R_alloc | apply Kd.R_drewN | apply Kd.R_drew)); exact HO.out) (by decide) hk)
        clear HI HB HO
        have HI := n0_
        have HB := n1_
        have HO := n2_
        clear n0_ n1_ n2_ hi hb hk
        by_cases hand : r3.1 = [97, 110, 100]
        · have t1 : (r3.1 == ([97, 110, 100] : List UInt8)) = true := by simpa using hand
          have HAND := Aside0.mk (show r3.1 = [97, 110, 100] from hand)
          clear hand
          go_wp2_with fail
          go_roundg (gk - 1)
          case measure => have := HKL.out; omega
          case rel => exact ⟨acc ++ [r1.1], r3.2, ⟨rel_next (l := l) (by rw [← show andS ⟨l2, b2⟩ = r3.2 from by unfold andS; rw [Er3.out, if_pos HAND.out]]; exact HFIN.out) (by rw [← show andS ⟨l2, b2⟩ = r3.2 from by unfold andS; rw [Er3.out, if_pos HAND.out]]; exact HLT.out) HA1.out HKL.out (by (with_reducible repeat (first | apply Kd.R_alloc | apply Kd.R_drewN | apply Kd.R_drew)); exact HO.out)⟩, ⟨by (repeat (first | (with_reducible first | exact HI.out | apply IsP.alloc | apply IsP.drewN | apply IsP.drew) | exact HI.out))⟩, ⟨by (repeat (first | (with_reducible first | exact HB.out | apply below_alloc | apply pw_below_drewN | apply below_drew1) | exact HB.out))⟩⟩
        · have t1 : (r3.1 == ([97, 110, 100] : List UInt8)) = false := by simpa using hand
          have HAND := Aside0.mk (show ¬ r3.1 = [97, 110, 100] from hand)
          clear hand
          go_wp2_with fail
          go_wp2_with fail
          (with_reducible refine (stop_P (w0 := w) (st := r3.2) l2.length (P_le HOK.out) ?side1 ?side2).mono ?_)
          case side1 => (repeat (first | (with_reducible first | exact HI.out | apply IsP.alloc | apply IsP.drewN | apply IsP.drew) | exact HI.out))
          case side2 => (repeat (first | (with_reducible first | exact HB.out | apply below_alloc | apply pw_below_drewN | apply below_drew1) | exact HB.out))
          rintro e w8 ⟨rfl, hi, hb, hk⟩
          generalize hE : stopS r3.2 l2.length = s4 at hi ⊢
          have Es4 := Aside0.mk hE
          clear hE
          have n0_ := Aside0.mk hi
          have n1_ := Aside0.mk hb
          have n2_ := Aside0.mk (R_call (by (repeat (first | (with_reducible first | exact HI.out | apply IsP.alloc | apply IsP.drewN | apply IsP.drew) | exact HI.out))) (by (with_reducible repeat (first | apply Kd.R_alloc | apply Kd.R_drewN | apply Kd.R_drew)); exact HO.out) (by decide) hk)
          clear HI HB HO
          have HI := n0_
          have HB := n1_
          have HO := n2_
          clear n0_ n1_ n2_ hi hb hk
          go_wp2_with fail
          go_roundg (gk - 1)
          case measure => have := HKL.out; omega
          case rel => exact ⟨acc ++ [r1.1], s4, ⟨rel_next (l := l) (by rw [← show andS ⟨l2, b2⟩ = s4 from by unfold andS; rw [Er3.out, if_neg HAND.out]; exact Es4.out]; exact HFIN.out) (by rw [← show andS ⟨l2, b2⟩ = s4 from by unfold andS; rw [Er3.out, if_neg HAND.out]; exact Es4.out]; exact HLT.out) HA1.out HKL.out (by (with_reducible repeat (first | apply Kd.R_alloc | apply Kd.R_drewN | apply Kd.R_drew)); exact HO.out)⟩, ⟨by (repeat (first | (with_reducible first | exact HI.out | apply IsP.alloc | apply IsP.drewN | apply IsP.drew) | exact HI.out))⟩, ⟨by (repeat (first | (with_reducible first | exact HB.out | apply below_alloc | apply pw_below_drewN | apply below_drew1) | exact HB.out))⟩⟩
      | none =>
        have q1 := decide_eq_true (show bd < 0 by rw [← hbd, hb2]; show (-1 : Int) < 0; omega)
        have q2 := eq_true (show bd < 0 by rw [← hbd, hb2]; show (-1 : Int) < 0; omega)
        have hle2 := P_le HOK.out
        by_cases hl2 : l2 = []
        · subst hl2
          have HFIN := Aside0.mk (show R = .inl (acc ++ [r1.1]) by have h5 := HST.out; rw [hb2] at h5; exact h5)
          have q3 : (((s.size - ([] : List UInt8).length : Nat) : Int) == (s.size : Int)) = true := by simp
          have q4 : (((s.size - ([] : List UInt8).length : Nat)) == (s.size)) = true := by simp
          clear hbd hb2
          go_wp2_with fail
          repeat (go_quiet (fail); try go_wp2_with fail)
          go_ret2
          unfold ParsePost
          rw [HR.out, HFIN.out]
          exact ⟨v5, rfl, by (with_reducible repeat (first | apply Kd.R_alloc | apply Kd.R_drewN | apply Kd.R_drew)); exact HO.out, by (repeat (first | (with_reducible first | exact HB.out | apply below_alloc | apply pw_below_drewN | apply below_drew1) | exact HB.out))⟩
        · have hpos : 0 < l2.length := List.length_pos_iff.mpr hl2
          have q3 : (((s.size - l2.length : Nat) : Int) == (s.size : Int)) = false := beq_eq_false_iff_ne.mpr (by have : l2.length ≤ s.size := hle2; omega)
          have q4 : (((s.size - l2.length : Nat)) == (s.size)) = false := beq_eq_false_iff_ne.mpr (by have : l2.length ≤ s.size := hle2; omega)
          have HFIN := Aside0.mk (show R = match (andS ⟨l2, b2⟩).bad with | some n => .inr n | none => parseS (gk - 2) (andS ⟨l2, b2⟩) (acc ++ [r1.1]) by
            have h5 := HST.out
            rw [hb2] at h5 ⊢
            simp only at h5
            rw [if_neg hl2] at h5
            exact h5)
          have HLT := Aside0.mk (show (andS ⟨l2, b2⟩).bad = none → (andS ⟨l2, b2⟩).l.length < l.length by
            intro h7
            have h8 := andS_lt (st := ⟨l2, b2⟩) hb2 h7
            have h9 : l2.length ≤ l.length := HLE.out
            exact Nat.lt_of_lt_of_le h8 h9)
          clear hbd hb2 hl2
          go_wp2_with fail
          repeat (go_quiet (fail); try go_wp2_with fail)
          go_wp2_with fail
          (with_reducible refine (word_P (w0 := w) (st := ⟨l2, b2⟩) hs ?side1 ?side2).mono ?_)
          case side1 => (repeat (first | (with_reducible first | exact HI.out | apply IsP.alloc | apply IsP.drewN | apply IsP.drew) | exact HI.out))
          case side2 => (repeat (first | (with_reducible first | exact HB.out | apply below_alloc | apply pw_below_drewN | apply below_drew1) | exact HB.out))
          rintro e w7 ⟨rfl, hi, hb, hk⟩
          generalize hE : wordS ⟨l2, b2⟩ = r3 at hi ⊢
          have Er3 := Aside0.mk hE
          clear hE
          have n0_ := Aside0.mk hi
          have n1_ := Aside0.mk hb
          have n2_ := Aside0.mk (R_call (by (repeat (first | (with_reducible first | exact HI.out | apply IsP.alloc | apply IsP.drewN | apply IsP.drew) | exact HI.out))) (by (with_reducible repeat (first | apply Kd.R_alloc | apply Kd.R_drewN | apply Kd.R_drew)); exact HO.out) (by decide) hk)
          clear HI HB HO
          have HI := n0_
          have HB := n1_
          have HO := n2_
          clear n0_ n1_ n2_ hi hb hk
          by_cases hand : r3.1 = [97, 110, 100]
          · have t1 : (r3.1 == ([97, 110, 100] : List UInt8)) = true := by simpa using hand
            have HAND := Aside0.mk (show r3.1 = [97, 110, 100] from hand)
            clear hand
            go_wp2_with fail
            go_roundg (gk - 1)
            case measure => have := HKL.out; omega
            case rel => exact ⟨acc ++ [r1.1], r3.2, ⟨rel_next (l := l) (by rw [← show andS ⟨l2, b2⟩ = r3.2 from by unfold andS; rw [Er3.out, if_pos HAND.out]]; exact HFIN.out) (by rw [← show andS ⟨l2, b2⟩ = r3.2 from by unfold andS; rw [Er3.out, if_pos HAND.out]]; exact HLT.out) HA1.out HKL.out (by (with_reducible repeat (first | apply Kd.R_alloc | apply Kd.R_drewN | apply Kd.R_drew)); exact HO.out)⟩, ⟨by (repeat (first | (with_reducible first | exact HI.out | apply IsP.alloc | apply IsP.drewN | apply IsP.drew) | exact HI.out))⟩, ⟨by (repeat (first | (with_reducible first | exact HB.out | apply below_alloc | apply pw_below_drewN | apply below_drew1) | exact HB.out))⟩⟩
          · have t1 : (r3.1 == ([97, 110, 100] : List UInt8)) = false := by simpa using hand
            have HAND := Aside0.mk (show ¬ r3.1 = [97, 110, 100] from hand)
            clear hand
            go_wp2_with fail
            go_wp2_with fail
            (with_reducible refine (stop_P (w0 := w) (st := r3.2) l2.length (P_le HOK.out) ?side1 ?side2).mono ?_)
            case side1 => (repeat (first | (with_reducible first | exact HI.out | apply IsP.alloc | apply IsP.drewN | apply IsP.drew) | exact HI.out))
            case side2 => (repeat (first | (with_reducible first | exact HB.out | apply below_alloc | apply pw_below_drewN | apply below_drew1) | exact HB.out))
            rintro e w8 ⟨rfl, hi, hb, hk⟩
            generalize hE : stopS r3.2 l2.length = s4 at hi ⊢
            have Es4 := Aside0.mk hE
            clear hE
            have n0_ := Aside0.mk hi
            have n1_ := Aside0.mk hb
            have n2_ := Aside0.mk (R_call (by (repeat (first | (with_reducible first | exact HI.out | apply IsP.alloc | apply IsP.drewN | apply IsP.drew) | exact HI.out))) (by (with_reducible repeat (first | apply Kd.R_alloc | apply Kd.R_drewN | apply Kd.R_drew)); exact HO.out) (by decide) hk)
            clear HI HB HO
            have HI := n0_
            have HB := n1_
            have HO := n2_
            clear n0_ n1_ n2_ hi hb hk
            go_wp2_with fail
            go_roundg (gk - 1)
            case measure => have := HKL.out; omega
            case rel => exact ⟨acc ++ [r1.1], s4, ⟨rel_next (l := l) (by rw [← show andS ⟨l2, b2⟩ = s4 from by unfold andS; rw [Er3.out, if_neg HAND.out]; exact Es4.out]; exact HFIN.out) (by rw [← show andS ⟨l2, b2⟩ = s4 from by unfold andS; rw [Er3.out, if_neg HAND.out]; exact Es4.out]; exact HLT.out) HA1.out HKL.out (by (with_reducible repeat (first | apply Kd.R_alloc | apply Kd.R_drewN | apply Kd.R_drew)); exact HO.out)⟩, ⟨by (repeat (first | (with_reducible first | exact HI.out | apply IsP.alloc | apply IsP.drewN | apply IsP.drew) | exact HI.out))⟩, ⟨by (repeat (first | (with_reducible first | exact HB.out | apply below_alloc | apply pw_below_drewN | apply below_drew1) | exact HB.out))⟩⟩
    · obtain ⟨l, b⟩ := st
      cases hbad
      have HP := Aside0.mk hp
      clear hp HA
      obtain ⟨hok, HG, hg⟩ := HI.out
      have HOK := Aside0.mk hok
      have hc0 := cellS132_0 HG
      have hc1 := cellS132_1 HG
      have hc2 := cellS132_2 HG
      have hf0 := blk_frozen HG 0
      have hf1 := blk_frozen HG 1
      have hf2 := blk_frozen HG 2
      clear HG hg hok
      have hc2' : wr.cell? ⟨w.heap.size, 2, none⟩ = some (.int .i64 ((s.size - m : Nat) : Int)) := hc2
      have q1 := decide_eq_false (show ¬ (((s.size - m : Nat) : Int) < 0) by omega)
      clear hc2
      go_wp2
      go_region
      all_goals (try go_wp2)
      go_ret2
      unfold ParsePost
      rw [HR.out, HP.out]
      exact ⟨wr.heap.size, below_size HB.out, rfl, heap_alloc_new wr _, by (repeat (first | (with_reducible first | exact HB.out | apply below_alloc | apply pw_below_drewN | apply below_drew1) | exact HB.out))⟩
end Go.Proofs.Ytlokmijoaocofaa.Mine
end
