/- Texts of one claim, one behind the other, made short by a program. -/
import Derived.Test.YtnmpijbcajclgaaGreatDoorMN10
set_option linter.unusedSimpArgs false
set_option linter.unusedVariables false
set_option maxRecDepth 100000
section
namespace Go.Proofs.YtnmpijbcajclgaaGreatDoor.Mine
open Go.RowKit YtnmpijbcajclgaaGreatDoorW.PrintWords YtnmpijbcajclgaaGreatDoorW.PrintLast YtnmpijbcajclgaaGreatDoorW.PrintMore
open PNodeAlone
theorem cont95_calls (g : Nat) (lb : Array Value) (p : S30 → Bool) (A : Option Addr) (n c : Nat) (L : List S30) (w : World) (eg : ∀ args w, (callFunc g args).run Tryz.prog w = .ok (.enter g args) w) (hn : L.length = n) (hr : Kd.C k30 w A n L) (hl : n ≤ 100000)
 (hp : CloOn g lb enc95 p w L) :
 Calls Tryz.prog 81 #[.slice A n c, .func (.func g) #[] lb] w fun e w' => e = .returned (.bool (L.any p)) ∧ Below w.heap.size w w' := by
 have HC := mk0 (idx95_calls g lb p A n c L w eg hn hr hl hp)
 have HX := mk0 (idxB_any p L)
 generalize idxB p L = z at HC HX
 clear hr hn hp
 go_enter Tryz.func81, Tryz.ntmps81
 go_wp2_with fail
 refine HC.out.mono ?_
 rintro e w2 ⟨rfl, hb⟩
 go_wp2
 go_ret
 exact ⟨by rw [← HX.out]; rfl, hb⟩
theorem attr_clo (nm : ByteArray) (B : Nat) (w : World) (hc : w.cell? ⟨B, 0, none⟩ = some (.string nm)) : CloAt 82 #[.pointer (some ⟨B, 0, none⟩)] enc95 (fun x => x.f0.toList == nm.toList) w := fun W x hb => by
 have h0 := (hb.cell (World.block_lt_of_cell? w _ hc)).trans hc
 have hlt := World.block_lt_of_cell? W _ h0
 show Calls _ _ #[enc95 x, .pointer (some ⟨B, 0, none⟩)] W _
 unfold enc95
 go_enter Tryz.func82, Tryz.ntmps82
 go_wp2
 go_ret
 exact ⟨rfl, below_alloc (Below.refl _ _) _⟩
def kindOk (a : S30) : Bool :=
 if a.f1 = 1 then !decide (a.f2 < -2147483648) && (!decide (2147483648 < a.f3) && !decide (a.f3 < a.f2))
 else (a.f1 == 2) && ((a.f2 == 0) && (a.f3 == 0))
def attrAt (S : List S30) (i : Nat) : Bool := nameOk (S.getD i z30).f0 && (!((S.take i).any fun x => x.f0.toList == (S.getD i z30).f0.toList) && kindOk (S.getD i z30))
def chkFrom (S : List S30) : Nat → Nat → Option Nat
 | 0, _ => none
 | k + 1, i => if attrAt S i then chkFrom S k (i + 1) else some i
def checkBad (S : List S30) : Option Nat := if S.length < 1 ∨ 4 < S.length then some 0 else chkFrom S S.length 0
def CheckPost (w : World) (S : List S30) (e : Ending) (w' : World) : Prop :=
 match checkBad S with
 | none => e = .returned .nilIface ∧ Below w.heap.size w w'
 | some i => ∃ b, w.heap.size ≤ b ∧ e = .returned (.iface 178 (.pointer (some ⟨b, 0, none⟩))) ∧ IsFault w' b ⟨#[118, 97, 108, 117, 101]⟩ (i : Int) 3 ∧ Below w.heap.size w w'
theorem cp_bad {w w' : World} {S : List S30} {e : Ending} {i : Nat} (h : checkBad S = some i) (ho : ∃ b, w.heap.size ≤ b ∧ e = .returned (.iface 178 (.pointer (some ⟨b, 0, none⟩))) ∧ IsFault w' b ⟨#[118, 97, 108, 117, 101]⟩ (i : Int) 3 ∧ Below w.heap.size w w') : CheckPost w S e w' := by
 unfold CheckPost
 rw [h]
 exact ho
theorem cp_ok {w w' : World} {S : List S30} {e : Ending} (h : checkBad S = none) (ho : e = .returned .nilIface ∧ Below w.heap.size w w') : CheckPost w S e w' := by
 unfold CheckPost
 rw [h]
 exact ho
theorem CheckPost.bad {w w' : World} {S : List S30} {e : Ending} {i : Nat} (h : CheckPost w S e w') (hb : checkBad S = some i) : ∃ b, w.heap.size ≤ b ∧ e = .returned (.iface 178 (.pointer (some ⟨b, 0, none⟩))) ∧ IsFault w' b ⟨#[118, 97, 108, 117, 101]⟩ (i : Int) 3 ∧ Below w.heap.size w w' := by
 unfold CheckPost at h
 rw [hb] at h
 exact h
theorem CheckPost.ok {w w' : World} {S : List S30} {e : Ending} (h : CheckPost w S e w') (hb : checkBad S = none) : e = .returned .nilIface ∧ Below w.heap.size w w' := by
 unfold CheckPost at h
 rw [hb] at h
 exact h
theorem chkFrom_none {S : List S30} : ∀ (k i : Nat), chkFrom S k i = none → ∀ j, i ≤ j → j < i + k → attrAt S j = true
 | 0, i, _, j, h1, h2 => by omega
 | k + 1, i, h, j, h1, h2 => by
  unfold chkFrom at h
  split at h
  ·
   by_cases hj : j = i
   ·
    rw [hj]; assumption
   ·
    exact chkFrom_none k (i + 1) h j (by omega) (by omega)
  ·
   cases h
theorem checkBad_none {S : List S30} (h : checkBad S = none) : 1 ≤ S.length ∧ S.length ≤ 4 ∧ ∀ a ∈ S, nameOk a.f0 = true ∧ kindOk a = true := by
 unfold checkBad at h
 split at h
 ·
  cases h
 ·
  refine ⟨by omega, by omega, fun a ha => ?_⟩
  obtain ⟨i, hi, rfl⟩ := List.getElem_of_mem ha
  have := chkFrom_none S.length 0 h i (Nat.zero_le _) (by omega)
  have e : S.getD i z30 = S[i] := by rw [List.getD_eq_getElem?_getD, List.getElem?_eq_getElem hi]; rfl
  unfold attrAt at this
  rw [e] at this
  simp only [Bool.and_eq_true] at this
  exact ⟨this.1, this.2.2⟩
set_option maxHeartbeats 8000000 in
theorem check_calls (A : Option Addr) (n c : Nat) (S : List S30) (w : World) (hn : S.length = n) (hr : Kd.C k30 w A n S) (hl : n ≤ 100000) (hcd : n ≤ c) :
 Calls Tryz.prog 39 #[.slice A n c] w (CheckPost w S) := by
 have HRS := mk0 hr
 have HN := mk0 hn
 clear hr hn
 by_cases hlen : n < 1 ∨ 4 < n
 ·
  have HB := mk0 (fun e w' ho => cp_bad (w := w) (w' := w') (S := S) (e := e) (i := 0) (by unfold checkBad; rw [if_pos (by have := HN.out; omega)]) ho)
  generalize CheckPost w S = POST at HB ⊢
  by_cases h1 : n < 1
  ·
   have q1 : decide ((n : Int) < 1) = true := decide_eq_true (by omega)
   clear hlen
   obtain rfl : n = 0 := by omega
   go_enter Tryz.func39, Tryz.ntmps39
   go_wp2_with fail
   refine (vfault_calls _ _ _).mono ?_
   rintro e w1 ⟨b, h1, rfl, hf, hb⟩
   go_wp2
   try go_ret
   exact HB.out _ _ ⟨b, h1, rfl, hf, hb⟩
  ·
   have q1 : decide ((n : Int) < 1) = false := decide_eq_false (by omega)
   have q2 : decide (4 < (n : Int)) = true := decide_eq_true (by omega)
   clear hlen
   go_enter Tryz.func39, Tryz.ntmps39
   go_wp2_with fail
   refine (vfault_calls _ _ _).mono ?_
   rintro e w1 ⟨b, h1, rfl, hf, hb⟩
   go_wp2
   try go_ret
   exact HB.out _ _ ⟨b, h1, rfl, hf, hb⟩
 ·
  have q1 : decide ((n : Int) < 1) = false := decide_eq_false (by omega)
  have q2 : decide (4 < (n : Int)) = false := decide_eq_false (by omega)
  have HFB := mk0 (show checkBad S = chkFrom S n 0 by unfold checkBad; rw [if_neg (by have := HN.out; omega), HN.out])
  have HEP := mk0 (fun i e w' h ho => cp_bad (w := w) (w' := w') (S := S) (e := e) (i := i) h ho)
  have HOP := mk0 (fun e w' h ho => cp_ok (w := w) (w' := w') (S := S) (e := e) h ho)
  generalize CheckPost w S = POST at HEP HOP ⊢
  clear hlen
  go_enter Tryz.func39, Tryz.ntmps39
  go_wp2_with fail
  go_loopg [3, 4, 16, 21, 33, 54] (n + 1) (fun k v3 v4 v16 v21 v33 v54 W => ∃ i : Nat, Aside0 (i ≤ n ∧ k + i = n + 1 ∧ checkBad S = chkFrom S (n - i) i) ∧ v16 = .int .i64 (i : Int) ∧ Aside0 (Below w.heap.size w W))
  case atStart => exact ⟨0, ⟨by omega, by omega, HFB.out⟩, rfl, ⟨Below.refl _ _⟩⟩
  case round =>
   obtain ⟨i, HI, rfl, HB⟩ := hrel
   by_cases hi : i < n
   ·
    have b1 : decide ((i : Int) < (n : Int)) = true := decide_eq_true (by omega)
    have b2 : decide (i < n) = true := decide_eq_true (by omega)
    have p1 : (0 : Int) ≤ (i : Int) := by omega
    have p2 : (i : Int) < (n : Int) := by omega
    have hstep : chkFrom S (n - i) i = if attrAt S i then chkFrom S (n - (i + 1)) (i + 1) else some i := by
     rw [show n - i = (n - (i + 1)) + 1 by omega]
     rfl
    obtain ⟨ad, e, h0, h1, h2, h3⟩ := at_T30 HRS.out i p1 p2
    cases e
    rw [Int.toNat_natCast] at h0 h1 h2 h3
    replace h0 := (HB.out.cell (World.block_lt_of_cell? w _ h0)).trans h0
    replace h1 := (HB.out.cell (World.block_lt_of_cell? w _ h1)).trans h1
    replace h2 := (HB.out.cell (World.block_lt_of_cell? w _ h2)).trans h2
    replace h3 := (HB.out.cell (World.block_lt_of_cell? w _ h3)).trans h3
    have hrd : rd_T30 S (i : Int) = S.getD i z30 := rfl
    rw [hrd] at h0 h1 h2 h3
    unfold attrAt at hstep
    generalize S.getD i z30 = p at h0 h1 h2 h3 hstep
    have HST0 := mk0 hstep
    clear hrd hstep
    go_wp2_with fail
    refine (name_calls p.f0 _).mono ?_
    rintro e w1 ⟨rfl, hb⟩
    have hnew := heap_alloc_new wr (.cells #[.string p.f0, .int .i64 p.f1, .int .i64 p.f2, .int .i64 p.f3] 30 (0, 0))
    have KB6 := mk0 ((hb.block _ (blk_lt hnew)).trans hnew)
    have n_ := mk0 (below_then (below_alloc HB.out (.cells #[.string p.f0, .int .i64 p.f1, .int .i64 p.f2, .int .i64 p.f3] 30)) (below_size (below_alloc HB.out _)) hb)
    clear HB hb hnew h0 h1 h2 h3
    have HB := n_
    clear n_
    generalize wr.heap.size = g6 at KB6 ⊢
    cases hnm : nameOk p.f0 with
    | false =>
     have HST := mk0 (show chkFrom S (n - i) i = some i by rw [HST0.out, hnm]; rfl)
     have HE := mk0 (fun e w' ho => HEP.out i e w' (by rw [HI.out.2.2, HST.out]) ho)
     clear hnm
     go_wp2_with fail
     refine (vfault_calls _ _ _).mono ?_
     rintro e w9 ⟨b, hbl, rfl, hf, hb⟩
     have hfin := HE.out _ _ ⟨b, Nat.le_trans HB.out.size hbl, rfl, hf, below_then HB.out HB.out.size hb⟩
     clear hf hb hbl
     go_wp2
     try go_ret
     exact hfin
    | true =>
     rw [hnm, Bool.true_and] at HST0
     clear hnm
     have p3 : (i : Int) ≤ (c : Int) := by omega
     have HC := mk0 (fun W (hW : Below w.heap.size w W ∧ W.cell? ⟨g6, 0, none⟩ = some (.string p.f0)) => cont95_calls 82 #[.pointer (some ⟨g6, 0, none⟩)] _ (some ad) i c (S.take i) W (enters_of Tryz.func82 (by kernel_rfl) rfl) (by rw [List.length_take]; have := HN.out; omega) (C_take (Kd.C_below HRS.out hW.1) i (by omega)) (by omega) ((attr_clo p.f0 g6 W hW.2).on _))
     have q0 := (blk_cell KB6.out 0).trans (show _ = some (Value.string p.f0) from rfl)
     go_wp2_with fail
     refine (HC.out _ ⟨HB.out, q0⟩).mono ?_
     rintro e w2 ⟨rfl, hb⟩
     have k_ := mk0 ((hb.block _ (blk_lt KB6.out)).trans KB6.out)
     have n_ := mk0 (below_then HB.out HB.out.size hb)
     clear KB6 HB hb q0
     have KB6 := k_
     have HB := n_
     clear k_ n_ HC
     cases hany : ((S.take i).any fun x => x.f0.toList == p.f0.toList) with
     | true =>
      have HST := mk0 (show chkFrom S (n - i) i = some i by rw [HST0.out, hany]; rfl)
      have HE := mk0 (fun e w' ho => HEP.out i e w' (by rw [HI.out.2.2, HST.out]) ho)
      clear hany
      go_wp2_with fail
      refine (vfault_calls _ _ _).mono ?_
      rintro e w9 ⟨b, hbl, rfl, hf, hb⟩
      have hfin := HE.out _ _ ⟨b, Nat.le_trans HB.out.size hbl, rfl, hf, below_then HB.out HB.out.size hb⟩
      clear hf hb hbl
      go_wp2
      try go_ret
      exact hfin
     | false =>
      rw [hany, Bool.not_false, Bool.true_and] at HST0
      clear hany
      have y0 := (blk_cell KB6.out 0).trans (show _ = some (Value.string p.f0) from rfl)
      have y1 := (blk_cell KB6.out 1).trans (show _ = some (Value.int .i64 p.f1) from rfl)
      have y2 := (blk_cell KB6.out 2).trans (show _ = some (Value.int .i64 p.f2) from rfl)
      have y3 := (blk_cell KB6.out 3).trans (show _ = some (Value.int .i64 p.f3) from rfl)
      have HST := HST0
      clear HST0
      by_cases t1 : p.f1 = 1
      ·
       have o1 : (p.f1 == 1) = true := by simpa using t1
       by_cases t2 : p.f2 < -2147483648
       ·
        have e2 : decide (p.f2 < -2147483648) = true := decide_eq_true t2
        have HV := mk0 (show kindOk p = false by unfold kindOk; rw [if_pos t1, e2]; rfl)
        clear t1 t2
        have HE := mk0 (fun e w' ho => HEP.out i e w' (by rw [HI.out.2.2, HST.out, HV.out]; rfl) ho)
        go_wp2_with fail
        refine (vfault_calls _ _ _).mono ?_
        rintro e w9 ⟨b, hbl, rfl, hf, hb⟩
        have hfin := HE.out _ _ ⟨b, Nat.le_trans HB.out.size hbl, rfl, hf, below_then HB.out HB.out.size hb⟩
        clear hf hb hbl
        go_wp2
        try go_ret
        exact hfin
       ·
        have e2 : decide (p.f2 < -2147483648) = false := decide_eq_false t2
        by_cases t3 : 2147483648 < p.f3
        ·
         have e3 : decide (2147483648 < p.f3) = true := decide_eq_true t3
         have HV := mk0 (show kindOk p = false by unfold kindOk; rw [if_pos t1, e2, e3]; rfl)
         clear t1 t2 t3
         have HE := mk0 (fun e w' ho => HEP.out i e w' (by rw [HI.out.2.2, HST.out, HV.out]; rfl) ho)
         go_wp2_with fail
         refine (vfault_calls _ _ _).mono ?_
         rintro e w9 ⟨b, hbl, rfl, hf, hb⟩
         have hfin := HE.out _ _ ⟨b, Nat.le_trans HB.out.size hbl, rfl, hf, below_then HB.out HB.out.size hb⟩
         clear hf hb hbl
         go_wp2
         try go_ret
         exact hfin
        ·
         have e3 : decide (2147483648 < p.f3) = false := decide_eq_false t3
         by_cases t4 : p.f3 < p.f2
         ·
          have e4 : decide (p.f3 < p.f2) = true := decide_eq_true t4
          have HV := mk0 (show kindOk p = false by unfold kindOk; rw [if_pos t1, e2, e3, e4]; rfl)
          clear t1 t2 t3 t4
          have HE := mk0 (fun e w' ho => HEP.out i e w' (by rw [HI.out.2.2, HST.out, HV.out]; rfl) ho)
          go_wp2_with fail
          refine (vfault_calls _ _ _).mono ?_
          rintro e w9 ⟨b, hbl, rfl, hf, hb⟩
          have hfin := HE.out _ _ ⟨b, Nat.le_trans HB.out.size hbl, rfl, hf, below_then HB.out HB.out.size hb⟩
          clear hf hb hbl
          go_wp2
          try go_ret
          exact hfin
         ·
          have e4 : decide (p.f3 < p.f2) = false := decide_eq_false t4
          have HV := mk0 (show kindOk p = true by unfold kindOk; rw [if_pos t1, e2, e3, e4]; rfl)
          clear t1 t2 t3 t4
          go_wp2_with fail
          go_roundg (gk - 1)
          case measure => have := HI.out; omega
          case rel => exact ⟨i + 1, ⟨by omega, by have := HI.out; omega, by rw [HI.out.2.2, HST.out, HV.out]; rfl⟩, rfl, HB⟩
      ·
       have o1 : (p.f1 == 1) = false := by simpa using t1
       have HPO := mk0 (show kindOk p = ((p.f1 == 2) && ((p.f2 == 0) && (p.f3 == 0))) by unfold kindOk; rw [if_neg t1])
       clear t1
       cases e1 : (p.f1 == 2) with
       | false =>
        have HV := mk0 (show kindOk p = false by rw [HPO.out, e1]; rfl)
        have HE := mk0 (fun e w' ho => HEP.out i e w' (by rw [HI.out.2.2, HST.out, HV.out]; rfl) ho)
        go_wp2_with fail
        refine (vfault_calls _ _ _).mono ?_
        rintro e w9 ⟨b, hbl, rfl, hf, hb⟩
        have hfin := HE.out _ _ ⟨b, Nat.le_trans HB.out.size hbl, rfl, hf, below_then HB.out HB.out.size hb⟩
        clear hf hb hbl
        go_wp2
        try go_ret
        exact hfin
       | true =>
        cases e2 : (p.f2 == 0) with
        | false =>
         have HV := mk0 (show kindOk p = false by rw [HPO.out, e1, e2]; rfl)
         have HE := mk0 (fun e w' ho => HEP.out i e w' (by rw [HI.out.2.2, HST.out, HV.out]; rfl) ho)
         go_wp2_with fail
         refine (vfault_calls _ _ _).mono ?_
         rintro e w9 ⟨b, hbl, rfl, hf, hb⟩
         have hfin := HE.out _ _ ⟨b, Nat.le_trans HB.out.size hbl, rfl, hf, below_then HB.out HB.out.size hb⟩
         clear hf hb hbl
         go_wp2
         try go_ret
         exact hfin
        | true =>
         cases e3 : (p.f3 == 0) with
         | false =>
          have HV := mk0 (show kindOk p = false by rw [HPO.out, e1, e2, e3]; rfl)
          have HE := mk0 (fun e w' ho => HEP.out i e w' (by rw [HI.out.2.2, HST.out, HV.out]; rfl) ho)
          go_wp2_with fail
          refine (vfault_calls _ _ _).mono ?_
          rintro e w9 ⟨b, hbl, rfl, hf, hb⟩
          have hfin := HE.out _ _ ⟨b, Nat.le_trans HB.out.size hbl, rfl, hf, below_then HB.out HB.out.size hb⟩
          clear hf hb hbl
          go_wp2
          try go_ret
          exact hfin
         | true =>
          have HV := mk0 (show kindOk p = true by rw [HPO.out, e1, e2, e3]; rfl)
          go_wp2_with fail
          go_roundg (gk - 1)
          case measure => have := HI.out; omega
          case rel => exact ⟨i + 1, ⟨by omega, by have := HI.out; omega, by rw [HI.out.2.2, HST.out, HV.out]; rfl⟩, rfl, HB⟩
   ·
    have b1 : decide ((i : Int) < (n : Int)) = false := decide_eq_false (by omega)
    have b2 : decide (i < n) = false := decide_eq_false (by omega)
    have hfin := fun W => HOP.out (.returned .nilIface) W (by rw [HI.out.2.2, show n - i = 0 by omega]; rfl)
    have hfin2 := hfin _ ⟨rfl, HB.out⟩
    clear hfin
    go_wp2
    try go_ret
    exact hfin2
end Go.Proofs.YtnmpijbcajclgaaGreatDoor.Mine
end
section
namespace Go.Proofs.YtnmpijbcajclgaaGreatDoor.PNodeAlone
open Go.RowKit Go.Proofs.YtnmpijbcajclgaaGreatDoorW.PrintWords Go.Proofs.YtnmpijbcajclgaaGreatDoorW.PrintLast Go.Proofs.YtnmpijbcajclgaaGreatDoorW.PrintMore
attribute [local go_sem] max2_int min2_int max_two min_two max_three min_three max_four min_four
mutual
def dyad_Cell.j0 : Nat → Int → Bool → ByteArray → Int → Int → Int → Int → ByteArray → Option (Int)
 | 0, _, _, _, _, _, _, _, _ => none
 | k + 1, x2, x14, x174000, x174001, x174002, x174003, x175000, x175001 => if x14 = true then (some (-1)) else (if x174001 = 1 then (if x175000 < x174002 then (some (-1)) else (if x175000 > x174003 then (some (-1)) else (if x174002 < (-2147483648) then (some (-1)) else (if x174003 > 2147483648 then (some (-1)) else (if 0 ≤ x2 then (if (wrap64 ((wrap64 (x174003 - x174002)) + 1)) = 0 then (none) else (some (wrap64 (Int.tdiv (shl .i64 (wrap64 (x175000 - x174002)) x2) (wrap64 ((wrap64 (x174003 - x174002)) + 1)))))) else (none)))))) else (dyad_Cell.l0 k x2 0 0 x175000 x175001))
def dyad_Cell.l0 : Nat → Int → Int → Int → Int → ByteArray → Option (Int)
 | 0, _, _, _, _, _ => none
 | k + 1, x2, x7, x54, x175000, x175001 => if x54 < 2 then (if x54 < (x175001.size : Int) then (if 0 ≤ x54 then (dyad_Cell.l0 k x2 (Go.bits .or .i64 (wrap64 (x7 * 256)) (wrap64 (bt x175001 x54))) (wrap64 (x54 + 1)) x175000 x175001) else (none)) else (dyad_Cell.l0 k x2 (wrap64 (x7 * 256)) (wrap64 (x54 + 1)) x175000 x175001)) else (if 0 ≤ (wrap64 (16 - x2)) then (some (shr .i64 x7 (wrap64 (16 - x2)))) else (none))
end
def dyad_Cell.f (k : Nat) (a0_0 : ByteArray) (a0_1 : Int) (a0_2 : Int) (a0_3 : Int) (a1_0 : Int) (a1_1 : ByteArray) (a2 : Int) : Option (Int) := if a2 < 0 then (dyad_Cell.j0 k a2 true a0_0 a0_1 a0_2 a0_3 a1_0 a1_1) else (dyad_Cell.j0 k a2 (decide (a2 > 8)) a0_0 a0_1 a0_2 a0_3 a1_0 a1_1)
theorem dyad_Cell.mono_l : ∀ k, (∀ y0 y1 y2 y3 y4 y5 y6 y7, LeO (dyad_Cell.j0 k y0 y1 y2 y3 y4 y5 y6 y7) (dyad_Cell.j0 (k + 1) y0 y1 y2 y3 y4 y5 y6 y7)) ∧ (∀ y0 y1 y2 y3 y4, LeO (dyad_Cell.l0 k y0 y1 y2 y3 y4) (dyad_Cell.l0 (k + 1) y0 y1 y2 y3 y4))
 | 0 => ⟨fun _ _ _ _ _ _ _ _ r h => by simp [dyad_Cell.j0] at h, fun _ _ _ _ _ r h => by simp [dyad_Cell.l0] at h⟩
 | k + 1 => by
  obtain ⟨ih0, ih1⟩ := dyad_Cell.mono_l k
  refine ⟨?_, ?_⟩
  ·
   intro y0 y1 y2 y3 y4 y5 y6 y7
   unfold dyad_Cell.j0
   repeat' first
   | (with_reducible exact ih0 _ _ _ _ _ _ _ _)
   | (with_reducible exact ih1 _ _ _ _ _)
   | (with_reducible exact LeO.refl _)
   | (with_reducible exact LeO.none _)
   | (with_reducible refine LeO.ite ?_ ?_)
   | (with_reducible refine LeO.bind ?_ (fun _ => ?_))
   | exact ih0 _ _ _ _ _ _ _ _
   | exact ih1 _ _ _ _ _
   | exact LeO.none _
   | refine LeO.ite ?_ ?_
   | refine LeO.bind ?_ (fun _ => ?_)
  ·
   intro y0 y1 y2 y3 y4
   unfold dyad_Cell.l0
   repeat' first
   | (with_reducible exact ih0 _ _ _ _ _ _ _ _)
   | (with_reducible exact ih1 _ _ _ _ _)
   | (with_reducible exact LeO.refl _)
   | (with_reducible exact LeO.none _)
   | (with_reducible refine LeO.ite ?_ ?_)
   | (with_reducible refine LeO.bind ?_ (fun _ => ?_))
   | exact ih0 _ _ _ _ _ _ _ _
   | exact ih1 _ _ _ _ _
   | exact LeO.none _
   | refine LeO.ite ?_ ?_
   | refine LeO.bind ?_ (fun _ => ?_)
theorem dyad_Cell.mono : ∀ a0 a1 a2 a3 a4 a5 a6 k, LeO (dyad_Cell.f k a0 a1 a2 a3 a4 a5 a6) (dyad_Cell.f (k + 1) a0 a1 a2 a3 a4 a5 a6) := by
 intro a0 a1 a2 a3 a4 a5 a6 k
 obtain ⟨ih0, ih1⟩ := dyad_Cell.mono_l k
 unfold dyad_Cell.f
 repeat' first
  | (with_reducible exact ih0 _ _ _ _ _ _ _ _)
  | (with_reducible exact ih1 _ _ _ _ _)
  | (with_reducible exact LeO.refl _)
  | (with_reducible exact LeO.none _)
  | (with_reducible refine LeO.ite ?_ ?_)
  | (with_reducible refine LeO.bind ?_ (fun _ => ?_))
  | exact ih0 _ _ _ _ _ _ _ _
  | exact ih1 _ _ _ _ _
  | exact LeO.none _
  | refine LeO.ite ?_ ?_
  | refine LeO.bind ?_ (fun _ => ?_)
set_option maxHeartbeats 8000000 in
theorem dyad_Cell.calls (k : Nat) (a0_0 : ByteArray) (a0_1 : Int) (a0_2 : Int) (a0_3 : Int) (a1_0 : Int) (a1_1 : ByteArray) (a2 : Int) (r : Int) (w : World) (h : dyad_Cell.f k a0_0 a0_1 a0_2 a0_3 a1_0 a1_1 a2 = some r) :
 Calls Tryz.prog 96 #[.agg #[.string a0_0, .int .i64 a0_1, .int .i64 a0_2, .int .i64 a0_3], .agg #[.int .i64 a1_0, .string a1_1], .int .i64 a2] w fun e w' => e = .returned (.int .i64 r) ∧ Below w.heap.size w w' := by
 have hu30 := Tryz.underlying30
 have hu37 := Tryz.underlying37
 have HB := mk0 (Below.refl w.heap.size w)
 have H : (if a2 < 0 then (dyad_Cell.j0 k a2 true a0_0 a0_1 a0_2 a0_3 a1_0 a1_1) else (dyad_Cell.j0 k a2 (decide (a2 > 8)) a0_0 a0_1 a0_2 a0_3 a1_0 a1_1)) = some r := h
 clear h
 have HC4 := mk0 H
 clear H
 go_enter Tryz.func96, Tryz.ntmps96
 go_upto_region 1 with (first | ((with_reducible refine gate_dst (N := 3) rfl ?_); refine box_event ?hg (N := 3) ?hd (cs := #[.string a0_0, .int .i64 a0_1, .int .i64 a0_2, .int .i64 a0_3]) (t := 30) ?hr ?_; (case hd => rfl); (case hg => rfl); (case hr => first | (go_simp; done) | (go_simp; rfl)); intro gb173 hg w5 hbox hb; have n0_ := mk0 (below_step (by repeat (first | (with_reducible first | exact HB.out | apply below_alloc | apply pw_below_drewN | apply below_drew1) | exact HB.out)) hb); have n1_ := mk0 (hbox); have n2_ := mk0 ((by rw [hg]; exact (below_size (by repeat (first | (with_reducible first | exact HB.out | apply below_alloc | apply pw_below_drewN | apply below_drew1) | exact HB.out))) : w.heap.size ≤ gb173)); have n3_ := mk0 ((by rw [hg]; exact (below_size (by repeat (first | (with_reducible first | exact HB.out | apply below_alloc | apply pw_below_drewN | apply below_drew1) | exact HB.out))) : w.heap.size ≤ gb173)); clear HB; have HB := n0_; have BK173 := n1_; have GW173 := n2_; have GE173 := n3_; clear n0_ n1_ n2_ n3_; clear hb hbox hg) | ((with_reducible refine gate_dst (N := 4) rfl ?_); refine box_event ?hg (N := 4) ?hd (cs := #[.int .i64 a1_0, .string a1_1]) (t := 37) ?hr ?_; (case hd => rfl); (case hg => rfl); (case hr => first | (go_simp; done) | (go_simp; rfl)); intro gb174 hg w6 hbox hb; have n0_ := mk0 (blk_below (g := gb173) (o := .cells #[.string a0_0, .int .i64 a0_1, .int .i64 a0_2, .int .i64 a0_3] 30 (0, 0)) (by (with_reducible repeat (first | refine blk_drewN ?_ _ | refine blk_drew ?_ | refine blk_alloc ?_ _)); exact BK173.out) hb); have n1_ := mk0 (below_step (by repeat (first | (with_reducible first | exact HB.out | apply below_alloc | apply pw_below_drewN | apply below_drew1 | refine below_set ?_ GE173.out) | exact HB.out)) hb); have n2_ := mk0 (hbox); have n3_ := mk0 ((by rw [hg]; exact (below_size (by repeat (first | (with_reducible first | exact HB.out | apply below_alloc | apply pw_below_drewN | apply below_drew1 | refine below_set ?_ GE173.out) | exact HB.out))) : w.heap.size ≤ gb174)); have n4_ := mk0 ((by rw [hg]; exact (below_size (by repeat (first | (with_reducible first | exact HB.out | apply below_alloc | apply pw_below_drewN | apply below_drew1 | refine below_set ?_ GE173.out) | exact HB.out))) : w.heap.size ≤ gb174)); have n5_ := mk0 ((by rw [hg]; exact Nat.ne_of_lt (blk_lt (g := gb173) (o := .cells #[.string a0_0, .int .i64 a0_1, .int .i64 a0_2, .int .i64 a0_3] 30 (0, 0)) (by (with_reducible repeat (first | refine blk_drewN ?_ _ | refine blk_drew ?_ | refine blk_alloc ?_ _)); exact BK173.out)) : gb173 ≠ gb174)); have n6_ := mk0 ((by rw [hg]; exact Nat.ne_of_gt (blk_lt (g := gb173) (o := .cells #[.string a0_0, .int .i64 a0_1, .int .i64 a0_2, .int .i64 a0_3] 30 (0, 0)) (by (with_reducible repeat (first | refine blk_drewN ?_ _ | refine blk_drew ?_ | refine blk_alloc ?_ _)); exact BK173.out)) : gb174 ≠ gb173)); clear BK173; clear HB; have BK173 := n0_; have HB := n1_; have BK174 := n2_; have GW174 := n3_; have GE174 := n4_; have NB173_174 := n5_; have NB174_173 := n6_; clear n0_ n1_ n2_ n3_ n4_ n5_ n6_; clear hb hbox hg))
 repeat (go_quiet (first | ((with_reducible refine gate_dst (N := 3) rfl ?_); refine box_event ?hg (N := 3) ?hd (cs := #[.string a0_0, .int .i64 a0_1, .int .i64 a0_2, .int .i64 a0_3]) (t := 30) ?hr ?_; (case hd => rfl); (case hg => rfl); (case hr => first | (go_simp; done) | (go_simp; rfl)); intro gb173 hg w5 hbox hb; have n0_ := mk0 (below_step (by repeat (first | (with_reducible first | exact HB.out | apply below_alloc | apply pw_below_drewN | apply below_drew1) | exact HB.out)) hb); have n1_ := mk0 (hbox); have n2_ := mk0 ((by rw [hg]; exact (below_size (by repeat (first | (with_reducible first | exact HB.out | apply below_alloc | apply pw_below_drewN | apply below_drew1) | exact HB.out))) : w.heap.size ≤ gb173)); have n3_ := mk0 ((by rw [hg]; exact (below_size (by repeat (first | (with_reducible first | exact HB.out | apply below_alloc | apply pw_below_drewN | apply below_drew1) | exact HB.out))) : w.heap.size ≤ gb173)); clear HB; have HB := n0_; have BK173 := n1_; have GW173 := n2_; have GE173 := n3_; clear n0_ n1_ n2_ n3_; clear hb hbox hg) | ((with_reducible refine gate_dst (N := 4) rfl ?_); refine box_event ?hg (N := 4) ?hd (cs := #[.int .i64 a1_0, .string a1_1]) (t := 37) ?hr ?_; (case hd => rfl); (case hg => rfl); (case hr => first | (go_simp; done) | (go_simp; rfl)); intro gb174 hg w6 hbox hb; have n0_ := mk0 (blk_below (g := gb173) (o := .cells #[.string a0_0, .int .i64 a0_1, .int .i64 a0_2, .int .i64 a0_3] 30 (0, 0)) (by (with_reducible repeat (first | refine blk_drewN ?_ _ | refine blk_drew ?_ | refine blk_alloc ?_ _)); exact BK173.out) hb); have n1_ := mk0 (below_step (by repeat (first | (with_reducible first | exact HB.out | apply below_alloc | apply pw_below_drewN | apply below_drew1 | refine below_set ?_ GE173.out) | exact HB.out)) hb); have n2_ := mk0 (hbox); have n3_ := mk0 ((by rw [hg]; exact (below_size (by repeat (first | (with_reducible first | exact HB.out | apply below_alloc | apply pw_below_drewN | apply below_drew1 | refine below_set ?_ GE173.out) | exact HB.out))) : w.heap.size ≤ gb174)); have n4_ := mk0 ((by rw [hg]; exact (below_size (by repeat (first | (with_reducible first | exact HB.out | apply below_alloc | apply pw_below_drewN | apply below_drew1 | refine below_set ?_ GE173.out) | exact HB.out))) : w.heap.size ≤ gb174)); have n5_ := mk0 ((by rw [hg]; exact Nat.ne_of_lt (blk_lt (g := gb173) (o := .cells #[.string a0_0, .int .i64 a0_1, .int .i64 a0_2, .int .i64 a0_3] 30 (0, 0)) (by (with_reducible repeat (first | refine blk_drewN ?_ _ | refine blk_drew ?_ | refine blk_alloc ?_ _)); exact BK173.out)) : gb173 ≠ gb174)); have n6_ := mk0 ((by rw [hg]; exact Nat.ne_of_gt (blk_lt (g := gb173) (o := .cells #[.string a0_0, .int .i64 a0_1, .int .i64 a0_2, .int .i64 a0_3] 30 (0, 0)) (by (with_reducible repeat (first | refine blk_drewN ?_ _ | refine blk_drew ?_ | refine blk_alloc ?_ _)); exact BK173.out)) : gb174 ≠ gb173)); clear BK173; clear HB; have BK173 := n0_; have HB := n1_; have BK174 := n2_; have GW174 := n3_; have GE174 := n4_; have NB173_174 := n5_; have NB174_173 := n6_; clear n0_ n1_ n2_ n3_ n4_ n5_ n6_; clear hb hbox hg)); go_upto_region 1 with (first | ((with_reducible refine gate_dst (N := 3) rfl ?_); refine box_event ?hg (N := 3) ?hd (cs := #[.string a0_0, .int .i64 a0_1, .int .i64 a0_2, .int .i64 a0_3]) (t := 30) ?hr ?_; (case hd => rfl); (case hg => rfl); (case hr => first | (go_simp; done) | (go_simp; rfl)); intro gb173 hg w5 hbox hb; have n0_ := mk0 (below_step (by repeat (first | (with_reducible first | exact HB.out | apply below_alloc | apply pw_below_drewN | apply below_drew1) | exact HB.out)) hb); have n1_ := mk0 (hbox); have n2_ := mk0 ((by rw [hg]; exact (below_size (by repeat (first | (with_reducible first | exact HB.out | apply below_alloc | apply pw_below_drewN | apply below_drew1) | exact HB.out))) : w.heap.size ≤ gb173)); have n3_ := mk0 ((by rw [hg]; exact (below_size (by repeat (first | (with_reducible first | exact HB.out | apply below_alloc | apply pw_below_drewN | apply below_drew1) | exact HB.out))) : w.heap.size ≤ gb173)); clear HB; have HB := n0_; have BK173 := n1_; have GW173 := n2_; have GE173 := n3_; clear n0_ n1_ n2_ n3_; clear hb hbox hg) | ((with_reducible refine gate_dst (N := 4) rfl ?_); refine box_event ?hg (N := 4) ?hd (cs := #[.int .i64 a1_0, .string a1_1]) (t := 37) ?hr ?_; (case hd => rfl); (case hg => rfl); (case hr => first | (go_simp; done) | (go_simp; rfl)); intro gb174 hg w6 hbox hb; have n0_ := mk0 (blk_below (g := gb173) (o := .cells #[.string a0_0, .int .i64 a0_1, .int .i64 a0_2, .int .i64 a0_3] 30 (0, 0)) (by (with_reducible repeat (first | refine blk_drewN ?_ _ | refine blk_drew ?_ | refine blk_alloc ?_ _)); exact BK173.out) hb); have n1_ := mk0 (below_step (by repeat (first | (with_reducible first | exact HB.out | apply below_alloc | apply pw_below_drewN | apply below_drew1 | refine below_set ?_ GE173.out) | exact HB.out)) hb); have n2_ := mk0 (hbox); have n3_ := mk0 ((by rw [hg]; exact (below_size (by repeat (first | (with_reducible first | exact HB.out | apply below_alloc | apply pw_below_drewN | apply below_drew1 | refine below_set ?_ GE173.out) | exact HB.out))) : w.heap.size ≤ gb174)); have n4_ := mk0 ((by rw [hg]; exact (below_size (by repeat (first | (with_reducible first | exact HB.out | apply below_alloc | apply pw_below_drewN | apply below_drew1 | refine below_set ?_ GE173.out) | exact HB.out))) : w.heap.size ≤ gb174)); have n5_ := mk0 ((by rw [hg]; exact Nat.ne_of_lt (blk_lt (g := gb173) (o := .cells #[.string a0_0, .int .i64 a0_1, .int .i64 a0_2, .int .i64 a0_3] 30 (0, 0)) (by (with_reducible repeat (first | refine blk_drewN ?_ _ | refine blk_drew ?_ | refine blk_alloc ?_ _)); exact BK173.out)) : gb173 ≠ gb174)); have n6_ := mk0 ((by rw [hg]; exact Nat.ne_of_gt (blk_lt (g := gb173) (o := .cells #[.string a0_0, .int .i64 a0_1, .int .i64 a0_2, .int .i64 a0_3] 30 (0, 0)) (by (with_reducible repeat (first | refine blk_drewN ?_ _ | refine blk_drew ?_ | refine blk_alloc ?_ _)); exact BK173.out)) : gb174 ≠ gb173)); clear BK173; clear HB; have BK173 := n0_; have HB := n1_; have BK174 := n2_; have GW174 := n3_; have GE174 := n4_; have NB173_174 := n5_; have NB174_173 := n6_; clear n0_ n1_ n2_ n3_ n4_ n5_ n6_; clear hb hbox hg)))
 (try simp only [Act.put, List.setIfInBounds_toArray, List.set_cons_zero, List.set_cons_succ])
 go_cut [14] (fun v14 wc => ∃ (kq : Nat) (x14_3 : Bool), v14 = .bool x14_3 ∧ Aside0 (dyad_Cell.j0 kq a2 x14_3 a0_0 a0_1 a0_2 a0_3 a1_0 a1_1 = some r) ∧ Aside0 (kq ≤ k) ∧ Aside0 (wc.heap[gb173]? = some (.cells #[.string a0_0, .int .i64 a0_1, .int .i64 a0_2, .int .i64 a0_3] 30 (0, 0))) ∧ Aside0 (wc.heap[gb174]? = some (.cells #[.int .i64 a1_0, .string a1_1] 37 (0, 0))) ∧ Aside0 (Below w.heap.size w wc))
 case first =>
  have H := HC4.out
  clear HC4
  by_cases c7 : a2 < 0
  ·
   rw [if_pos c7] at H
   have c7b0 : decide (a2 < 0) = true := decide_eq_true c7
   clear c7
   (first | rw [c7b0] | (simp only [i64_w, i32_w]; rw [c7b0]) | skip)
   have H' := mk0 H
   clear H
   go_wp2
   repeat (go_quiet (fail); try go_wp2)
   go_meet
   case rel => exact ⟨_, (true), (by first | rfl | (simp; done) | (simp [*]; done)), H', ⟨by first | omega | exact Nat.le_refl _⟩, ⟨by (with_reducible repeat (first | refine blk_drewN ?_ _ | refine blk_drew ?_ | refine blk_alloc ?_ _)); exact BK173.out⟩, ⟨by (with_reducible repeat (first | refine blk_drewN ?_ _ | refine blk_drew ?_ | refine blk_alloc ?_ _)); exact BK174.out⟩, ⟨by repeat (first | (with_reducible first | exact HB.out | apply below_alloc | apply pw_below_drewN | apply below_drew1 | refine below_set ?_ GE173.out | refine below_set ?_ GE174.out) | exact HB.out)⟩⟩
  ·
   rw [if_neg c7] at H
   have c7b0 : decide (a2 < 0) = false := decide_eq_false c7
   clear c7
   (first | rw [c7b0] | (simp only [i64_w, i32_w]; rw [c7b0]) | skip)
   have H' := mk0 H
   clear H
   go_wp2
   repeat (go_quiet (fail); try go_wp2)
   go_meet
   case rel => exact ⟨_, (decide (a2 > 8)), (by first | rfl | (simp; done) | (simp [*]; done)), H', ⟨by first | omega | exact Nat.le_refl _⟩, ⟨by (with_reducible repeat (first | refine blk_drewN ?_ _ | refine blk_drew ?_ | refine blk_alloc ?_ _)); exact BK173.out⟩, ⟨by (with_reducible repeat (first | refine blk_drewN ?_ _ | refine blk_drew ?_ | refine blk_alloc ?_ _)); exact BK174.out⟩, ⟨by repeat (first | (with_reducible first | exact HB.out | apply below_alloc | apply pw_below_drewN | apply below_drew1 | refine below_set ?_ GE173.out | refine below_set ?_ GE174.out) | exact HB.out)⟩⟩
 case rest =>
  clear HC4
  try clear p2
  try clear c7
  try clear c7b0
  obtain ⟨kq, x14_3, rfl, HA, HJ3, BK173, BK174, HB⟩ := hcut
  cases kq with
  | zero => exact absurd HA.out (by simp [dyad_Cell.j0])
  | succ kj3 =>
   have H := HA.out
   clear HA
   simp only [dyad_Cell.j0] at H
   by_cases c8 : x14_3 = true
   ·
    subst c8
    have H1 : (some (-1)) = some r := by rw [if_pos rfl] at H; exact H
    clear H
    have H := H1
    clear H1
    obtain rfl := Option.some.inj H
    go_wp2
    repeat (go_quiet (fail); try go_wp2)
    go_ret
    exact ⟨by first | rfl | (simp [errW_none, errW_some] <;> rfl) | (simp [*, errW_none, errW_some] <;> rfl), by repeat (first | (with_reducible first | exact HB.out | apply below_alloc | apply pw_below_drewN | apply below_drew1 | refine below_set ?_ GE173.out | refine below_set ?_ GE174.out) | exact HB.out)⟩
   ·
    replace c8 := Bool.eq_false_iff.mpr c8
    subst c8
    have H1 : (if a0_1 = 1 then (if a1_0 < a0_2 then (some (-1)) else (if a1_0 > a0_3 then (some (-1)) else (if a0_2 < (-2147483648) then (some (-1)) else (if a0_3 > 2147483648 then (some (-1)) else (if 0 ≤ a2 then (if (wrap64 ((wrap64 (a0_3 - a0_2)) + 1)) = 0 then (none) else (some (wrap64 (Int.tdiv (shl .i64 (wrap64 (a1_0 - a0_2)) a2) (wrap64 ((wrap64 (a0_3 - a0_2)) + 1)))))) else (none)))))) else (dyad_Cell.l0 kj3 a2 0 0 a1_0 a1_1)) = some r := by rw [if_neg (show ¬ (false = true) by decide)] at H; exact H
    clear H
    have H := H1
    clear H1
    by_cases c9 : a0_1 = 1
    ·
     rw [if_pos c9] at H
     have c9b0 : (a0_1 == 1) = true := beq_iff_eq.mpr c9
     have c9b1 : (a0_1 != 1) = false := bne_eq_false_iff_eq.mpr c9
     clear c9
     by_cases c10 : a1_0 < a0_2
     ·
      rw [if_pos c10] at H
      have c10b0 : decide (a1_0 < a0_2) = true := decide_eq_true c10
      clear c10
      obtain rfl := Option.some.inj H
      have hnb11 := NB173_174.out
      have hnc11 := NB174_173.out
      have hcz12_0 : wc.cell? ⟨gb173, 0, none⟩ = some (.string a0_0) := (blk_cell BK173.out 0).trans rfl
      have hcz12_1 : wc.cell? ⟨gb173, 1, none⟩ = some (.int .i64 a0_1) := (blk_cell BK173.out 1).trans rfl
      have hcz12_2 : wc.cell? ⟨gb173, 2, none⟩ = some (.int .i64 a0_2) := (blk_cell BK173.out 2).trans rfl
      have hcz12_3 : wc.cell? ⟨gb173, 3, none⟩ = some (.int .i64 a0_3) := (blk_cell BK173.out 3).trans rfl
      have hfz12_0 := blk_frozen BK173.out 0
      have hfz12_1 := blk_frozen BK173.out 1
      have hfz12_2 := blk_frozen BK173.out 2
      have hfz12_3 := blk_frozen BK173.out 3
      have hcz13_0 : wc.cell? ⟨gb174, 0, none⟩ = some (.int .i64 a1_0) := (blk_cell BK174.out 0).trans rfl
      have hcz13_1 : wc.cell? ⟨gb174, 1, none⟩ = some (.string a1_1) := (blk_cell BK174.out 1).trans rfl
      have hfz13_0 := blk_frozen BK174.out 0
      have hfz13_1 := blk_frozen BK174.out 1
      go_wp2
      repeat (go_quiet (fail); try go_wp2)
      go_ret
      exact ⟨by first | rfl | (simp [errW_none, errW_some] <;> rfl) | (simp [*, errW_none, errW_some] <;> rfl), by repeat (first | (with_reducible first | exact HB.out | apply below_alloc | apply pw_below_drewN | apply below_drew1 | refine below_set ?_ GE173.out | refine below_set ?_ GE174.out) | exact HB.out)⟩
     ·
      rw [if_neg c10] at H
      have c10b0 : decide (a1_0 < a0_2) = false := decide_eq_false c10
      clear c10
      by_cases c14 : a1_0 > a0_3
      ·
       rw [if_pos c14] at H
       have c14b0 : decide (a0_3 < a1_0) = true := decide_eq_true c14
       clear c14
       obtain rfl := Option.some.inj H
       have hnb15 := NB173_174.out
       have hnc15 := NB174_173.out
       have hcz16_0 : wc.cell? ⟨gb173, 0, none⟩ = some (.string a0_0) := (blk_cell BK173.out 0).trans rfl
       have hcz16_1 : wc.cell? ⟨gb173, 1, none⟩ = some (.int .i64 a0_1) := (blk_cell BK173.out 1).trans rfl
       have hcz16_2 : wc.cell? ⟨gb173, 2, none⟩ = some (.int .i64 a0_2) := (blk_cell BK173.out 2).trans rfl
       have hcz16_3 : wc.cell? ⟨gb173, 3, none⟩ = some (.int .i64 a0_3) := (blk_cell BK173.out 3).trans rfl
       have hfz16_0 := blk_frozen BK173.out 0
       have hfz16_1 := blk_frozen BK173.out 1
       have hfz16_2 := blk_frozen BK173.out 2
       have hfz16_3 := blk_frozen BK173.out 3
       have hcz17_0 : wc.cell? ⟨gb174, 0, none⟩ = some (.int .i64 a1_0) := (blk_cell BK174.out 0).trans rfl
       have hcz17_1 : wc.cell? ⟨gb174, 1, none⟩ = some (.string a1_1) := (blk_cell BK174.out 1).trans rfl
       have hfz17_0 := blk_frozen BK174.out 0
       have hfz17_1 := blk_frozen BK174.out 1
       go_wp2
       repeat (go_quiet (fail); try go_wp2)
       go_ret
       exact ⟨by first | rfl | (simp [errW_none, errW_some] <;> rfl) | (simp [*, errW_none, errW_some] <;> rfl), by repeat (first | (with_reducible first | exact HB.out | apply below_alloc | apply pw_below_drewN | apply below_drew1 | refine below_set ?_ GE173.out | refine below_set ?_ GE174.out) | exact HB.out)⟩
      ·
       rw [if_neg c14] at H
       have c14b0 : decide (a0_3 < a1_0) = false := decide_eq_false c14
       clear c14
       by_cases c18 : a0_2 < (-2147483648)
       ·
        rw [if_pos c18] at H
        have c18b0 : decide (a0_2 < (-2147483648)) = true := decide_eq_true c18
        clear c18
        obtain rfl := Option.some.inj H
        have hnb19 := NB173_174.out
        have hnc19 := NB174_173.out
        have hcz20_0 : wc.cell? ⟨gb173, 0, none⟩ = some (.string a0_0) := (blk_cell BK173.out 0).trans rfl
        have hcz20_1 : wc.cell? ⟨gb173, 1, none⟩ = some (.int .i64 a0_1) := (blk_cell BK173.out 1).trans rfl
        have hcz20_2 : wc.cell? ⟨gb173, 2, none⟩ = some (.int .i64 a0_2) := (blk_cell BK173.out 2).trans rfl
        have hcz20_3 : wc.cell? ⟨gb173, 3, none⟩ = some (.int .i64 a0_3) := (blk_cell BK173.out 3).trans rfl
        have hfz20_0 := blk_frozen BK173.out 0
        have hfz20_1 := blk_frozen BK173.out 1
        have hfz20_2 := blk_frozen BK173.out 2
        have hfz20_3 := blk_frozen BK173.out 3
        have hcz21_0 : wc.cell? ⟨gb174, 0, none⟩ = some (.int .i64 a1_0) := (blk_cell BK174.out 0).trans rfl
        have hcz21_1 : wc.cell? ⟨gb174, 1, none⟩ = some (.string a1_1) := (blk_cell BK174.out 1).trans rfl
        have hfz21_0 := blk_frozen BK174.out 0
        have hfz21_1 := blk_frozen BK174.out 1
        go_wp2
        repeat (go_quiet (fail); try go_wp2)
        go_ret
        exact ⟨by first | rfl | (simp [errW_none, errW_some] <;> rfl) | (simp [*, errW_none, errW_some] <;> rfl), by repeat (first | (with_reducible first | exact HB.out | apply below_alloc | apply pw_below_drewN | apply below_drew1 | refine below_set ?_ GE173.out | refine below_set ?_ GE174.out) | exact HB.out)⟩
       ·
        rw [if_neg c18] at H
        have c18b0 : decide (a0_2 < (-2147483648)) = false := decide_eq_false c18
        clear c18
        by_cases c22 : a0_3 > 2147483648
        ·
         rw [if_pos c22] at H
         have c22b0 : decide (2147483648 < a0_3) = true := decide_eq_true c22
         clear c22
         obtain rfl := Option.some.inj H
         have hnb23 := NB173_174.out
         have hnc23 := NB174_173.out
         have hcz24_0 : wc.cell? ⟨gb173, 0, none⟩ = some (.string a0_0) := (blk_cell BK173.out 0).trans rfl
         have hcz24_1 : wc.cell? ⟨gb173, 1, none⟩ = some (.int .i64 a0_1) := (blk_cell BK173.out 1).trans rfl
         have hcz24_2 : wc.cell? ⟨gb173, 2, none⟩ = some (.int .i64 a0_2) := (blk_cell BK173.out 2).trans rfl
         have hcz24_3 : wc.cell? ⟨gb173, 3, none⟩ = some (.int .i64 a0_3) := (blk_cell BK173.out 3).trans rfl
         have hfz24_0 := blk_frozen BK173.out 0
         have hfz24_1 := blk_frozen BK173.out 1
         have hfz24_2 := blk_frozen BK173.out 2
         have hfz24_3 := blk_frozen BK173.out 3
         have hcz25_0 : wc.cell? ⟨gb174, 0, none⟩ = some (.int .i64 a1_0) := (blk_cell BK174.out 0).trans rfl
         have hcz25_1 : wc.cell? ⟨gb174, 1, none⟩ = some (.string a1_1) := (blk_cell BK174.out 1).trans rfl
         have hfz25_0 := blk_frozen BK174.out 0
         have hfz25_1 := blk_frozen BK174.out 1
         go_wp2
         repeat (go_quiet (fail); try go_wp2)
         go_ret
         exact ⟨by first | rfl | (simp [errW_none, errW_some] <;> rfl) | (simp [*, errW_none, errW_some] <;> rfl), by repeat (first | (with_reducible first | exact HB.out | apply below_alloc | apply pw_below_drewN | apply below_drew1 | refine below_set ?_ GE173.out | refine below_set ?_ GE174.out) | exact HB.out)⟩
        ·
         rw [if_neg c22] at H
         have c22b0 : decide (2147483648 < a0_3) = false := decide_eq_false c22
         clear c22
         by_cases c26 : 0 ≤ a2
         ·
          rw [if_pos c26] at H
          have c26b0 := eq_true c26
          have c26b1 : decide (0 ≤ a2) = true := decide_eq_true c26
          clear c26
          obtain ⟨ji27, hji27⟩ : ∃ j_ : Int, (shl .i64 (wrap64 (a1_0 - a0_2)) a2) = j_ := ⟨_, rfl⟩
          replace H : (if (wrap64 ((wrap64 (a0_3 - a0_2)) + 1)) = 0 then (none) else (some (wrap64 (Int.tdiv (ji27) (wrap64 ((wrap64 (a0_3 - a0_2)) + 1)))))) = some r := by first | (rw [hji27] at H; exact H) | (simp only [hji27] at H ⊢; exact H)
          have hji27_ : (IntKind.i64.wrap ((wrap64 (a1_0 - a0_2)) * 2 ^ min a2.toNat 64)) = ji27 := hji27
          have hji27z : a2 ≤ 64 → (IntKind.i64.wrap ((wrap64 (a1_0 - a0_2)) * 2 ^ a2.toNat)) = ji27 := shl_small hji27
          have hji27y : (wrap64 ((wrap64 (a1_0 - a0_2)) * 2 ^ min a2.toNat 64)) = ji27 := (i64_w _).symm.trans hji27_
          have hji27x : a2 ≤ 64 → (wrap64 ((wrap64 (a1_0 - a0_2)) * 2 ^ a2.toNat)) = ji27 := fun h_ => (i64_w _).symm.trans (hji27z h_)
          by_cases c28 : (wrap64 ((wrap64 (a0_3 - a0_2)) + 1)) = 0
          ·
           rw [if_pos c28] at H
           exact absurd H (by simp)
          ·
           rw [if_neg c28] at H
           have c28b0 : ((wrap64 ((wrap64 (a0_3 - a0_2)) + 1)) == 0) = false := beq_eq_false_iff_ne.mpr c28
           have c28b1 : ((wrap64 ((wrap64 (a0_3 - a0_2)) + 1)) != 0) = true := bne_iff_ne.mpr c28
           obtain rfl := Option.some.inj H
           have hnb29 := NB173_174.out
           have hnc29 := NB174_173.out
           have hcz30_0 : wc.cell? ⟨gb173, 0, none⟩ = some (.string a0_0) := (blk_cell BK173.out 0).trans rfl
           have hcz30_1 : wc.cell? ⟨gb173, 1, none⟩ = some (.int .i64 a0_1) := (blk_cell BK173.out 1).trans rfl
           have hcz30_2 : wc.cell? ⟨gb173, 2, none⟩ = some (.int .i64 a0_2) := (blk_cell BK173.out 2).trans rfl
           have hcz30_3 : wc.cell? ⟨gb173, 3, none⟩ = some (.int .i64 a0_3) := (blk_cell BK173.out 3).trans rfl
           have hfz30_0 := blk_frozen BK173.out 0
           have hfz30_1 := blk_frozen BK173.out 1
           have hfz30_2 := blk_frozen BK173.out 2
           have hfz30_3 := blk_frozen BK173.out 3
           have hcz31_0 : wc.cell? ⟨gb174, 0, none⟩ = some (.int .i64 a1_0) := (blk_cell BK174.out 0).trans rfl
           have hcz31_1 : wc.cell? ⟨gb174, 1, none⟩ = some (.string a1_1) := (blk_cell BK174.out 1).trans rfl
           have hfz31_0 := blk_frozen BK174.out 0
           have hfz31_1 := blk_frozen BK174.out 1
           go_wp2
           repeat (go_quiet (fail); try go_wp2)
           go_ret
           exact ⟨by first | rfl | (simp [errW_none, errW_some] <;> rfl) | (simp only [← hji27]; first | rfl | (simp [errW_none, errW_some] <;> rfl)) | (simp [*, errW_none, errW_some] <;> rfl), by repeat (first | (with_reducible first | exact HB.out | apply below_alloc | apply pw_below_drewN | apply below_drew1 | refine below_set ?_ GE173.out | refine below_set ?_ GE174.out) | exact HB.out)⟩
         ·
          rw [if_neg c26] at H
          exact absurd H (by simp)
    ·
     rw [if_neg c9] at H
     have c9b0 : (a0_1 == 1) = false := beq_eq_false_iff_ne.mpr c9
     have c9b1 : (a0_1 != 1) = true := bne_iff_ne.mpr c9
     have H' := mk0 H
     clear H
     have hnb32 := NB173_174.out
     have hnc32 := NB174_173.out
     have hcz33_0 : wc.cell? ⟨gb173, 0, none⟩ = some (.string a0_0) := (blk_cell BK173.out 0).trans rfl
     have hcz33_1 : wc.cell? ⟨gb173, 1, none⟩ = some (.int .i64 a0_1) := (blk_cell BK173.out 1).trans rfl
     have hcz33_2 : wc.cell? ⟨gb173, 2, none⟩ = some (.int .i64 a0_2) := (blk_cell BK173.out 2).trans rfl
     have hcz33_3 : wc.cell? ⟨gb173, 3, none⟩ = some (.int .i64 a0_3) := (blk_cell BK173.out 3).trans rfl
     have hfz33_0 := blk_frozen BK173.out 0
     have hfz33_1 := blk_frozen BK173.out 1
     have hfz33_2 := blk_frozen BK173.out 2
     have hfz33_3 := blk_frozen BK173.out 3
     go_wp2
     repeat (go_quiet (fail); try go_wp2)
     go_loopg [7, 54] kj3 (fun kq v7 v54 w' => ∃ (x7_2 : Int) (x54_2 : Int), v7 = .int .i64 x7_2 ∧ v54 = .int .i64 x54_2 ∧ Aside0 (dyad_Cell.l0 kq a2 x7_2 x54_2 a1_0 a1_1 = some r) ∧ Aside0 (kq ≤ kj3) ∧ Aside0 (w'.heap[gb173]? = some (.cells #[.string a0_0, .int .i64 a0_1, .int .i64 a0_2, .int .i64 a0_3] 30 (0, 0))) ∧ Aside0 (w'.heap[gb174]? = some (.cells #[.int .i64 a1_0, .string a1_1] 37 (0, 0))) ∧ Aside0 (Below w.heap.size w w'))
     case atStart => exact ⟨(0), (0), (by first | rfl | (simp; done) | (simp [*]; done)), (by first | rfl | (simp; done) | (simp [*]; done)), H', ⟨Nat.le_refl _⟩, ⟨by (with_reducible repeat (first | refine blk_drewN ?_ _ | refine blk_drew ?_ | refine blk_alloc ?_ _)); exact BK173.out⟩, ⟨by (with_reducible repeat (first | refine blk_drewN ?_ _ | refine blk_drew ?_ | refine blk_alloc ?_ _)); exact BK174.out⟩, ⟨by repeat (first | (with_reducible first | exact HB.out | apply below_alloc | apply pw_below_drewN | apply below_drew1 | refine below_set ?_ GE173.out | refine below_set ?_ GE174.out) | exact HB.out)⟩⟩
     case round =>
      clear H'
      try clear c1
      try clear c2
      try clear p2
      try clear c3
      try clear p6
      try clear c7
      try clear c7b0
      try clear c8
      try clear c9
      try clear c9b0
      try clear c9b1
      try clear c10
      try clear c10b0
      try clear c11
      try clear c14
      try clear c14b0
      try clear c15
      try clear c18
      try clear c18b0
      try clear c19
      try clear c22
      try clear c22b0
      try clear c23
      try clear c26
      try clear c26b0
      try clear c26b1
      try clear c28
      try clear c28b0
      try clear c28b1
      try clear c29
      try clear c32
      try clear hcz12_0
      try clear hcz12_1
      try clear hcz12_2
      try clear hcz12_3
      try clear hcz13_0
      try clear hcz13_1
      try clear hcz16_0
      try clear hcz16_1
      try clear hcz16_2
      try clear hcz16_3
      try clear hcz17_0
      try clear hcz17_1
      try clear hcz20_0
      try clear hcz20_1
      try clear hcz20_2
      try clear hcz20_3
      try clear hcz21_0
      try clear hcz21_1
      try clear hcz24_0
      try clear hcz24_1
      try clear hcz24_2
      try clear hcz24_3
      try clear hcz25_0
      try clear hcz25_1
      try clear hcz30_0
      try clear hcz30_1
      try clear hcz30_2
      try clear hcz30_3
      try clear hcz31_0
      try clear hcz31_1
      try clear hcz33_0
      try clear hcz33_1
      try clear hcz33_2
      try clear hcz33_3
      try clear hfz12_0
      try clear hfz12_1
      try clear hfz12_2
      try clear hfz12_3
      try clear hfz13_0
      try clear hfz13_1
      try clear hfz16_0
      try clear hfz16_1
      try clear hfz16_2
      try clear hfz16_3
      try clear hfz17_0
      try clear hfz17_1
      try clear hfz20_0
      try clear hfz20_1
      try clear hfz20_2
      try clear hfz20_3
      try clear hfz21_0
      try clear hfz21_1
      try clear hfz24_0
      try clear hfz24_1
      try clear hfz24_2
      try clear hfz24_3
      try clear hfz25_0
      try clear hfz25_1
      try clear hfz30_0
      try clear hfz30_1
      try clear hfz30_2
      try clear hfz30_3
      try clear hfz31_0
      try clear hfz31_1
      try clear hfz33_0
      try clear hfz33_1
      try clear hfz33_2
      try clear hfz33_3
      try clear p2
      obtain ⟨x7_2, x54_2, rfl, rfl, HA, HK2, BK173, BK174, HB⟩ := hrel
      cases gk with
      | zero => exact absurd HA.out (by simp [dyad_Cell.l0])
      | succ k2 =>
       have H := HA.out
       clear HA
       simp only [dyad_Cell.l0] at H
       by_cases c34 : x54_2 < 2
       ·
        rw [if_pos c34] at H
        have c34b0 : decide (x54_2 < 2) = true := decide_eq_true c34
        clear c34
        by_cases c35 : x54_2 < (a1_1.size : Int)
        ·
         rw [if_pos c35] at H
         have c35b0 : decide (x54_2 < (a1_1.size : Int)) = true := decide_eq_true c35
         clear c35
         by_cases c36 : 0 ≤ x54_2
         ·
          rw [if_pos c36] at H
          have c36b0 : decide (0 ≤ x54_2) = true := decide_eq_true c36
          clear c36
          have H' := mk0 H
          clear H
          have hnb38 := NB174_173.out
          have hnc38 := NB173_174.out
          have hcz39_0 : wr.cell? ⟨gb174, 0, none⟩ = some (.int .i64 a1_0) := (blk_cell BK174.out 0).trans rfl
          have hcz39_1 : wr.cell? ⟨gb174, 1, none⟩ = some (.string a1_1) := (blk_cell BK174.out 1).trans rfl
          have hfz39_0 := blk_frozen BK174.out 0
          have hfz39_1 := blk_frozen BK174.out 1
          have p37 : 0 ≤ (x54_2 : Int) := of_decide_eq_true (by first | (with_reducible assumption) | assumption)
          have q37 : x54_2 < (a1_1.size : Int) := of_decide_eq_true (by first | (with_reducible assumption) | assumption)
          have hx37 := bt_at a1_1 x54_2
          replace p37 := eq_true p37
          replace q37 := eq_true q37
          go_wp2
          repeat (go_quiet (fail); try go_wp2)
          go_roundg k2
          case measure => have := HJ3.out; have := HK2.out; omega
          case rel => exact ⟨(Go.bits .or .i64 (wrap64 (x7_2 * 256)) (wrap64 (bt a1_1 x54_2))), (wrap64 (x54_2 + 1)), (by first | rfl | (simp; done) | (simp [*]; done)), (by first | rfl | (simp; done) | (simp [*]; done)), H', ⟨by have := HJ3.out; have := HK2.out; omega⟩, ⟨by (with_reducible repeat (first | refine blk_drewN ?_ _ | refine blk_drew ?_ | refine blk_alloc ?_ _)); exact BK173.out⟩, ⟨by (with_reducible repeat (first | refine blk_drewN ?_ _ | refine blk_drew ?_ | refine blk_alloc ?_ _)); exact BK174.out⟩, ⟨by repeat (first | (with_reducible first | exact HB.out | apply below_alloc | apply pw_below_drewN | apply below_drew1 | refine below_set ?_ GE173.out | refine below_set ?_ GE174.out) | exact HB.out)⟩⟩
         ·
          rw [if_neg c36] at H
          exact absurd H (by simp)
        ·
         rw [if_neg c35] at H
         have c35b0 : decide (x54_2 < (a1_1.size : Int)) = false := decide_eq_false c35
         clear c35
         have H' := mk0 H
         clear H
         have hnb40 := NB174_173.out
         have hnc40 := NB173_174.out
         have hcz41_0 : wr.cell? ⟨gb174, 0, none⟩ = some (.int .i64 a1_0) := (blk_cell BK174.out 0).trans rfl
         have hcz41_1 : wr.cell? ⟨gb174, 1, none⟩ = some (.string a1_1) := (blk_cell BK174.out 1).trans rfl
         have hfz41_0 := blk_frozen BK174.out 0
         have hfz41_1 := blk_frozen BK174.out 1
         go_wp2
         repeat (go_quiet (fail); try go_wp2)
         go_roundg k2
         case measure => have := HJ3.out; have := HK2.out; omega
         case rel => exact ⟨(wrap64 (x7_2 * 256)), (wrap64 (x54_2 + 1)), (by first | rfl | (simp; done) | (simp [*]; done)), (by first | rfl | (simp; done) | (simp [*]; done)), H', ⟨by have := HJ3.out; have := HK2.out; omega⟩, ⟨by (with_reducible repeat (first | refine blk_drewN ?_ _ | refine blk_drew ?_ | refine blk_alloc ?_ _)); exact BK173.out⟩, ⟨by (with_reducible repeat (first | refine blk_drewN ?_ _ | refine blk_drew ?_ | refine blk_alloc ?_ _)); exact BK174.out⟩, ⟨by repeat (first | (with_reducible first | exact HB.out | apply below_alloc | apply pw_below_drewN | apply below_drew1 | refine below_set ?_ GE173.out | refine below_set ?_ GE174.out) | exact HB.out)⟩⟩
       ·
        rw [if_neg c34] at H
        have c34b0 : decide (x54_2 < 2) = false := decide_eq_false c34
        clear c34
        obtain ⟨ji42, hji42⟩ : ∃ j_ : Int, (wrap64 (16 - a2)) = j_ := ⟨_, rfl⟩
        replace H : (if 0 ≤ (ji42) then (some (shr .i64 x7_2 (ji42))) else (none)) = some r := by first | (rw [hji42] at H; exact H) | (simp only [hji42] at H ⊢; exact H)
        have hji42w : (IntKind.i64.wrap (16 - a2)) = ji42 := (i64_w _).trans hji42
        by_cases c43 : 0 ≤ (ji42)
        ·
         rw [if_pos c43] at H
         have c43b0 := eq_true c43
         have c43b1 : decide (0 ≤ (ji42)) = true := decide_eq_true c43
         clear c43
         obtain ⟨ji44, hji44⟩ : ∃ j_ : Int, (shr .i64 x7_2 (ji42)) = j_ := ⟨_, rfl⟩
         replace H : (some ji44) = some r := by first | (rw [hji44] at H; exact H) | (simp only [hji44] at H ⊢; exact H)
         have hji44_ : (x7_2 / 2 ^ min (ji42).toNat 64) = ji44 := hji44
         have hji44z : (ji42) ≤ 64 → (x7_2 / 2 ^ (ji42).toNat) = ji44 := shr_small hji44
         obtain rfl := Option.some.inj H
         go_wp2
         repeat (go_quiet (fail); try go_wp2)
         go_ret
         exact ⟨by first | rfl | (simp [errW_none, errW_some] <;> rfl) | (simp only [← hji42, ← hji44]; first | rfl | (simp [errW_none, errW_some] <;> rfl)) | (simp [*, errW_none, errW_some] <;> rfl), by repeat (first | (with_reducible first | exact HB.out | apply below_alloc | apply pw_below_drewN | apply below_drew1 | refine below_set ?_ GE173.out | refine below_set ?_ GE174.out) | exact HB.out)⟩
        ·
         rw [if_neg c43] at H
         exact absurd H (by simp)
end Go.Proofs.YtnmpijbcajclgaaGreatDoor.PNodeAlone
end
