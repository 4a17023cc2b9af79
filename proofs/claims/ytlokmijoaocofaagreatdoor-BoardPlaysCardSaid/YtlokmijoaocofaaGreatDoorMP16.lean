/- Texts of one claim, one behind the other, made short by a program. -/
import Derived.Test.YtlokmijoaocofaaGreatDoorMP15
set_option linter.unusedSimpArgs false
set_option linter.unusedVariables false
set_option maxRecDepth 100000
section
namespace Go.Proofs.YtlokmijoaocofaaGreatDoor.Mine
open Go.RowKit YtlokmijoaocofaaGreatDoorW.PrintWords YtlokmijoaocofaaGreatDoorW.PrintLast YtlokmijoaocofaaGreatDoorW.PrintMore
open PBoardPlays
def nmFrom (i : Nat) (l : List UInt8) : Bool := (decide (i ≠ 0) || isL (l.headD 0)) && l.all isA
theorem nm_L {i : Nat} {c : UInt8} {r : List UInt8} (h : isL c = true) : nmFrom i (c :: r) = nmFrom (i + 1) r := by
 unfold nmFrom
 have hA : isA c = true := by unfold isA; rw [h]; rfl
 simp [h, hA]
theorem nm_D {i : Nat} {c : UInt8} {r : List UInt8} (hi : i ≠ 0) (h : isD c = true) : nmFrom i (c :: r) = nmFrom (i + 1) r := by
 unfold nmFrom
 have hA : isA c = true := by unfold isA; rw [h]; simp
 simp [hi, hA]
theorem nm_D0 {c : UInt8} {r : List UInt8} (h : isL c = false) : nmFrom 0 (c :: r) = false := by
 unfold nmFrom
 simp [h]
theorem nm_no {i : Nat} {c : UInt8} {r : List UInt8} (h : isL c = false) (h2 : isD c = false) : nmFrom i (c :: r) = false := by
 unfold nmFrom
 have hA : isA c = false := by unfold isA; rw [h, h2]; rfl
 simp [hA]
set_option maxHeartbeats 2000000 in
theorem rname_calls (s : ByteArray) (w : World) (hs : s.size ≤ 1000000000) : Calls Tryz.prog 19 #[.string s] w fun e w' => e = .returned (.bool (nameOk s)) ∧ w = w' := by
 by_cases h0 : s.size = 0
 ·
  have e0 : s.toList = [] := by
   have e : s = ByteArray.empty := by
    cases s with
    | mk d =>
     have h5 : d.size = 0 := h0
     have : d = #[] := Array.eq_empty_of_size_eq_zero h5
     rw [this]
     rfl
   rw [e, btl]
   rfl
  have q0 : ((s.size : Int) == 0) = true := by rw [h0]; rfl
  have HV := mk0 (show nameOk s = false by unfold nameOk; rw [e0]; rfl)
  generalize nameOk s = z at HV ⊢
  clear h0 e0
  go_enter Tryz.func19, Tryz.ntmps19
  go_wp2
  go_ret
  exact ⟨by rw [HV.out]; rfl, rfl⟩
 ·
  have q0 : ((s.size : Int) == 0) = false := beq_eq_false_iff_ne.2 (by omega)
  have q0b : (s.toList == []) = false := by
   cases hq : (s.toList == []) with
   | false => rfl
   | true =>
    exfalso
    have h5 : s.toList = [] := of_decide_eq_true (by simpa using hq)
    have h6 : s.data.toList.length = 0 := by
     rw [← btl, h5]; rfl
    rw [Array.length_toList] at h6
    exact h0 h6
  by_cases h12 : 12 < s.size
  ·
   have q2 : decide ((12 : Int) < (s.size : Int)) = true := decide_eq_true (by omega)
   have HV := mk0 (show nameOk s = false by unfold nameOk; rw [q0b, decide_eq_false (by omega : ¬ s.size ≤ 12)]; rfl)
   generalize nameOk s = z at HV ⊢
   clear h0 h12
   go_enter Tryz.func19, Tryz.ntmps19
   go_wp2
   go_ret
   exact ⟨by rw [HV.out]; rfl, rfl⟩
  ·
   have q2 : decide ((12 : Int) < (s.size : Int)) = false := decide_eq_false (by omega)
   have hV : nameOk s = (isL (s.data.toList.headD 0) && (!(s.toList == [105, 110]) && (!(s.toList == [97, 110, 100]) && s.data.toList.all isA))) := by unfold nameOk; rw [q0b, decide_eq_true (by omega : s.size ≤ 12)]; rfl
   cases q3 : (s.toList == [105, 110]) with
   | true =>
    have HV := mk0 (show nameOk s = false by rw [hV, q3]; simp)
    generalize nameOk s = z at HV ⊢
    clear h0 h12 hV
    go_enter Tryz.func19, Tryz.ntmps19
    go_wp2
    go_ret
    exact ⟨by rw [HV.out]; rfl, rfl⟩
   | false =>
    cases q4 : (s.toList == [97, 110, 100]) with
    | true =>
     have HV := mk0 (show nameOk s = false by rw [hV, q3, q4]; simp)
     generalize nameOk s = z at HV ⊢
     clear h0 h12 hV
     go_enter Tryz.func19, Tryz.ntmps19
     go_wp2
     go_ret
     exact ⟨by rw [HV.out]; rfl, rfl⟩
    | false =>
     have HV := mk0 (show nameOk s = nmFrom 0 (dropB s 0) by rw [hV, q3, q4]; unfold nmFrom dropB; simp)
     generalize nameOk s = z at HV ⊢
     have H12 := mk0 h12
     have H0 := mk0 h0
     clear h0 h12 hV
     go_enter Tryz.func19, Tryz.ntmps19
     go_wp2_with fail
     go_loopg [3, 4, 5] (s.size + 1) (fun k v3 v4 v5 W => ∃ i : Nat, Aside0 (i ≤ s.size ∧ k + i = s.size + 1 ∧ z = nmFrom i (dropB s i)) ∧ v3 = .int .i64 (i : Int) ∧ W = w)
     case atStart => exact ⟨0, ⟨by omega, by omega, HV.out⟩, rfl, rfl⟩
     case round =>
      obtain ⟨i, HM, rfl, rfl⟩ := hrel
      by_cases hi : i < s.size
      ·
       have b1 : decide ((i : Int) < (s.size : Int)) = true := decide_eq_true (by omega)
       have b2 : decide (i < s.size) = true := decide_eq_true (by omega)
       have p1 : (0 : Int) ≤ (i : Int) := by omega
       have p2 : (i : Int) < (s.size : Int) := by omega
       obtain ⟨c, hc⟩ : ∃ c, s[i]'hi = c := ⟨_, rfl⟩
       have hdc := dropB_cons hi
       rw [hc] at hdc
       have HD := mk0 hdc
       have hx : ∀ h : i < s.size, s[i]'h = c := fun _ => hc
       clear hc hdc
       have hL : isL c = (decide (97 ≤ (c.toNat : Int)) && decide ((c.toNat : Int) ≤ 122)) := by
        unfold isL
        rw [Bool.eq_iff_iff]
        simp only [decide_eq_true_eq, Bool.and_eq_true, UInt8.le_iff_toNat_le]
        have e1 : (97 : UInt8).toNat = 97 := rfl
        have e2 : (122 : UInt8).toNat = 122 := rfl
        rw [e1, e2]
        omega
       have hD : isD c = (decide (48 ≤ (c.toNat : Int)) && decide ((c.toNat : Int) ≤ 57)) := by
        unfold isD
        rw [Bool.eq_iff_iff]
        simp only [decide_eq_true_eq, Bool.and_eq_true, UInt8.le_iff_toNat_le]
        have e1 : (48 : UInt8).toNat = 48 := rfl
        have e2 : (57 : UInt8).toNat = 57 := rfl
        rw [e1, e2]
        omega
       have HLD := mk0 (And.intro hL hD)
       clear hL hD
       cases g1 : decide (97 ≤ (c.toNat : Int)) with
       | true =>
        cases g2 : decide ((c.toNat : Int) ≤ 122) with
        | true =>
         have g4 : decide ((c.toNat : Int) ≤ 57) = false := decide_eq_false (by have := of_decide_eq_true g1; omega)
         have g3 : decide (48 ≤ (c.toNat : Int)) = true := decide_eq_true (by have := of_decide_eq_true g1; omega)
         have HQ := mk0 (show z = nmFrom (i + 1) (dropB s (i + 1)) by rw [HM.out.2.2, HD.out]; exact nm_L (by rw [HLD.out.1, g1, g2]; rfl))
         go_wp2_with fail
         go_roundg (gk - 1)
         case measure => have := HM.out; omega
         case rel => exact ⟨i + 1, ⟨by omega, by have := HM.out; omega, HQ.out⟩, rfl, rfl⟩
        | false =>
         have g4 : decide ((c.toNat : Int) ≤ 57) = false := decide_eq_false (by have := of_decide_eq_false g2; omega)
         have g3 : decide (48 ≤ (c.toNat : Int)) = true := decide_eq_true (by have := of_decide_eq_true g1; omega)
         have HQ := mk0 (show z = false by rw [HM.out.2.2, HD.out]; exact nm_no (by rw [HLD.out.1, g1, g2]; rfl) (by rw [HLD.out.2, g3, g4]; rfl))
         cases g5 : ((i : Int) == 0) with
         | true =>
          go_wp2
          go_ret
          exact ⟨by rw [HQ.out]; rfl, rfl⟩
         | false =>
          go_wp2
          go_ret
          exact ⟨by rw [HQ.out]; rfl, rfl⟩
       | false =>
        cases g3 : decide (48 ≤ (c.toNat : Int)) with
        | false =>
         have HQ := mk0 (show z = false by rw [HM.out.2.2, HD.out]; exact nm_no (by rw [HLD.out.1, g1]; rfl) (by rw [HLD.out.2, g3]; rfl))
         cases g5 : ((i : Int) == 0) with
         | true =>
          go_wp2
          go_ret
          exact ⟨by rw [HQ.out]; rfl, rfl⟩
         | false =>
          go_wp2
          go_ret
          exact ⟨by rw [HQ.out]; rfl, rfl⟩
        | true =>
         cases g4 : decide ((c.toNat : Int) ≤ 57) with
         | false =>
          have HQ := mk0 (show z = false by rw [HM.out.2.2, HD.out]; exact nm_no (by rw [HLD.out.1, g1]; rfl) (by rw [HLD.out.2, g3, g4]; rfl))
          cases g5 : ((i : Int) == 0) with
          | true =>
           go_wp2
           go_ret
           exact ⟨by rw [HQ.out]; rfl, rfl⟩
          | false =>
           go_wp2
           go_ret
           exact ⟨by rw [HQ.out]; rfl, rfl⟩
         | true =>
          cases g5 : ((i : Int) == 0) with
          | true =>
           have HQ := mk0 (show z = false by
            rw [HM.out.2.2, HD.out]
            have hi0 : i = 0 := by have : (i : Int) = 0 := of_decide_eq_true (by simpa using g5); omega
            rw [hi0]
            exact nm_D0 (by rw [HLD.out.1, g1]; rfl))
           go_wp2
           go_ret
           exact ⟨by rw [HQ.out]; rfl, rfl⟩
          | false =>
           have HQ := mk0 (show z = nmFrom (i + 1) (dropB s (i + 1)) by rw [HM.out.2.2, HD.out]; exact nm_D (fun hi0 => by rw [hi0] at g5; revert g5; decide) (by rw [HLD.out.2, g3, g4]; rfl))
           go_wp2_with fail
           go_roundg (gk - 1)
           case measure => have := HM.out; omega
           case rel => exact ⟨i + 1, ⟨by omega, by have := HM.out; omega, HQ.out⟩, rfl, rfl⟩
      ·
       have b1 : decide ((i : Int) < (s.size : Int)) = false := decide_eq_false (by omega)
       have b2 : decide (i < s.size) = false := decide_eq_false (by omega)
       have HQ := mk0 (show z = true by
        rw [HM.out.2.2, dropB_nil (by omega)]; have h1 : i ≠ 0 := by have := H0.out; omega
        simp [nmFrom, h1])
       clear hi
       go_wp2
       go_ret
       exact ⟨by rw [HQ.out]; rfl, rfl⟩
set_option maxHeartbeats 8000000 in
theorem rschema_calls (A : Option Addr) (n c : Nat) (S : List S61) (w : World) (hn : S.length = n) (hr : Kd.C k63 w A n (S.map toA)) (hl : n ≤ 100000) (hcd : n ≤ c) (hst : ∀ a ∈ S, a.f0.size ≤ 1000000000) :
 Calls Tryz.prog 7 #[.slice A n c] w fun e w' => e = .returned (.int .i64 (badI2 (checkBad S))) ∧ Below w.heap.size w w' := by
 have HRS := mk0 hr
 have HN := mk0 hn
 have HST4 := mk0 hst
 clear hr hn hst
 obtain ⟨z, hz⟩ : ∃ z, z = badI2 (checkBad S) := ⟨_, rfl⟩
 rw [← hz]
 have HZ := mk0 hz
 clear hz
 by_cases hlen : n < 1 ∨ 4 < n
 ·
  have HB := mk0 (show z = 0 by rw [HZ.out]; unfold checkBad; rw [if_pos (by have := HN.out; omega)]; rfl)
  by_cases h1 : n < 1
  ·
   have q1 : decide ((n : Int) < 1) = true := decide_eq_true (by omega)
   clear hlen
   obtain rfl : n = 0 := by omega
   go_enter Tryz.func7, Tryz.ntmps7
   go_wp2
   go_ret
   exact ⟨by rw [HB.out]; rfl, Below.refl _ _⟩
  ·
   have q1 : decide ((n : Int) < 1) = false := decide_eq_false (by omega)
   have q2 : decide (4 < (n : Int)) = true := decide_eq_true (by omega)
   clear hlen
   go_enter Tryz.func7, Tryz.ntmps7
   go_wp2
   go_ret
   exact ⟨by rw [HB.out]; rfl, Below.refl _ _⟩
 ·
  have q1 : decide ((n : Int) < 1) = false := decide_eq_false (by omega)
  have q2 : decide (4 < (n : Int)) = false := decide_eq_false (by omega)
  have HFB := mk0 (show checkBad S = chkFrom S n 0 by unfold checkBad; rw [if_neg (by have := HN.out; omega), HN.out])
  clear hlen
  go_enter Tryz.func7, Tryz.ntmps7
  go_wp2_with fail
  go_loopg [3, 4, 5, 7, 18, 30] (n + 1) (fun k v3 v4 v5 v7 v18 v30 W => ∃ i : Nat, Aside0 (i ≤ n ∧ k + i = n + 1 ∧ checkBad S = chkFrom S (n - i) i) ∧ v18 = .int .i64 (i : Int) ∧ Aside0 (Below w.heap.size w W))
  case atStart => exact ⟨0, ⟨by omega, by omega, HFB.out⟩, rfl, ⟨Below.refl _ _⟩⟩
  case round =>
   obtain ⟨i, HI, rfl, HB⟩ := hrel
   by_cases hi : i < n
   ·
    have b1 : decide ((i : Int) < (n : Int)) = true := decide_eq_true (by omega)
    have b2 : decide (i < n) = true := decide_eq_true (by omega)
    have p1 : (0 : Int) ≤ (i : Int) := by omega
    have p2 : (i : Int) < (n : Int) := by omega
    have hstep : chkFrom S (n - i) i = if attrAt S i then chkFrom S (n - (i + 1)) (i + 1) else some i := by
     rw [show n - i = (n - (i + 1)) + 1 by omega]
     rfl
    have HST := mk0 hstep
    clear hstep
    obtain ⟨ad, e, h0, h1, h2, h3⟩ := at_T63 HRS.out i p1 p2
    cases e
    rw [Int.toNat_natCast] at h0 h1 h2 h3
    replace h0 := (HB.out.cell (World.block_lt_of_cell? w _ h0)).trans h0
    replace h1 := (HB.out.cell (World.block_lt_of_cell? w _ h1)).trans h1
    replace h2 := (HB.out.cell (World.block_lt_of_cell? w _ h2)).trans h2
    replace h3 := (HB.out.cell (World.block_lt_of_cell? w _ h3)).trans h3
    have hrd : rd_T63 (S.map toA) (i : Int) = toA (S.getD i z61) := getD_toA S i
    rw [hrd] at h0 h1 h2 h3
    have hps : (S.getD i z61).f0.size ≤ 1000000000 := by
     rw [List.getD_eq_getElem?_getD, List.getElem?_eq_getElem (by have := HN.out; omega)]
     exact HST4.out _ (List.getElem_mem _)
    have hat : attrAt S i = (nameOk (S.getD i z61).f0 && (!((S.take i).any fun x => x.f0.toList == (S.getD i z61).f0.toList) && kindOk (S.getD i z61))) := rfl
    generalize S.getD i z61 = p at h0 h1 h2 h3 hps hat
    have HAT := mk0 hat
    clear hrd hat
    change wr.cell? _ = some (.string p.f0) at h0
    change wr.cell? _ = some (.int .i64 p.f1) at h1
    change wr.cell? _ = some (.int .i64 p.f2) at h2
    change wr.cell? _ = some (.int .i64 p.f3) at h3
    go_wp2_with fail
    refine (rname_calls p.f0 _ hps).mono ?_
    rintro e w1 ⟨rfl, rfl⟩
    have KB6 := mk0 (heap_alloc_new wr (.cells #[.string p.f0, .int .i64 p.f1, .int .i64 p.f2, .int .i64 p.f3] 63 (0, 0)))
    have n_ := mk0 (below_alloc HB.out (.cells #[.string p.f0, .int .i64 p.f1, .int .i64 p.f2, .int .i64 p.f3] 63))
    clear HB h0 h1 h2 h3
    have HB := n_
    clear n_
    generalize wr.heap.size = g6 at KB6 ⊢
    generalize wr.alloc (.cells #[.string p.f0, .int .i64 p.f1, .int .i64 p.f2, .int .i64 p.f3] 63) = wq at KB6 HB ⊢
    obtain ⟨b0, hb0⟩ : ∃ b, b = nameOk p.f0 := ⟨_, rfl⟩
    rw [← hb0] at HAT ⊢
    have p3 : (i : Int) ≤ (c : Int) := by omega
    clear hb0
    go_wp2_with fail
    obtain ⟨gko, rfl⟩ : ∃ g, g = gk := ⟨gk, rfl⟩
    go_loopg [5, 7, 30] (i + 1) (fun k v5 v7 v30 W => ∃ (j : Nat) (bj : Bool), Aside0 (j ≤ i ∧ k + j = i + 1 ∧ bj = (b0 && !((S.take j).any fun x => x.f0.toList == p.f0.toList))) ∧ v5 = .bool bj ∧ v30 = .int .i64 (j : Int) ∧ Aside0 (W.heap[g6]? = some (.cells #[.string p.f0, .int .i64 p.f1, .int .i64 p.f2, .int .i64 p.f3] 63 (0, 0))) ∧ Aside0 (Below w.heap.size w W))
    case atStart => exact ⟨0, b0, ⟨by omega, by omega, by simp⟩, rfl, rfl, KB6, HB⟩
    case round =>
     clear KB6 HB
     obtain ⟨j, bj, HJ, rfl, rfl, KB6, HB⟩ := hrel
     have y0 := (blk_cell KB6.out 0).trans (show _ = some (Value.string p.f0) from rfl)
     have y1 := (blk_cell KB6.out 1).trans (show _ = some (Value.int .i64 p.f1) from rfl)
     have y2 := (blk_cell KB6.out 2).trans (show _ = some (Value.int .i64 p.f2) from rfl)
     have y3 := (blk_cell KB6.out 3).trans (show _ = some (Value.int .i64 p.f3) from rfl)
     by_cases hj : j < i
     ·
      have d1 : decide ((j : Int) < (i : Int)) = true := decide_eq_true (by omega)
      have d2 : decide (j < i) = true := decide_eq_true (by omega)
      have s1 : (0 : Int) ≤ (j : Int) := by omega
      have s2 : (j : Int) < (i : Int) := by omega
      obtain ⟨ad3, e, h0, h1, h2, h3⟩ := at_T63 HRS.out j s1 (by omega)
      cases e
      rw [Int.toNat_natCast] at h0 h1 h2 h3
      replace h0 := (HB.out.cell (World.block_lt_of_cell? w _ h0)).trans h0
      replace h1 := (HB.out.cell (World.block_lt_of_cell? w _ h1)).trans h1
      replace h2 := (HB.out.cell (World.block_lt_of_cell? w _ h2)).trans h2
      replace h3 := (HB.out.cell (World.block_lt_of_cell? w _ h3)).trans h3
      have hrd : rd_T63 (S.map toA) (j : Int) = toA (S.getD j z61) := getD_toA S j
      rw [hrd] at h0 h1 h2 h3
      have hany := any_snoc S z61 (fun x => x.f0.toList == p.f0.toList) j (by have := HN.out; omega)
      have HANY := mk0 hany
      clear hany hrd
      generalize S.getD j z61 = x at h0 h1 h2 h3 HANY
      change wr.cell? _ = some (.string x.f0) at h0
      change wr.cell? _ = some (.int .i64 x.f1) at h1
      change wr.cell? _ = some (.int .i64 x.f2) at h2
      change wr.cell? _ = some (.int .i64 x.f3) at h3
      have ln := blk_lt KB6.out
      have ln2 : ¬ (g6 = wr.heap.size) := by omega
      have HKA := mk0 ((Below.heap_alloc wr (.cells #[.string x.f0, .int .i64 x.f1, .int .i64 x.f2, .int .i64 x.f3] 63) _ ln).trans KB6.out)
      have HBA := mk0 (below_alloc HB.out (.cells #[.string x.f0, .int .i64 x.f1, .int .i64 x.f2, .int .i64 x.f3] 63))
      cases bj with
      | false =>
       have HF := mk0 (show false = (b0 && !((S.take (j + 1)).any fun x => x.f0.toList == p.f0.toList)) by
        have h := HJ.out.2.2
        rw [HANY.out]
        cases hA : b0 with
        | false => rfl
        | true =>
         rw [hA] at h
         cases hC : ((S.take j).any fun x => x.f0.toList == p.f0.toList) with
         | true => rfl
         | false => rw [hC] at h; cases h)
       go_wp2_with fail
       go_roundg (gk - 1)
       case measure => have := HJ.out; omega
       case rel => exact ⟨j + 1, false, ⟨by omega, by have := HJ.out; omega, HF.out⟩, rfl, rfl, HKA, HBA⟩
      | true =>
       cases hq : (p.f0.toList == x.f0.toList) with
       | true =>
        have HF := mk0 (show false = (b0 && !((S.take (j + 1)).any fun x => x.f0.toList == p.f0.toList)) by
         rw [HANY.out, show (x.f0.toList == p.f0.toList) = true by rw [beq_iff_eq] at hq ⊢; exact hq.symm]
         simp)
        go_wp2_with fail
        go_roundg (gk - 1)
        case measure => have := HJ.out; omega
        case rel => exact ⟨j + 1, false, ⟨by omega, by have := HJ.out; omega, HF.out⟩, rfl, rfl, HKA, HBA⟩
       | false =>
        have HF := mk0 (show true = (b0 && !((S.take (j + 1)).any fun x => x.f0.toList == p.f0.toList)) by
         rw [HANY.out, show (x.f0.toList == p.f0.toList) = false by rw [beq_eq_false_iff_ne] at hq ⊢; exact fun h => hq h.symm, Bool.or_false]
         exact HJ.out.2.2)
        go_wp2_with fail
        go_roundg (gk - 1)
        case measure => have := HJ.out; omega
        case rel => exact ⟨j + 1, true, ⟨by omega, by have := HJ.out; omega, HF.out⟩, rfl, rfl, HKA, HBA⟩
     ·
      have d1 : decide ((j : Int) < (i : Int)) = false := decide_eq_false (by omega)
      have d2 : decide (j < i) = false := decide_eq_false (by omega)
      have hji : j = i := by have := HJ.out; omega
      have hbj := HJ.out.2.2
      rw [hji] at hbj
      have HOK := mk0 (show attrAt S i = (bj && kindOk p) by rw [HAT.out, hbj, Bool.and_assoc])
      clear hji hbj
      cases bj with
      | false =>
       have HNO := mk0 (show attrAt S i = false by rw [HOK.out]; rfl)
       cases o1 : (p.f1 == 1) with
       | true =>
        have HV := mk0 (show attrAt S i = false from HNO.out)
        have HE := mk0 (show z = (i : Int) by rw [HZ.out, HI.out.2.2, HST.out, HV.out]; rfl)
        go_wp2
        go_ret
        exact ⟨by rw [HE.out]; rfl, HB.out⟩
       | false =>
        have HV := mk0 (show attrAt S i = false from HNO.out)
        have HE := mk0 (show z = (i : Int) by rw [HZ.out, HI.out.2.2, HST.out, HV.out]; rfl)
        go_wp2
        go_ret
        exact ⟨by rw [HE.out]; rfl, HB.out⟩
      | true =>
       rw [Bool.true_and] at HOK
       cases o1 : (p.f1 == 1) with
       | true =>
        have HPO := mk0 (show kindOk p = (!decide (p.f2 < -2147483648) && (!decide (2147483648 < p.f3) && !decide (p.f3 < p.f2))) by unfold kindOk; rw [if_pos (by simpa using o1)])
        cases e2 : decide (-2147483648 ≤ p.f2) with
        | false =>
         have HV := mk0 (show attrAt S i = false from by rw [HOK.out, HPO.out, show decide (p.f2 < -2147483648) = true from decide_eq_true (by have := of_decide_eq_false e2; omega)]; rfl)
         have HE := mk0 (show z = (i : Int) by rw [HZ.out, HI.out.2.2, HST.out, HV.out]; rfl)
         go_wp2
         go_ret
         exact ⟨by rw [HE.out]; rfl, HB.out⟩
        | true =>
         have HE2 := mk0 (show decide (p.f2 < -2147483648) = false from decide_eq_false (by have := of_decide_eq_true e2; omega))
         cases e3 : decide (p.f3 ≤ 2147483648) with
         | false =>
          have HV := mk0 (show attrAt S i = false from by rw [HOK.out, HPO.out, HE2.out, show decide (2147483648 < p.f3) = true from decide_eq_true (by have := of_decide_eq_false e3; omega)]; rfl)
          have HE := mk0 (show z = (i : Int) by rw [HZ.out, HI.out.2.2, HST.out, HV.out]; rfl)
          go_wp2
          go_ret
          exact ⟨by rw [HE.out]; rfl, HB.out⟩
         | true =>
          have HE3 := mk0 (show decide (2147483648 < p.f3) = false from decide_eq_false (by have := of_decide_eq_true e3; omega))
          cases e4 : decide (p.f2 ≤ p.f3) with
          | false =>
           have HV := mk0 (show attrAt S i = false from by rw [HOK.out, HPO.out, HE2.out, HE3.out, show decide (p.f3 < p.f2) = true from decide_eq_true (by have := of_decide_eq_false e4; omega)]; rfl)
           have HE := mk0 (show z = (i : Int) by rw [HZ.out, HI.out.2.2, HST.out, HV.out]; rfl)
           go_wp2
           go_ret
           exact ⟨by rw [HE.out]; rfl, HB.out⟩
          | true =>
           have HE4 := mk0 (show decide (p.f3 < p.f2) = false from decide_eq_false (by have := of_decide_eq_true e4; omega))
           have HV := mk0 (show kindOk p = true from by rw [HPO.out, HE2.out, HE3.out, HE4.out]; rfl)
           have HN2 := mk0 (show checkBad S = chkFrom S (n - (i + 1)) (i + 1) by rw [HI.out.2.2, HST.out, show attrAt S i = true by rw [HOK.out, HV.out]]; rfl)
           go_wp2_with fail
           first | go_roundg (gko - 1) | go_roundg (gk - 1)
           case measure => have := HI.out; omega
           case rel => exact ⟨i + 1, ⟨by omega, by have := HI.out; omega, HN2.out⟩, (by first | rfl | (rw [wrap_in (by omega) (by omega), show (i : Int) + 1 = ((i + 1 : Nat) : Int) by omega])), HB⟩
       | false =>
        have HPO := mk0 (show kindOk p = ((p.f1 == 2) && ((p.f2 == 0) && (p.f3 == 0))) by unfold kindOk; rw [if_neg (by simpa using o1)])
        cases e1 : (p.f1 == 2) with
        | false =>
         have HV := mk0 (show attrAt S i = false from by rw [HOK.out, HPO.out, e1]; rfl)
         have HE := mk0 (show z = (i : Int) by rw [HZ.out, HI.out.2.2, HST.out, HV.out]; rfl)
         go_wp2
         go_ret
         exact ⟨by rw [HE.out]; rfl, HB.out⟩
        | true =>
         cases e2 : (p.f2 == 0) with
         | false =>
          have HV := mk0 (show attrAt S i = false from by rw [HOK.out, HPO.out, e1, e2]; rfl)
          have HE := mk0 (show z = (i : Int) by rw [HZ.out, HI.out.2.2, HST.out, HV.out]; rfl)
          go_wp2
          go_ret
          exact ⟨by rw [HE.out]; rfl, HB.out⟩
         | true =>
          cases e3 : (p.f3 == 0) with
          | false =>
           have HV := mk0 (show attrAt S i = false from by rw [HOK.out, HPO.out, e1, e2, e3]; rfl)
           have HE := mk0 (show z = (i : Int) by rw [HZ.out, HI.out.2.2, HST.out, HV.out]; rfl)
           go_wp2
           go_ret
           exact ⟨by rw [HE.out]; rfl, HB.out⟩
          | true =>
           have HV := mk0 (show kindOk p = true from by rw [HPO.out, e1, e2, e3]; rfl)
           have HN2 := mk0 (show checkBad S = chkFrom S (n - (i + 1)) (i + 1) by rw [HI.out.2.2, HST.out, show attrAt S i = true by rw [HOK.out, HV.out]]; rfl)
           go_wp2_with fail
           first | go_roundg (gko - 1) | go_roundg (gk - 1)
           case measure => have := HI.out; omega
           case rel => exact ⟨i + 1, ⟨by omega, by have := HI.out; omega, HN2.out⟩, (by first | rfl | (rw [wrap_in (by omega) (by omega), show (i : Int) + 1 = ((i + 1 : Nat) : Int) by omega])), HB⟩
   ·
    have b1 : decide ((i : Int) < (n : Int)) = false := decide_eq_false (by omega)
    have b2 : decide (i < n) = false := decide_eq_false (by omega)
    have HE := mk0 (show z = -1 by rw [HZ.out, HI.out.2.2, show n - i = 0 by omega]; rfl)
    clear hi
    go_wp2
    go_ret
    exact ⟨by rw [HE.out]; rfl, HB.out⟩
end Go.Proofs.YtlokmijoaocofaaGreatDoor.Mine
end
section
namespace Go.Proofs.YtlokmijoaocofaaGreatDoor.Mine
open Go.Maps Go.RowKit YtlokmijoaocofaaGreatDoorW.PrintWords YtlokmijoaocofaaGreatDoorW.PrintLast YtlokmijoaocofaaGreatDoorW.PrintMore
open PBoardPlays
open Value renaming slice → Vs
theorem filt_stepG {α : Type} (q : α → Bool) (L : List α) (i : Nat) (y : α) (h : L[i]? = some y) : (L.take (i + 1)).filter q = if q y = true then (L.take i).filter q ++ [y] else (L.take i).filter q := by
 have hl : i < L.length := (List.getElem?_eq_some_iff.1 h).1
 have e : L[i] = y := (List.getElem?_eq_some_iff.1 h).2
 rw [List.take_succ_eq_append_getElem hl, List.filter_append, e]
 cases hq : q y <;> simp [hq]
set_option maxHeartbeats 8000000 in
theorem rwout_calls (n : Nat) (h : RH) (S : List SA) (B : RB) (nn id : Int) (all : Bool) (w : World) (hb : IsRB w S n h B) (hl : B.U.length ≤ 100000) :
 Calls Tryz.prog 26 #[rbV n h B, .int .i64 nn, .int .i64 id, .bool all] w (RBPost w S n (B.without nn id all) ((B.U.length - (B.without nn id all).U.length : Nat) : Int)) := by
 have HBD := mk0 hb
 obtain ⟨a1, c1, a2, c2, a3, c3, a4, c4⟩ := h
 obtain ⟨nE, hnE⟩ : ∃ k, k = B.E.length := ⟨_, rfl⟩
 obtain ⟨nU, hnU⟩ : ∃ k, k = B.U.length := ⟨_, rfl⟩
 obtain ⟨nG, hnG⟩ : ∃ k, k = B.G.length := ⟨_, rfl⟩
 have HC := mk0 (show Kd.C kRS w a3 nU B.U by rw [hnU]; exact hb.sub)
 have HLE := mk0 (And.intro hl hnU)
 unfold rbV
 dsimp only
 rw [← hnE, ← hnU, ← hnG]
 have HLN := mk0 (And.intro hnE hnG)
 obtain ⟨nF, hnF⟩ : ∃ k, k = (B.U.filter (keepB nn id all)).length := ⟨_, rfl⟩
 have HNF := mk0 hnF
 have HNL := mk0 (show nF ≤ nU by rw [hnF, hnU]; exact List.length_filter_le _ _)
 clear hb hnE hnU hnG hl hnF
 have HDONE := mk0 (fun e w' (A9 : Option Addr) (c9 : Nat) (he : e = .returned (.tuple #[.agg #[.slice a1 n c1, .slice a2 nE c2, .slice A9 nF c9, .slice a4 nG c4], .int .i64 ((nU : Int) - (nF : Int))])) (hbf : Below w.heap.size w w') (hc9 : nF ≤ c9) (hC : Kd.C kRS w' A9 nF (B.U.filter (keepB nn id all))) => show RBPost w S n (B.without nn id all) ((nU - (B.without nn id all).U.length : Nat) : Int) e w' from by
  have hlen : (B.without nn id all).U.length = nF := HNF.out.symm
  refine ⟨⟨a1, c1, a2, c2, A9, c9, a4, c4⟩, ?_, hbf, ?_⟩
  ·
   unfold rbV
   dsimp only
   rw [hlen, show (B.without nn id all).E.length = nE from HLN.out.1.symm, show (B.without nn id all).G.length = nG from HLN.out.2.symm, show ((nU - nF : Nat) : Int) = (nU : Int) - (nF : Int) by have := HNL.out; omega]
   exact he
  ·
   have hk := HBD.out.below hbf
   exact ⟨hk.len, hk.cs, hk.sch, hk.ce, hk.ev, hk.evs, by rw [hlen]; exact hc9, by rw [hlen]; exact hC, fun y hy => hk.subs y (List.mem_filter.1 hy).1, hk.cg, hk.got⟩)
 generalize RBPost w S n (B.without nn id all) ((nU - (B.without nn id all).U.length : Nat) : Int) = POST at HDONE ⊢
 go_enter Tryz.func26, Tryz.ntmps26
 go_upto_region 1 with (fail)
 have hb3 := below_alloc (below_alloc (Below.refl w.heap.size w) (.cells #[.slice a1 n c1, .slice a2 nE c2, .slice a3 nU c3, .slice a4 nG c4] 41)) (.cells #[.slice none 0 0, .slice none 0 0, .slice none 0 0, .slice none 0 0] 41)
 obtain ⟨kb, kr⟩ := push2_new w.heap (.cells #[.slice a1 n c1, .slice a2 nE c2, .slice a3 nU c3, .slice a4 nG c4] 41 (0, 0)) (.cells #[.slice none 0 0, .slice none 0 0, .slice none 0 0, .slice none 0 0] 41 (0, 0))
 have HB := mk0 hb3
 have HKB := mk0 (show ((w.alloc (.cells #[.slice a1 n c1, .slice a2 nE c2, .slice a3 nU c3, .slice a4 nG c4] 41)).alloc (.cells #[.slice none 0 0, .slice none 0 0, .slice none 0 0, .slice none 0 0] 41)).heap[w.heap.size]? = _ from kb)
 have HKR := mk0 (show ((w.alloc (.cells #[.slice a1 n c1, .slice a2 nE c2, .slice a3 nU c3, .slice a4 nG c4] 41)).alloc (.cells #[.slice none 0 0, .slice none 0 0, .slice none 0 0, .slice none 0 0] 41)).heap[w.heap.size + 1]? = _ from kr)
 clear kb kr hb3
 generalize (w.alloc (.cells #[.slice a1 n c1, .slice a2 nE c2, .slice a3 nU c3, .slice a4 nG c4] 41)).alloc (.cells #[.slice none 0 0, .slice none 0 0, .slice none 0 0, .slice none 0 0] 41) = w0 at HB HKB HKR ⊢
 obtain ⟨gr, hgr⟩ : ∃ g, g = w.heap.size + 1 := ⟨_, rfl⟩
 obtain ⟨gb, hgb⟩ : ∃ g, g = w.heap.size := ⟨_, rfl⟩
 rw [← hgr] at HKR
 rw [← hgb] at HKB
 rw [← hgr, ← hgb]
 have HGR := mk0 (show w.heap.size ≤ gr by omega)
 have HGN := mk0 (show gb = w.heap.size ∧ gb ≠ gr ∧ True from ⟨by omega, by omega, trivial⟩)
 obtain ⟨ge, hge⟩ : ∃ g, g = gr := ⟨_, rfl⟩
 have HKE := HKR
 rw [← hge] at HKE
 clear hgr hgb hge
 have HO := mk0 (show Kd.R kRS 111 ((w0).alloc (.cells #[] 111)) w.heap.size (fun k => k ≠ gb ∧ k ≠ ge ∧ k ≠ gr) (.slice (some ⟨(w0).heap.size, 0, none⟩) 0 0) [] from ⟨fun k hk => by
  have hk2 : (w0).heap.size = k := by simpa [Value.ownBlock] using hk
  have l1 := blk_lt HKB.out
  have l2 := blk_lt HKE.out
  have l3 := blk_lt HKR.out
  exact ⟨by omega, by omega, by omega⟩, [], World.ownsRow_lit (base := w.heap.size) (e := 111) (size := (kRS).sz) (w0) #[] 0 HB.out.size (by decide) rfl, Reps.none _ _⟩)
 have hba := below_alloc (Below.refl (w0).heap.size (w0)) (.cells #[] 111)
 have n1 := mk0 ((hba.block _ (blk_lt HKB.out)).trans HKB.out)
 have n2 := mk0 ((hba.block _ (blk_lt HKE.out)).trans HKE.out)
 have n3 := mk0 ((hba.block _ (blk_lt HKR.out)).trans HKR.out)
 have n4 := mk0 (below_then HB.out HB.out.size hba)
 clear HKB HKE HKR HB
 have HKB := n1
 have HKE := n2
 have HKR := n3
 have HB := n4
 clear n1 n2 n3 n4
 clear hba
 have x2 := (blk_cell HKB.out 2).trans (show _ = some (Vs a3 nU c3) from rfl)
 go_upto_region 3 with (fail)
 generalize w0.alloc (.cells #[] 111) = w1 at HO HKB HKE HKR HB x2 ⊢
 have HO1 := mk0 (show Kd.R kRS 111 w1 w.heap.size (fun k => k ≠ gb ∧ k ≠ ge ∧ k ≠ gr) (.slice (some ⟨w0.heap.size, 0, none⟩) 0 0) ((B.U.take 0).filter (keepB nn id all)) from HO.out)
 clear HO x2
 generalize Vs (some ⟨w0.heap.size, 0, none⟩) 0 0 = v0 at HO1 ⊢
 go_loopg [10, 12, 18] (nU + 1) (fun k v10 v12 v18 W => ∃ i : Nat, Aside0 (i ≤ nU ∧ k + i = nU + 1) ∧ v18 = .int .i64 (i : Int) ∧ Aside0 (Below w.heap.size w W) ∧ Aside0 (W.heap[gb]? = some (.cells #[.slice a1 n c1, .slice a2 nE c2, .slice a3 nU c3, .slice a4 nG c4] 41 (0, 0))) ∧ Aside0 (W.heap[ge]? = some (.cells #[.slice none 0 0, .slice none 0 0, .slice none 0 0, .slice none 0 0] 41 (0, 0))) ∧ Aside0 (W.heap[gr]? = some (.cells #[.slice none 0 0, .slice none 0 0, .slice none 0 0, .slice none 0 0] 41 (0, 0))) ∧ Aside0 (Kd.R kRS 111 W w.heap.size (fun k => k ≠ gb ∧ k ≠ ge ∧ k ≠ gr) v10 ((B.U.take i).filter (keepB nn id all))))
 case atStart => exact ⟨0, ⟨by omega, by omega⟩, rfl, HB, HKB, HKE, HKR, HO1⟩
 case round =>
  clear HB HKB HKE HKR HO1
  obtain ⟨i, HI, rfl, HB, HKB, HKE, HKR, HO⟩ := hrel
  by_cases hi : i < nU
  ·
   have hnu : nU ≤ 100000 := by rw [HLE.out.2]; exact HLE.out.1
   have b1 : decide ((i : Int) < (nU : Int)) = true := decide_eq_true (by omega)
   have b2 : decide (i < nU) = true := decide_eq_true (by omega)
   have p1 : (0 : Int) ≤ (i : Int) := by omega
   have p2 : (i : Int) < (nU : Int) := by omega
   obtain ⟨ad, x, hA, hx, d0, d1, d2⟩ := at_RS (Kd.C_below HC.out HB.out) i hi
   subst hA
   have HFS := mk0 (filt_stepG (keepB nn id all) B.U i x hx)
   have hlen : ((B.U.take i).filter (keepB nn id all)).length ≤ 100000 := by
    have h1 := List.length_filter_le (keepB nn id all) (B.U.take i)
    have h2 : (B.U.take i).length ≤ B.U.length := by simp; omega
    have := HLE.out.1
    omega
   clear hx
   obtain ⟨xp, xs, xA, xn, xc, xF⟩ := x
   dsimp only at d0 d1 d2
   go_upto_region 5 with (fail)
   have hb5 := below_alloc (Below.refl wr.heap.size wr) (.cells #[.int .i64 xp, .int .i64 xs, .slice xA xn xc] 111)
   have kx := heap_alloc_new wr (.cells #[.int .i64 xp, .int .i64 xs, .slice xA xn xc] 111)
   have n9 := mk0 (Kd.R_alloc HO.out (.cells #[.int .i64 xp, .int .i64 xs, .slice xA xn xc] 111))
   have n1 := mk0 ((hb5.block _ (blk_lt HKB.out)).trans HKB.out)
   have n2 := mk0 ((hb5.block _ (blk_lt HKE.out)).trans HKE.out)
   have n3 := mk0 ((hb5.block _ (blk_lt HKR.out)).trans HKR.out)
   have n4 := mk0 (below_then HB.out HB.out.size hb5)
   clear HKB HKE HKR HB
   have HKB := n1
   have HKE := n2
   have HKR := n3
   have HB := n4
   clear n1 n2 n3 n4
   clear hb5 HO d0 d1 d2
   generalize wr.alloc (.cells #[.int .i64 xp, .int .i64 xs, .slice xA xn xc] 111) = w2 at HKB HKE HKR HB kx n9 ⊢
   generalize wr.heap.size = gx at kx ⊢
   have HO := n9
   clear n9
   have x0 := (blk_cell kx 0).trans (show _ = some (Value.int .i64 xp) from rfl)
   have x1 := (blk_cell kx 1).trans (show _ = some (Value.int .i64 xs) from rfl)
   have x2 := (blk_cell kx 2).trans (show _ = some (Vs xA xn xc) from rfl)
   clear kx
   cases o1 : (xp == nn) with
   | false =>
    have o1b : (xp != nn) = true := by simpa using o1
    have HQ := mk0 (show keepB nn id all ⟨xp, xs, xA, xn, xc, xF⟩ = true from by unfold keepB; dsimp only; rw [o1]; rfl)
    go_wp2_with (((with_reducible refine gate_builtin (b := .append) (xs := #[.tmp 36, .tmp 38]) rfl ?_); at_builtin; go_loud (refine Kd.R_append kRS (w0 := w) w.heap.size rfl (.tmp 36) (.tmp 38) 38 111 (.agg #[.int .i64 0, .int .i64 0, .slice none 0 0]) 40 rfl Tryz.underlying38 infoRS rfl (by decide) (by omega) _ ((B.U.take i).filter (keepB nn id all)) (⟨xp, xs, xA, xn, xc, xF⟩ : RSub) [.int .i64 xp, .int .i64 xs, .slice xA xn xc] (fun k => k ≠ gb ∧ k ≠ ge ∧ k ≠ gr) (fun _ => False) rfl ?aX ?aP (fun _ hk => hk.elim) ?aF HO.out HB.out HB.out.size ?aL ?_; (case aX => first | rfl | (go_simp; done) | (go_simp; rfl)); (case aP => exact kRS_mkM _ _ _ (⟨xp, xs, xA, xn, xc, xF⟩ : RSub)); (case aF => exact (fun k hk => by have l1 := blk_lt HKB.out; have l2 := blk_lt HKE.out; have l3 := blk_lt HKR.out; exact ⟨by omega, by omega, by omega⟩)); (case aL => omega); intro v9 w9 ho hb hg hat; go_frame)))
    clear x0 x1 x2
    have m1 := mk0 ((hg.block _ (blk_lt HKB.out) (fun e => (HO.out.1 _ e.symm).1 rfl)).trans HKB.out)
    have m2 := mk0 ((hg.block _ (blk_lt HKE.out) (fun e => (HO.out.1 _ e.symm).2.1 rfl)).trans HKE.out)
    have m3 := mk0 ((hg.block _ (blk_lt HKR.out) (fun e => (HO.out.1 _ e.symm).2.2 rfl)).trans HKR.out)
    have m4 := mk0 hb
    have m5 := mk0 ho
    clear HKB HKE HKR HB HO ho hb hg hat
    have HKB := m1
    have HKE := m2
    have HKR := m3
    have HB := m4
    have HO := m5
    clear m1 m2 m3 m4 m5
    go_roundg (gk - 1)
    case measure => have := HI.out; omega
    case rel => exact ⟨i + 1, ⟨by omega, by have := HI.out; omega⟩, (by first | rfl | (rw [wrap_in (by omega) (by omega), show (i : Int) + 1 = ((i + 1 : Nat) : Int) by omega])), HB, HKB, HKE, HKR, ⟨by rw [HFS.out, HQ.out]; exact HO.out⟩⟩
   | true =>
    have o1b : (xp != nn) = false := by simpa using o1
    cases all with
    | true =>
     have HQ := mk0 (show keepB nn id true ⟨xp, xs, xA, xn, xc, xF⟩ = false from by unfold keepB; dsimp only; rw [o1]; rfl)
     go_wp2_with fail
     go_roundg (gk - 1)
     case measure => have := HI.out; omega
     case rel => exact ⟨i + 1, ⟨by omega, by have := HI.out; omega⟩, (by first | rfl | (rw [wrap_in (by omega) (by omega), show (i : Int) + 1 = ((i + 1 : Nat) : Int) by omega])), HB, HKB, HKE, HKR, ⟨by rw [HFS.out, HQ.out]; exact HO.out⟩⟩
    | false =>
     cases o2 : (xs == id) with
     | false =>
      have o2b : (xs != id) = true := by simpa using o2
      have HQ := mk0 (show keepB nn id false ⟨xp, xs, xA, xn, xc, xF⟩ = true from by unfold keepB; dsimp only; rw [o1, o2]; rfl)
      go_wp2_with (((with_reducible refine gate_builtin (b := .append) (xs := #[.tmp 36, .tmp 38]) rfl ?_); at_builtin; go_loud (refine Kd.R_append kRS (w0 := w) w.heap.size rfl (.tmp 36) (.tmp 38) 38 111 (.agg #[.int .i64 0, .int .i64 0, .slice none 0 0]) 40 rfl Tryz.underlying38 infoRS rfl (by decide) (by omega) _ ((B.U.take i).filter (keepB nn id false)) (⟨xp, xs, xA, xn, xc, xF⟩ : RSub) [.int .i64 xp, .int .i64 xs, .slice xA xn xc] (fun k => k ≠ gb ∧ k ≠ ge ∧ k ≠ gr) (fun _ => False) rfl ?aX ?aP (fun _ hk => hk.elim) ?aF HO.out HB.out HB.out.size ?aL ?_; (case aX => first | rfl | (go_simp; done) | (go_simp; rfl)); (case aP => exact kRS_mkM _ _ _ (⟨xp, xs, xA, xn, xc, xF⟩ : RSub)); (case aF => exact (fun k hk => by have l1 := blk_lt HKB.out; have l2 := blk_lt HKE.out; have l3 := blk_lt HKR.out; exact ⟨by omega, by omega, by omega⟩)); (case aL => omega); intro v9 w9 ho hb hg hat; go_frame)))
      clear x0 x1 x2
      have m1 := mk0 ((hg.block _ (blk_lt HKB.out) (fun e => (HO.out.1 _ e.symm).1 rfl)).trans HKB.out)
      have m2 := mk0 ((hg.block _ (blk_lt HKE.out) (fun e => (HO.out.1 _ e.symm).2.1 rfl)).trans HKE.out)
      have m3 := mk0 ((hg.block _ (blk_lt HKR.out) (fun e => (HO.out.1 _ e.symm).2.2 rfl)).trans HKR.out)
      have m4 := mk0 hb
      have m5 := mk0 ho
      clear HKB HKE HKR HB HO ho hb hg hat
      have HKB := m1
      have HKE := m2
      have HKR := m3
      have HB := m4
      have HO := m5
      clear m1 m2 m3 m4 m5
      go_roundg (gk - 1)
      case measure => have := HI.out; omega
      case rel => exact ⟨i + 1, ⟨by omega, by have := HI.out; omega⟩, (by first | rfl | (rw [wrap_in (by omega) (by omega), show (i : Int) + 1 = ((i + 1 : Nat) : Int) by omega])), HB, HKB, HKE, HKR, ⟨by rw [HFS.out, HQ.out]; exact HO.out⟩⟩
     | true =>
      have o2b : (xs != id) = false := by simpa using o2
      have HQ := mk0 (show keepB nn id false ⟨xp, xs, xA, xn, xc, xF⟩ = false from by unfold keepB; dsimp only; rw [o1, o2]; rfl)
      go_wp2_with fail
      go_roundg (gk - 1)
      case measure => have := HI.out; omega
      case rel => exact ⟨i + 1, ⟨by omega, by have := HI.out; omega⟩, (by first | rfl | (rw [wrap_in (by omega) (by omega), show (i : Int) + 1 = ((i + 1 : Nat) : Int) by omega])), HB, HKB, HKE, HKR, ⟨by rw [HFS.out, HQ.out]; exact HO.out⟩⟩
  ·
   have b1 : decide ((i : Int) < (nU : Int)) = false := decide_eq_false (by omega)
   have b2 : decide (i < nU) = false := decide_eq_false (by omega)
   have hR := HO.out
   rw [List.take_of_length_le (by have := HLE.out.2; omega)] at hR
   obtain ⟨A9, c9, rfl, _, _⟩ := Kd.R_reads hR
   rw [← HNF.out] at hR ⊢
   have HO := mk0 hR
   clear hR
   have x2 := (blk_cell HKB.out 2).trans (show _ = some (Vs a3 nU c3) from rfl)
   have f2 := blk_frozen HKB.out 2
   have hnl := HNL.out
   have hnu : nU ≤ 100000 := by rw [HLE.out.2]; exact HLE.out.1
   have hw1 : wrap64 ((nU : Int) - (nF : Int)) = (nU : Int) - (nF : Int) := wrap_in (by omega) (by omega)
   go_upto_region 10 with (fail)
   clear x2 f2
   have m1 := mk0 (show (wr.setCell ⟨gb, 2, none⟩ (.slice A9 nF c9)).heap[gb]? = some (.cells #[.slice a1 n c1, .slice a2 nE c2, .slice A9 nF c9, .slice a4 nG c4] 41 (0, 0)) by simpa using blk_set HKB.out 2 (.slice A9 nF c9))
   have m2 := mk0 ((Below.heap_setCell wr ⟨gb, 2, none⟩ (.slice A9 nF c9) gr (fun e => HGN.out.2.1 e.symm)).trans HKR.out)
   have m3 := mk0 (below_set (j := 2) (v := .slice A9 nF c9) HB.out (Nat.le_of_eq HGN.out.1.symm))
   have m4 := mk0 (Kd.R_far (p := ⟨gb, 2, none⟩) HO.out (fun k hk => hk.1) (.slice A9 nF c9))
   clear HKB HKE HKR HB HO
   generalize wr.setCell ⟨gb, 2, none⟩ (.slice A9 nF c9) = w8 at m1 m2 m3 m4 ⊢
   have HKB := m1
   have HKR := m2
   have HB := m3
   have HO8 := m4
   clear m1 m2 m3 m4
   have y0 := (blk_cell HKR.out 0).trans (show _ = some (Vs none 0 0) from rfl)
   have y1 := (blk_cell HKR.out 1).trans (show _ = some (Vs none 0 0) from rfl)
   have y2 := (blk_cell HKR.out 2).trans (show _ = some (Vs none 0 0) from rfl)
   have y3 := (blk_cell HKR.out 3).trans (show _ = some (Vs none 0 0) from rfl)
   have f0 := blk_frozen HKR.out 0
   have f1 := blk_frozen HKR.out 1
   have f2 := blk_frozen HKR.out 2
   have f3 := blk_frozen HKR.out 3
   have x0 := (blk_cell HKB.out 0).trans (show _ = some (Vs a1 n c1) from rfl)
   have x1 := (blk_cell HKB.out 1).trans (show _ = some (Vs a2 nE c2) from rfl)
   have x2 := (blk_cell HKB.out 2).trans (show _ = some (Vs A9 nF c9) from rfl)
   have x3 := (blk_cell HKB.out 3).trans (show _ = some (Vs a4 nG c4) from rfl)
   go_wp2
   have k0 : ((w8).setCell ⟨gr, 0, none⟩ (Vs a1 n c1)).heap[gr]? = some (.cells #[(Vs a1 n c1), (Vs none 0 0), (Vs none 0 0), (Vs none 0 0)] 41 (0, 0)) := by simpa using blk_set HKR.out 0 (Vs a1 n c1)
   have k1 : (((w8).setCell ⟨gr, 0, none⟩ (Vs a1 n c1)).setCell ⟨gr, 1, none⟩ (Vs a2 nE c2)).heap[gr]? = some (.cells #[(Vs a1 n c1), (Vs a2 nE c2), (Vs none 0 0), (Vs none 0 0)] 41 (0, 0)) := by simpa using blk_set k0 1 (Vs a2 nE c2)
   have k2 : ((((w8).setCell ⟨gr, 0, none⟩ (Vs a1 n c1)).setCell ⟨gr, 1, none⟩ (Vs a2 nE c2)).setCell ⟨gr, 2, none⟩ (Vs A9 nF c9)).heap[gr]? = some (.cells #[(Vs a1 n c1), (Vs a2 nE c2), (Vs A9 nF c9), (Vs none 0 0)] 41 (0, 0)) := by simpa using blk_set k1 2 (Vs A9 nF c9)
   have k3 : (((((w8).setCell ⟨gr, 0, none⟩ (Vs a1 n c1)).setCell ⟨gr, 1, none⟩ (Vs a2 nE c2)).setCell ⟨gr, 2, none⟩ (Vs A9 nF c9)).setCell ⟨gr, 3, none⟩ (Vs a4 nG c4)).heap[gr]? = some (.cells #[(Vs a1 n c1), (Vs a2 nE c2), (Vs A9 nF c9), (Vs a4 nG c4)] 41 (0, 0)) := by simpa using blk_set k2 3 (Vs a4 nG c4)
   have hbf := below_set (j := 3) (v := (Vs a4 nG c4)) (below_set (j := 2) (v := (Vs A9 nF c9)) (below_set (j := 1) (v := (Vs a2 nE c2)) (below_set (j := 0) (v := (Vs a1 n c1)) HB.out HGR.out) HGR.out) HGR.out) HGR.out
   have r3 := Kd.R_far (p := ⟨gr, 3, none⟩) (Kd.R_far (p := ⟨gr, 2, none⟩) (Kd.R_far (p := ⟨gr, 1, none⟩) (Kd.R_far (p := ⟨gr, 0, none⟩) HO8.out (fun k hk => hk.2.2) (Vs a1 n c1)) (fun k hk => hk.2.2) (Vs a2 nE c2)) (fun k hk => hk.2.2) (Vs A9 nF c9)) (fun k hk => hk.2.2) (Vs a4 nG c4)
   generalize (((w8.setCell ⟨gr, 0, none⟩ (Vs a1 n c1)).setCell ⟨gr, 1, none⟩ (Vs a2 nE c2)).setCell ⟨gr, 2, none⟩ (Vs A9 nF c9)).setCell ⟨gr, 3, none⟩ (Vs a4 nG c4) = w7 at k3 hbf r3 ⊢
   clear k0 k1 k2
   have z0 := (blk_cell k3 0).trans (show _ = some (Vs a1 n c1) from rfl)
   have z1 := (blk_cell k3 1).trans (show _ = some (Vs a2 nE c2) from rfl)
   have z2 := (blk_cell k3 2).trans (show _ = some (Vs A9 nF c9) from rfl)
   have z3 := (blk_cell k3 3).trans (show _ = some (Vs a4 nG c4) from rfl)
   obtain ⟨A7, c7, hv7, hc7, hC7⟩ := Kd.R_reads r3
   rw [← HNF.out] at hv7 hc7 hC7
   have hA7 : A9 = A7 ∧ c9 = c7 := by injection hv7 with h1 h2 h3; exact ⟨h1, h3⟩
   obtain ⟨rfl, rfl⟩ := hA7
   exact bodyPost_ret (v := .tuple #[.agg #[.slice a1 n c1, .slice a2 nE c2, .slice A9 nF c9, .slice a4 nG c4], .int .i64 ((nU : Int) - (nF : Int))]) (by simp [results, Tryz.results26, go_sem, z0, z1, z2, z3, hw1]) rfl (HDONE.out _ _ A9 c9 rfl hbf hc7 hC7)
end Go.Proofs.YtlokmijoaocofaaGreatDoor.Mine
end
