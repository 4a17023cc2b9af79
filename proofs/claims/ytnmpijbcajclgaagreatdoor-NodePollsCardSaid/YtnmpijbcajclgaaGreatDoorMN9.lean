/- Texts of one claim, one behind the other, made short by a program. -/
import Derived.Test.YtnmpijbcajclgaaGreatDoorMN8
import Derived.Maps.OwnSet
import Derived.Maps.RangeWalk
import Derived.DeepKeys4
set_option linter.unusedSimpArgs false
set_option linter.unusedVariables false
set_option maxRecDepth 100000
section
namespace Go.Proofs.YtnmpijbcajclgaaGreatDoor.Mine
open Go.RowKit YtnmpijbcajclgaaGreatDoorW.PrintWords YtnmpijbcajclgaaGreatDoorW.PrintLast YtnmpijbcajclgaaGreatDoorW.PrintMore
open PNodeAlone
def predOk (a : S30) (p : S168) : Bool :=
 if p.f1 = 1 then (a.f1 == 1) && decide (a.f2 ≤ p.f2) && decide (p.f3 ≤ a.f3) && decide (p.f2 ≤ p.f3) && (p.f4.toList == [])
 else if p.f1 = 2 ∨ (p.f1 = 3 ∧ p.f4.toList ≠ []) then (a.f1 == 2) && (p.f2 == 0) && (p.f3 == 0) && strOk p.f4
 else false
def okAt (S : List S30) (F : List S168) (i : Nat) : Bool :=
 decide (0 ≤ findB (F.getD i z168).f0 S) && !((F.take i).any fun x => x.f0.toList == (F.getD i z168).f0.toList) && predOk (S.getD (findB (F.getD i z168).f0 S).toNat z30) (F.getD i z168)
def badFrom (S : List S30) (F : List S168) : Nat → Nat → Option Nat
 | 0, _ => none
 | k + 1, i => if okAt S F i then badFrom S F k (i + 1) else some i
def filterBad (S : List S30) (F : List S168) : Option Nat := if F.length < 1 ∨ 4 < F.length then some 0 else badFrom S F F.length 0
def FilterPost (w : World) (S : List S30) (F : List S168) (e : Ending) (w' : World) : Prop :=
 match filterBad S F with
 | none => e = .returned .nilIface ∧ Below w.heap.size w w'
 | some i => ∃ b, w.heap.size ≤ b ∧ e = .returned (.iface 178 (.pointer (some ⟨b, 0, none⟩))) ∧ IsFault w' b ⟨#[118, 97, 108, 117, 101]⟩ (i : Int) 3 ∧ Below w.heap.size w w'
theorem fp_bad {w w' : World} {S : List S30} {F : List S168} {e : Ending} {i : Nat} (h : filterBad S F = some i) (ho : ∃ b, w.heap.size ≤ b ∧ e = .returned (.iface 178 (.pointer (some ⟨b, 0, none⟩))) ∧ IsFault w' b ⟨#[118, 97, 108, 117, 101]⟩ (i : Int) 3 ∧ Below w.heap.size w w') : FilterPost w S F e w' := by
 unfold FilterPost
 rw [h]
 exact ho
theorem fp_ok {w w' : World} {S : List S30} {F : List S168} {e : Ending} (h : filterBad S F = none) (ho : e = .returned .nilIface ∧ Below w.heap.size w w') : FilterPost w S F e w' := by
 unfold FilterPost
 rw [h]
 exact ho
theorem C_take {α : Type} {d : Kd α} {w : World} {A : Option Addr} {n : Nat} {xs : List α} (h : Kd.C d w A n xs) (i : Nat) (hi : i ≤ n) : Kd.C d w A i (xs.take i) := by
 refine ⟨by rw [List.length_take]; have := h.1; omega, by have := h.2.1; omega, fun h0 => ?_⟩
 obtain ⟨ad, e, hc⟩ := h.2.2 (by omega)
 refine ⟨ad, e, fun j q hj => hc j q ?_⟩
 rw [List.getElem?_take] at hj
 split at hj
 ·
  exact hj
 ·
  cases hj
theorem okAt_no1 {S : List S30} {F : List S168} {i : Nat} (h : findB (F.getD i z168).f0 S < 0) : okAt S F i = false := by
 unfold okAt
 rw [decide_eq_false (by omega)]
 rfl
theorem okAt_no2 {S : List S30} {F : List S168} {i : Nat} (h : ((F.take i).any fun x => x.f0.toList == (F.getD i z168).f0.toList) = true) : okAt S F i = false := by
 unfold okAt
 rw [h]
 simp
theorem okAt_is {S : List S30} {F : List S168} {i : Nat} (h0 : 0 ≤ findB (F.getD i z168).f0 S) (h : ((F.take i).any fun x => x.f0.toList == (F.getD i z168).f0.toList) = false) : okAt S F i = predOk (S.getD (findB (F.getD i z168).f0 S).toNat z30) (F.getD i z168) := by
 unfold okAt
 rw [h, decide_eq_true h0]
 rfl
theorem idxFrom_lt {α : Type} (p : α → Bool) : ∀ (l : List α) (i : Nat), idxFrom p l i < (i : Int) + l.length
 | [], i => by simp only [idxFrom, List.length_nil]; omega
 | x :: r, i => by
  unfold idxFrom
  split
  ·
   simp only [List.length_cons]; omega
  ·
   have := idxFrom_lt p r (i + 1)
   simp only [List.length_cons]
   omega
theorem findB_lt (nm : ByteArray) (L : List S30) : findB nm L < (L.length : Int) := by
 have := idxFrom_lt (fun x : S30 => x.f0.toList == nm.toList) L 0
 unfold findB idxB
 omega
set_option maxHeartbeats 8000000 in
theorem filter_calls (A B : Option Addr) (n m c d : Nat) (S : List S30) (F : List S168) (w : World) (hn : S.length = n) (hm : F.length = m) (hr : Kd.C k30 w A n S) (hr2 : Kd.C k168 w B m F) (hl : n ≤ 100000) (hl2 : m ≤ 100000) (hcd : m ≤ d) :
 Calls Tryz.prog 84 #[.slice A n c, .slice B m d] w (FilterPost w S F) := by
 have HRS := mk0 hr
 have HRF := mk0 hr2
 have HN := mk0 hn
 have HM := mk0 hm
 clear hr hr2 hn hm
 by_cases hlen : m < 1 ∨ 4 < m
 ·
  have HB := mk0 (fun e w' ho => fp_bad (w := w) (w' := w') (S := S) (F := F) (e := e) (i := 0) (by unfold filterBad; rw [if_pos (by have := HM.out; omega)]) ho)
  generalize FilterPost w S F = POST at HB ⊢
  by_cases h1 : m < 1
  ·
   have q1 : decide ((m : Int) < 1) = true := decide_eq_true (by omega)
   clear hlen
   obtain rfl : m = 0 := by omega
   go_enter Tryz.func84, Tryz.ntmps84
   go_wp2_with fail
   refine (vfault_calls _ _ _).mono ?_
   rintro e w1 ⟨b, h1, rfl, hf, hb⟩
   go_wp2
   try go_ret
   exact HB.out _ _ ⟨b, h1, rfl, hf, hb⟩
  ·
   have q1 : decide ((m : Int) < 1) = false := decide_eq_false (by omega)
   have q2 : decide (4 < (m : Int)) = true := decide_eq_true (by omega)
   clear hlen
   go_enter Tryz.func84, Tryz.ntmps84
   go_wp2_with fail
   refine (vfault_calls _ _ _).mono ?_
   rintro e w1 ⟨b, h1, rfl, hf, hb⟩
   go_wp2
   try go_ret
   exact HB.out _ _ ⟨b, h1, rfl, hf, hb⟩
 ·
  have q1 : decide ((m : Int) < 1) = false := decide_eq_false (by omega)
  have q2 : decide (4 < (m : Int)) = false := decide_eq_false (by omega)
  have HFB := mk0 (show filterBad S F = badFrom S F m 0 by unfold filterBad; rw [if_neg (by have := HM.out; omega), HM.out])
  have HEP := mk0 (fun i e w' h ho => fp_bad (w := w) (w' := w') (S := S) (F := F) (e := e) (i := i) h ho)
  have HOP := mk0 (fun e w' h ho => fp_ok (w := w) (w' := w') (S := S) (F := F) (e := e) h ho)
  generalize FilterPost w S F = POST at HEP HOP ⊢
  clear hlen
  go_enter Tryz.func84, Tryz.ntmps84
  go_wp2_with fail
  go_loopg [5, 6, 7, 8, 20, 42, 44, 46] (m + 1) (fun k v5 v6 v7 v8 v20 v42 v44 v46 W => ∃ i : Nat, Aside0 (i ≤ m ∧ k + i = m + 1 ∧ filterBad S F = badFrom S F (m - i) i) ∧ v20 = .int .i64 (i : Int) ∧ Aside0 (Below w.heap.size w W))
  case atStart => exact ⟨0, ⟨by omega, by omega, HFB.out⟩, rfl, ⟨Below.refl _ _⟩⟩
  case round =>
   obtain ⟨i, HI, rfl, HB⟩ := hrel
   by_cases hi : i < m
   ·
    have b1 : decide ((i : Int) < (m : Int)) = true := decide_eq_true (by omega)
    have b2 : decide (i < m) = true := decide_eq_true (by omega)
    have p1 : (0 : Int) ≤ (i : Int) := by omega
    have p2 : (i : Int) < (m : Int) := by omega
    have hstep : badFrom S F (m - i) i = if okAt S F i then badFrom S F (m - (i + 1)) (i + 1) else some i := by
     rw [show m - i = (m - (i + 1)) + 1 by omega]
     rfl
    have HST := mk0 hstep
    clear hstep
    obtain ⟨ad, e, h0, h1, h2, h3, h4⟩ := at_T168 HRF.out i p1 p2
    cases e
    rw [Int.toNat_natCast] at h0 h1 h2 h3 h4
    replace h0 := (HB.out.cell (World.block_lt_of_cell? w _ h0)).trans h0
    replace h1 := (HB.out.cell (World.block_lt_of_cell? w _ h1)).trans h1
    replace h2 := (HB.out.cell (World.block_lt_of_cell? w _ h2)).trans h2
    replace h3 := (HB.out.cell (World.block_lt_of_cell? w _ h3)).trans h3
    replace h4 := (HB.out.cell (World.block_lt_of_cell? w _ h4)).trans h4
    have hrd : rd_T168 F (i : Int) = F.getD i z168 := rfl
    rw [hrd] at h0 h1 h2 h3 h4
    obtain ⟨p, hp⟩ : ∃ p, p = F.getD i z168 := ⟨_, rfl⟩
    rw [← hp] at h0 h1 h2 h3 h4
    have HP := mk0 hp
    clear hrd hp
    go_wp2_with fail
    refine (find_calls A n c S p.f0 _ HN.out (Kd.C_below HRS.out (below_alloc HB.out _)) hl).mono ?_
    rintro e w1 ⟨rfl, hb⟩
    have hnew := heap_alloc_new wr (.cells #[.string p.f0, .int .i64 p.f1, .int .i64 p.f2, .int .i64 p.f3, .string p.f4] 168 (0, 0))
    have KB6 := mk0 ((hb.block _ (blk_lt hnew)).trans hnew)
    have n_ := mk0 (below_then (below_alloc HB.out (.cells #[.string p.f0, .int .i64 p.f1, .int .i64 p.f2, .int .i64 p.f3, .string p.f4] 168)) (below_size (below_alloc HB.out _)) hb)
    clear HB hb hnew h0 h1 h2 h3 h4
    have HB := n_
    clear n_
    generalize wr.heap.size = g6 at KB6 ⊢
    have HLT := mk0 (findB_lt p.f0 S)
    obtain ⟨kk, hkk⟩ : ∃ k, k = findB p.f0 S := ⟨_, rfl⟩
    rw [← hkk] at HLT ⊢
    have HK := mk0 hkk
    clear hkk
    by_cases hneg : kk < 0
    ·
     have n1 : decide (kk < 0) = true := decide_eq_true hneg
     have HE := mk0 (fun e w' ho => HEP.out i e w' (by rw [HI.out.2.2, HST.out, okAt_no1 (by rw [← HP.out, ← HK.out]; exact hneg)]; rfl) ho)
     clear hneg
     go_wp2_with fail
     refine (vfault_calls _ _ _).mono ?_
     rintro e w9 ⟨b, hbl, rfl, hf, hb⟩
     have hfin := HE.out _ _ ⟨b, Nat.le_trans HB.out.size hbl, rfl, hf, below_then HB.out HB.out.size hb⟩
     clear hf hb hbl
     go_wp2
     try go_ret
     exact hfin
    ·
     have n1 : decide (kk < 0) = false := decide_eq_false hneg
     obtain ⟨k, rfl⟩ := Int.eq_ofNat_of_zero_le (by omega : 0 ≤ kk)
     have hkn : k < n := by have := HLT.out; have := HN.out; omega
     have p3 : (i : Int) ≤ (d : Int) := by omega
     have HC := mk0 (fun W (hW : Below w.heap.size w W ∧ W.cell? ⟨g6, 0, none⟩ = some (.string p.f0)) => cont46_calls 148 #[.pointer (some ⟨g6, 0, none⟩)] _ (some ad) i d (F.take i) W (enters_of Tryz.func148 (by kernel_rfl) rfl) (by rw [List.length_take]; have := HM.out; omega) (C_take (Kd.C_below HRF.out hW.1) i (by omega)) (by omega) ((same_clo p.f0 g6 W hW.2).on _))
     have q0 := (blk_cell KB6.out 0).trans (show _ = some (Value.string p.f0) from rfl)
     clear hneg
     go_wp2_with fail
     refine (HC.out _ ⟨HB.out, q0⟩).mono ?_
     rintro e w2 ⟨rfl, hb⟩
     have k_ := mk0 ((hb.block _ (blk_lt KB6.out)).trans KB6.out)
     have n_ := mk0 (below_then HB.out HB.out.size hb)
     clear KB6 HB hb q0
     have KB6 := k_
     have HB := n_
     clear k_ n_ HC
     cases hany : ((F.take i).any fun x => x.f0.toList == p.f0.toList) with
     | true =>
      have HE := mk0 (fun e w' ho => HEP.out i e w' (by rw [HI.out.2.2, HST.out, okAt_no2 (by rw [← HP.out]; exact hany)]; rfl) ho)
      clear hany
      go_wp2_with fail
      refine (vfault_calls _ _ _).mono ?_
      rintro e w9 ⟨b, hbl, rfl, hf, hb⟩
      have hfin := HE.out _ _ ⟨b, Nat.le_trans HB.out.size hbl, rfl, hf, below_then HB.out HB.out.size hb⟩
      clear hf hb hbl
      go_wp2
      try go_ret
      exact hfin
     | false =>
      obtain ⟨a, ha⟩ : ∃ a, a = S.getD k z30 := ⟨_, rfl⟩
      have HOI := mk0 (show okAt S F i = predOk a p by rw [okAt_is (by rw [← HP.out, ← HK.out]; omega) (by rw [← HP.out]; exact hany), ← HP.out, ← HK.out, Int.toNat_natCast, ha])
      clear hany
      obtain ⟨ad2, e, s0, s1, s2, s3⟩ := at_T30 (Kd.C_below HRS.out HB.out) (k : Int) (by omega) (by omega)
      cases e
      rw [Int.toNat_natCast] at s0 s1 s2 s3
      have hrd : rd_T30 S (k : Int) = S.getD k z30 := rfl
      rw [hrd, ← ha] at s0 s1 s2 s3
      clear hrd ha
      have y0 := (blk_cell KB6.out 0).trans (show _ = some (Value.string p.f0) from rfl)
      have y1 := (blk_cell KB6.out 1).trans (show _ = some (Value.int .i64 p.f1) from rfl)
      have y2 := (blk_cell KB6.out 2).trans (show _ = some (Value.int .i64 p.f2) from rfl)
      have y3 := (blk_cell KB6.out 3).trans (show _ = some (Value.int .i64 p.f3) from rfl)
      have y4 := (blk_cell KB6.out 4).trans (show _ = some (Value.string p.f4) from rfl)
      have pk0 : (0 : Int) ≤ (k : Int) := by omega
      have pk1 : (k : Int) < (n : Int) := by omega
      by_cases hf1 : p.f1 = 1
      ·
       have o1 : (p.f1 == 1) = true := by simpa using hf1
       have HF1 := mk0 hf1
       clear hf1
       by_cases t1 : a.f1 = 1
       ·
        have e1 : (a.f1 == 1) = true := by simpa using t1
        by_cases t2 : a.f2 ≤ p.f2
        ·
         have e2 : decide (a.f2 ≤ p.f2) = true := decide_eq_true t2
         by_cases t3 : p.f3 ≤ a.f3
         ·
          have e3 : decide (p.f3 ≤ a.f3) = true := decide_eq_true t3
          by_cases t4 : p.f2 ≤ p.f3
          ·
           have e4 : decide (p.f2 ≤ p.f3) = true := decide_eq_true t4
           by_cases t5 : p.f4.toList = []
           ·
            have e5 : (p.f4.toList == []) = true := by simpa using t5
            have hv : predOk a p = true := by unfold predOk; rw [if_pos HF1.out, e1, e2, e3, e4, e5]; rfl
            have HV := mk0 hv
            clear hv t1 t2 t3 t4
            go_wp2_with fail
            go_quiet (fail)
            go_wp2_with fail
            go_roundg (gk - 1)
            case measure => have := HI.out; omega
            case rel => exact ⟨i + 1, ⟨by omega, by have := HI.out; omega, by rw [HI.out.2.2, HST.out, HOI.out, HV.out]; rfl⟩, rfl, ⟨pw_below_drewN HB.out _⟩⟩
           ·
            have e5 : (p.f4.toList == []) = false := by simpa using t5
            have hv : predOk a p = false := by unfold predOk; rw [if_pos HF1.out, e1, e2, e3, e4, e5]; rfl
            have HV := mk0 hv
            clear hv t1 t2 t3 t4
            have HE := mk0 (fun e w' ho => HEP.out i e w' (by rw [HI.out.2.2, HST.out, HOI.out, HV.out]; rfl) ho)
            go_wp2_with fail
            go_quiet (fail)
            go_wp2_with fail
            refine (vfault_calls _ _ _).mono ?_
            rintro e w9 ⟨b, hbl, rfl, hf, hb⟩
            have hfin := HE.out _ _ ⟨b, Nat.le_trans (pw_below_drewN HB.out _).size hbl, rfl, hf, below_then (pw_below_drewN HB.out _) (pw_below_drewN HB.out _).size hb⟩
            clear hf hb hbl
            go_wp2
            try go_ret
            exact hfin
          ·
           have e4 : decide (p.f2 ≤ p.f3) = false := decide_eq_false t4
           have hv : predOk a p = false := by unfold predOk; rw [if_pos HF1.out, e1, e2, e3, e4]; rfl
           have HV := mk0 hv
           clear hv t1 t2 t3 t4
           have HE := mk0 (fun e w' ho => HEP.out i e w' (by rw [HI.out.2.2, HST.out, HOI.out, HV.out]; rfl) ho)
           go_wp2_with fail
           go_quiet (fail)
           go_wp2_with fail
           refine (vfault_calls _ _ _).mono ?_
           rintro e w9 ⟨b, hbl, rfl, hf, hb⟩
           have hfin := HE.out _ _ ⟨b, Nat.le_trans (pw_below_drewN HB.out _).size hbl, rfl, hf, below_then (pw_below_drewN HB.out _) (pw_below_drewN HB.out _).size hb⟩
           clear hf hb hbl
           go_wp2
           try go_ret
           exact hfin
         ·
          have e3 : decide (p.f3 ≤ a.f3) = false := decide_eq_false t3
          have hv : predOk a p = false := by unfold predOk; rw [if_pos HF1.out, e1, e2, e3]; rfl
          have HV := mk0 hv
          clear hv t1 t2 t3
          have HE := mk0 (fun e w' ho => HEP.out i e w' (by rw [HI.out.2.2, HST.out, HOI.out, HV.out]; rfl) ho)
          go_wp2_with fail
          go_quiet (fail)
          go_wp2_with fail
          refine (vfault_calls _ _ _).mono ?_
          rintro e w9 ⟨b, hbl, rfl, hf, hb⟩
          have hfin := HE.out _ _ ⟨b, Nat.le_trans (pw_below_drewN HB.out _).size hbl, rfl, hf, below_then (pw_below_drewN HB.out _) (pw_below_drewN HB.out _).size hb⟩
          clear hf hb hbl
          go_wp2
          try go_ret
          exact hfin
        ·
         have e2 : decide (a.f2 ≤ p.f2) = false := decide_eq_false t2
         have hv : predOk a p = false := by unfold predOk; rw [if_pos HF1.out, e1, e2]; rfl
         have HV := mk0 hv
         clear hv t1 t2
         have HE := mk0 (fun e w' ho => HEP.out i e w' (by rw [HI.out.2.2, HST.out, HOI.out, HV.out]; rfl) ho)
         go_wp2_with fail
         go_quiet (fail)
         go_wp2_with fail
         refine (vfault_calls _ _ _).mono ?_
         rintro e w9 ⟨b, hbl, rfl, hf, hb⟩
         have hfin := HE.out _ _ ⟨b, Nat.le_trans (pw_below_drewN HB.out _).size hbl, rfl, hf, below_then (pw_below_drewN HB.out _) (pw_below_drewN HB.out _).size hb⟩
         clear hf hb hbl
         go_wp2
         try go_ret
         exact hfin
       ·
        have e1 : (a.f1 == 1) = false := by simpa using t1
        have hv : predOk a p = false := by unfold predOk; rw [if_pos HF1.out, e1]; rfl
        have HV := mk0 hv
        clear hv t1
        have HE := mk0 (fun e w' ho => HEP.out i e w' (by rw [HI.out.2.2, HST.out, HOI.out, HV.out]; rfl) ho)
        go_wp2_with fail
        go_quiet (fail)
        go_wp2_with fail
        refine (vfault_calls _ _ _).mono ?_
        rintro e w9 ⟨b, hbl, rfl, hf, hb⟩
        have hfin := HE.out _ _ ⟨b, Nat.le_trans (pw_below_drewN HB.out _).size hbl, rfl, hf, below_then (pw_below_drewN HB.out _) (pw_below_drewN HB.out _).size hb⟩
        clear hf hb hbl
        go_wp2
        try go_ret
        exact hfin
      ·
       have o1 : (p.f1 == 1) = false := by simpa using hf1
       by_cases hf3 : p.f1 = 3
       ·
        have o3 : (p.f1 == 3) = true := by simpa using hf3
        have o2 : (p.f1 == 2) = false := by rw [hf3]; rfl
        by_cases hs5 : p.f4.toList = []
        ·
         have q5 : (p.f4.toList == []) = true := by simpa using hs5
         have HV := mk0 (show predOk a p = false by unfold predOk; rw [if_neg hf1, if_neg (by rw [hf3, hs5]; simp)])
         clear hf1 hf3
         have HE := mk0 (fun e w' ho => HEP.out i e w' (by rw [HI.out.2.2, HST.out, HOI.out, HV.out]; rfl) ho)
         go_wp2_with fail
         refine (vfault_calls _ _ _).mono ?_
         rintro e w9 ⟨b, hbl, rfl, hf, hb⟩
         have hfin := HE.out _ _ ⟨b, Nat.le_trans HB.out.size hbl, rfl, hf, below_then HB.out HB.out.size hb⟩
         clear hf hb hbl
         go_wp2
         try go_ret
         exact hfin
        ·
         have q5 : (p.f4.toList == []) = false := by simpa using hs5
         have HPO := mk0 (show predOk a p = ((a.f1 == 2) && (p.f2 == 0) && (p.f3 == 0) && strOk p.f4) by unfold predOk; rw [if_neg hf1, if_pos (Or.inr ⟨hf3, hs5⟩)])
         clear hf1 hf3
         by_cases t1 : a.f1 = 2
         ·
          have e1 : (a.f1 == 2) = true := by simpa using t1
          by_cases t2 : p.f2 = 0
          ·
           have e2 : (p.f2 == 0) = true := by simpa using t2
           by_cases t3 : p.f3 = 0
           ·
            have e3 : (p.f3 == 0) = true := by simpa using t3
            cases t4 : strOk p.f4 with
            | true =>
             have HV := mk0 (show predOk a p = true by rw [HPO.out, e1, e2, e3, t4]; rfl)
             have HS4 := mk0 t4
             clear t1 t2 t3 t4
             go_wp2_with fail
             refine (str_calls p.f4 _).mono ?_
             rintro e w5 ⟨rfl, hb⟩
             rw [HS4.out]
             have n_ := mk0 (below_then HB.out HB.out.size hb)
             clear HB hb
             have HB := n_
             clear n_
             go_wp2_with fail
             go_roundg (gk - 1)
             case measure => have := HI.out; omega
             case rel => exact ⟨i + 1, ⟨by omega, by have := HI.out; omega, by rw [HI.out.2.2, HST.out, HOI.out, HV.out]; rfl⟩, rfl, HB⟩
            | false =>
             have HV := mk0 (show predOk a p = false by rw [HPO.out, e1, e2, e3, t4]; rfl)
             have HS4 := mk0 t4
             clear t1 t2 t3 t4
             go_wp2_with fail
             refine (str_calls p.f4 _).mono ?_
             rintro e w5 ⟨rfl, hb⟩
             rw [HS4.out]
             have n_ := mk0 (below_then HB.out HB.out.size hb)
             clear HB hb
             have HB := n_
             clear n_
             have HE := mk0 (fun e w' ho => HEP.out i e w' (by rw [HI.out.2.2, HST.out, HOI.out, HV.out]; rfl) ho)
             go_wp2_with fail
             refine (vfault_calls _ _ _).mono ?_
             rintro e w9 ⟨b, hbl, rfl, hf, hb⟩
             have hfin := HE.out _ _ ⟨b, Nat.le_trans HB.out.size hbl, rfl, hf, below_then HB.out HB.out.size hb⟩
             clear hf hb hbl
             go_wp2
             try go_ret
             exact hfin
           ·
            have e3 : (p.f3 == 0) = false := by simpa using t3
            have HV := mk0 (show predOk a p = false by rw [HPO.out, e1, e2, e3]; rfl)
            clear t1 t2 t3
            have HE := mk0 (fun e w' ho => HEP.out i e w' (by rw [HI.out.2.2, HST.out, HOI.out, HV.out]; rfl) ho)
            go_wp2_with fail
            refine (vfault_calls _ _ _).mono ?_
            rintro e w9 ⟨b, hbl, rfl, hf, hb⟩
            have hfin := HE.out _ _ ⟨b, Nat.le_trans HB.out.size hbl, rfl, hf, below_then HB.out HB.out.size hb⟩
            clear hf hb hbl
            go_wp2
            try go_ret
            exact hfin
          ·
           have e2 : (p.f2 == 0) = false := by simpa using t2
           have HV := mk0 (show predOk a p = false by rw [HPO.out, e1, e2]; rfl)
           clear t1 t2
           have HE := mk0 (fun e w' ho => HEP.out i e w' (by rw [HI.out.2.2, HST.out, HOI.out, HV.out]; rfl) ho)
           go_wp2_with fail
           refine (vfault_calls _ _ _).mono ?_
           rintro e w9 ⟨b, hbl, rfl, hf, hb⟩
           have hfin := HE.out _ _ ⟨b, Nat.le_trans HB.out.size hbl, rfl, hf, below_then HB.out HB.out.size hb⟩
           clear hf hb hbl
           go_wp2
           try go_ret
           exact hfin
         ·
          have e1 : (a.f1 == 2) = false := by simpa using t1
          have HV := mk0 (show predOk a p = false by rw [HPO.out, e1]; rfl)
          clear t1
          have HE := mk0 (fun e w' ho => HEP.out i e w' (by rw [HI.out.2.2, HST.out, HOI.out, HV.out]; rfl) ho)
          go_wp2_with fail
          refine (vfault_calls _ _ _).mono ?_
          rintro e w9 ⟨b, hbl, rfl, hf, hb⟩
          have hfin := HE.out _ _ ⟨b, Nat.le_trans HB.out.size hbl, rfl, hf, below_then HB.out HB.out.size hb⟩
          clear hf hb hbl
          go_wp2
          try go_ret
          exact hfin
       ·
        have o3 : (p.f1 == 3) = false := by simpa using hf3
        by_cases hf2 : p.f1 = 2
        ·
         have o2 : (p.f1 == 2) = true := by simpa using hf2
         have HPO := mk0 (show predOk a p = ((a.f1 == 2) && (p.f2 == 0) && (p.f3 == 0) && strOk p.f4) by unfold predOk; rw [if_neg hf1, if_pos (Or.inl hf2)])
         clear hf1 hf3 hf2
         by_cases t1 : a.f1 = 2
         ·
          have e1 : (a.f1 == 2) = true := by simpa using t1
          by_cases t2 : p.f2 = 0
          ·
           have e2 : (p.f2 == 0) = true := by simpa using t2
           by_cases t3 : p.f3 = 0
           ·
            have e3 : (p.f3 == 0) = true := by simpa using t3
            cases t4 : strOk p.f4 with
            | true =>
             have HV := mk0 (show predOk a p = true by rw [HPO.out, e1, e2, e3, t4]; rfl)
             have HS4 := mk0 t4
             clear t1 t2 t3 t4
             go_wp2_with fail
             refine (str_calls p.f4 _).mono ?_
             rintro e w5 ⟨rfl, hb⟩
             rw [HS4.out]
             have n_ := mk0 (below_then HB.out HB.out.size hb)
             clear HB hb
             have HB := n_
             clear n_
             go_wp2_with fail
             go_roundg (gk - 1)
             case measure => have := HI.out; omega
             case rel => exact ⟨i + 1, ⟨by omega, by have := HI.out; omega, by rw [HI.out.2.2, HST.out, HOI.out, HV.out]; rfl⟩, rfl, HB⟩
            | false =>
             have HV := mk0 (show predOk a p = false by rw [HPO.out, e1, e2, e3, t4]; rfl)
             have HS4 := mk0 t4
             clear t1 t2 t3 t4
             go_wp2_with fail
             refine (str_calls p.f4 _).mono ?_
             rintro e w5 ⟨rfl, hb⟩
             rw [HS4.out]
             have n_ := mk0 (below_then HB.out HB.out.size hb)
             clear HB hb
             have HB := n_
             clear n_
             have HE := mk0 (fun e w' ho => HEP.out i e w' (by rw [HI.out.2.2, HST.out, HOI.out, HV.out]; rfl) ho)
             go_wp2_with fail
             refine (vfault_calls _ _ _).mono ?_
             rintro e w9 ⟨b, hbl, rfl, hf, hb⟩
             have hfin := HE.out _ _ ⟨b, Nat.le_trans HB.out.size hbl, rfl, hf, below_then HB.out HB.out.size hb⟩
             clear hf hb hbl
             go_wp2
             try go_ret
             exact hfin
           ·
            have e3 : (p.f3 == 0) = false := by simpa using t3
            have HV := mk0 (show predOk a p = false by rw [HPO.out, e1, e2, e3]; rfl)
            clear t1 t2 t3
            have HE := mk0 (fun e w' ho => HEP.out i e w' (by rw [HI.out.2.2, HST.out, HOI.out, HV.out]; rfl) ho)
            go_wp2_with fail
            refine (vfault_calls _ _ _).mono ?_
            rintro e w9 ⟨b, hbl, rfl, hf, hb⟩
            have hfin := HE.out _ _ ⟨b, Nat.le_trans HB.out.size hbl, rfl, hf, below_then HB.out HB.out.size hb⟩
            clear hf hb hbl
            go_wp2
            try go_ret
            exact hfin
          ·
           have e2 : (p.f2 == 0) = false := by simpa using t2
           have HV := mk0 (show predOk a p = false by rw [HPO.out, e1, e2]; rfl)
           clear t1 t2
           have HE := mk0 (fun e w' ho => HEP.out i e w' (by rw [HI.out.2.2, HST.out, HOI.out, HV.out]; rfl) ho)
           go_wp2_with fail
           refine (vfault_calls _ _ _).mono ?_
           rintro e w9 ⟨b, hbl, rfl, hf, hb⟩
           have hfin := HE.out _ _ ⟨b, Nat.le_trans HB.out.size hbl, rfl, hf, below_then HB.out HB.out.size hb⟩
           clear hf hb hbl
           go_wp2
           try go_ret
           exact hfin
         ·
          have e1 : (a.f1 == 2) = false := by simpa using t1
          have HV := mk0 (show predOk a p = false by rw [HPO.out, e1]; rfl)
          clear t1
          have HE := mk0 (fun e w' ho => HEP.out i e w' (by rw [HI.out.2.2, HST.out, HOI.out, HV.out]; rfl) ho)
          go_wp2_with fail
          refine (vfault_calls _ _ _).mono ?_
          rintro e w9 ⟨b, hbl, rfl, hf, hb⟩
          have hfin := HE.out _ _ ⟨b, Nat.le_trans HB.out.size hbl, rfl, hf, below_then HB.out HB.out.size hb⟩
          clear hf hb hbl
          go_wp2
          try go_ret
          exact hfin
        ·
         have o2 : (p.f1 == 2) = false := by simpa using hf2
         have HV := mk0 (show predOk a p = false by unfold predOk; rw [if_neg hf1, if_neg (by rintro (h | h); exact hf2 h; exact hf3 h.1)])
         clear hf1 hf3 hf2
         have HE := mk0 (fun e w' ho => HEP.out i e w' (by rw [HI.out.2.2, HST.out, HOI.out, HV.out]; rfl) ho)
         go_wp2_with fail
         refine (vfault_calls _ _ _).mono ?_
         rintro e w9 ⟨b, hbl, rfl, hf, hb⟩
         have hfin := HE.out _ _ ⟨b, Nat.le_trans HB.out.size hbl, rfl, hf, below_then HB.out HB.out.size hb⟩
         clear hf hb hbl
         go_wp2
         try go_ret
         exact hfin
   ·
    have b1 : decide ((i : Int) < (m : Int)) = false := decide_eq_false (by omega)
    have b2 : decide (i < m) = false := decide_eq_false (by omega)
    have hfin := fun W => HOP.out (.returned .nilIface) W (by rw [HI.out.2.2, show m - i = 0 by omega]; rfl)
    have hfin2 := hfin _ ⟨rfl, HB.out⟩
    clear hfin
    go_wp2
    try go_ret
    exact hfin2
abbrev SV := S37
abbrev SA := S30
abbrev SP := S168
def encV (x : SV) : Value := .agg #[.int .i64 x.f0, .string x.f1]
def encE (A : Option Addr) (n c : Nat) (pay : ByteArray) : Value := .agg #[.slice A n c, .string pay]
def fitsB (a : SA) (v : SV) : Bool :=
 if a.f1 = 1 then (v.f1.toList == []) && (decide (a.f2 ≤ v.f0) && decide (v.f0 ≤ a.f3))
 else (v.f0 == 0) && strOk v.f1
theorem fits_calls (a : SA) (v : SV) (w : World) : Calls Tryz.prog 156 #[enc95 a, encV v] w fun e w' => e = .returned (.bool (fitsB a v)) ∧ Below w.heap.size w w' := by
 unfold enc95 encV
 by_cases t1 : a.f1 = 1
 ·
  have o1 : (a.f1 == 1) = true := by simpa using t1
  have HV := mk0 (show fitsB a v = ((v.f1.toList == []) && (decide (a.f2 ≤ v.f0) && decide (v.f0 ≤ a.f3))) by unfold fitsB; rw [if_pos t1])
  generalize fitsB a v = z at HV ⊢
  clear t1
  cases e1 : (v.f1.toList == []) with
  | false =>
   have HZ := mk0 (show z = false by rw [HV.out, e1]; rfl)
   go_enter Tryz.func156, Tryz.ntmps156
   go_wp2
   go_ret
   exact ⟨by rw [HZ.out]; rfl, below_alloc (below_alloc (Below.refl _ _) _) _⟩
  | true =>
   by_cases t2 : a.f2 ≤ v.f0
   ·
    have e2 := decide_eq_true t2
    by_cases t3 : v.f0 ≤ a.f3
    ·
     have e3 := decide_eq_true t3
     have HZ := mk0 (show z = true by rw [HV.out, e1, e2, e3]; rfl)
     clear t2 t3
     go_enter Tryz.func156, Tryz.ntmps156
     go_wp2
     go_ret
     exact ⟨by rw [HZ.out]; rfl, below_alloc (below_alloc (Below.refl _ _) _) _⟩
    ·
     have e3 := decide_eq_false t3
     have HZ := mk0 (show z = false by rw [HV.out, e1, e2, e3]; rfl)
     clear t2 t3
     go_enter Tryz.func156, Tryz.ntmps156
     go_wp2
     go_ret
     exact ⟨by rw [HZ.out]; rfl, below_alloc (below_alloc (Below.refl _ _) _) _⟩
   ·
    have e2 := decide_eq_false t2
    have HZ := mk0 (show z = false by rw [HV.out, e1, e2]; rfl)
    clear t2
    go_enter Tryz.func156, Tryz.ntmps156
    go_wp2
    go_ret
    exact ⟨by rw [HZ.out]; rfl, below_alloc (below_alloc (Below.refl _ _) _) _⟩
 ·
  have o1 : (a.f1 == 1) = false := by simpa using t1
  have HV := mk0 (show fitsB a v = ((v.f0 == 0) && strOk v.f1) by unfold fitsB; rw [if_neg t1])
  generalize fitsB a v = z at HV ⊢
  clear t1
  cases e1 : (v.f0 == 0) with
  | false =>
   have HZ := mk0 (show z = false by rw [HV.out, e1]; rfl)
   go_enter Tryz.func156, Tryz.ntmps156
   go_wp2
   go_ret
   exact ⟨by rw [HZ.out]; rfl, below_alloc (below_alloc (Below.refl _ _) _) _⟩
  | true =>
   have HZ := mk0 (show z = strOk v.f1 by rw [HV.out, e1]; rfl)
   have HC := mk0 (fun W => str_calls v.f1 W)
   generalize strOk v.f1 = b at HZ HC
   go_enter Tryz.func156, Tryz.ntmps156
   go_wp2_with fail
   refine (HC.out _).mono ?_
   rintro e w1 ⟨rfl, hb⟩
   go_wp2
   go_ret
   exact ⟨by rw [HZ.out]; rfl, below_then (below_alloc (below_alloc (Below.refl _ _) _) _) (below_size (below_alloc (below_alloc (Below.refl _ _) _) _)) hb⟩
def evFrom (S : List SA) (V : List SV) : Nat → Nat → Option Nat
 | 0, _ => none
 | k + 1, i => if fitsB (S.getD i z30) (V.getD i z37) then evFrom S V k (i + 1) else some i
def evBad (S : List SA) (V : List SV) (pay : ByteArray) : Option Nat := if V.length ≠ S.length ∨ 200 < pay.size then some 0 else evFrom S V S.length 0
def EvPost (w : World) (S : List SA) (V : List SV) (pay : ByteArray) (e : Ending) (w' : World) : Prop :=
 match evBad S V pay with
 | none => e = .returned .nilIface ∧ Below w.heap.size w w'
 | some i => ∃ b, w.heap.size ≤ b ∧ e = .returned (.iface 178 (.pointer (some ⟨b, 0, none⟩))) ∧ IsFault w' b ⟨#[118, 97, 108, 117, 101]⟩ (i : Int) 3 ∧ Below w.heap.size w w'
theorem ev_bad {w w' : World} {S : List SA} {V : List SV} {pay : ByteArray} {e : Ending} {i : Nat} (h : evBad S V pay = some i) (ho : ∃ b, w.heap.size ≤ b ∧ e = .returned (.iface 178 (.pointer (some ⟨b, 0, none⟩))) ∧ IsFault w' b ⟨#[118, 97, 108, 117, 101]⟩ (i : Int) 3 ∧ Below w.heap.size w w') : EvPost w S V pay e w' := by
 unfold EvPost
 rw [h]
 exact ho
theorem ev_ok {w w' : World} {S : List SA} {V : List SV} {pay : ByteArray} {e : Ending} (h : evBad S V pay = none) (ho : e = .returned .nilIface ∧ Below w.heap.size w w') : EvPost w S V pay e w' := by
 unfold EvPost
 rw [h]
 exact ho
theorem EvPost.bad {w w' : World} {S : List SA} {V : List SV} {pay : ByteArray} {e : Ending} {i : Nat} (h : EvPost w S V pay e w') (hb : evBad S V pay = some i) : ∃ b, w.heap.size ≤ b ∧ e = .returned (.iface 178 (.pointer (some ⟨b, 0, none⟩))) ∧ IsFault w' b ⟨#[118, 97, 108, 117, 101]⟩ (i : Int) 3 ∧ Below w.heap.size w w' := by
 unfold EvPost at h
 rw [hb] at h
 exact h
theorem EvPost.ok {w w' : World} {S : List SA} {V : List SV} {pay : ByteArray} {e : Ending} (h : EvPost w S V pay e w') (hb : evBad S V pay = none) : e = .returned .nilIface ∧ Below w.heap.size w w' := by
 unfold EvPost at h
 rw [hb] at h
 exact h
set_option maxHeartbeats 8000000 in
theorem event_calls (A B : Option Addr) (n m c d : Nat) (S : List SA) (V : List SV) (pay : ByteArray) (w : World) (hn : S.length = n) (hm : V.length = m) (hr : Kd.C k30 w A n S) (hr2 : Kd.C k37 w B m V) (hl : n ≤ 100000) :
 Calls Tryz.prog 94 #[.slice A n c, encE B m d pay] w (EvPost w S V pay) := by
 unfold encE
 have HRS := mk0 hr
 have HRV := mk0 hr2
 have HN := mk0 hn
 have HM := mk0 hm
 clear hr hr2 hn hm
 by_cases hlen : m ≠ n ∨ 200 < pay.size
 ·
  have HB := mk0 (fun e w' ho => ev_bad (w := w) (w' := w') (S := S) (V := V) (pay := pay) (e := e) (i := 0) (by unfold evBad; rw [if_pos (by rw [HN.out, HM.out]; exact hlen)]) ho)
  generalize EvPost w S V pay = POST at HB ⊢
  by_cases h1 : m = n
  ·
   have hp : 200 < pay.size := by
    rcases hlen with h | h
    ·
     exact absurd h1 h
    ·
     exact h
   have q2 : decide (200 < (pay.size : Int)) = true := decide_eq_true (by omega)
   have q2b : decide (200 < pay.size) = true := decide_eq_true hp
   subst h1
   clear hlen hp
   go_enter Tryz.func94, Tryz.ntmps94
   go_wp2_with fail
   refine (vfault_calls _ _ _).mono ?_
   rintro e w1 ⟨b, h1, rfl, hf, hb⟩
   have hfin := HB.out _ _ ⟨b, Nat.le_trans (below_size (below_alloc (Below.refl _ _) _)) h1, rfl, hf, below_then (below_alloc (Below.refl _ _) _) (below_size (below_alloc (Below.refl _ _) _)) hb⟩
   go_wp2
   try go_ret
   exact hfin
  ·
   have q1 : ((m : Int) != (n : Int)) = true := by simp; omega
   have q1b : (m != n) = true := by simpa using h1
   clear hlen h1
   go_enter Tryz.func94, Tryz.ntmps94
   go_wp2_with fail
   refine (vfault_calls _ _ _).mono ?_
   rintro e w1 ⟨b, h1, rfl, hf, hb⟩
   have hfin := HB.out _ _ ⟨b, Nat.le_trans (below_size (below_alloc (Below.refl _ _) _)) h1, rfl, hf, below_then (below_alloc (Below.refl _ _) _) (below_size (below_alloc (Below.refl _ _) _)) hb⟩
   go_wp2
   try go_ret
   exact hfin
 ·
  have h1 : m = n := by omega
  have q2 : decide (200 < (pay.size : Int)) = false := decide_eq_false (by omega)
  have q2b : decide (200 < pay.size) = false := decide_eq_false (by omega)
  have HFB := mk0 (show evBad S V pay = evFrom S V n 0 by unfold evBad; rw [if_neg (by rw [HN.out, HM.out]; exact hlen), HN.out])
  have HEP := mk0 (fun i e w' h ho => ev_bad (w := w) (w' := w') (S := S) (V := V) (pay := pay) (e := e) (i := i) h ho)
  have HOP := mk0 (fun e w' h ho => ev_ok (w := w) (w' := w') (S := S) (V := V) (pay := pay) (e := e) h ho)
  generalize EvPost w S V pay = POST at HEP HOP ⊢
  subst h1
  clear hlen
  go_enter Tryz.func94, Tryz.ntmps94
  go_wp2_with fail
  have HB := mk0 (below_alloc (Below.refl w.heap.size w) (.cells #[.slice B m d, .string pay] 40))
  have HKE := mk0 (show (w.alloc (.cells #[.slice B m d, .string pay] 40)).heap[w.heap.size]? = some (.cells #[.slice B m d, .string pay] 40 (0, 0)) from heap_alloc_new w _)
  generalize w.alloc (.cells #[.slice B m d, .string pay] 40) = w0 at HB HKE ⊢
  obtain ⟨ge, hge⟩ : ∃ g, g = w.heap.size := ⟨_, rfl⟩
  rw [← hge] at HKE ⊢
  clear hge
  go_loopg [5, 6, 22] (m + 1) (fun k v5 v6 v22 W => ∃ i : Nat, Aside0 (i ≤ m ∧ k + i = m + 1 ∧ evBad S V pay = evFrom S V (m - i) i) ∧ v22 = .int .i64 (i : Int) ∧ Aside0 (Below w.heap.size w W) ∧ Aside0 (W.heap[ge]? = some (.cells #[.slice B m d, .string pay] 40 (0, 0))))
  case atStart => exact ⟨0, ⟨by omega, by omega, HFB.out⟩, rfl, HB, HKE⟩
  case round =>
   clear HB HKE
   obtain ⟨i, HI, rfl, HB, HKE⟩ := hrel
   by_cases hi : i < m
   ·
    have b1 : decide ((i : Int) < (m : Int)) = true := decide_eq_true (by omega)
    have b2 : decide (i < m) = true := decide_eq_true (by omega)
    have p1 : (0 : Int) ≤ (i : Int) := by omega
    have p2 : (i : Int) < (m : Int) := by omega
    have hstep : evFrom S V (m - i) i = if fitsB (S.getD i z30) (V.getD i z37) then evFrom S V (m - (i + 1)) (i + 1) else some i := by
     rw [show m - i = (m - (i + 1)) + 1 by omega]
     rfl
    obtain ⟨ad, e, h0, h1, h2, h3⟩ := at_T30 (Kd.C_below HRS.out HB.out) i p1 p2
    cases e
    obtain ⟨ad2, e, k0, k1⟩ := at_T37 (Kd.C_below HRV.out HB.out) i p1 p2
    cases e
    rw [Int.toNat_natCast] at h0 h1 h2 h3 k0 k1
    have hrd : rd_T30 S (i : Int) = S.getD i z30 := rfl
    have hrd2 : rd_T37 V (i : Int) = V.getD i z37 := rfl
    rw [hrd] at h0 h1 h2 h3
    rw [hrd2] at k0 k1
    generalize S.getD i z30 = a at h0 h1 h2 h3 hstep
    generalize V.getD i z37 = v at k0 k1 hstep
    have HST := mk0 hstep
    clear hrd hrd2 hstep
    have HFC := mk0 (fun W => fits_calls a v W)
    unfold enc95 encV at HFC
    have y0 := (blk_cell HKE.out 0).trans (show _ = some (Value.slice (some ad2) m d) from rfl)
    cases hfb : fitsB a v with
    | true =>
     rw [hfb] at HFC
     rw [hfb, if_pos rfl] at HST
     clear hfb
     go_wp2_with fail
     generalize hW : wr.alloc (Obj.cells #[.string a.f0, .int .i64 a.f1, .int .i64 a.f2, .int .i64 a.f3] 30) = W2
     have hb2 : Below wr.heap.size wr W2 := by rw [← hW]; exact below_alloc (Below.refl _ _) _
     have HKP : W2.heap[wr.heap.size]? = some (.cells #[.string a.f0, .int .i64 a.f1, .int .i64 a.f2, .int .i64 a.f3] 30 (0, 0)) := by rw [← hW]; exact blk_new wr _
     have HKE2 := mk0 ((hb2.block _ (blk_lt HKE.out)).trans HKE.out)
     have n_ := mk0 (below_then HB.out HB.out.size hb2)
     have r0 : ∀ q : BelowP W2, q.w.cell? _ = _ := fun q => q.cell ((hb2.cell (World.block_lt_of_cell? wr _ k0)).trans k0)
     have r1 : ∀ q : BelowP W2, q.w.cell? _ = _ := fun q => q.cell ((hb2.cell (World.block_lt_of_cell? wr _ k1)).trans k1)
     clear HB HKE hW hb2 h0 h1 h2 h3 k0 k1 y0
     have HB := n_
     clear n_
     generalize wr.heap.size = gp at HKP ⊢
     have q0 : ∀ q : BelowP W2, q.w.cell? ⟨gp, 0, none⟩ = some (.string a.f0) := fun q => q.cell ((blk_cell HKP 0).trans rfl)
     have q1 : ∀ q : BelowP W2, q.w.cell? ⟨gp, 1, none⟩ = some (.int .i64 a.f1) := fun q => q.cell ((blk_cell HKP 1).trans rfl)
     have q2 : ∀ q : BelowP W2, q.w.cell? ⟨gp, 2, none⟩ = some (.int .i64 a.f2) := fun q => q.cell ((blk_cell HKP 2).trans rfl)
     have q3 : ∀ q : BelowP W2, q.w.cell? ⟨gp, 3, none⟩ = some (.int .i64 a.f3) := fun q => q.cell ((blk_cell HKP 3).trans rfl)
     have q5 : ∀ q : BelowP W2, q.w.cell? ⟨ge, 0, none⟩ = some (.slice (some ad2) m d) := fun q => q.cell ((blk_cell HKE2.out 0).trans rfl)
     clear HKP
     refine wp_region_quiet_below (by kernel_rfl) (by kernel_rfl) ?_
     repeat (quiet_step ((go_at_call 156; (with_reducible refine Calls.below_of (HFC.out _)))))
     refine wpQuiet_nil ?_
     rintro _ ⟨pq, rfl⟩
     go_wp2_with fail
     go_roundg (gk - 1)
     case measure => have := HI.out; omega
     case rel => exact ⟨i + 1, ⟨by omega, by have := HI.out; omega, by rw [HI.out.2.2, HST.out]⟩, rfl, ⟨below_then HB.out HB.out.size pq.h⟩, ⟨(pq.h.block _ (blk_lt HKE2.out)).trans HKE2.out⟩⟩
    | false =>
     rw [hfb] at HFC
     rw [hfb, if_neg (by simp)] at HST
     have HE := mk0 (fun e w' ho => HEP.out i e w' (by rw [HI.out.2.2, HST.out]) ho)
     clear hfb
     go_wp2_with fail
     generalize hW : wr.alloc (Obj.cells #[.string a.f0, .int .i64 a.f1, .int .i64 a.f2, .int .i64 a.f3] 30) = W2
     have hb2 : Below wr.heap.size wr W2 := by rw [← hW]; exact below_alloc (Below.refl _ _) _
     have HKP : W2.heap[wr.heap.size]? = some (.cells #[.string a.f0, .int .i64 a.f1, .int .i64 a.f2, .int .i64 a.f3] 30 (0, 0)) := by rw [← hW]; exact blk_new wr _
     have HKE2 := mk0 ((hb2.block _ (blk_lt HKE.out)).trans HKE.out)
     have n_ := mk0 (below_then HB.out HB.out.size hb2)
     have r0 : ∀ q : BelowP W2, q.w.cell? _ = _ := fun q => q.cell ((hb2.cell (World.block_lt_of_cell? wr _ k0)).trans k0)
     have r1 : ∀ q : BelowP W2, q.w.cell? _ = _ := fun q => q.cell ((hb2.cell (World.block_lt_of_cell? wr _ k1)).trans k1)
     clear HB HKE hW hb2 h0 h1 h2 h3 k0 k1 y0
     have HB := n_
     clear n_
     generalize wr.heap.size = gp at HKP ⊢
     have q0 : ∀ q : BelowP W2, q.w.cell? ⟨gp, 0, none⟩ = some (.string a.f0) := fun q => q.cell ((blk_cell HKP 0).trans rfl)
     have q1 : ∀ q : BelowP W2, q.w.cell? ⟨gp, 1, none⟩ = some (.int .i64 a.f1) := fun q => q.cell ((blk_cell HKP 1).trans rfl)
     have q2 : ∀ q : BelowP W2, q.w.cell? ⟨gp, 2, none⟩ = some (.int .i64 a.f2) := fun q => q.cell ((blk_cell HKP 2).trans rfl)
     have q3 : ∀ q : BelowP W2, q.w.cell? ⟨gp, 3, none⟩ = some (.int .i64 a.f3) := fun q => q.cell ((blk_cell HKP 3).trans rfl)
     have q5 : ∀ q : BelowP W2, q.w.cell? ⟨ge, 0, none⟩ = some (.slice (some ad2) m d) := fun q => q.cell ((blk_cell HKE2.out 0).trans rfl)
     clear HKP
     refine wp_region_quiet_below (by kernel_rfl) (by kernel_rfl) ?_
     repeat (quiet_step ((go_at_call 156; (with_reducible refine Calls.below_of (HFC.out _)))))
     refine wpQuiet_nil ?_
     rintro _ ⟨pq, rfl⟩
     go_wp2_with fail
     refine (vfault_calls _ _ _).mono ?_
     rintro e w9 ⟨b, hbl, rfl, hf, hb⟩
     have hb3 := below_then HB.out HB.out.size pq.h
     have hfin := HE.out _ _ ⟨b, Nat.le_trans hb3.size hbl, rfl, hf, below_then hb3 hb3.size hb⟩
     clear hf hb hbl hb3
     go_wp2
     try go_ret
     exact hfin
   ·
    have b1 : decide ((i : Int) < (m : Int)) = false := decide_eq_false (by omega)
    have b2 : decide (i < m) = false := decide_eq_false (by omega)
    have hfin := fun W => HOP.out (.returned .nilIface) W (by rw [HI.out.2.2, show m - i = 0 by omega]; rfl)
    have hfin2 := hfin _ ⟨rfl, HB.out⟩
    clear hfin
    go_wp2
    try go_ret
    exact hfin2
theorem btl_loop (s : ByteArray) : ∀ (k i : Nat) (r : List UInt8), s.size - i = k → i ≤ s.size → ByteArray.toList.loop s i r = r.reverse ++ s.data.toList.drop i := by
 intro k
 induction k with
 | zero =>
  intro i r h hi
  rw [ByteArray.toList.loop.eq_1, if_neg (by omega)]
  have : s.data.toList.drop i = [] := List.drop_eq_nil_iff.2 (by rw [Array.length_toList]; show s.size ≤ i; omega)
  rw [this, List.append_nil]
 | succ k ih =>
  intro i r h hi
  rw [ByteArray.toList.loop.eq_1, if_pos (by omega), ih (i + 1) _ (by omega) (by omega)]
  have hlt : i < s.data.toList.length := by rw [Array.length_toList]; show i < s.size; omega
  rw [List.drop_eq_getElem_cons hlt, List.reverse_cons, List.append_assoc]
  congr 1
  show [s.get! i] ++ _ = _
  have : s.get! i = s.data.toList[i] := by
   have h2 : i < s.data.size := by rw [Array.length_toList] at hlt; exact hlt
   show s.data[i]! = _
   rw [getElem!_pos s.data i h2, Array.getElem_toList]
  rw [this]
  rfl
theorem btl (s : ByteArray) : s.toList = s.data.toList := by
 have := btl_loop s s.size 0 [] (by omega) (Nat.zero_le _)
 simpa [ByteArray.toList] using this
theorem badFrom_none {S : List S30} {F : List S168} : ∀ (k i : Nat), badFrom S F k i = none → ∀ j, i ≤ j → j < i + k → okAt S F j = true
 | 0, i, _, j, h1, h2 => by omega
 | k + 1, i, h, j, h1, h2 => by
  unfold badFrom at h
  split at h
  ·
   by_cases hj : j = i
   ·
    rw [hj]; assumption
   ·
    exact badFrom_none k (i + 1) h j (by omega) (by omega)
  ·
   cases h
theorem idxFrom_at {α : Type} (p : α → Bool) (z : α) : ∀ (l : List α) (i : Nat), 0 ≤ idxFrom p l i → ∃ k, idxFrom p l i = ((i + k : Nat) : Int) ∧ k < l.length ∧ p (l.getD k z) = true
 | [], i, h => by simp only [idxFrom] at h; omega
 | x :: r, i, h => by
  unfold idxFrom at h ⊢
  split
  ·
   exact ⟨0, rfl, by simp, by simpa using ‹_›⟩
  ·
   rename_i hx
   rw [if_neg hx] at h
   obtain ⟨k, e, hk, hp⟩ := idxFrom_at p z r (i + 1) h
   exact ⟨k + 1, by rw [e]; congr 1; omega, by simpa using hk, by simpa using hp⟩
def readR (S : List S30) (s : ByteArray) : List Pr ⊕ Int :=
 match parseR s with
 | .inr z => .inr z.2
 | .inl xs => match filterBad S (xs.map toP) with
  | none => .inl xs
  | some _ => .inr 3
def ReadOk (w : World) (xs : List Pr) (e : Ending) (w' : World) : Prop := ∃ v, e = .returned (.tuple #[v, .nilIface]) ∧ Kd.R k168 168 w' w.heap.size (fun _ => True) v (xs.map toP) ∧ Below w.heap.size w w'
def ReadNo (w : World) (c : Int) (e : Ending) (w' : World) : Prop := ∃ b n, e = .returned (.tuple #[.slice none 0 0, .iface 178 (.pointer (some ⟨b, 0, none⟩))]) ∧ ErrIs w' c n (.iface 178 (.pointer (some ⟨b, 0, none⟩))) ∧ Below w.heap.size w w'
def ReadPost (w : World) (S : List S30) (s : ByteArray) (e : Ending) (w' : World) : Prop :=
 match readR S s with
 | .inl xs => ReadOk w xs e w'
 | .inr c => ReadNo w c e w'
theorem ReadPost.ok {w w' : World} {S : List S30} {s : ByteArray} {xs : List Pr} {e : Ending} (h : ReadPost w S s e w') (hr : readR S s = .inl xs) : ReadOk w xs e w' := by
 unfold ReadPost at h
 rw [hr] at h
 exact h
theorem ReadPost.no {w w' : World} {S : List S30} {s : ByteArray} {c : Int} {e : Ending} (h : ReadPost w S s e w') (hr : readR S s = .inr c) : ReadNo w c e w' := by
 unfold ReadPost at h
 rw [hr] at h
 exact h
theorem ReadPost.mk_ok {w w' : World} {S : List S30} {s : ByteArray} {xs : List Pr} {e : Ending} (hr : readR S s = .inl xs) (h : ReadOk w xs e w') : ReadPost w S s e w' := by
 unfold ReadPost
 rw [hr]
 exact h
theorem ReadPost.mk_no {w w' : World} {S : List S30} {s : ByteArray} {c : Int} {e : Ending} (hr : readR S s = .inr c) (h : ReadNo w c e w') : ReadPost w S s e w' := by
 unfold ReadPost
 rw [hr]
 exact h
theorem parseR_not3 {s : ByteArray} {z : Int × Int} (h : parseR s = .inr z) : (z.2 == 3) = false := by
 unfold parseR at h
 split at h
 ·
  injection h with h
  subst h
  rfl
 ·
  split at h
  ·
   cases h
  ·
   injection h with h
   subst h
   rfl
theorem FilterPost.bad {w w' : World} {S : List S30} {F : List S168} {e : Ending} {i : Nat} (h : FilterPost w S F e w') (hb : filterBad S F = some i) : ∃ b, w.heap.size ≤ b ∧ e = .returned (.iface 178 (.pointer (some ⟨b, 0, none⟩))) ∧ IsFault w' b ⟨#[118, 97, 108, 117, 101]⟩ (i : Int) 3 ∧ Below w.heap.size w w' := by
 unfold FilterPost at h
 rw [hb] at h
 exact h
theorem FilterPost.ok {w w' : World} {S : List S30} {F : List S168} {e : Ending} (h : FilterPost w S F e w') (hb : filterBad S F = none) : e = .returned .nilIface ∧ Below w.heap.size w w' := by
 unfold FilterPost at h
 rw [hb] at h
 exact h
set_option maxHeartbeats 4000000 in
theorem read_calls (A : Option Addr) (n c : Nat) (S : List S30) (s : ByteArray) (w : World) (hn : S.length = n) (hr : Kd.C k30 w A n S) (hl : n ≤ 100000) (hs : s.size ≤ 1000) :
 Calls Tryz.prog 41 #[.slice A n c, .string s] w (ReadPost w S s) := by
 have HRS := mk0 hr
 have HN := mk0 hn
 clear hr hn
 have HOK := mk0 (fun xs e w' h ho => ReadPost.mk_ok (w := w) (w' := w') (S := S) (s := s) (xs := xs) (e := e) h ho)
 have HNO := mk0 (fun c e w' h ho => ReadPost.mk_no (w := w) (w' := w') (S := S) (s := s) (c := c) (e := e) h ho)
 generalize ReadPost w S s = POST at HOK HNO ⊢
 go_enter Tryz.func41, Tryz.ntmps41
 go_wp2_with fail
 refine (parse_P s _ hs).mono ?_
 rintro e w1 hp
 cases hpr : parseR s with
 | inr z =>
  have h3 := parseR_not3 hpr
  obtain ⟨at_, cd⟩ := z
  simp only at h3
  obtain ⟨b, hbl, rfl, hf, hb1⟩ := hp.no hpr
  have HR := mk0 (show readR S s = .inr cd by unfold readR; rw [hpr])
  have HF := mk0 hf
  have HB := mk0 hb1
  clear hp hpr hf hb1 hbl
  go_wp2_with fail
  refine (is_err cd 3 1 _ _ (IsFault.errIs HF.out)).mono ?_
  rintro e w2 ⟨rfl, rfl⟩
  rw [h3]
  have hfin := HNO.out cd _ _ HR.out ⟨b, 1, rfl, IsFault.errIs HF.out, HB.out⟩
  go_wp2
  first
   | exact hfin
   | (
    go_ret2
    exact hfin)
 | inl xs =>
  obtain ⟨v1, rfl, ho, hb1⟩ := hp.ok hpr
  obtain ⟨A1, c1, rfl, hc1, hC1⟩ := Kd.R_reads ho
  have lx : (xs.map toP).length ≤ 301 := by simpa using parse_count hpr
  have HB := mk0 hb1
  have HO := mk0 ho
  have HC1 := mk0 hC1
  have HPR := mk0 hpr
  clear hp hpr ho hb1 hC1
  obtain ⟨n1, hn⟩ : ∃ n, (xs.map toP).length = n := ⟨_, rfl⟩
  have HN1 := mk0 hn
  rw [hn] at HC1 HO hc1 lx ⊢
  clear hn
  go_wp2_with fail
  refine (filter_calls A A1 n n1 c c1 S (xs.map toP) _ HN.out HN1.out (Kd.C_below HRS.out HB.out) HC1.out hl (by omega) hc1).mono ?_
  rintro e w2 hq
  cases hfb : filterBad S (xs.map toP) with
  | some i =>
   obtain ⟨b, hbl, rfl, hf, hb2⟩ := hq.bad hfb
   have HR := mk0 (show readR S s = .inr 3 by unfold readR; rw [HPR.out]; simp only [hfb])
   have HF := mk0 hf
   have n_ := mk0 (below_then HB.out HB.out.size hb2)
   clear HB hq hfb hf hb2 hbl HO HC1
   have HB := n_
   clear n_
   go_wp2_with fail
   refine (is_err 3 3 1 _ _ (IsFault.errIs HF.out)).mono ?_
   rintro e w3 ⟨rfl, rfl⟩
   have hnew := heap_alloc_new w2 (.cells #[.string sFilter, .int .i64 0, .iface 178 (.pointer (some ⟨b, 0, none⟩))] 180 (0, 0))
   have hfin := HNO.out 3 _ _ HR.out ⟨w2.heap.size, 2, rfl, ⟨w2.heap.size, sFilter, 0, _, rfl, hnew, IsFault.errIs (IsFault.keep HF.out (below_alloc (Below.refl _ _) _))⟩, below_alloc HB.out _⟩
   clear hnew
   go_wp2
   first
    | exact hfin
    | (
     go_ret2
     exact hfin)
  | none =>
   obtain ⟨rfl, hb2⟩ := hq.ok hfb
   have HR := mk0 (show readR S s = .inl xs by unfold readR; rw [HPR.out]; simp only [hfb])
   have o_ := mk0 (Kd.R_below HO.out hb2)
   have n_ := mk0 (below_then HB.out HB.out.size hb2)
   clear HB hq hfb hb2 HO HC1
   have HB := n_
   have HO := o_
   clear n_ o_
   go_wp2_with fail
   refine (is_nil 3 _).mono ?_
   rintro e w3 ⟨rfl, rfl⟩
   have hfin := HOK.out xs _ _ HR.out ⟨_, rfl, HO.out, HB.out⟩
   go_wp2
   first
    | exact hfin
    | (
     go_ret2
     exact hfin)
def preB (s p : ByteArray) : Bool := decide (p.size ≤ s.size) && ((s.extract 0 p.size).toList == p.toList)
theorem lite_calls (s p : ByteArray) (w : World) : Calls Tryz.prog 254 #[.string s, .string p] w fun e w' => e = .returned (.bool (preB s p)) ∧ w = w' := by
 by_cases h : p.size ≤ s.size
 ·
  have b1 : decide ((p.size : Int) ≤ (s.size : Int)) = true := decide_eq_true (by omega)
  have b2 : decide (p.size ≤ s.size) = true := decide_eq_true h
  have p1 : (p.size : Int) ≤ (s.size : Int) := by omega
  have HV := mk0 (show preB s p = ((s.extract 0 p.size).toList == p.toList) by unfold preB; rw [b2]; rfl)
  generalize preB s p = z at HV ⊢
  clear h
  go_enter Tryz.func254, Tryz.ntmps254
  go_wp2
  go_ret
  exact ⟨by rw [HV.out]; rfl, rfl⟩
 ·
  have b1 : decide ((p.size : Int) ≤ (s.size : Int)) = false := decide_eq_false (by omega)
  have b2 : decide (p.size ≤ s.size) = false := decide_eq_false h
  have HV := mk0 (show preB s p = false by unfold preB; rw [b2]; rfl)
  generalize preB s p = z at HV ⊢
  clear h
  go_enter Tryz.func254, Tryz.ntmps254
  go_wp2
  go_ret
  exact ⟨by rw [HV.out]; rfl, rfl⟩
theorem prefix_calls (s p : ByteArray) (w : World) : Calls Tryz.prog 246 #[.string s, .string p] w fun e w' => e = .returned (.bool (preB s p)) ∧ w = w' := by
 have HC := mk0 (fun W => lite_calls s p W)
 generalize preB s p = z at HC ⊢
 go_enter Tryz.func246, Tryz.ntmps246
 go_wp2_with fail
 refine (HC.out _).mono ?_
 rintro e w1 ⟨rfl, rfl⟩
 go_wp2
 go_ret
 exact ⟨rfl, rfl⟩
def takesB (p : SP) (v : SV) : Bool :=
 if p.f1 = 1 then decide (p.f2 ≤ v.f0) && decide (v.f0 ≤ p.f3)
 else if p.f1 = 2 then v.f1.toList == p.f4.toList
 else preB v.f1 p.f4
theorem takes_calls (p : SP) (v : SV) (w : World) : Calls Tryz.prog 225 #[enc46 p, encV v] w fun e w' => e = .returned (.bool (takesB p v)) ∧ Below w.heap.size w w' := by
 unfold enc46 encV
 by_cases t1 : p.f1 = 1
 ·
  have o1 : (p.f1 == 1) = true := by simpa using t1
  have HV := mk0 (show takesB p v = (decide (p.f2 ≤ v.f0) && decide (v.f0 ≤ p.f3)) by unfold takesB; rw [if_pos t1])
  generalize takesB p v = z at HV ⊢
  clear t1
  by_cases t2 : p.f2 ≤ v.f0
  ·
   have e2 := decide_eq_true t2
   have HZ := mk0 (show z = decide (v.f0 ≤ p.f3) by rw [HV.out, e2]; rfl)
   clear t2
   cases e3 : decide (v.f0 ≤ p.f3) with
   | true =>
    rw [e3] at HZ
    go_enter Tryz.func225, Tryz.ntmps225
    go_wp2
    go_ret
    exact ⟨by rw [HZ.out]; first | rfl | simp, below_alloc (below_alloc (Below.refl _ _) _) _⟩
   | false =>
    rw [e3] at HZ
    go_enter Tryz.func225, Tryz.ntmps225
    go_wp2
    go_ret
    exact ⟨by rw [HZ.out]; first | rfl | simp, below_alloc (below_alloc (Below.refl _ _) _) _⟩
  ·
   have e2 := decide_eq_false t2
   have HZ := mk0 (show z = false by rw [HV.out, e2]; rfl)
   clear t2
   go_enter Tryz.func225, Tryz.ntmps225
   go_wp2
   go_ret
   exact ⟨by rw [HZ.out]; first | rfl | simp, below_alloc (below_alloc (Below.refl _ _) _) _⟩
 ·
  have o1 : (p.f1 == 1) = false := by simpa using t1
  by_cases t2 : p.f1 = 2
  ·
   have o2 : (p.f1 == 2) = true := by simpa using t2
   have HZ := mk0 (show takesB p v = (v.f1.toList == p.f4.toList) by unfold takesB; rw [if_neg t1, if_pos t2])
   generalize takesB p v = z at HZ ⊢
   clear t1 t2
   cases e1 : (v.f1.toList == p.f4.toList) with
   | true =>
    rw [e1] at HZ
    go_enter Tryz.func225, Tryz.ntmps225
    go_wp2
    go_ret
    exact ⟨by rw [HZ.out]; first | rfl | simp, below_alloc (below_alloc (Below.refl _ _) _) _⟩
   | false =>
    rw [e1] at HZ
    go_enter Tryz.func225, Tryz.ntmps225
    go_wp2
    go_ret
    exact ⟨by rw [HZ.out]; first | rfl | simp, below_alloc (below_alloc (Below.refl _ _) _) _⟩
  ·
   have o2 : (p.f1 == 2) = false := by simpa using t2
   have HZ := mk0 (show takesB p v = preB v.f1 p.f4 by unfold takesB; rw [if_neg t1, if_neg t2])
   have HC := mk0 (fun W => prefix_calls v.f1 p.f4 W)
   generalize takesB p v = z at HZ ⊢
   generalize preB v.f1 p.f4 = z2 at HZ HC
   clear t1 t2
   go_enter Tryz.func225, Tryz.ntmps225
   go_wp2_with fail
   refine (HC.out _).mono ?_
   rintro e w1 ⟨rfl, rfl⟩
   go_wp2
   go_ret
   exact ⟨by rw [HZ.out]; rfl, below_alloc (below_alloc (Below.refl _ _) _) _⟩
theorem filterBad_find {S : List SA} {F : List SP} (h : filterBad S F = none) : ∀ p ∈ F, 0 ≤ findB p.f0 S := by
 unfold filterBad at h
 split at h
 ·
  cases h
 ·
  intro p hp
  obtain ⟨i, hi, rfl⟩ := List.getElem_of_mem hp
  have := badFrom_none F.length 0 h i (Nat.zero_le _) (by omega)
  have e : F.getD i z168 = F[i] := by rw [List.getD_eq_getElem?_getD, List.getElem?_eq_getElem hi]; rfl
  unfold okAt at this
  rw [e] at this
  simp only [Bool.and_eq_true, decide_eq_true_eq] at this
  exact this.1.1
set_option maxHeartbeats 4000000 in
theorem match_clo (A B : Option Addr) (n m c d ge gs : Nat) (S : List SA) (V : List SV) (F : List SP) (pay : ByteArray) (w : World) (hn : S.length = n) (hm : V.length = n) (hmm : m = n) (hl : n ≤ 100000) (hr : Kd.C k30 w A n S) (hr2 : Kd.C k37 w B n V)
 (hge : w.heap[ge]? = some (.cells #[.slice B m d, .string pay] 40 (0, 0))) (hgs : w.heap[gs]? = some (.cells #[.slice A n c] 32 (0, 0))) (hf : ∀ p ∈ F, 0 ≤ findB p.f0 S) :
 CloOn 224 #[.pointer (some ⟨ge, 0, none⟩), .pointer (some ⟨gs, 0, none⟩)] enc46 (fun p => !takesB p (V.getD (findB p.f0 S).toNat z37)) w F := fun W p hp hb => by
 subst hmm
 have HS := mk0 (Kd.C_below hr hb)
 have HV := mk0 (Kd.C_below hr2 hb)
 have HGE := mk0 ((hb.block _ (blk_lt hge)).trans hge)
 have HGS := mk0 ((hb.block _ (blk_lt hgs)).trans hgs)
 obtain ⟨k, hk⟩ := Int.eq_ofNat_of_zero_le (hf p hp)
 have hkn : k < m := by have := findB_lt p.f0 S; omega
 have HN := mk0 hn
 have HK := mk0 hk
 clear hr hr2 hge hgs hf hp hb hm hn hk
 show Calls _ _ (#[enc46 p] ++ _) W fun e w' => e = .returned (.bool (!takesB p (V.getD (findB p.f0 S).toNat z37))) ∧ Below W.heap.size W w'
 rw [HK.out, Int.toNat_natCast]
 obtain ⟨v, hv⟩ : ∃ v, v = V.getD k z37 := ⟨_, rfl⟩
 rw [← hv]
 have HVV := mk0 hv
 clear hv
 have HTC := mk0 (fun W => takes_calls p v W)
 generalize takesB p v = z at HTC ⊢
 show Calls _ _ #[enc46 p, .pointer (some ⟨ge, 0, none⟩), .pointer (some ⟨gs, 0, none⟩)] W _
 unfold enc46 encV at HTC
 unfold enc46
 go_enter Tryz.func224, Tryz.ntmps224
 go_wp2_with fail
 generalize hW : W.alloc (Obj.cells #[.string p.f0, .int .i64 p.f1, .int .i64 p.f2, .int .i64 p.f3, .string p.f4] 168) = W2
 have hb2 : Below W.heap.size W W2 := by rw [← hW]; exact below_alloc (Below.refl _ _) _
 have HKP : W2.heap[W.heap.size]? = some (.cells #[.string p.f0, .int .i64 p.f1, .int .i64 p.f2, .int .i64 p.f3, .string p.f4] 168 (0, 0)) := by rw [← hW]; exact blk_new W _
 have HGE2 := (hb2.block _ (blk_lt HGE.out)).trans HGE.out
 have HGS2 := (hb2.block _ (blk_lt HGS.out)).trans HGS.out
 have HS2 := mk0 (Kd.C_below HS.out hb2)
 have HB := mk0 hb2
 obtain ⟨ad2, e, k0, k1⟩ := at_T37 (Kd.C_below HV.out hb2) (k : Int) (by omega) (by omega)
 rw [Int.toNat_natCast] at k0 k1
 have hrd : rd_T37 V (k : Int) = V.getD k z37 := rfl
 rw [hrd, ← HVV.out] at k0 k1
 cases e
 clear hW HGE HGS HS HV hb2 hrd
 generalize W.heap.size = gp at HKP ⊢
 have q0 : ∀ q : BelowP W2, q.w.cell? ⟨gp, 0, none⟩ = some (.string p.f0) := fun q => q.cell ((blk_cell HKP 0).trans rfl)
 have q1 : ∀ q : BelowP W2, q.w.cell? ⟨gp, 1, none⟩ = some (.int .i64 p.f1) := fun q => q.cell ((blk_cell HKP 1).trans rfl)
 have q2 : ∀ q : BelowP W2, q.w.cell? ⟨gp, 2, none⟩ = some (.int .i64 p.f2) := fun q => q.cell ((blk_cell HKP 2).trans rfl)
 have q3 : ∀ q : BelowP W2, q.w.cell? ⟨gp, 3, none⟩ = some (.int .i64 p.f3) := fun q => q.cell ((blk_cell HKP 3).trans rfl)
 have q4 : ∀ q : BelowP W2, q.w.cell? ⟨gp, 4, none⟩ = some (.string p.f4) := fun q => q.cell ((blk_cell HKP 4).trans rfl)
 have q5 : ∀ q : BelowP W2, q.w.cell? ⟨ge, 0, none⟩ = some (.slice (some ad2) m d) := fun q => q.cell ((blk_cell HGE2 0).trans rfl)
 have q6 : ∀ q : BelowP W2, q.w.cell? ⟨gs, 0, none⟩ = some (.slice A m c) := fun q => q.cell ((blk_cell HGS2 0).trans rfl)
 have r0 : ∀ q : BelowP W2, q.w.cell? _ = _ := fun q => q.cell k0
 have r1 : ∀ q : BelowP W2, q.w.cell? _ = _ := fun q => q.cell k1
 have HFC := mk0 (fun q : BelowP W2 => find_calls A m c S p.f0 q.w HN.out (Kd.C_below HS2.out q.h) hl)
 rw [HK.out] at HFC
 have p1 : (0 : Int) ≤ (k : Int) := by omega
 have p2 : (k : Int) < (m : Int) := by omega
 clear HKP HGE2 HGS2 HS2 k0 k1 HK HVV
 refine wp_region_quiet_below (by kernel_rfl) (by kernel_rfl) ?_
 repeat (quiet_step (first | (go_at_call 88; (with_reducible refine Calls.below_of (HFC.out _))) | (go_at_call 225; (with_reducible refine Calls.below_of (HTC.out _)))))
 refine wpQuiet_nil ?_
 rintro _ ⟨pq, rfl⟩
 go_wp2
 go_ret
 exact ⟨rfl, below_then HB.out HB.out.size pq.h⟩
def matchB (S : List SA) (F : List SP) (V : List SV) (pay : ByteArray) : Bool :=
 (filterBad S F).isNone && ((evBad S V pay).isNone && F.all fun p => takesB p (V.getD (findB p.f0 S).toNat z37))
theorem evBad_len {S : List SA} {V : List SV} {pay : ByteArray} (h : evBad S V pay = none) : V.length = S.length := by
 unfold evBad at h
 split at h
 ·
  cases h
 ·
  omega
theorem all_any {α : Type} (p : α → Bool) (l : List α) : l.all p = !(l.any fun x => !p x) := by
 induction l with
 | nil => rfl
 | cons x r ih => rw [List.all_cons, List.any_cons, ih]; cases p x <;> simp
set_option maxHeartbeats 4000000 in
theorem match_calls (A B E : Option Addr) (n m c d k e0 : Nat) (S : List SA) (F : List SP) (V : List SV) (pay : ByteArray) (w : World) (hn : S.length = n) (hm : F.length = m) (hk : V.length = k) (hr : Kd.C k30 w A n S) (hr2 : Kd.C k168 w B m F) (hr3 : Kd.C k37 w E k V) (hl : n ≤ 100000) (hl2 : m ≤ 100000) (hcd : m ≤ d) :
 Calls Tryz.prog 168 #[.slice A n c, .slice B m d, encE E k e0 pay] w fun e w' => e = .returned (.bool (matchB S F V pay)) ∧ Below w.heap.size w w' := by
 have HS := mk0 hr
 have HF := mk0 hr2
 have HV := mk0 hr3
 have HN := mk0 hn
 have HM := mk0 hm
 have HK := mk0 hk
 have HZ := mk0 (show matchB S F V pay = ((filterBad S F).isNone && ((evBad S V pay).isNone && F.all fun p => takesB p (V.getD (findB p.f0 S).toNat z37))) from rfl)
 generalize matchB S F V pay = z at HZ ⊢
 clear hr hr2 hr3 hn hm hk
 have HEV := mk0 (fun W (h1 : Kd.C k30 W A n S) (h2 : Kd.C k37 W E k V) => event_calls A E n k c e0 S V pay W HN.out HK.out h1 h2 hl)
 unfold encE at HEV ⊢
 go_enter Tryz.func168, Tryz.ntmps168
 go_wp2_with fail
 have hb0 := below_alloc (below_alloc (Below.refl w.heap.size w) (.cells #[.slice A n c] 32)) (.cells #[.slice E k e0, .string pay] 40)
 have hs1 : (w.alloc (.cells #[.slice A n c] 32)).heap.size = w.heap.size + 1 := by show (w.heap.push _).size = _; exact Array.size_push _
 have hgs := (Below.heap_alloc (w.alloc (.cells #[.slice A n c] 32)) (.cells #[.slice E k e0, .string pay] 40) w.heap.size (by rw [hs1]; omega)).trans (heap_alloc_new w _)
 have hge := heap_alloc_new (w.alloc (.cells #[.slice A n c] 32)) (.cells #[.slice E k e0, .string pay] 40)
 rw [hs1] at hge
 have HB := mk0 hb0
 have KS := mk0 hgs
 have KE := mk0 hge
 clear hs1 hgs hge hb0
 generalize (w.alloc (.cells #[.slice A n c] 32)).alloc (.cells #[.slice E k e0, .string pay] 40) = w0 at HB KS KE ⊢
 obtain ⟨gs, hgs⟩ : ∃ g, g = w.heap.size := ⟨_, rfl⟩
 obtain ⟨ge, hge⟩ : ∃ g, g = w.heap.size + 1 := ⟨_, rfl⟩
 rw [← hgs] at KS
 rw [← hge] at KE
 rw [← hge, ← hgs]
 clear hgs hge
 refine (filter_calls A B n m c d S F _ HN.out HM.out (Kd.C_below HS.out HB.out) (Kd.C_below HF.out HB.out) hl hl2 hcd).mono ?_
 rintro e w1 hq
 cases hfb : filterBad S F with
 | some i =>
  obtain ⟨b, hbl, rfl, hf, hb⟩ := hq.bad hfb
  have HZ2 := mk0 (show z = false by rw [HZ.out, hfb]; rfl)
  have n_ := mk0 (below_then HB.out HB.out.size hb)
  clear HB hb hq hfb hf hbl
  have HB := n_
  clear n_
  go_wp2
  go_ret
  exact ⟨by rw [HZ2.out]; rfl, HB.out⟩
 | none =>
  obtain ⟨rfl, hb⟩ := hq.ok hfb
  have HFB := mk0 hfb
  have n_ := mk0 (below_then HB.out HB.out.size hb)
  have k1_ := mk0 ((hb.block _ (blk_lt KS.out)).trans KS.out)
  have k2_ := mk0 ((hb.block _ (blk_lt KE.out)).trans KE.out)
  clear HB hb hq hfb KS KE
  have HB := n_
  have KS := k1_
  have KE := k2_
  clear n_ k1_ k2_
  have y0 := (blk_cell KS.out 0).trans (show _ = some (Value.slice A n c) from rfl)
  have y1 := (blk_cell KE.out 0).trans (show _ = some (Value.slice E k e0) from rfl)
  have y2 := (blk_cell KE.out 1).trans (show _ = some (Value.string pay) from rfl)
  go_wp2_with fail
  refine (HEV.out _ (Kd.C_below HS.out HB.out) (Kd.C_below HV.out HB.out)).mono ?_
  rintro e w2 hq
  cases heb : evBad S V pay with
  | some i =>
   obtain ⟨b, hbl, rfl, hf, hb⟩ := hq.bad heb
   have HZ2 := mk0 (show z = false by rw [HZ.out, HFB.out, heb]; rfl)
   have n_ := mk0 (below_then HB.out HB.out.size hb)
   clear HB hb hq heb hf hbl y0 y1 y2
   have HB := n_
   clear n_
   go_wp2
   go_ret
   exact ⟨by rw [HZ2.out]; rfl, HB.out⟩
  | none =>
   obtain ⟨rfl, hb⟩ := hq.ok heb
   have hlen := evBad_len heb
   have hkn : k = n := by have := HK.out; have := HN.out; omega
   have HZ2 := mk0 (show z = !(F.any fun p => !takesB p (V.getD (findB p.f0 S).toNat z37)) by rw [HZ.out, HFB.out, heb, all_any]; rfl)
   have n_ := mk0 (below_then HB.out HB.out.size hb)
   have k1_ := mk0 ((hb.block _ (blk_lt KS.out)).trans KS.out)
   have k2_ := mk0 ((hb.block _ (blk_lt KE.out)).trans KE.out)
   clear HB hb hq heb KS KE y0 y1 y2
   have HB := n_
   have KS := k1_
   have KE := k2_
   clear n_ k1_ k2_
   have HVV : Kd.C k37 w E n V := by rw [← hkn]; exact HV.out
   have HC := mk0 (cont46_calls 224 #[.pointer (some ⟨ge, 0, none⟩), .pointer (some ⟨gs, 0, none⟩)] _ B m d F w2 (enters_of Tryz.func224 (by kernel_rfl) rfl) HM.out (Kd.C_below HF.out HB.out) hl2 (match_clo A E n k c e0 ge gs S V F pay w2 HN.out (by rw [HK.out]; exact hkn) hkn hl (Kd.C_below HS.out HB.out) (Kd.C_below HVV HB.out) KE.out KS.out (filterBad_find HFB.out)))
   generalize (F.any fun p => !takesB p (V.getD (findB p.f0 S).toNat z37)) = b at HC HZ2
   clear HVV hkn hlen
   go_wp2_with fail
   refine HC.out.mono ?_
   rintro e w3 ⟨rfl, hb⟩
   have n_ := mk0 (below_then HB.out HB.out.size hb)
   clear HB hb
   go_wp2
   go_ret
   exact ⟨by rw [HZ2.out]; rfl, n_.out⟩
structure NSub where
 id : Int
 F : List SP
structure NEv where
 seq : Int
 V : List SV
 pay : ByteArray
structure NDl where
 sub : Int
 pub : Int
 seq : Int
 V : List SV
 pay : ByteArray
structure Nd where
 addr : Int
 subs : List NSub
 last : Int
 inbox : List NDl
 opn : List NEv
 seq : Int
 lost : Int
def Nd.new (a : Int) : Nd := ⟨a, [], 0, [], [], 0, 0⟩
def Nd.sub (N : Nd) (F : List SP) : Nd := { N with subs := N.subs ++ [⟨N.last + 1, F⟩], last := N.last + 1 }
def Nd.pub (N : Nd) (V : List SV) (pay : ByteArray) : Nd := { N with opn := N.opn ++ [⟨N.seq + 1, V, pay⟩], seq := N.seq + 1 }
def arrS (S : List SA) (pub : Int) (e : NEv) : List NSub → List NDl × Int → List NDl × Int
 | [], x => x
 | s :: r, (b, l) => arrS S pub e r (if matchB S s.F e.V e.pay = true then (if b.length < 64 then (b ++ [⟨s.id, pub, e.seq, e.V, e.pay⟩], l) else (b, l + 1)) else (b, l))
def Nd.arrive (S : List SA) (N : Nd) (e : NEv) : Nd := { N with inbox := (arrS S N.addr e N.subs (N.inbox, N.lost)).1, lost := (arrS S N.addr e N.subs (N.inbox, N.lost)).2 }
def Nd.come (S : List SA) (N : Nd) : List NEv → Nd
 | [] => N
 | e :: r => (N.arrive S e).come S r
def Nd.tick (S : List SA) (N : Nd) : Nd := { N.come S N.opn with opn := [] }
def Nd.polled (N : Nd) (most : Int) : Nat := min most.toNat N.inbox.length
def Nd.poll (N : Nd) (most : Int) : Nd := { N with inbox := N.inbox.drop (N.polled most) }
def Nd.unsub (N : Nd) (id : Int) : Nd := { N with subs := N.subs.filter (fun s => !(s.id == id)), inbox := N.inbox.filter (fun d => !(d.sub == id)) }
structure NdOk (N : Nd) : Prop where
 ids : N.subs.Pairwise (fun a b => a.id ≠ b.id)
 top : ∀ s ∈ N.subs, 1 ≤ s.id ∧ s.id ≤ N.last
 seqs : N.opn.Pairwise (fun a b => a.seq < b.seq)
 high : ∀ e ∈ N.opn, 1 ≤ e.seq ∧ e.seq ≤ N.seq
 seq0 : 0 ≤ N.seq
 last0 : 0 ≤ N.last
 nSubs : N.subs.length ≤ 16
 nOpn : N.opn.length ≤ 8
 nBox : N.inbox.length ≤ 64
theorem NdOk.new (a : Int) : NdOk (Nd.new a) := ⟨List.Pairwise.nil, fun s h => (by cases h), List.Pairwise.nil, fun s h => (by cases h), Int.le_refl _, Int.le_refl _, Nat.zero_le _, Nat.zero_le _, Nat.zero_le _⟩
theorem arrS_len (S : List SA) (pub : Int) (e : NEv) : ∀ (r : List NSub) (x : List NDl × Int), x.1.length ≤ 64 → (arrS S pub e r x).1.length ≤ 64 := by
 intro r
 induction r with
 | nil => intro x h; exact h
 | cons s r ih =>
  rintro ⟨b, l⟩ h
  refine ih _ ?_
  split
  ·
   split
   ·
    rename_i h2
    simp only [List.length_append, List.length_singleton]
    exact h2
   ·
    exact h
  ·
   exact h
theorem NdOk.sub {N : Nd} (h : NdOk N) (F : List SP) (h16 : N.subs.length < 16) : NdOk (N.sub F) := by
 refine ⟨?_, ?_, h.seqs, h.high, h.seq0, by have := h.last0; show 0 ≤ N.last + 1; omega, ?_, h.nOpn, h.nBox⟩
 ·
  show (N.subs ++ [_]).Pairwise _
  rw [List.pairwise_append]
  refine ⟨h.ids, List.pairwise_singleton _ _, fun a ha b hb => ?_⟩
  rw [List.mem_singleton.1 hb]
  have := (h.top a ha).2
  show a.id ≠ N.last + 1
  omega
 ·
  intro s hs
  rcases List.mem_append.1 hs with hs | hs
  ·
   have := h.top s hs
   show 1 ≤ s.id ∧ s.id ≤ N.last + 1
   omega
  ·
   rw [List.mem_singleton.1 hs]
   have := h.last0
   show 1 ≤ N.last + 1 ∧ N.last + 1 ≤ N.last + 1
   omega
 ·
  show (N.subs ++ [_]).length ≤ 16
  rw [List.length_append]
  exact h16
theorem NdOk.pub {N : Nd} (h : NdOk N) (V : List SV) (pay : ByteArray) (h8 : N.opn.length < 8) : NdOk (N.pub V pay) := by
 refine ⟨h.ids, h.top, ?_, ?_, by have := h.seq0; show 0 ≤ N.seq + 1; omega, h.last0, h.nSubs, ?_, h.nBox⟩
 ·
  show (N.opn ++ [_]).Pairwise _
  rw [List.pairwise_append]
  refine ⟨h.seqs, List.pairwise_singleton _ _, fun a ha b hb => ?_⟩
  rw [List.mem_singleton.1 hb]
  have := (h.high a ha).2
  show a.seq < N.seq + 1
  omega
 ·
  intro s hs
  rcases List.mem_append.1 hs with hs | hs
  ·
   have := h.high s hs
   show 1 ≤ s.seq ∧ s.seq ≤ N.seq + 1
   omega
  ·
   rw [List.mem_singleton.1 hs]
   have := h.seq0
   show 1 ≤ N.seq + 1 ∧ N.seq + 1 ≤ N.seq + 1
   omega
 ·
  show (N.opn ++ [_]).length ≤ 8
  rw [List.length_append]
  exact h8
theorem come_kept (S : List SA) : ∀ (r : List NEv) (N : Nd), (N.come S r).subs = N.subs ∧ (N.come S r).last = N.last ∧ (N.come S r).seq = N.seq ∧ (N.come S r).addr = N.addr ∧ (N.inbox.length ≤ 64 → (N.come S r).inbox.length ≤ 64) := by
 intro r
 induction r with
 | nil => intro N; exact ⟨rfl, rfl, rfl, rfl, id⟩
 | cons e r ih =>
  intro N
  obtain ⟨h1, h2, h3, h4, h5⟩ := ih (N.arrive S e)
  exact ⟨h1, h2, h3, h4, fun h => h5 (arrS_len S N.addr e N.subs _ h)⟩
theorem NdOk.tick {N : Nd} (h : NdOk N) (S : List SA) : NdOk (N.tick S) := by
 obtain ⟨h1, h2, h3, h4, h5⟩ := come_kept S N.opn N
 refine ⟨?_, ?_, List.Pairwise.nil, fun s h => (by cases h), ?_, ?_, ?_, Nat.zero_le _, h5 h.nBox⟩
 ·
  show (N.come S N.opn).subs.Pairwise _; rw [h1]; exact h.ids
 ·
  show ∀ s ∈ (N.come S N.opn).subs, 1 ≤ s.id ∧ s.id ≤ (N.come S N.opn).last; rw [h1, h2]; exact h.top
 ·
  show 0 ≤ (N.come S N.opn).seq; rw [h3]; exact h.seq0
 ·
  show 0 ≤ (N.come S N.opn).last; rw [h2]; exact h.last0
 ·
  show (N.come S N.opn).subs.length ≤ 16; rw [h1]; exact h.nSubs
theorem NdOk.poll {N : Nd} (h : NdOk N) (most : Int) : NdOk (N.poll most) :=
 ⟨h.ids, h.top, h.seqs, h.high, h.seq0, h.last0, h.nSubs, h.nOpn, by
  show (N.inbox.drop _).length ≤ 64
  rw [List.length_drop]
  have := h.nBox
  omega⟩
theorem NdOk.unsub {N : Nd} (h : NdOk N) (id : Int) : NdOk (N.unsub id) :=
 ⟨h.ids.filter _, fun s hs => h.top s (List.mem_filter.1 hs).1, h.seqs, h.high, h.seq0, h.last0, Nat.le_trans (List.length_filter_le _ _) h.nSubs, h.nOpn, Nat.le_trans (List.length_filter_le _ _) h.nBox⟩
end Go.Proofs.YtnmpijbcajclgaaGreatDoor.Mine
end
section
namespace Go.Proofs.YtnmpijbcajclgaaGreatDoor.Mine
open Go.Maps
theorem lawInt : Keyed Tryz.prog 3 := int_keyed Tryz.underlying3
theorem keyInt {x : Int} (h : (Lit.int .i64 x).wf = true) : keyOf Tryz.prog 3 (.int .i64 x) = some (.int .i64 x) := by
 unfold keyOf
 rw [Tryz.underlying3]
 show mapKey Tryz.prog 3 (.int .i64 x) = _
 unfold mapKey
 simp [h, Tryz.underlying3]
end Go.Proofs.YtnmpijbcajclgaaGreatDoor.Mine
end
section
namespace Go.Proofs.YtnmpijbcajclgaaGreatDoor.Mine
open Go.Maps Go.ChangeMaps Go.MapKept Go.RowKit
def rawR (v : Value) : Option (DataW Value × List MemPlace) := some (.held v, [])
def Holds {α : Type} (P : Program) (k : TypeId) (kv : α → Value) (D : DataW Value) (f : α → Option Value) : Prop :=
 ∀ x l, keyOf P k (kv x) = some l → Maps.has D l = (f x).isSome ∧ ∀ v, f x = some v → ∀ zd, D.atKey l zd = .held v
def MapIs {α : Type} (P : Program) (k : TypeId) (kv : α → Value) (w : World) (b n : Nat) (f : α → Option Value) : Prop :=
 ∃ D : DataW Value, w.ownsMap P k rawR b n D ∧ Holds P k kv D f
def upd {α β : Type} [DecidableEq α] (f : α → Option β) (x : α) (v : Option β) : α → Option β := fun y => if y = x then v else f y
section
variable {α : Type} {P : Program} {k : TypeId} {kv : α → Value} {w w' : World} {b n : Nat} {f : α → Option Value}
theorem ownsMap_block {H : Type} {R : Value → Option (DataW H × List MemPlace)} {D : DataW H} (h : w.ownsMap P k R b n D) (hb : w'.heap[b]? = w.heap[b]?) : w'.ownsMap P k R b n D := by
 obtain ⟨es, clock, h1, h2⟩ := h
 exact ⟨es, clock, hb.trans h1, h2⟩
theorem ownsMap_lt {H : Type} {R : Value → Option (DataW H × List MemPlace)} {D : DataW H} (h : w.ownsMap P k R b n D) : b < w.heap.size := by
 obtain ⟨es, clock, h1, _⟩ := h
 exact (Array.getElem?_eq_some_iff.1 h1).1
theorem MapIs.lt (h : MapIs P k kv w b n f) : b < w.heap.size := by
 obtain ⟨D, h1, _⟩ := h
 exact ownsMap_lt h1
theorem MapIs.block (h : MapIs P k kv w b n f) (hb : w'.heap[b]? = w.heap[b]?) : MapIs P k kv w' b n f := by
 obtain ⟨D, h1, h2⟩ := h
 exact ⟨D, ownsMap_block h1 hb, h2⟩
theorem MapIs.below (h : MapIs P k kv w b n f) (hb : Below w.heap.size w w') : MapIs P k kv w' b n f := h.block (hb.block b h.lt)
theorem MapIs.mono {m : Nat} (h : MapIs P k kv w b n f) (hm : n ≤ m) : MapIs P k kv w b m f := by
 obtain ⟨D, ⟨es, clock, h1, h3, h4, h5⟩, h2⟩ := h
 exact ⟨D, ⟨es, clock, h1, h3, Nat.le_trans h4 hm, h5⟩, h2⟩
theorem MapIs.look1 (h : MapIs P k kv w b n f) (K : Keyed P k) {t e : TypeId} (ht : P.underlying t = some (.map k e)) {z : Value} (hz : (zeroValue e).run P w = .ok z w) {x : α} {l : Lit} (hk : keyOf P k (kv x) = some l) :
 (Instr.lookup t (.map (some b)) (kv x) false).run P w = .ok ((f x).getD z) w := by
 obtain ⟨D, ⟨es, clock, hb, F, _, rfl⟩, h2⟩ := h
 obtain ⟨h3, h4⟩ := h2 x l hk
 rcases Maps.fit_look false K ht hz hb F hk with ⟨hrun, _, hat⟩ | ⟨e0, y, _, _, hrun, hRv, hat, _⟩
 ·
  have h5 := Maps.has_false_of_atKey hat
  cases hf : f x with
  | none => exact hrun
  | some v => rw [h5, hf] at h3; cases h3
 ·
  have h5 := Maps.has_true_of_atKey hat
  cases hf : f x with
  | none => rw [h5, hf] at h3; cases h3
  | some v =>
   have h6 := h4 v hf (.held z)
   rw [hat (.held z)] at h6
   have h7 : y = (.held e0.val, []) := (Option.some.inj hRv).symm
   rw [h7] at h6
   have h8 : e0.val = v := by injection h6
   rw [← h8]
   exact hrun
theorem MapIs.store [DecidableEq α] (h : MapIs P k kv w b n f) (K : Keyed P k) (hinj : ∀ x y, kv x = kv y → x = y) {t e : TypeId} (ht : P.underlying t = some (.map k e)) (hn : n < maxLen) {x : α} {l : Lit} (hk : keyOf P k (kv x) = some l) (v : Value) :
 ∃ w', (Instr.mapUpdate t (.map (some b)) (kv x) v).run P w = .ok () w' ∧ MapIs P k kv w' b (n + 1) (upd f x (some v)) ∧ w.grownBy w' (some b) := by
 obtain ⟨D, h1, h2⟩ := h
 obtain ⟨w', hrun, hown, hturn⟩ := h1.store K ht hn hk (d := .held v) (ps := []) rfl
 refine ⟨w', hrun, ⟨_, hown, fun y l' hy => ?_⟩, hturn.grown⟩
 by_cases hxy : y = x
 ·
  subst hxy
  obtain rfl : l' = l := Option.some.inj (hy.symm.trans hk)
  unfold upd
  rw [if_pos rfl]
  exact ⟨Maps.has_put_same h1.isMap (K.key hk) _, fun v' hv' zd => by rw [Maps.atKey_put_same h1.isMap (K.key hk)]; injection hv' with hv'; rw [hv']⟩
 ·
  have hne : l' ≠ l := fun e => hxy (hinj _ _ (K.inj hy (e ▸ hk)))
  unfold upd
  rw [if_neg hxy, Maps.has_put_other hne]
  exact ⟨(h2 y l' hy).1, fun v' hv' zd => by rw [Maps.atKey_put_other hne]; exact (h2 y l' hy).2 v' hv' zd⟩
theorem MapIs.drop [DecidableEq α] (h : MapIs P k kv w b n f) (K : Keyed P k) (hinj : ∀ x y, kv x = kv y → x = y) {t e : TypeId} (ht : P.underlying t = some (.map k e)) {x : α} {l : Lit} (hk : keyOf P k (kv x) = some l) (ty : TypeId) :
 ∃ w', (Builtin.delete_ #[t, k] ty #[.map (some b), kv x]).run P w = .ok (.tuple #[]) w' ∧ MapIs P k kv w' b n (upd f x none) ∧ w.grownBy w' (some b) := by
 obtain ⟨D, h1, h2⟩ := h
 obtain ⟨w', hrun, hown, hturn⟩ := h1.drop K ht hk ty
 refine ⟨w', hrun, ⟨_, hown, fun y l' hy => ?_⟩, hturn.grown⟩
 by_cases hxy : y = x
 ·
  subst hxy
  obtain rfl : l' = l := Option.some.inj (hy.symm.trans hk)
  unfold upd
  rw [if_pos rfl]
  exact ⟨Maps.has_del_same, fun v' hv' zd => by cases hv'⟩
 ·
  have hne : l' ≠ l := fun e => hxy (hinj _ _ (K.inj hy (e ▸ hk)))
  unfold upd
  rw [if_neg hxy, Maps.has_del_other hne]
  exact ⟨(h2 y l' hy).1, fun v' hv' zd => by rw [Maps.atKey_del_other hne]; exact (h2 y l' hy).2 v' hv' zd⟩
theorem MapIs.made (w : World) : MapIs P k kv (w.alloc (.map #[] 0)) w.heap.size 0 (fun _ => none) :=
 ⟨_, World.ownsMap_made _ _ _ _, fun x l hk => ⟨rfl, fun v hv => by cases hv⟩⟩
end
end Go.Proofs.YtnmpijbcajclgaaGreatDoor.Mine
end
