/- Texts of one claim, one behind the other, made short by a program. -/
import Derived.Test.YtlokmijoaocofaaGreatDoorMP8
set_option linter.unusedSimpArgs false
set_option linter.unusedVariables false
set_option maxRecDepth 100000
section
namespace Go.Proofs.YtlokmijoaocofaaGreatDoor.Mine
open Go.RowKit YtlokmijoaocofaaGreatDoorW.PrintWords YtlokmijoaocofaaGreatDoorW.PrintLast YtlokmijoaocofaaGreatDoorW.PrintMore
open PBoardPlays
def predOk (a : S61) (p : S149) : Bool :=
 if p.f1 = 1 then (a.f1 == 1) && decide (a.f2 ≤ p.f2) && decide (p.f3 ≤ a.f3) && decide (p.f2 ≤ p.f3) && (p.f4.toList == [])
 else if p.f1 = 2 ∨ (p.f1 = 3 ∧ p.f4.toList ≠ []) then (a.f1 == 2) && (p.f2 == 0) && (p.f3 == 0) && strOk p.f4
 else false
def okAt (S : List S61) (F : List S149) (i : Nat) : Bool :=
 decide (0 ≤ findB (F.getD i z149).f0 S) && !((F.take i).any fun x => x.f0.toList == (F.getD i z149).f0.toList) && predOk (S.getD (findB (F.getD i z149).f0 S).toNat z61) (F.getD i z149)
def badFrom (S : List S61) (F : List S149) : Nat → Nat → Option Nat
 | 0, _ => none
 | k + 1, i => if okAt S F i then badFrom S F k (i + 1) else some i
def filterBad (S : List S61) (F : List S149) : Option Nat := if F.length < 1 ∨ 4 < F.length then some 0 else badFrom S F F.length 0
def FilterPost (w : World) (S : List S61) (F : List S149) (e : Ending) (w' : World) : Prop :=
 match filterBad S F with
 | none => e = .returned .nilIface ∧ Below w.heap.size w w'
 | some i => ∃ b, w.heap.size ≤ b ∧ e = .returned (.iface 143 (.pointer (some ⟨b, 0, none⟩))) ∧ IsFault w' b ⟨#[118, 97, 108, 117, 101]⟩ (i : Int) 3 ∧ Below w.heap.size w w'
theorem fp_bad {w w' : World} {S : List S61} {F : List S149} {e : Ending} {i : Nat} (h : filterBad S F = some i) (ho : ∃ b, w.heap.size ≤ b ∧ e = .returned (.iface 143 (.pointer (some ⟨b, 0, none⟩))) ∧ IsFault w' b ⟨#[118, 97, 108, 117, 101]⟩ (i : Int) 3 ∧ Below w.heap.size w w') : FilterPost w S F e w' := by
 unfold FilterPost
 rw [h]
 exact ho
theorem fp_ok {w w' : World} {S : List S61} {F : List S149} {e : Ending} (h : filterBad S F = none) (ho : e = .returned .nilIface ∧ Below w.heap.size w w') : FilterPost w S F e w' := by
 unfold FilterPost
 rw [h]
 exact ho
theorem C_take {α : Type} {d : Kd α} {w : World} {A : Option Addr} {n : Nat} {xs : List α} (h : Kd.C d w A n xs) (i : Nat) (hi : i ≤ n) : Kd.C d w A i (xs.take i) := by
 refine ⟨by rw [List.length_take]; have := h.1; omega, by have := h.2.1; omega, fun h0 => ?_⟩
 obtain ⟨ad, e, hc⟩ := h.2.2 (by omega)
 refine ⟨ad, e, fun j q hj => hc j q ?_⟩
 rw [List.getElem?_take] at hj
 split at hj
 ·
  exact hj
 ·
  cases hj
theorem okAt_no1 {S : List S61} {F : List S149} {i : Nat} (h : findB (F.getD i z149).f0 S < 0) : okAt S F i = false := by
 unfold okAt
 rw [decide_eq_false (by omega)]
 rfl
theorem okAt_no2 {S : List S61} {F : List S149} {i : Nat} (h : ((F.take i).any fun x => x.f0.toList == (F.getD i z149).f0.toList) = true) : okAt S F i = false := by
 unfold okAt
 rw [h]
 simp
theorem okAt_is {S : List S61} {F : List S149} {i : Nat} (h0 : 0 ≤ findB (F.getD i z149).f0 S) (h : ((F.take i).any fun x => x.f0.toList == (F.getD i z149).f0.toList) = false) : okAt S F i = predOk (S.getD (findB (F.getD i z149).f0 S).toNat z61) (F.getD i z149) := by
 unfold okAt
 rw [h, decide_eq_true h0]
 rfl
theorem idxFrom_lt {α : Type} (p : α → Bool) : ∀ (l : List α) (i : Nat), idxFrom p l i < (i : Int) + l.length
 | [], i => by simp only [idxFrom, List.length_nil]; omega
 | x :: r, i => by
  unfold idxFrom
  split
  ·
   simp only [List.length_cons]; omega
  ·
   have := idxFrom_lt p r (i + 1)
   simp only [List.length_cons]
   omega
theorem findB_lt (nm : ByteArray) (L : List S61) : findB nm L < (L.length : Int) := by
 have := idxFrom_lt (fun x : S61 => x.f0.toList == nm.toList) L 0
 unfold findB idxB
 omega
set_option maxHeartbeats 8000000 in
theorem filter_calls (A B : Option Addr) (n m c d : Nat) (S : List S61) (F : List S149) (w : World) (hn : S.length = n) (hm : F.length = m) (hr : Kd.C k61 w A n S) (hr2 : Kd.C k149 w B m F) (hl : n ≤ 100000) (hl2 : m ≤ 100000) (hcd : m ≤ d) :
 Calls Tryz.prog 52 #[.slice A n c, .slice B m d] w (FilterPost w S F) := by
 have HRS := mk0 hr
 have HRF := mk0 hr2
 have HN := mk0 hn
 have HM := mk0 hm
 clear hr hr2 hn hm
 by_cases hlen : m < 1 ∨ 4 < m
 ·
  have HB := mk0 (fun e w' ho => fp_bad (w := w) (w' := w') (S := S) (F := F) (e := e) (i := 0) (by unfold filterBad; rw [if_pos (by have := HM.out; omega)]) ho)
  generalize FilterPost w S F = POST at HB ⊢
  by_cases h1 : m < 1
  ·
   have q1 : decide ((m : Int) < 1) = true := decide_eq_true (by omega)
   clear hlen
   obtain rfl : m = 0 := by omega
   go_enter Tryz.func52, Tryz.ntmps52
   go_wp2_with fail
   refine (vfault_calls _ _ _).mono ?_
   rintro e w1 ⟨b, h1, rfl, hf, hb⟩
   go_wp2
   try go_ret
   exact HB.out _ _ ⟨b, h1, rfl, hf, hb⟩
  ·
   have q1 : decide ((m : Int) < 1) = false := decide_eq_false (by omega)
   have q2 : decide (4 < (m : Int)) = true := decide_eq_true (by omega)
   clear hlen
   go_enter Tryz.func52, Tryz.ntmps52
   go_wp2_with fail
   refine (vfault_calls _ _ _).mono ?_
   rintro e w1 ⟨b, h1, rfl, hf, hb⟩
   go_wp2
   try go_ret
   exact HB.out _ _ ⟨b, h1, rfl, hf, hb⟩
 ·
  have q1 : decide ((m : Int) < 1) = false := decide_eq_false (by omega)
  have q2 : decide (4 < (m : Int)) = false := decide_eq_false (by omega)
  have HFB := mk0 (show filterBad S F = badFrom S F m 0 by unfold filterBad; rw [if_neg (by have := HM.out; omega), HM.out])
  have HEP := mk0 (fun i e w' h ho => fp_bad (w := w) (w' := w') (S := S) (F := F) (e := e) (i := i) h ho)
  have HOP := mk0 (fun e w' h ho => fp_ok (w := w) (w' := w') (S := S) (F := F) (e := e) h ho)
  generalize FilterPost w S F = POST at HEP HOP ⊢
  clear hlen
  go_enter Tryz.func52, Tryz.ntmps52
  go_wp2_with fail
  go_loopg [5, 6, 7, 8, 20, 42, 44, 46] (m + 1) (fun k v5 v6 v7 v8 v20 v42 v44 v46 W => ∃ i : Nat, Aside0 (i ≤ m ∧ k + i = m + 1 ∧ filterBad S F = badFrom S F (m - i) i) ∧ v20 = .int .i64 (i : Int) ∧ Aside0 (Below w.heap.size w W))
  case atStart => exact ⟨0, ⟨by omega, by omega, HFB.out⟩, rfl, ⟨Below.refl _ _⟩⟩
  case round =>
   obtain ⟨i, HI, rfl, HB⟩ := hrel
   by_cases hi : i < m
   ·
    have b1 : decide ((i : Int) < (m : Int)) = true := decide_eq_true (by omega)
    have b2 : decide (i < m) = true := decide_eq_true (by omega)
    have p1 : (0 : Int) ≤ (i : Int) := by omega
    have p2 : (i : Int) < (m : Int) := by omega
    have hstep : badFrom S F (m - i) i = if okAt S F i then badFrom S F (m - (i + 1)) (i + 1) else some i := by
     rw [show m - i = (m - (i + 1)) + 1 by omega]
     rfl
    have HST := mk0 hstep
    clear hstep
    obtain ⟨ad, e, h0, h1, h2, h3, h4⟩ := at_T149 HRF.out i p1 p2
    cases e
    rw [Int.toNat_natCast] at h0 h1 h2 h3 h4
    replace h0 := (HB.out.cell (World.block_lt_of_cell? w _ h0)).trans h0
    replace h1 := (HB.out.cell (World.block_lt_of_cell? w _ h1)).trans h1
    replace h2 := (HB.out.cell (World.block_lt_of_cell? w _ h2)).trans h2
    replace h3 := (HB.out.cell (World.block_lt_of_cell? w _ h3)).trans h3
    replace h4 := (HB.out.cell (World.block_lt_of_cell? w _ h4)).trans h4
    have hrd : rd_T149 F (i : Int) = F.getD i z149 := rfl
    rw [hrd] at h0 h1 h2 h3 h4
    obtain ⟨p, hp⟩ : ∃ p, p = F.getD i z149 := ⟨_, rfl⟩
    rw [← hp] at h0 h1 h2 h3 h4
    have HP := mk0 hp
    clear hrd hp
    go_wp2_with fail
    refine (find_calls A n c S p.f0 _ HN.out (Kd.C_below HRS.out (below_alloc HB.out _)) hl).mono ?_
    rintro e w1 ⟨rfl, hb⟩
    have hnew := heap_alloc_new wr (.cells #[.string p.f0, .int .i64 p.f1, .int .i64 p.f2, .int .i64 p.f3, .string p.f4] 149 (0, 0))
    have KB6 := mk0 ((hb.block _ (blk_lt hnew)).trans hnew)
    have n_ := mk0 (below_then (below_alloc HB.out (.cells #[.string p.f0, .int .i64 p.f1, .int .i64 p.f2, .int .i64 p.f3, .string p.f4] 149)) (below_size (below_alloc HB.out _)) hb)
    clear HB hb hnew h0 h1 h2 h3 h4
    have HB := n_
    clear n_
    generalize wr.heap.size = g6 at KB6 ⊢
    have HLT := mk0 (findB_lt p.f0 S)
    obtain ⟨kk, hkk⟩ : ∃ k, k = findB p.f0 S := ⟨_, rfl⟩
    rw [← hkk] at HLT ⊢
    have HK := mk0 hkk
    clear hkk
    by_cases hneg : kk < 0
    ·
     have n1 : decide (kk < 0) = true := decide_eq_true hneg
     have HE := mk0 (fun e w' ho => HEP.out i e w' (by rw [HI.out.2.2, HST.out, okAt_no1 (by rw [← HP.out, ← HK.out]; exact hneg)]; rfl) ho)
     clear hneg
     go_wp2_with fail
     refine (vfault_calls _ _ _).mono ?_
     rintro e w9 ⟨b, hbl, rfl, hf, hb⟩
     have hfin := HE.out _ _ ⟨b, Nat.le_trans HB.out.size hbl, rfl, hf, below_then HB.out HB.out.size hb⟩
     clear hf hb hbl
     go_wp2
     try go_ret
     exact hfin
    ·
     have n1 : decide (kk < 0) = false := decide_eq_false hneg
     obtain ⟨k, rfl⟩ := Int.eq_ofNat_of_zero_le (by omega : 0 ≤ kk)
     have hkn : k < n := by have := HLT.out; have := HN.out; omega
     have p3 : (i : Int) ≤ (d : Int) := by omega
     have HC := mk0 (fun W (hW : Below w.heap.size w W ∧ W.cell? ⟨g6, 0, none⟩ = some (.string p.f0)) => cont46_calls 77 #[.pointer (some ⟨g6, 0, none⟩)] _ (some ad) i d (F.take i) W (enters_of Tryz.func77 (by kernel_rfl) rfl) (by rw [List.length_take]; have := HM.out; omega) (C_take (Kd.C_below HRF.out hW.1) i (by omega)) (by omega) ((same_clo p.f0 g6 W hW.2).on _))
     have q0 := (blk_cell KB6.out 0).trans (show _ = some (Value.string p.f0) from rfl)
     clear hneg
     go_wp2_with fail
     refine (HC.out _ ⟨HB.out, q0⟩).mono ?_
     rintro e w2 ⟨rfl, hb⟩
     have k_ := mk0 ((hb.block _ (blk_lt KB6.out)).trans KB6.out)
     have n_ := mk0 (below_then HB.out HB.out.size hb)
     clear KB6 HB hb q0
     have KB6 := k_
     have HB := n_
     clear k_ n_ HC
     cases hany : ((F.take i).any fun x => x.f0.toList == p.f0.toList) with
     | true =>
      have HE := mk0 (fun e w' ho => HEP.out i e w' (by rw [HI.out.2.2, HST.out, okAt_no2 (by rw [← HP.out]; exact hany)]; rfl) ho)
      clear hany
      go_wp2_with fail
      refine (vfault_calls _ _ _).mono ?_
      rintro e w9 ⟨b, hbl, rfl, hf, hb⟩
      have hfin := HE.out _ _ ⟨b, Nat.le_trans HB.out.size hbl, rfl, hf, below_then HB.out HB.out.size hb⟩
      clear hf hb hbl
      go_wp2
      try go_ret
      exact hfin
     | false =>
      obtain ⟨a, ha⟩ : ∃ a, a = S.getD k z61 := ⟨_, rfl⟩
      have HOI := mk0 (show okAt S F i = predOk a p by rw [okAt_is (by rw [← HP.out, ← HK.out]; omega) (by rw [← HP.out]; exact hany), ← HP.out, ← HK.out, Int.toNat_natCast, ha])
      clear hany
      obtain ⟨ad2, e, s0, s1, s2, s3⟩ := at_T61 (Kd.C_below HRS.out HB.out) (k : Int) (by omega) (by omega)
      cases e
      rw [Int.toNat_natCast] at s0 s1 s2 s3
      have hrd : rd_T61 S (k : Int) = S.getD k z61 := rfl
      rw [hrd, ← ha] at s0 s1 s2 s3
      clear hrd ha
      have y0 := (blk_cell KB6.out 0).trans (show _ = some (Value.string p.f0) from rfl)
      have y1 := (blk_cell KB6.out 1).trans (show _ = some (Value.int .i64 p.f1) from rfl)
      have y2 := (blk_cell KB6.out 2).trans (show _ = some (Value.int .i64 p.f2) from rfl)
      have y3 := (blk_cell KB6.out 3).trans (show _ = some (Value.int .i64 p.f3) from rfl)
      have y4 := (blk_cell KB6.out 4).trans (show _ = some (Value.string p.f4) from rfl)
      have pk0 : (0 : Int) ≤ (k : Int) := by omega
      have pk1 : (k : Int) < (n : Int) := by omega
      by_cases hf1 : p.f1 = 1
      ·
       have o1 : (p.f1 == 1) = true := by simpa using hf1
       have HF1 := mk0 hf1
       clear hf1
       by_cases t1 : a.f1 = 1
       ·
        have e1 : (a.f1 == 1) = true := by simpa using t1
        by_cases t2 : a.f2 ≤ p.f2
        ·
         have e2 : decide (a.f2 ≤ p.f2) = true := decide_eq_true t2
         by_cases t3 : p.f3 ≤ a.f3
         ·
          have e3 : decide (p.f3 ≤ a.f3) = true := decide_eq_true t3
          by_cases t4 : p.f2 ≤ p.f3
          ·
           have e4 : decide (p.f2 ≤ p.f3) = true := decide_eq_true t4
           by_cases t5 : p.f4.toList = []
           ·
            have e5 : (p.f4.toList == []) = true := by simpa using t5
            have hv : predOk a p = true := by unfold predOk; rw [if_pos HF1.out, e1, e2, e3, e4, e5]; rfl
            have HV := mk0 hv
            clear hv t1 t2 t3 t4
            go_wp2_with fail
            go_quiet (fail)
            go_wp2_with fail
            go_roundg (gk - 1)
            case measure => have := HI.out; omega
            case rel => exact ⟨i + 1, ⟨by omega, by have := HI.out; omega, by rw [HI.out.2.2, HST.out, HOI.out, HV.out]; rfl⟩, rfl, ⟨pw_below_drewN HB.out _⟩⟩
           ·
            have e5 : (p.f4.toList == []) = false := by simpa using t5
            have hv : predOk a p = false := by unfold predOk; rw [if_pos HF1.out, e1, e2, e3, e4, e5]; rfl
            have HV := mk0 hv
            clear hv t1 t2 t3 t4
            have HE := mk0 (fun e w' ho => HEP.out i e w' (by rw [HI.out.2.2, HST.out, HOI.out, HV.out]; rfl) ho)
            go_wp2_with fail
            go_quiet (fail)
            go_wp2_with fail
            refine (vfault_calls _ _ _).mono ?_
            rintro e w9 ⟨b, hbl, rfl, hf, hb⟩
            have hfin := HE.out _ _ ⟨b, Nat.le_trans (pw_below_drewN HB.out _).size hbl, rfl, hf, below_then (pw_below_drewN HB.out _) (pw_below_drewN HB.out _).size hb⟩
            clear hf hb hbl
            go_wp2
            try go_ret
            exact hfin
          ·
           have e4 : decide (p.f2 ≤ p.f3) = false := decide_eq_false t4
           have hv : predOk a p = false := by unfold predOk; rw [if_pos HF1.out, e1, e2, e3, e4]; rfl
           have HV := mk0 hv
           clear hv t1 t2 t3 t4
           have HE := mk0 (fun e w' ho => HEP.out i e w' (by rw [HI.out.2.2, HST.out, HOI.out, HV.out]; rfl) ho)
           go_wp2_with fail
           go_quiet (fail)
           go_wp2_with fail
           refine (vfault_calls _ _ _).mono ?_
           rintro e w9 ⟨b, hbl, rfl, hf, hb⟩
           have hfin := HE.out _ _ ⟨b, Nat.le_trans (pw_below_drewN HB.out _).size hbl, rfl, hf, below_then (pw_below_drewN HB.out _) (pw_below_drewN HB.out _).size hb⟩
           clear hf hb hbl
           go_wp2
           try go_ret
           exact hfin
         ·
          have e3 : decide (p.f3 ≤ a.f3) = false := decide_eq_false t3
          have hv : predOk a p = false := by unfold predOk; rw [if_pos HF1.out, e1, e2, e3]; rfl
          have HV := mk0 hv
          clear hv t1 t2 t3
          have HE := mk0 (fun e w' ho => HEP.out i e w' (by rw [HI.out.2.2, HST.out, HOI.out, HV.out]; rfl) ho)
          go_wp2_with fail
          go_quiet (fail)
          go_wp2_with fail
          refine (vfault_calls _ _ _).mono ?_
          rintro e w9 ⟨b, hbl, rfl, hf, hb⟩
          have hfin := HE.out _ _ ⟨b, Nat.le_trans (pw_below_drewN HB.out _).size hbl, rfl, hf, below_then (pw_below_drewN HB.out _) (pw_below_drewN HB.out _).size hb⟩
          clear hf hb hbl
          go_wp2
          try go_ret
          exact hfin
        ·
         have e2 : decide (a.f2 ≤ p.f2) = false := decide_eq_false t2
         have hv : predOk a p = false := by unfold predOk; rw [if_pos HF1.out, e1, e2]; rfl
         have HV := mk0 hv
         clear hv t1 t2
         have HE := mk0 (fun e w' ho => HEP.out i e w' (by rw [HI.out.2.2, HST.out, HOI.out, HV.out]; rfl) ho)
         go_wp2_with fail
         go_quiet (fail)
         go_wp2_with fail
         refine (vfault_calls _ _ _).mono ?_
         rintro e w9 ⟨b, hbl, rfl, hf, hb⟩
         have hfin := HE.out _ _ ⟨b, Nat.le_trans (pw_below_drewN HB.out _).size hbl, rfl, hf, below_then (pw_below_drewN HB.out _) (pw_below_drewN HB.out _).size hb⟩
         clear hf hb hbl
         go_wp2
         try go_ret
         exact hfin
       ·
        have e1 : (a.f1 == 1) = false := by simpa using t1
        have hv : predOk a p = false := by unfold predOk; rw [if_pos HF1.out, e1]; rfl
        have HV := mk0 hv
        clear hv t1
        have HE := mk0 (fun e w' ho => HEP.out i e w' (by rw [HI.out.2.2, HST.out, HOI.out, HV.out]; rfl) ho)
        go_wp2_with fail
        go_quiet (fail)
        go_wp2_with fail
        refine (vfault_calls _ _ _).mono ?_
        rintro e w9 ⟨b, hbl, rfl, hf, hb⟩
        have hfin := HE.out _ _ ⟨b, Nat.le_trans (pw_below_drewN HB.out _).size hbl, rfl, hf, below_then (pw_below_drewN HB.out _) (pw_below_drewN HB.out _).size hb⟩
        clear hf hb hbl
        go_wp2
        try go_ret
        exact hfin
      ·
       have o1 : (p.f1 == 1) = false := by simpa using hf1
       by_cases hf3 : p.f1 = 3
       ·
        have o3 : (p.f1 == 3) = true := by simpa using hf3
        have o2 : (p.f1 == 2) = false := by rw [hf3]; rfl
        by_cases hs5 : p.f4.toList = []
        ·
         have q5 : (p.f4.toList == []) = true := by simpa using hs5
         have HV := mk0 (show predOk a p = false by unfold predOk; rw [if_neg hf1, if_neg (by rw [hf3, hs5]; simp)])
         clear hf1 hf3
         have HE := mk0 (fun e w' ho => HEP.out i e w' (by rw [HI.out.2.2, HST.out, HOI.out, HV.out]; rfl) ho)
         go_wp2_with fail
         refine (vfault_calls _ _ _).mono ?_
         rintro e w9 ⟨b, hbl, rfl, hf, hb⟩
         have hfin := HE.out _ _ ⟨b, Nat.le_trans HB.out.size hbl, rfl, hf, below_then HB.out HB.out.size hb⟩
         clear hf hb hbl
         go_wp2
         try go_ret
         exact hfin
        ·
         have q5 : (p.f4.toList == []) = false := by simpa using hs5
         have HPO := mk0 (show predOk a p = ((a.f1 == 2) && (p.f2 == 0) && (p.f3 == 0) && strOk p.f4) by unfold predOk; rw [if_neg hf1, if_pos (Or.inr ⟨hf3, hs5⟩)])
         clear hf1 hf3
         by_cases t1 : a.f1 = 2
         ·
          have e1 : (a.f1 == 2) = true := by simpa using t1
          by_cases t2 : p.f2 = 0
          ·
           have e2 : (p.f2 == 0) = true := by simpa using t2
           by_cases t3 : p.f3 = 0
           ·
            have e3 : (p.f3 == 0) = true := by simpa using t3
            cases t4 : strOk p.f4 with
            | true =>
             have HV := mk0 (show predOk a p = true by rw [HPO.out, e1, e2, e3, t4]; rfl)
             have HS4 := mk0 t4
             clear t1 t2 t3 t4
             go_wp2_with fail
             refine (str_calls p.f4 _).mono ?_
             rintro e w5 ⟨rfl, hb⟩
             rw [HS4.out]
             have n_ := mk0 (below_then HB.out HB.out.size hb)
             clear HB hb
             have HB := n_
             clear n_
             go_wp2_with fail
             go_roundg (gk - 1)
             case measure => have := HI.out; omega
             case rel => exact ⟨i + 1, ⟨by omega, by have := HI.out; omega, by rw [HI.out.2.2, HST.out, HOI.out, HV.out]; rfl⟩, rfl, HB⟩
            | false =>
             have HV := mk0 (show predOk a p = false by rw [HPO.out, e1, e2, e3, t4]; rfl)
             have HS4 := mk0 t4
             clear t1 t2 t3 t4
             go_wp2_with fail
             refine (str_calls p.f4 _).mono ?_
             rintro e w5 ⟨rfl, hb⟩
             rw [HS4.out]
             have n_ := mk0 (below_then HB.out HB.out.size hb)
             clear HB hb
             have HB := n_
             clear n_
             have HE := mk0 (fun e w' ho => HEP.out i e w' (by rw [HI.out.2.2, HST.out, HOI.out, HV.out]; rfl) ho)
             go_wp2_with fail
             refine (vfault_calls _ _ _).mono ?_
             rintro e w9 ⟨b, hbl, rfl, hf, hb⟩
             have hfin := HE.out _ _ ⟨b, Nat.le_trans HB.out.size hbl, rfl, hf, below_then HB.out HB.out.size hb⟩
             clear hf hb hbl
             go_wp2
             try go_ret
             exact hfin
           ·
            have e3 : (p.f3 == 0) = false := by simpa using t3
            have HV := mk0 (show predOk a p = false by rw [HPO.out, e1, e2, e3]; rfl)
            clear t1 t2 t3
            have HE := mk0 (fun e w' ho => HEP.out i e w' (by rw [HI.out.2.2, HST.out, HOI.out, HV.out]; rfl) ho)
            go_wp2_with fail
            refine (vfault_calls _ _ _).mono ?_
            rintro e w9 ⟨b, hbl, rfl, hf, hb⟩
            have hfin := HE.out _ _ ⟨b, Nat.le_trans HB.out.size hbl, rfl, hf, below_then HB.out HB.out.size hb⟩
            clear hf hb hbl
            go_wp2
            try go_ret
            exact hfin
          ·
           have e2 : (p.f2 == 0) = false := by simpa using t2
           have HV := mk0 (show predOk a p = false by rw [HPO.out, e1, e2]; rfl)
           clear t1 t2
           have HE := mk0 (fun e w' ho => HEP.out i e w' (by rw [HI.out.2.2, HST.out, HOI.out, HV.out]; rfl) ho)
           go_wp2_with fail
           refine (vfault_calls _ _ _).mono ?_
           rintro e w9 ⟨b, hbl, rfl, hf, hb⟩
           have hfin := HE.out _ _ ⟨b, Nat.le_trans HB.out.size hbl, rfl, hf, below_then HB.out HB.out.size hb⟩
           clear hf hb hbl
           go_wp2
           try go_ret
           exact hfin
         ·
          have e1 : (a.f1 == 2) = false := by simpa using t1
          have HV := mk0 (show predOk a p = false by rw [HPO.out, e1]; rfl)
          clear t1
          have HE := mk0 (fun e w' ho => HEP.out i e w' (by rw [HI.out.2.2, HST.out, HOI.out, HV.out]; rfl) ho)
          go_wp2_with fail
          refine (vfault_calls _ _ _).mono ?_
          rintro e w9 ⟨b, hbl, rfl, hf, hb⟩
          have hfin := HE.out _ _ ⟨b, Nat.le_trans HB.out.size hbl, rfl, hf, below_then HB.out HB.out.size hb⟩
          clear hf hb hbl
          go_wp2
          try go_ret
          exact hfin
       ·
        have o3 : (p.f1 == 3) = false := by simpa using hf3
        by_cases hf2 : p.f1 = 2
        ·
         have o2 : (p.f1 == 2) = true := by simpa using hf2
         have HPO := mk0 (show predOk a p = ((a.f1 == 2) && (p.f2 == 0) && (p.f3 == 0) && strOk p.f4) by unfold predOk; rw [if_neg hf1, if_pos (Or.inl hf2)])
         clear hf1 hf3 hf2
         by_cases t1 : a.f1 = 2
         ·
          have e1 : (a.f1 == 2) = true := by simpa using t1
          by_cases t2 : p.f2 = 0
          ·
           have e2 : (p.f2 == 0) = true := by simpa using t2
           by_cases t3 : p.f3 = 0
           ·
            have e3 : (p.f3 == 0) = true := by simpa using t3
            cases t4 : strOk p.f4 with
            | true =>
             have HV := mk0 (show predOk a p = true by rw [HPO.out, e1, e2, e3, t4]; rfl)
             have HS4 := mk0 t4
             clear t1 t2 t3 t4
             go_wp2_with fail
             refine (str_calls p.f4 _).mono ?_
             rintro e w5 ⟨rfl, hb⟩
             rw [HS4.out]
             have n_ := mk0 (below_then HB.out HB.out.size hb)
             clear HB hb
             have HB := n_
             clear n_
             go_wp2_with fail
             go_roundg (gk - 1)
             case measure => have := HI.out; omega
             case rel => exact ⟨i + 1, ⟨by omega, by have := HI.out; omega, by rw [HI.out.2.2, HST.out, HOI.out, HV.out]; rfl⟩, rfl, HB⟩
            | false =>
             have HV := mk0 (show predOk a p = false by rw [HPO.out, e1, e2, e3, t4]; rfl)
             have HS4 := mk0 t4
             clear t1 t2 t3 t4
             go_wp2_with fail
             refine (str_calls p.f4 _).mono ?_
             rintro e w5 ⟨rfl, hb⟩
             rw [HS4.out]
             have n_ := mk0 (below_then HB.out HB.out.size hb)
             clear HB hb
             have HB := n_
             clear n_
             have HE := mk0 (fun e w' ho => HEP.out i e w' (by rw [HI.out.2.2, HST.out, HOI.out, HV.out]; rfl) ho)
             go_wp2_with fail
             refine (vfault_calls _ _ _).mono ?_
             rintro e w9 ⟨b, hbl, rfl, hf, hb⟩
             have hfin := HE.out _ _ ⟨b, Nat.le_trans HB.out.size hbl, rfl, hf, below_then HB.out HB.out.size hb⟩
             clear hf hb hbl
             go_wp2
             try go_ret
             exact hfin
           ·
            have e3 : (p.f3 == 0) = false := by simpa using t3
            have HV := mk0 (show predOk a p = false by rw [HPO.out, e1, e2, e3]; rfl)
            clear t1 t2 t3
            have HE := mk0 (fun e w' ho => HEP.out i e w' (by rw [HI.out.2.2, HST.out, HOI.out, HV.out]; rfl) ho)
            go_wp2_with fail
            refine (vfault_calls _ _ _).mono ?_
            rintro e w9 ⟨b, hbl, rfl, hf, hb⟩
            have hfin := HE.out _ _ ⟨b, Nat.le_trans HB.out.size hbl, rfl, hf, below_then HB.out HB.out.size hb⟩
            clear hf hb hbl
            go_wp2
            try go_ret
            exact hfin
          ·
           have e2 : (p.f2 == 0) = false := by simpa using t2
           have HV := mk0 (show predOk a p = false by rw [HPO.out, e1, e2]; rfl)
           clear t1 t2
           have HE := mk0 (fun e w' ho => HEP.out i e w' (by rw [HI.out.2.2, HST.out, HOI.out, HV.out]; rfl) ho)
           go_wp2_with fail
           refine (vfault_calls _ _ _).mono ?_
           rintro e w9 ⟨b, hbl, rfl, hf, hb⟩
           have hfin := HE.out _ _ ⟨b, Nat.le_trans HB.out.size hbl, rfl, hf, below_then HB.out HB.out.size hb⟩
           clear hf hb hbl
           go_wp2
           try go_ret
           exact hfin
         ·
          have e1 : (a.f1 == 2) = false := by simpa using t1
          have HV := mk0 (show predOk a p = false by rw [HPO.out, e1]; rfl)
          clear t1
          have HE := mk0 (fun e w' ho => HEP.out i e w' (by rw [HI.out.2.2, HST.out, HOI.out, HV.out]; rfl) ho)
          go_wp2_with fail
          refine (vfault_calls _ _ _).mono ?_
          rintro e w9 ⟨b, hbl, rfl, hf, hb⟩
          have hfin := HE.out _ _ ⟨b, Nat.le_trans HB.out.size hbl, rfl, hf, below_then HB.out HB.out.size hb⟩
          clear hf hb hbl
          go_wp2
          try go_ret
          exact hfin
        ·
         have o2 : (p.f1 == 2) = false := by simpa using hf2
         have HV := mk0 (show predOk a p = false by unfold predOk; rw [if_neg hf1, if_neg (by rintro (h | h); exact hf2 h; exact hf3 h.1)])
         clear hf1 hf3 hf2
         have HE := mk0 (fun e w' ho => HEP.out i e w' (by rw [HI.out.2.2, HST.out, HOI.out, HV.out]; rfl) ho)
         go_wp2_with fail
         refine (vfault_calls _ _ _).mono ?_
         rintro e w9 ⟨b, hbl, rfl, hf, hb⟩
         have hfin := HE.out _ _ ⟨b, Nat.le_trans HB.out.size hbl, rfl, hf, below_then HB.out HB.out.size hb⟩
         clear hf hb hbl
         go_wp2
         try go_ret
         exact hfin
   ·
    have b1 : decide ((i : Int) < (m : Int)) = false := decide_eq_false (by omega)
    have b2 : decide (i < m) = false := decide_eq_false (by omega)
    have hfin := fun W => HOP.out (.returned .nilIface) W (by rw [HI.out.2.2, show m - i = 0 by omega]; rfl)
    have hfin2 := hfin _ ⟨rfl, HB.out⟩
    clear hfin
    go_wp2
    try go_ret
    exact hfin2
def findR (nm : ByteArray) (L : List S63) : Int := idxB (fun x => x.f0.toList == nm.toList) L
set_option maxHeartbeats 1000000 in
theorem rfind_calls (A : Option Addr) (n c : Nat) (L : List S63) (nm : ByteArray) (w : World) (hn : L.length = n) (hr : Kd.C k63 w A n L) (hl : n ≤ 100000) :
 Calls Tryz.prog 61 #[.slice A n c, .string nm] w fun e w' => e = .returned (.int .i64 (findR nm L)) ∧ Below w.heap.size w w' := by
 have HR := mk0 hr
 have HN := mk0 hn
 have HF := mk0 (show findR nm L = idxFrom (fun x => x.f0.toList == nm.toList) L 0 from rfl)
 generalize findR nm L = z at HF ⊢
 clear hr hn
 go_enter Tryz.func61, Tryz.ntmps61
 go_wp2_with fail
 go_loopg [5, 6, 9] (n + 1) (fun k v5 v6 v9 W => ∃ i : Nat, Aside0 (i ≤ n ∧ k + i = n + 1 ∧ z = idxFrom (fun x : S63 => x.f0.toList == nm.toList) (L.drop i) i) ∧ v9 = .int .i64 (i : Int) ∧ Aside0 (Below w.heap.size w W))
 case atStart => exact ⟨0, ⟨by omega, by omega, HF.out⟩, rfl, ⟨Below.refl _ _⟩⟩
 case round =>
  obtain ⟨i, HM, rfl, HB⟩ := hrel
  by_cases hi : i < n
  ·
   have b1 : decide ((i : Int) < (n : Int)) = true := decide_eq_true (by omega)
   have b2 : decide (i < n) = true := decide_eq_true (by omega)
   have p1 : (0 : Int) ≤ (i : Int) := by omega
   have p2 : (i : Int) < (n : Int) := by omega
   obtain ⟨ad, e, h0, h1, h2, h3⟩ := at_T63 HR.out i p1 p2
   cases e
   rw [Int.toNat_natCast] at h0 h1 h2 h3
   have hrd : rd_T63 L (i : Int) = L.getD i z63 := rfl
   rw [hrd] at h0 h1 h2 h3
   have hdr : L.drop i = L.getD i z63 :: L.drop (i + 1) := by
    rw [List.drop_eq_getElem_cons (by have := HN.out; omega), List.getD_eq_getElem?_getD, List.getElem?_eq_getElem (by have := HN.out; omega)]
    rfl
   have HD := mk0 hdr
   clear hrd hdr
   generalize L.getD i z63 = x at h0 h1 h2 h3 HD
   replace h0 := (HB.out.cell (World.block_lt_of_cell? w _ h0)).trans h0
   replace h1 := (HB.out.cell (World.block_lt_of_cell? w _ h1)).trans h1
   replace h2 := (HB.out.cell (World.block_lt_of_cell? w _ h2)).trans h2
   replace h3 := (HB.out.cell (World.block_lt_of_cell? w _ h3)).trans h3
   cases hq : (x.f0.toList == nm.toList) with
   | true =>
    have HQ := mk0 (show z = (i : Int) by rw [HM.out.2.2, HD.out]; unfold idxFrom; rw [hq]; rfl)
    go_wp2
    go_ret
    exact ⟨by rw [HQ.out]; rfl, below_alloc HB.out _⟩
   | false =>
    have HQ := mk0 (show z = idxFrom (fun x : S63 => x.f0.toList == nm.toList) (L.drop (i + 1)) (i + 1) by rw [HM.out.2.2, HD.out]; show (if (x.f0.toList == nm.toList) = true then (i : Int) else _) = _; rw [hq]; rfl)
    go_wp2_with fail
    go_roundg (gk - 1)
    case measure => have := HM.out; omega
    case rel => exact ⟨i + 1, ⟨by omega, by have := HM.out; omega, HQ.out⟩, rfl, ⟨below_alloc HB.out _⟩⟩
  ·
   have b1 : decide ((i : Int) < (n : Int)) = false := decide_eq_false (by omega)
   have b2 : decide (i < n) = false := decide_eq_false (by omega)
   have hd : L.drop i = [] := List.drop_eq_nil_iff.2 (by have := HN.out; omega)
   have HE := mk0 (show z = -1 by rw [HM.out.2.2, hd]; rfl)
   clear hd hi
   go_wp2
   go_ret
   exact ⟨by rw [HE.out]; rfl, HB.out⟩
set_option maxHeartbeats 1000000 in
theorem rstrOk_calls (s : ByteArray) (w : World) (hs : s.size ≤ 1000000000) : Calls Tryz.prog 72 #[.string s] w fun e w' => e = .returned (.bool (strOk s)) ∧ w = w' := by
 have HS := mk0 (show strOk s = (decide (s.size ≤ 40) && (bytes s).all isChar) from rfl)
 generalize strOk s = b at HS ⊢
 go_enter Tryz.func72, Tryz.ntmps72
 go_wp2_with fail
 go_loopg [3] (s.size + 1) (fun k v3 W => ∃ i : Nat, Aside0 (i ≤ s.size ∧ k + i = s.size + 1 ∧ (bytes s).all isChar = (dropB s i).all isChar) ∧ v3 = .int .i64 (i : Int) ∧ W = w)
 case atStart => exact ⟨0, ⟨by omega, by omega, rfl⟩, rfl, rfl⟩
 case round =>
  obtain ⟨i, HM, rfl, rfl⟩ := hrel
  by_cases hi : i < s.size
  ·
   have b1 : decide ((i : Int) < (s.size : Int)) = true := decide_eq_true (by omega)
   have b2 : decide (i < s.size) = true := decide_eq_true (by omega)
   have p1 : (0 : Int) ≤ (i : Int) := by omega
   have p2 : (i : Int) < (s.size : Int) := by omega
   obtain ⟨c, hc⟩ : ∃ c, s[i]'hi = c := ⟨_, rfl⟩
   have hdc := dropB_cons hi
   rw [hc] at hdc
   have HD := mk0 hdc
   have hx : ∀ h : i < s.size, s[i]'h = c := fun _ => hc
   clear hc hdc
   have hch : isChar c = (!decide ((c.toNat : Int) < 32) && !decide (126 < (c.toNat : Int))) := by
    unfold isChar
    rw [Bool.eq_iff_iff]
    simp only [decide_eq_true_eq, Bool.and_eq_true, Bool.not_eq_true', decide_eq_false_iff_not, UInt8.le_iff_toNat_le]
    have e1 : (32 : UInt8).toNat = 32 := rfl
    have e2 : (126 : UInt8).toNat = 126 := rfl
    rw [e1, e2]
    omega
   by_cases g0 : (c.toNat : Int) < 32
   ·
    have g1 := decide_eq_true g0
    have HQ := mk0 (show b = false by rw [HS.out, HM.out.2.2, HD.out, List.all_cons, hch, g1]; simp)
    clear hch g0
    go_wp2
    go_ret
    exact ⟨by rw [HQ.out]; rfl, rfl⟩
   ·
    have g1 := decide_eq_false g0
    by_cases g2 : 126 < (c.toNat : Int)
    ·
     have g3 := decide_eq_true g2
     have HQ := mk0 (show b = false by rw [HS.out, HM.out.2.2, HD.out, List.all_cons, hch, g3]; simp)
     clear hch g0 g2
     go_wp2
     go_ret
     exact ⟨by rw [HQ.out]; rfl, rfl⟩
    ·
     have g3 := decide_eq_false g2
     have HQ := mk0 (show (bytes s).all isChar = (dropB s (i + 1)).all isChar by rw [HM.out.2.2, HD.out, List.all_cons, hch, g1, g3]; simp)
     clear hch g0 g2
     go_wp2_with fail
     go_roundg (gk - 1)
     case measure => have := HM.out; omega
     case rel => exact ⟨i + 1, ⟨by omega, by have := HM.out; omega, HQ.out⟩, rfl, rfl⟩
  ·
   have b1 : decide ((i : Int) < (s.size : Int)) = false := decide_eq_false (by omega)
   have b2 : decide (i < s.size) = false := decide_eq_false (by omega)
   have HQ := mk0 (show b = decide (s.size ≤ 40) by rw [HS.out, HM.out.2.2, dropB_nil (by omega)]; simp)
   by_cases h40 : s.size ≤ 40
   ·
    have q1 : decide ((s.size : Int) ≤ 40) = true := decide_eq_true (by omega)
    rw [decide_eq_true h40] at HQ
    clear hi h40
    go_wp2
    go_ret
    exact ⟨by rw [HQ.out]; rfl, rfl⟩
   ·
    have q1 : decide ((s.size : Int) ≤ 40) = false := decide_eq_false (by omega)
    rw [decide_eq_false h40] at HQ
    clear hi h40
    go_wp2
    go_ret
    exact ⟨by rw [HQ.out]; rfl, rfl⟩
set_option maxHeartbeats 4000000 in
theorem rpredOk_calls (a : S61) (p : S149) (w : World) (hs : p.f4.size ≤ 1000000000) :
 Calls Tryz.prog 76 #[.agg #[.string a.f0, .int .i64 a.f1, .int .i64 a.f2, .int .i64 a.f3], .agg #[.string p.f0, .int .i64 p.f1, .int .i64 p.f2, .int .i64 p.f3, .string p.f4]] w fun e w' => e = .returned (.bool (predOk a p)) ∧ Below w.heap.size w w' := by
 by_cases hf1 : p.f1 = 1
 ·
  have o1 : (p.f1 == 1) = true := by simpa using hf1
  have hpo : predOk a p = ((a.f1 == 1) && decide (a.f2 ≤ p.f2) && decide (p.f3 ≤ a.f3) && decide (p.f2 ≤ p.f3) && (p.f4.toList == [])) := by unfold predOk; rw [if_pos hf1]
  have HPO := mk0 hpo
  clear hpo hf1
  by_cases t1 : a.f1 = 1
  ·
   have e1 : (a.f1 == 1) = true := by simpa using t1
   by_cases t2 : a.f2 ≤ p.f2
   ·
    have e2 : decide (a.f2 ≤ p.f2) = true := decide_eq_true t2
    by_cases t4 : p.f2 ≤ p.f3
    ·
     have e4 : decide (p.f2 ≤ p.f3) = true := decide_eq_true t4
     by_cases t3 : p.f3 ≤ a.f3
     ·
      have e3 : decide (p.f3 ≤ a.f3) = true := decide_eq_true t3
      by_cases t5 : p.f4.toList = []
      ·
       have e5 : (p.f4.toList == []) = true := by simpa using t5
       have HV := mk0 (show predOk a p = true by rw [HPO.out, e1, e2, e3, e4, e5]; rfl)
       generalize predOk a p = b at HV ⊢
       clear t1 t2 t3 t4 HPO
       go_enter Tryz.func76, Tryz.ntmps76
       go_wp2
       go_ret
       exact ⟨by rw [HV.out]; rfl, below_alloc (below_alloc (Below.refl _ _) _) _⟩
      ·
       have e5 : (p.f4.toList == []) = false := by simpa using t5
       have HV := mk0 (show predOk a p = false by rw [HPO.out, e1, e2, e3, e4, e5]; rfl)
       generalize predOk a p = b at HV ⊢
       clear t1 t2 t3 t4 HPO
       go_enter Tryz.func76, Tryz.ntmps76
       go_wp2
       go_ret
       exact ⟨by rw [HV.out]; rfl, below_alloc (below_alloc (Below.refl _ _) _) _⟩
     ·
      have e3 : decide (p.f3 ≤ a.f3) = false := decide_eq_false t3
      have HV := mk0 (show predOk a p = false by rw [HPO.out, e1, e2, e3]; rfl)
      generalize predOk a p = b at HV ⊢
      clear t1 t2 t3 t4 HPO
      go_enter Tryz.func76, Tryz.ntmps76
      go_wp2
      go_ret
      exact ⟨by rw [HV.out]; rfl, below_alloc (below_alloc (Below.refl _ _) _) _⟩
    ·
     have e4 : decide (p.f2 ≤ p.f3) = false := decide_eq_false t4
     have HV := mk0 (show predOk a p = false by rw [HPO.out, e1, e2, e4]; simp)
     generalize predOk a p = b at HV ⊢
     clear t1 t2 t4 HPO
     go_enter Tryz.func76, Tryz.ntmps76
     go_wp2
     go_ret
     exact ⟨by rw [HV.out]; rfl, below_alloc (below_alloc (Below.refl _ _) _) _⟩
   ·
    have e2 : decide (a.f2 ≤ p.f2) = false := decide_eq_false t2
    have HV := mk0 (show predOk a p = false by rw [HPO.out, e1, e2]; rfl)
    generalize predOk a p = b at HV ⊢
    clear t1 t2 HPO
    go_enter Tryz.func76, Tryz.ntmps76
    go_wp2
    go_ret
    exact ⟨by rw [HV.out]; rfl, below_alloc (below_alloc (Below.refl _ _) _) _⟩
  ·
   have e1 : (a.f1 == 1) = false := by simpa using t1
   have HV := mk0 (show predOk a p = false by rw [HPO.out, e1]; rfl)
   generalize predOk a p = b at HV ⊢
   clear t1 HPO
   go_enter Tryz.func76, Tryz.ntmps76
   go_wp2
   go_ret
   exact ⟨by rw [HV.out]; rfl, below_alloc (below_alloc (Below.refl _ _) _) _⟩
 ·
  have o1 : (p.f1 == 1) = false := by simpa using hf1
  by_cases hf2 : p.f1 = 2
  ·
   have o2 : (p.f1 == 2) = true := by simpa using hf2
   have HPO := mk0 (show predOk a p = ((a.f1 == 2) && (p.f2 == 0) && (p.f3 == 0) && strOk p.f4) by unfold predOk; rw [if_neg hf1, if_pos (Or.inl hf2)])
   clear hf1 hf2
   by_cases t1 : a.f1 = 2
   ·
    have e1 : (a.f1 == 2) = true := by simpa using t1
    by_cases t2 : p.f2 = 0
    ·
     have e2 : (p.f2 == 0) = true := by simpa using t2
     by_cases t3 : p.f3 = 0
     ·
      have e3 : (p.f3 == 0) = true := by simpa using t3
      have HV := mk0 (show predOk a p = strOk p.f4 by rw [HPO.out, e1, e2, e3]; rfl)
      generalize predOk a p = b at HV ⊢
      clear t1 t2 t3 HPO
      go_enter Tryz.func76, Tryz.ntmps76
      go_wp2_with fail
      refine (rstrOk_calls p.f4 _ hs).mono ?_
      rintro e w5 ⟨rfl, rfl⟩
      go_wp2
      go_ret
      exact ⟨by rw [HV.out]; rfl, below_alloc (below_alloc (Below.refl _ _) _) _⟩
     ·
      have e3 : (p.f3 == 0) = false := by simpa using t3
      have HV := mk0 (show predOk a p = false by rw [HPO.out, e1, e2, e3]; rfl)
      generalize predOk a p = b at HV ⊢
      clear t1 t2 t3 HPO
      go_enter Tryz.func76, Tryz.ntmps76
      go_wp2
      go_ret
      exact ⟨by rw [HV.out]; rfl, below_alloc (below_alloc (Below.refl _ _) _) _⟩
    ·
     have e2 : (p.f2 == 0) = false := by simpa using t2
     have HV := mk0 (show predOk a p = false by rw [HPO.out, e1, e2]; rfl)
     generalize predOk a p = b at HV ⊢
     clear t1 t2 HPO
     go_enter Tryz.func76, Tryz.ntmps76
     go_wp2
     go_ret
     exact ⟨by rw [HV.out]; rfl, below_alloc (below_alloc (Below.refl _ _) _) _⟩
   ·
    have e1 : (a.f1 == 2) = false := by simpa using t1
    have HV := mk0 (show predOk a p = false by rw [HPO.out, e1]; rfl)
    generalize predOk a p = b at HV ⊢
    clear t1 HPO
    go_enter Tryz.func76, Tryz.ntmps76
    go_wp2
    go_ret
    exact ⟨by rw [HV.out]; rfl, below_alloc (below_alloc (Below.refl _ _) _) _⟩
  ·
   have o2 : (p.f1 == 2) = false := by simpa using hf2
   by_cases hf3 : p.f1 = 3
   ·
    have o3 : (p.f1 == 3) = true := by simpa using hf3
    by_cases hs5 : p.f4.toList = []
    ·
     have q5 : (p.f4.toList == []) = true := by simpa using hs5
     have HV := mk0 (show predOk a p = false by unfold predOk; rw [if_neg hf1, if_neg (by rw [hf3, hs5]; simp)])
     generalize predOk a p = b at HV ⊢
     clear hf1 hf3 hf2
     go_enter Tryz.func76, Tryz.ntmps76
     go_wp2
     go_ret
     exact ⟨by rw [HV.out]; rfl, below_alloc (below_alloc (Below.refl _ _) _) _⟩
    ·
     have q5 : (p.f4.toList == []) = false := by simpa using hs5
     have HPO := mk0 (show predOk a p = ((a.f1 == 2) && (p.f2 == 0) && (p.f3 == 0) && strOk p.f4) by unfold predOk; rw [if_neg hf1, if_pos (Or.inr ⟨hf3, hs5⟩)])
     clear hf1 hf3 hf2
     by_cases t1 : a.f1 = 2
     ·
      have e1 : (a.f1 == 2) = true := by simpa using t1
      by_cases t2 : p.f2 = 0
      ·
       have e2 : (p.f2 == 0) = true := by simpa using t2
       by_cases t3 : p.f3 = 0
       ·
        have e3 : (p.f3 == 0) = true := by simpa using t3
        have HV := mk0 (show predOk a p = strOk p.f4 by rw [HPO.out, e1, e2, e3]; rfl)
        generalize predOk a p = b at HV ⊢
        clear t1 t2 t3 HPO
        go_enter Tryz.func76, Tryz.ntmps76
        go_wp2_with fail
        refine (rstrOk_calls p.f4 _ hs).mono ?_
        rintro e w5 ⟨rfl, rfl⟩
        go_wp2
        go_ret
        exact ⟨by rw [HV.out]; rfl, below_alloc (below_alloc (Below.refl _ _) _) _⟩
       ·
        have e3 : (p.f3 == 0) = false := by simpa using t3
        have HV := mk0 (show predOk a p = false by rw [HPO.out, e1, e2, e3]; rfl)
        generalize predOk a p = b at HV ⊢
        clear t1 t2 t3 HPO
        go_enter Tryz.func76, Tryz.ntmps76
        go_wp2
        go_ret
        exact ⟨by rw [HV.out]; rfl, below_alloc (below_alloc (Below.refl _ _) _) _⟩
      ·
       have e2 : (p.f2 == 0) = false := by simpa using t2
       have HV := mk0 (show predOk a p = false by rw [HPO.out, e1, e2]; rfl)
       generalize predOk a p = b at HV ⊢
       clear t1 t2 HPO
       go_enter Tryz.func76, Tryz.ntmps76
       go_wp2
       go_ret
       exact ⟨by rw [HV.out]; rfl, below_alloc (below_alloc (Below.refl _ _) _) _⟩
     ·
      have e1 : (a.f1 == 2) = false := by simpa using t1
      have HV := mk0 (show predOk a p = false by rw [HPO.out, e1]; rfl)
      generalize predOk a p = b at HV ⊢
      clear t1 HPO
      go_enter Tryz.func76, Tryz.ntmps76
      go_wp2
      go_ret
      exact ⟨by rw [HV.out]; rfl, below_alloc (below_alloc (Below.refl _ _) _) _⟩
   ·
    have o3 : (p.f1 == 3) = false := by simpa using hf3
    have HV := mk0 (show predOk a p = false by unfold predOk; rw [if_neg hf1, if_neg (by rintro (h | h); exact hf2 h; exact hf3 h.1)])
    generalize predOk a p = b at HV ⊢
    clear hf1 hf3 hf2
    go_enter Tryz.func76, Tryz.ntmps76
    go_wp2
    go_ret
    exact ⟨by rw [HV.out]; rfl, below_alloc (below_alloc (Below.refl _ _) _) _⟩
theorem parseR_PS {s : ByteArray} (h : s.size ≤ 300) : parseR s = match PS (bytes s) [] with | .inl xs => .inl xs | .inr n => .inr (((s.size - n : Nat) : Int), 2) := by
 unfold parseR PS
 rw [if_neg (by omega), bytes_len]
 cases parseS (s.size + 1) ⟨bytes s, none⟩ [] <;> rfl
def toQ (x : S149) : S158 := ⟨x.f0, x.f1, x.f2, x.f3, x.f4⟩
theorem cell_blw {w w' : World} (hb : Below w.heap.size w w') {a : Addr} {u : Value} (h : w.cell? a = some u) : w'.cell? a = some u := (hb.cell (World.block_lt_of_cell? w _ h)).trans h
theorem push2_new {α : Type} (h : Array α) (a b : α) : ((h.push a).push b)[h.size]? = some a ∧ ((h.push a).push b)[h.size + 1]? = some b := by
 refine ⟨?_, ?_⟩
 ·
  simp only [Array.getElem?_push, Array.size_push]; rw [if_neg (by omega), if_pos trivial]
 ·
  simp only [Array.getElem?_push, Array.size_push]; rw [if_pos trivial]
def toA (x : S61) : S63 := ⟨x.f0, x.f1, x.f2, x.f3⟩
theorem idxFrom_map {α β : Type} (p : β → Bool) (f : α → β) : ∀ (l : List α) (i : Nat), idxFrom p (l.map f) i = idxFrom (fun x => p (f x)) l i
 | [], _ => rfl
 | x :: r, i => by
  show (if p (f x) then _ else idxFrom p (r.map f) (i + 1)) = _
  rw [idxFrom_map p f r (i + 1)]
  rfl
theorem findR_map (nm : ByteArray) (S : List S61) : findR nm (S.map toA) = findB nm S := idxFrom_map _ toA S 0
def badI2 : Option Nat → Int
 | none => -1
 | some i => (i : Int)
theorem getD_toQ (F : List S149) (i : Nat) : (F.map toQ).getD i z158 = toQ (F.getD i z149) := by
 rw [List.getD_eq_getElem?_getD, List.getD_eq_getElem?_getD, List.getElem?_map]
 cases F[i]? <;> rfl
theorem getD_toA (S : List S61) (i : Nat) : (S.map toA).getD i z63 = toA (S.getD i z61) := by
 rw [List.getD_eq_getElem?_getD, List.getD_eq_getElem?_getD, List.getElem?_map]
 cases S[i]? <;> rfl
theorem any_snoc {α : Type} (F : List α) (z : α) (p : α → Bool) (j : Nat) (h : j < F.length) : (F.take (j + 1)).any p = ((F.take j).any p || p (F.getD j z)) := by
 rw [List.take_succ_eq_append_getElem h, List.any_append, List.getD_eq_getElem?_getD, List.getElem?_eq_getElem h]
 simp
set_option maxHeartbeats 8000000 in
theorem rfilter_calls (A B : Option Addr) (n m c d : Nat) (S : List S61) (F : List S149) (w : World) (hn : S.length = n) (hm : F.length = m) (hr : Kd.C k63 w A n (S.map toA)) (hr2 : Kd.C k158 w B m (F.map toQ)) (hl : n ≤ 100000) (hl2 : m ≤ 100000) (hcd : m ≤ d) (hst : ∀ p ∈ F, p.f4.size ≤ 1000000000) :
 Calls Tryz.prog 49 #[.slice A n c, .slice B m d] w fun e w' => e = .returned (.int .i64 (badI2 (filterBad S F))) ∧ Below w.heap.size w w' := by
 have HRS := mk0 hr
 have HRF := mk0 hr2
 have HN := mk0 hn
 have HM := mk0 hm
 have HST4 := mk0 hst
 clear hr hr2 hn hm hst
 obtain ⟨z, hz⟩ : ∃ z, z = badI2 (filterBad S F) := ⟨_, rfl⟩
 rw [← hz]
 have HZ := mk0 hz
 clear hz
 by_cases hlen : m < 1 ∨ 4 < m
 ·
  have HB := mk0 (show z = 0 by rw [HZ.out]; unfold filterBad; rw [if_pos (by have := HM.out; omega)]; rfl)
  by_cases h1 : m < 1
  ·
   have q1 : decide ((m : Int) < 1) = true := decide_eq_true (by omega)
   clear hlen
   obtain rfl : m = 0 := by omega
   go_enter Tryz.func49, Tryz.ntmps49
   go_wp2
   go_ret
   exact ⟨by rw [HB.out]; rfl, Below.refl _ _⟩
  ·
   have q1 : decide ((m : Int) < 1) = false := decide_eq_false (by omega)
   have q2 : decide (4 < (m : Int)) = true := decide_eq_true (by omega)
   clear hlen
   go_enter Tryz.func49, Tryz.ntmps49
   go_wp2
   go_ret
   exact ⟨by rw [HB.out]; rfl, Below.refl _ _⟩
 ·
  have q1 : decide ((m : Int) < 1) = false := decide_eq_false (by omega)
  have q2 : decide (4 < (m : Int)) = false := decide_eq_false (by omega)
  have HFB := mk0 (show filterBad S F = badFrom S F m 0 by unfold filterBad; rw [if_neg (by have := HM.out; omega), HM.out])
  clear hlen
  go_enter Tryz.func49, Tryz.ntmps49
  go_wp2_with fail
  go_loopg [5, 6, 7, 8, 10, 21, 36] (m + 1) (fun k v5 v6 v7 v8 v10 v21 v36 W => ∃ i : Nat, Aside0 (i ≤ m ∧ k + i = m + 1 ∧ filterBad S F = badFrom S F (m - i) i) ∧ v21 = .int .i64 (i : Int) ∧ Aside0 (Below w.heap.size w W))
  case atStart => exact ⟨0, ⟨by omega, by omega, HFB.out⟩, rfl, ⟨Below.refl _ _⟩⟩
  case round =>
   obtain ⟨i, HI, rfl, HB⟩ := hrel
   by_cases hi : i < m
   ·
    have b1 : decide ((i : Int) < (m : Int)) = true := decide_eq_true (by omega)
    have b2 : decide (i < m) = true := decide_eq_true (by omega)
    have p1 : (0 : Int) ≤ (i : Int) := by omega
    have p2 : (i : Int) < (m : Int) := by omega
    have hstep : badFrom S F (m - i) i = if okAt S F i then badFrom S F (m - (i + 1)) (i + 1) else some i := by
     rw [show m - i = (m - (i + 1)) + 1 by omega]
     rfl
    have HST := mk0 hstep
    clear hstep
    obtain ⟨ad, e, h0, h1, h2, h3, h4⟩ := at_T158 HRF.out i p1 p2
    cases e
    rw [Int.toNat_natCast] at h0 h1 h2 h3 h4
    replace h0 := (HB.out.cell (World.block_lt_of_cell? w _ h0)).trans h0
    replace h1 := (HB.out.cell (World.block_lt_of_cell? w _ h1)).trans h1
    replace h2 := (HB.out.cell (World.block_lt_of_cell? w _ h2)).trans h2
    replace h3 := (HB.out.cell (World.block_lt_of_cell? w _ h3)).trans h3
    replace h4 := (HB.out.cell (World.block_lt_of_cell? w _ h4)).trans h4
    have hrd : rd_T158 (F.map toQ) (i : Int) = toQ (F.getD i z149) := getD_toQ F i
    rw [hrd] at h0 h1 h2 h3 h4
    obtain ⟨p, hp⟩ : ∃ p, p = F.getD i z149 := ⟨_, rfl⟩
    rw [← hp] at h0 h1 h2 h3 h4
    have HP := mk0 hp
    clear hrd hp
    change wr.cell? _ = some (.string p.f0) at h0
    change wr.cell? _ = some (.int .i64 p.f1) at h1
    change wr.cell? _ = some (.int .i64 p.f2) at h2
    change wr.cell? _ = some (.int .i64 p.f3) at h3
    change wr.cell? _ = some (.string p.f4) at h4
    go_wp2_with fail
    refine (rfind_calls A n c (S.map toA) p.f0 _ (by rw [List.length_map]; exact HN.out) (Kd.C_below HRS.out (below_alloc HB.out _)) hl).mono ?_
    rintro e w1 ⟨rfl, hb⟩
    rw [findR_map]
    have hnew := heap_alloc_new wr (.cells #[.string p.f0, .int .i64 p.f1, .int .i64 p.f2, .int .i64 p.f3, .string p.f4] 158 (0, 0))
    have KB6 := mk0 ((hb.block _ (blk_lt hnew)).trans hnew)
    have n_ := mk0 (below_then (below_alloc HB.out (.cells #[.string p.f0, .int .i64 p.f1, .int .i64 p.f2, .int .i64 p.f3, .string p.f4] 158)) (below_size (below_alloc HB.out _)) hb)
    clear HB hb hnew h0 h1 h2 h3 h4
    have HB := n_
    clear n_
    generalize wr.heap.size = g6 at KB6 ⊢
    have HLT := mk0 (findB_lt p.f0 S)
    obtain ⟨kk, hkk⟩ : ∃ k, k = findB p.f0 S := ⟨_, rfl⟩
    rw [← hkk] at HLT ⊢
    have HK := mk0 hkk
    clear hkk
    have p3 : (i : Int) ≤ (d : Int) := by omega
    obtain ⟨b0, hb0⟩ : ∃ b, b = decide (0 ≤ kk) := ⟨_, rfl⟩
    have q4 : decide (0 ≤ kk) = b0 := hb0.symm
    have HB0 := mk0 hb0
    clear hb0
    go_wp2_with fail
    obtain ⟨gko, rfl⟩ : ∃ g, g = gk := ⟨gk, rfl⟩
    go_loopg [8, 10, 36] (i + 1) (fun k v8 v10 v36 W => ∃ (j : Nat) (bj : Bool), Aside0 (j ≤ i ∧ k + j = i + 1 ∧ bj = (decide (0 ≤ kk) && !((F.take j).any fun x => x.f0.toList == p.f0.toList))) ∧ v8 = .bool bj ∧ v36 = .int .i64 (j : Int) ∧ Aside0 (W.heap[g6]? = some (.cells #[.string p.f0, .int .i64 p.f1, .int .i64 p.f2, .int .i64 p.f3, .string p.f4] 158 (0, 0))) ∧ Aside0 (Below w.heap.size w W))
    case atStart => exact ⟨0, b0, ⟨by omega, by omega, by rw [HB0.out]; simp⟩, rfl, rfl, KB6, HB⟩
    case round =>
     clear KB6 HB
     obtain ⟨j, bj, HJ, rfl, rfl, KB6, HB⟩ := hrel
     have y0 := (blk_cell KB6.out 0).trans (show _ = some (Value.string p.f0) from rfl)
     have y1 := (blk_cell KB6.out 1).trans (show _ = some (Value.int .i64 p.f1) from rfl)
     have y2 := (blk_cell KB6.out 2).trans (show _ = some (Value.int .i64 p.f2) from rfl)
     have y3 := (blk_cell KB6.out 3).trans (show _ = some (Value.int .i64 p.f3) from rfl)
     have y4 := (blk_cell KB6.out 4).trans (show _ = some (Value.string p.f4) from rfl)
     by_cases hj : j < i
     ·
      have d1 : decide ((j : Int) < (i : Int)) = true := decide_eq_true (by omega)
      have d2 : decide (j < i) = true := decide_eq_true (by omega)
      have s1 : (0 : Int) ≤ (j : Int) := by omega
      have s2 : (j : Int) < (i : Int) := by omega
      obtain ⟨ad3, e, h0, h1, h2, h3, h4⟩ := at_T158 HRF.out j s1 (by omega)
      cases e
      rw [Int.toNat_natCast] at h0 h1 h2 h3 h4
      replace h0 := (HB.out.cell (World.block_lt_of_cell? w _ h0)).trans h0
      replace h1 := (HB.out.cell (World.block_lt_of_cell? w _ h1)).trans h1
      replace h2 := (HB.out.cell (World.block_lt_of_cell? w _ h2)).trans h2
      replace h3 := (HB.out.cell (World.block_lt_of_cell? w _ h3)).trans h3
      replace h4 := (HB.out.cell (World.block_lt_of_cell? w _ h4)).trans h4
      have hrd : rd_T158 (F.map toQ) (j : Int) = toQ (F.getD j z149) := getD_toQ F j
      rw [hrd] at h0 h1 h2 h3 h4
      have hany := any_snoc F z149 (fun x => x.f0.toList == p.f0.toList) j (by have := HM.out; omega)
      have HANY := mk0 hany
      clear hany hrd
      generalize F.getD j z149 = x at h0 h1 h2 h3 h4 HANY
      change wr.cell? _ = some (.string x.f0) at h0
      change wr.cell? _ = some (.int .i64 x.f1) at h1
      change wr.cell? _ = some (.int .i64 x.f2) at h2
      change wr.cell? _ = some (.int .i64 x.f3) at h3
      change wr.cell? _ = some (.string x.f4) at h4
      have ln := blk_lt KB6.out
      have ln2 : ¬ (g6 = wr.heap.size) := by omega
      have HKA := mk0 ((Below.heap_alloc wr (.cells #[.string x.f0, .int .i64 x.f1, .int .i64 x.f2, .int .i64 x.f3, .string x.f4] 158) _ ln).trans KB6.out)
      have HBA := mk0 (below_alloc HB.out (.cells #[.string x.f0, .int .i64 x.f1, .int .i64 x.f2, .int .i64 x.f3, .string x.f4] 158))
      cases bj with
      | false =>
       have HF := mk0 (show false = (decide (0 ≤ kk) && !((F.take (j + 1)).any fun x => x.f0.toList == p.f0.toList)) by
        have h := HJ.out.2.2
        rw [HANY.out]
        cases hA : decide (0 ≤ kk) with
        | false => rfl
        | true =>
         rw [hA] at h
         cases hC : ((F.take j).any fun x => x.f0.toList == p.f0.toList) with
         | true => rfl
         | false => rw [hC] at h; cases h)
       go_wp2_with fail
       go_roundg (gk - 1)
       case measure => have := HJ.out; omega
       case rel => exact ⟨j + 1, false, ⟨by omega, by have := HJ.out; omega, HF.out⟩, rfl, rfl, HKA, HBA⟩
      | true =>
       cases hq : (p.f0.toList == x.f0.toList) with
       | true =>
        have HF := mk0 (show false = (decide (0 ≤ kk) && !((F.take (j + 1)).any fun x => x.f0.toList == p.f0.toList)) by
         rw [HANY.out, show (x.f0.toList == p.f0.toList) = true by rw [beq_iff_eq] at hq ⊢; exact hq.symm]
         simp)
        go_wp2_with fail
        go_roundg (gk - 1)
        case measure => have := HJ.out; omega
        case rel => exact ⟨j + 1, false, ⟨by omega, by have := HJ.out; omega, HF.out⟩, rfl, rfl, HKA, HBA⟩
       | false =>
        have HF := mk0 (show true = (decide (0 ≤ kk) && !((F.take (j + 1)).any fun x => x.f0.toList == p.f0.toList)) by
         rw [HANY.out, show (x.f0.toList == p.f0.toList) = false by rw [beq_eq_false_iff_ne] at hq ⊢; exact fun h => hq h.symm, Bool.or_false]
         exact HJ.out.2.2)
        go_wp2_with fail
        go_roundg (gk - 1)
        case measure => have := HJ.out; omega
        case rel => exact ⟨j + 1, true, ⟨by omega, by have := HJ.out; omega, HF.out⟩, rfl, rfl, HKA, HBA⟩
     ·
      have d1 : decide ((j : Int) < (i : Int)) = false := decide_eq_false (by omega)
      have d2 : decide (j < i) = false := decide_eq_false (by omega)
      have hji : j = i := by have := HJ.out; omega
      have hbj := HJ.out.2.2
      rw [hji] at hbj
      cases bj with
      | false =>
       have hno : okAt S F i = false := by
        unfold okAt
        rw [← HP.out, ← HK.out, ← hbj]
        rfl
       have HE := mk0 (show z = (i : Int) by rw [HZ.out, HI.out.2.2, HST.out, hno]; rfl)
       clear hji hbj hno
       go_wp2_with fail
       go_quiet (fail)
       go_wp2
       go_ret
       exact ⟨by rw [HE.out]; rfl, pw_below_drewN HB.out _⟩
      | true =>
       have h0k : 0 ≤ kk := by
        cases hA : decide (0 ≤ kk) with
        | true => exact of_decide_eq_true hA
        | false => rw [hA] at hbj; cases hbj
       obtain ⟨k2, rfl⟩ := Int.eq_ofNat_of_zero_le h0k
       have hkn : k2 < n := by have := HLT.out; have := HN.out; omega
       obtain ⟨a, ha⟩ : ∃ a, a = S.getD k2 z61 := ⟨_, rfl⟩
       have hok : okAt S F i = predOk a p := by
        unfold okAt
        rw [← HP.out, ← HK.out, ← hbj, Int.toNat_natCast, ha]
        rfl
       obtain ⟨ad2, e, s0, s1, s2, s3⟩ := at_T63 (Kd.C_below HRS.out HB.out) (k2 : Int) (by omega) (by omega)
       cases e
       rw [Int.toNat_natCast] at s0 s1 s2 s3
       have hrd : rd_T63 (S.map toA) (k2 : Int) = toA (S.getD k2 z61) := getD_toA S k2
       rw [hrd, ← ha] at s0 s1 s2 s3
       change wr.cell? _ = some (.string a.f0) at s0
       change wr.cell? _ = some (.int .i64 a.f1) at s1
       change wr.cell? _ = some (.int .i64 a.f2) at s2
       change wr.cell? _ = some (.int .i64 a.f3) at s3
       have hp4 : p.f4.size ≤ 1000000000 := HST4.out p (by rw [HP.out, List.getD_eq_getElem?_getD, List.getElem?_eq_getElem (by have := HM.out; omega)]; exact List.getElem_mem _)
       have HPC := mk0 (fun W => rpredOk_calls a p W hp4)
       have pk0 : (0 : Int) ≤ (k2 : Int) := by omega
       have pk1 : (k2 : Int) < (n : Int) := by omega
       have HOKE := mk0 hok
       clear hji hbj hok ha hrd h0k hp4
       have t0 : ∀ q : BelowP wr, q.w.cell? _ = _ := fun q => q.cell s0
       have t1 : ∀ q : BelowP wr, q.w.cell? _ = _ := fun q => q.cell s1
       have t2 : ∀ q : BelowP wr, q.w.cell? _ = _ := fun q => q.cell s2
       have t3 : ∀ q : BelowP wr, q.w.cell? _ = _ := fun q => q.cell s3
       have r0 : ∀ q : BelowP wr, q.w.cell? _ = _ := fun q => q.cell y0
       have r1 : ∀ q : BelowP wr, q.w.cell? _ = _ := fun q => q.cell y1
       have r2 : ∀ q : BelowP wr, q.w.cell? _ = _ := fun q => q.cell y2
       have r3 : ∀ q : BelowP wr, q.w.cell? _ = _ := fun q => q.cell y3
       have r4 : ∀ q : BelowP wr, q.w.cell? _ = _ := fun q => q.cell y4
       cases hbp : predOk a p with
       | true =>
        rw [hbp] at HPC HOKE
        have HE := mk0 (show filterBad S F = badFrom S F (m - (i + 1)) (i + 1) by rw [HI.out.2.2, HST.out, HOKE.out]; rfl)
        clear hbp HOKE
        go_wp2_with fail
        refine wp_region_quiet_below (by kernel_rfl) (by kernel_rfl) ?_
        repeat (quiet_step ((go_at_call 76; (with_reducible refine Calls.below_of (HPC.out _)))))
        refine wpQuiet_nil ?_
        rintro _ ⟨pq, rfl⟩
        go_wp2_with fail
        go_roundg (gko - 1)
        case measure => have := HI.out; omega
        case rel => exact ⟨i + 1, ⟨by omega, by have := HI.out; omega, HE.out⟩, rfl, ⟨below_then HB.out HB.out.size pq.h⟩⟩
       | false =>
        rw [hbp] at HPC HOKE
        have HE := mk0 (show z = (i : Int) by rw [HZ.out, HI.out.2.2, HST.out, HOKE.out]; rfl)
        clear hbp HOKE
        go_wp2_with fail
        refine wp_region_quiet_below (by kernel_rfl) (by kernel_rfl) ?_
        repeat (quiet_step ((go_at_call 76; (with_reducible refine Calls.below_of (HPC.out _)))))
        refine wpQuiet_nil ?_
        rintro _ ⟨pq, rfl⟩
        go_wp2
        go_ret
        exact ⟨by rw [HE.out]; rfl, below_then HB.out HB.out.size pq.h⟩
   ·
    have b1 : decide ((i : Int) < (m : Int)) = false := decide_eq_false (by omega)
    have b2 : decide (i < m) = false := decide_eq_false (by omega)
    have HE := mk0 (show z = -1 by rw [HZ.out, HI.out.2.2, show m - i = 0 by omega]; rfl)
    go_wp2
    go_ret
    exact ⟨by rw [HE.out]; rfl, HB.out⟩
abbrev SV := S72
abbrev SA := S61
abbrev SP := S149
def encV (x : SV) : Value := .agg #[.int .i64 x.f0, .string x.f1]
def encE (A : Option Addr) (n c : Nat) (pay : ByteArray) : Value := .agg #[.slice A n c, .string pay]
def fitsB (a : SA) (v : SV) : Bool :=
 if a.f1 = 1 then (v.f1.toList == []) && (decide (a.f2 ≤ v.f0) && decide (v.f0 ≤ a.f3))
 else (v.f0 == 0) && strOk v.f1
theorem fits_calls (a : SA) (v : SV) (w : World) : Calls Tryz.prog 69 #[enc95 a, encV v] w fun e w' => e = .returned (.bool (fitsB a v)) ∧ Below w.heap.size w w' := by
 unfold enc95 encV
 by_cases t1 : a.f1 = 1
 ·
  have o1 : (a.f1 == 1) = true := by simpa using t1
  have HV := mk0 (show fitsB a v = ((v.f1.toList == []) && (decide (a.f2 ≤ v.f0) && decide (v.f0 ≤ a.f3))) by unfold fitsB; rw [if_pos t1])
  generalize fitsB a v = z at HV ⊢
  clear t1
  cases e1 : (v.f1.toList == []) with
  | false =>
   have HZ := mk0 (show z = false by rw [HV.out, e1]; rfl)
   go_enter Tryz.func69, Tryz.ntmps69
   go_wp2
   go_ret
   exact ⟨by rw [HZ.out]; rfl, below_alloc (below_alloc (Below.refl _ _) _) _⟩
  | true =>
   by_cases t2 : a.f2 ≤ v.f0
   ·
    have e2 := decide_eq_true t2
    by_cases t3 : v.f0 ≤ a.f3
    ·
     have e3 := decide_eq_true t3
     have HZ := mk0 (show z = true by rw [HV.out, e1, e2, e3]; rfl)
     clear t2 t3
     go_enter Tryz.func69, Tryz.ntmps69
     go_wp2
     go_ret
     exact ⟨by rw [HZ.out]; rfl, below_alloc (below_alloc (Below.refl _ _) _) _⟩
    ·
     have e3 := decide_eq_false t3
     have HZ := mk0 (show z = false by rw [HV.out, e1, e2, e3]; rfl)
     clear t2 t3
     go_enter Tryz.func69, Tryz.ntmps69
     go_wp2
     go_ret
     exact ⟨by rw [HZ.out]; rfl, below_alloc (below_alloc (Below.refl _ _) _) _⟩
   ·
    have e2 := decide_eq_false t2
    have HZ := mk0 (show z = false by rw [HV.out, e1, e2]; rfl)
    clear t2
    go_enter Tryz.func69, Tryz.ntmps69
    go_wp2
    go_ret
    exact ⟨by rw [HZ.out]; rfl, below_alloc (below_alloc (Below.refl _ _) _) _⟩
 ·
  have o1 : (a.f1 == 1) = false := by simpa using t1
  have HV := mk0 (show fitsB a v = ((v.f0 == 0) && strOk v.f1) by unfold fitsB; rw [if_neg t1])
  generalize fitsB a v = z at HV ⊢
  clear t1
  cases e1 : (v.f0 == 0) with
  | false =>
   have HZ := mk0 (show z = false by rw [HV.out, e1]; rfl)
   go_enter Tryz.func69, Tryz.ntmps69
   go_wp2
   go_ret
   exact ⟨by rw [HZ.out]; rfl, below_alloc (below_alloc (Below.refl _ _) _) _⟩
  | true =>
   have HZ := mk0 (show z = strOk v.f1 by rw [HV.out, e1]; rfl)
   have HC := mk0 (fun W => str_calls v.f1 W)
   generalize strOk v.f1 = b at HZ HC
   go_enter Tryz.func69, Tryz.ntmps69
   go_wp2_with fail
   refine (HC.out _).mono ?_
   rintro e w1 ⟨rfl, hb⟩
   go_wp2
   go_ret
   exact ⟨by rw [HZ.out]; rfl, below_then (below_alloc (below_alloc (Below.refl _ _) _) _) (below_size (below_alloc (below_alloc (Below.refl _ _) _) _)) hb⟩
def evFrom (S : List SA) (V : List SV) : Nat → Nat → Option Nat
 | 0, _ => none
 | k + 1, i => if fitsB (S.getD i z61) (V.getD i z72) then evFrom S V k (i + 1) else some i
def evBad (S : List SA) (V : List SV) (pay : ByteArray) : Option Nat := if V.length ≠ S.length ∨ 200 < pay.size then some 0 else evFrom S V S.length 0
def EvPost (w : World) (S : List SA) (V : List SV) (pay : ByteArray) (e : Ending) (w' : World) : Prop :=
 match evBad S V pay with
 | none => e = .returned .nilIface ∧ Below w.heap.size w w'
 | some i => ∃ b, w.heap.size ≤ b ∧ e = .returned (.iface 143 (.pointer (some ⟨b, 0, none⟩))) ∧ IsFault w' b ⟨#[118, 97, 108, 117, 101]⟩ (i : Int) 3 ∧ Below w.heap.size w w'
theorem ev_bad {w w' : World} {S : List SA} {V : List SV} {pay : ByteArray} {e : Ending} {i : Nat} (h : evBad S V pay = some i) (ho : ∃ b, w.heap.size ≤ b ∧ e = .returned (.iface 143 (.pointer (some ⟨b, 0, none⟩))) ∧ IsFault w' b ⟨#[118, 97, 108, 117, 101]⟩ (i : Int) 3 ∧ Below w.heap.size w w') : EvPost w S V pay e w' := by
 unfold EvPost
 rw [h]
 exact ho
theorem ev_ok {w w' : World} {S : List SA} {V : List SV} {pay : ByteArray} {e : Ending} (h : evBad S V pay = none) (ho : e = .returned .nilIface ∧ Below w.heap.size w w') : EvPost w S V pay e w' := by
 unfold EvPost
 rw [h]
 exact ho
theorem EvPost.bad {w w' : World} {S : List SA} {V : List SV} {pay : ByteArray} {e : Ending} {i : Nat} (h : EvPost w S V pay e w') (hb : evBad S V pay = some i) : ∃ b, w.heap.size ≤ b ∧ e = .returned (.iface 143 (.pointer (some ⟨b, 0, none⟩))) ∧ IsFault w' b ⟨#[118, 97, 108, 117, 101]⟩ (i : Int) 3 ∧ Below w.heap.size w w' := by
 unfold EvPost at h
 rw [hb] at h
 exact h
theorem EvPost.ok {w w' : World} {S : List SA} {V : List SV} {pay : ByteArray} {e : Ending} (h : EvPost w S V pay e w') (hb : evBad S V pay = none) : e = .returned .nilIface ∧ Below w.heap.size w w' := by
 unfold EvPost at h
 rw [hb] at h
 exact h
set_option maxHeartbeats 8000000 in
theorem event_calls (A B : Option Addr) (n m c d : Nat) (S : List SA) (V : List SV) (pay : ByteArray) (w : World) (hn : S.length = n) (hm : V.length = m) (hr : Kd.C k61 w A n S) (hr2 : Kd.C k72 w B m V) (hl : n ≤ 100000) :
 Calls Tryz.prog 43 #[.slice A n c, encE B m d pay] w (EvPost w S V pay) := by
 unfold encE
 have HRS := mk0 hr
 have HRV := mk0 hr2
 have HN := mk0 hn
 have HM := mk0 hm
 clear hr hr2 hn hm
 by_cases hlen : m ≠ n ∨ 200 < pay.size
 ·
  have HB := mk0 (fun e w' ho => ev_bad (w := w) (w' := w') (S := S) (V := V) (pay := pay) (e := e) (i := 0) (by unfold evBad; rw [if_pos (by rw [HN.out, HM.out]; exact hlen)]) ho)
  generalize EvPost w S V pay = POST at HB ⊢
  by_cases h1 : m = n
  ·
   have hp : 200 < pay.size := by
    rcases hlen with h | h
    ·
     exact absurd h1 h
    ·
     exact h
   have q2 : decide (200 < (pay.size : Int)) = true := decide_eq_true (by omega)
   have q2b : decide (200 < pay.size) = true := decide_eq_true hp
   subst h1
   clear hlen hp
   go_enter Tryz.func43, Tryz.ntmps43
   go_wp2_with fail
   refine (vfault_calls _ _ _).mono ?_
   rintro e w1 ⟨b, h1, rfl, hf, hb⟩
   have hfin := HB.out _ _ ⟨b, Nat.le_trans (below_size (below_alloc (Below.refl _ _) _)) h1, rfl, hf, below_then (below_alloc (Below.refl _ _) _) (below_size (below_alloc (Below.refl _ _) _)) hb⟩
   go_wp2
   try go_ret
   exact hfin
  ·
   have q1 : ((m : Int) != (n : Int)) = true := by simp; omega
   have q1b : (m != n) = true := by simpa using h1
   clear hlen h1
   go_enter Tryz.func43, Tryz.ntmps43
   go_wp2_with fail
   refine (vfault_calls _ _ _).mono ?_
   rintro e w1 ⟨b, h1, rfl, hf, hb⟩
   have hfin := HB.out _ _ ⟨b, Nat.le_trans (below_size (below_alloc (Below.refl _ _) _)) h1, rfl, hf, below_then (below_alloc (Below.refl _ _) _) (below_size (below_alloc (Below.refl _ _) _)) hb⟩
   go_wp2
   try go_ret
   exact hfin
 ·
  have h1 : m = n := by omega
  have q2 : decide (200 < (pay.size : Int)) = false := decide_eq_false (by omega)
  have q2b : decide (200 < pay.size) = false := decide_eq_false (by omega)
  have HFB := mk0 (show evBad S V pay = evFrom S V n 0 by unfold evBad; rw [if_neg (by rw [HN.out, HM.out]; exact hlen), HN.out])
  have HEP := mk0 (fun i e w' h ho => ev_bad (w := w) (w' := w') (S := S) (V := V) (pay := pay) (e := e) (i := i) h ho)
  have HOP := mk0 (fun e w' h ho => ev_ok (w := w) (w' := w') (S := S) (V := V) (pay := pay) (e := e) h ho)
  generalize EvPost w S V pay = POST at HEP HOP ⊢
  subst h1
  clear hlen
  go_enter Tryz.func43, Tryz.ntmps43
  go_wp2_with fail
  have HB := mk0 (below_alloc (Below.refl w.heap.size w) (.cells #[.slice B m d, .string pay] 44))
  have HKE := mk0 (show (w.alloc (.cells #[.slice B m d, .string pay] 44)).heap[w.heap.size]? = some (.cells #[.slice B m d, .string pay] 44 (0, 0)) from heap_alloc_new w _)
  generalize w.alloc (.cells #[.slice B m d, .string pay] 44) = w0 at HB HKE ⊢
  obtain ⟨ge, hge⟩ : ∃ g, g = w.heap.size := ⟨_, rfl⟩
  rw [← hge] at HKE ⊢
  clear hge
  go_loopg [5, 6, 22] (m + 1) (fun k v5 v6 v22 W => ∃ i : Nat, Aside0 (i ≤ m ∧ k + i = m + 1 ∧ evBad S V pay = evFrom S V (m - i) i) ∧ v22 = .int .i64 (i : Int) ∧ Aside0 (Below w.heap.size w W) ∧ Aside0 (W.heap[ge]? = some (.cells #[.slice B m d, .string pay] 44 (0, 0))))
  case atStart => exact ⟨0, ⟨by omega, by omega, HFB.out⟩, rfl, HB, HKE⟩
  case round =>
   clear HB HKE
   obtain ⟨i, HI, rfl, HB, HKE⟩ := hrel
   by_cases hi : i < m
   ·
    have b1 : decide ((i : Int) < (m : Int)) = true := decide_eq_true (by omega)
    have b2 : decide (i < m) = true := decide_eq_true (by omega)
    have p1 : (0 : Int) ≤ (i : Int) := by omega
    have p2 : (i : Int) < (m : Int) := by omega
    have hstep : evFrom S V (m - i) i = if fitsB (S.getD i z61) (V.getD i z72) then evFrom S V (m - (i + 1)) (i + 1) else some i := by
     rw [show m - i = (m - (i + 1)) + 1 by omega]
     rfl
    obtain ⟨ad, e, h0, h1, h2, h3⟩ := at_T61 (Kd.C_below HRS.out HB.out) i p1 p2
    cases e
    obtain ⟨ad2, e, k0, k1⟩ := at_T72 (Kd.C_below HRV.out HB.out) i p1 p2
    cases e
    rw [Int.toNat_natCast] at h0 h1 h2 h3 k0 k1
    have hrd : rd_T61 S (i : Int) = S.getD i z61 := rfl
    have hrd2 : rd_T72 V (i : Int) = V.getD i z72 := rfl
    rw [hrd] at h0 h1 h2 h3
    rw [hrd2] at k0 k1
    generalize S.getD i z61 = a at h0 h1 h2 h3 hstep
    generalize V.getD i z72 = v at k0 k1 hstep
    have HST := mk0 hstep
    clear hrd hrd2 hstep
    have HFC := mk0 (fun W => fits_calls a v W)
    unfold enc95 encV at HFC
    have y0 := (blk_cell HKE.out 0).trans (show _ = some (Value.slice (some ad2) m d) from rfl)
    cases hfb : fitsB a v with
    | true =>
     rw [hfb] at HFC
     rw [hfb, if_pos rfl] at HST
     clear hfb
     go_wp2_with fail
     generalize hW : wr.alloc (Obj.cells #[.string a.f0, .int .i64 a.f1, .int .i64 a.f2, .int .i64 a.f3] 61) = W2
     have hb2 : Below wr.heap.size wr W2 := by rw [← hW]; exact below_alloc (Below.refl _ _) _
     have HKP : W2.heap[wr.heap.size]? = some (.cells #[.string a.f0, .int .i64 a.f1, .int .i64 a.f2, .int .i64 a.f3] 61 (0, 0)) := by rw [← hW]; exact blk_new wr _
     have HKE2 := mk0 ((hb2.block _ (blk_lt HKE.out)).trans HKE.out)
     have n_ := mk0 (below_then HB.out HB.out.size hb2)
     have r0 : ∀ q : BelowP W2, q.w.cell? _ = _ := fun q => q.cell ((hb2.cell (World.block_lt_of_cell? wr _ k0)).trans k0)
     have r1 : ∀ q : BelowP W2, q.w.cell? _ = _ := fun q => q.cell ((hb2.cell (World.block_lt_of_cell? wr _ k1)).trans k1)
     clear HB HKE hW hb2 h0 h1 h2 h3 k0 k1 y0
     have HB := n_
     clear n_
     generalize wr.heap.size = gp at HKP ⊢
     have q0 : ∀ q : BelowP W2, q.w.cell? ⟨gp, 0, none⟩ = some (.string a.f0) := fun q => q.cell ((blk_cell HKP 0).trans rfl)
     have q1 : ∀ q : BelowP W2, q.w.cell? ⟨gp, 1, none⟩ = some (.int .i64 a.f1) := fun q => q.cell ((blk_cell HKP 1).trans rfl)
     have q2 : ∀ q : BelowP W2, q.w.cell? ⟨gp, 2, none⟩ = some (.int .i64 a.f2) := fun q => q.cell ((blk_cell HKP 2).trans rfl)
     have q3 : ∀ q : BelowP W2, q.w.cell? ⟨gp, 3, none⟩ = some (.int .i64 a.f3) := fun q => q.cell ((blk_cell HKP 3).trans rfl)
     have q5 : ∀ q : BelowP W2, q.w.cell? ⟨ge, 0, none⟩ = some (.slice (some ad2) m d) := fun q => q.cell ((blk_cell HKE2.out 0).trans rfl)
     clear HKP
     refine wp_region_quiet_below (by kernel_rfl) (by kernel_rfl) ?_
     repeat (quiet_step ((go_at_call 69; (with_reducible refine Calls.below_of (HFC.out _)))))
     refine wpQuiet_nil ?_
     rintro _ ⟨pq, rfl⟩
     go_wp2_with fail
     go_roundg (gk - 1)
     case measure => have := HI.out; omega
     case rel => exact ⟨i + 1, ⟨by omega, by have := HI.out; omega, by rw [HI.out.2.2, HST.out]⟩, rfl, ⟨below_then HB.out HB.out.size pq.h⟩, ⟨(pq.h.block _ (blk_lt HKE2.out)).trans HKE2.out⟩⟩
    | false =>
     rw [hfb] at HFC
     rw [hfb, if_neg (by simp)] at HST
     have HE := mk0 (fun e w' ho => HEP.out i e w' (by rw [HI.out.2.2, HST.out]) ho)
     clear hfb
     go_wp2_with fail
     generalize hW : wr.alloc (Obj.cells #[.string a.f0, .int .i64 a.f1, .int .i64 a.f2, .int .i64 a.f3] 61) = W2
     have hb2 : Below wr.heap.size wr W2 := by rw [← hW]; exact below_alloc (Below.refl _ _) _
     have HKP : W2.heap[wr.heap.size]? = some (.cells #[.string a.f0, .int .i64 a.f1, .int .i64 a.f2, .int .i64 a.f3] 61 (0, 0)) := by rw [← hW]; exact blk_new wr _
     have HKE2 := mk0 ((hb2.block _ (blk_lt HKE.out)).trans HKE.out)
     have n_ := mk0 (below_then HB.out HB.out.size hb2)
     have r0 : ∀ q : BelowP W2, q.w.cell? _ = _ := fun q => q.cell ((hb2.cell (World.block_lt_of_cell? wr _ k0)).trans k0)
     have r1 : ∀ q : BelowP W2, q.w.cell? _ = _ := fun q => q.cell ((hb2.cell (World.block_lt_of_cell? wr _ k1)).trans k1)
     clear HB HKE hW hb2 h0 h1 h2 h3 k0 k1 y0
     have HB := n_
     clear n_
     generalize wr.heap.size = gp at HKP ⊢
     have q0 : ∀ q : BelowP W2, q.w.cell? ⟨gp, 0, none⟩ = some (.string a.f0) := fun q => q.cell ((blk_cell HKP 0).trans rfl)
     have q1 : ∀ q : BelowP W2, q.w.cell? ⟨gp, 1, none⟩ = some (.int .i64 a.f1) := fun q => q.cell ((blk_cell HKP 1).trans rfl)
     have q2 : ∀ q : BelowP W2, q.w.cell? ⟨gp, 2, none⟩ = some (.int .i64 a.f2) := fun q => q.cell ((blk_cell HKP 2).trans rfl)
     have q3 : ∀ q : BelowP W2, q.w.cell? ⟨gp, 3, none⟩ = some (.int .i64 a.f3) := fun q => q.cell ((blk_cell HKP 3).trans rfl)
     have q5 : ∀ q : BelowP W2, q.w.cell? ⟨ge, 0, none⟩ = some (.slice (some ad2) m d) := fun q => q.cell ((blk_cell HKE2.out 0).trans rfl)
     clear HKP
     refine wp_region_quiet_below (by kernel_rfl) (by kernel_rfl) ?_
     repeat (quiet_step ((go_at_call 69; (with_reducible refine Calls.below_of (HFC.out _)))))
     refine wpQuiet_nil ?_
     rintro _ ⟨pq, rfl⟩
     go_wp2_with fail
     refine (vfault_calls _ _ _).mono ?_
     rintro e w9 ⟨b, hbl, rfl, hf, hb⟩
     have hb3 := below_then HB.out HB.out.size pq.h
     have hfin := HE.out _ _ ⟨b, Nat.le_trans hb3.size hbl, rfl, hf, below_then hb3 hb3.size hb⟩
     clear hf hb hbl hb3
     go_wp2
     try go_ret
     exact hfin
   ·
    have b1 : decide ((i : Int) < (m : Int)) = false := decide_eq_false (by omega)
    have b2 : decide (i < m) = false := decide_eq_false (by omega)
    have hfin := fun W => HOP.out (.returned .nilIface) W (by rw [HI.out.2.2, show m - i = 0 by omega]; rfl)
    have hfin2 := hfin _ ⟨rfl, HB.out⟩
    clear hfin
    go_wp2
    try go_ret
    exact hfin2
end Go.Proofs.YtlokmijoaocofaaGreatDoor.Mine
end
