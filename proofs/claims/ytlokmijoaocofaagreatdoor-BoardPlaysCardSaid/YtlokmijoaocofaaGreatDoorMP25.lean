/- Texts of one claim, one behind the other, made short by a program. -/
import Derived.Test.YtlokmijoaocofaaGreatDoorMP14
set_option linter.unusedSimpArgs false
set_option linter.unusedVariables false
set_option maxRecDepth 100000
section
namespace Go.Proofs.YtlokmijoaocofaaGreatDoor.Mine
open Go.Maps Go.RowKit YtlokmijoaocofaaGreatDoorW.PrintWords YtlokmijoaocofaaGreatDoorW.PrintLast YtlokmijoaocofaaGreatDoorW.PrintMore
open PBoardPlays
def S0 : List SA := [⟨⟨#[112, 114, 105, 99, 101]⟩, 1, 0, 99⟩]
def V0 : List SV := [⟨5, ⟨#[]⟩⟩]
def T0 : ByteArray := ⟨#[112, 114, 105, 99, 101, 32, 105, 110, 32, 51, 46, 46, 57]⟩
theorem ck0 : checkBad S0 = none := by decide +kernel
theorem eb0 : evBad S0 V0 ⟨#[]⟩ = none := by decide +kernel
theorem rd0 : ∃ xs, readR S0 T0 = .inl xs ∧ matchB S0 (xs.map toP) V0 ⟨#[]⟩ = true := by
 have h : (match readR S0 T0 with | .inl xs => matchB S0 (xs.map toP) V0 ⟨#[]⟩ | .inr _ => false) = true := by decide +kernel
 cases hr : readR S0 T0 with
 | inl xs => rw [hr] at h; exact ⟨xs, rfl, h⟩
 | inr c => rw [hr] at h; cases h
def B1 : Bd := Bd.empty.pub (2, 1) V0 ⟨#[]⟩
theorem pub0 : pubC S0 Bd.empty (2, 1) V0 ⟨#[]⟩ = 0 := by unfold pubC; rw [eb0]; rfl
theorem sub0 {xs : List _} (h : readR S0 T0 = .inl xs) : subC S0 B1 (0, 1) T0 = 0 := by unfold subC; rw [h]; rfl
def B2 (F : List SP) : Bd := B1.sub (0, 1) F
theorem evs2 (F : List SP) : (B2 F).evs (2, 1) = some (V0, ⟨#[]⟩) := by
 show upd Bd.empty.evs (2, 1) (some (V0, ⟨#[]⟩)) (2, 1) = _
 unfold upd
 rw [if_pos rfl]
theorem subs2 (F : List SP) (x : P2) : (B2 F).subs x = if x = (0, 1) then some F else none := rfl
theorem due0 {F : List SP} (hm : matchB S0 F V0 ⟨#[]⟩ = true) (x : P2) : dueB S0 (B2 F) (2, 1) V0 ⟨#[]⟩ x = decide (x = (0, 1)) := by
 unfold dueB
 rw [subs2]
 by_cases h : x = (0, 1)
 ·
  rw [if_pos h, decide_eq_true h]
  simp only [hm]
  rfl
 ·
  rw [if_neg h, decide_eq_false h]
theorem list0 {F : List SP} (hm : matchB S0 F V0 ⟨#[]⟩ = true) {N : Nat} {L : List SW} (h : DueList (dueB S0 (B2 F) (2, 1) V0 ⟨#[]⟩) N L) : L = [⟨0, 1⟩] := by
 have h2 : DueList (fun x => decide (x = ((0 : Int), (1 : Int)))) 1 [⟨0, 1⟩] := ⟨by simp, by simp, fun y hy => by
  obtain rfl := List.mem_singleton.1 hy
  exact ⟨⟨by decide, by decide⟩, by decide⟩, fun y _ hd => by
  have : pr y = (0, 1) := by simpa using hd
  have e : y = ⟨0, 1⟩ := pr_inj this
  rw [e]
  simp⟩
 exact h.uniq h2 (fun x _ => due0 hm x)
theorem give0 {F : List SP} (hm : matchB S0 F V0 ⟨#[]⟩ = true) : giveC S0 (B2 F) (0, 1) (2, 1) V0 ⟨#[]⟩ = 0 := by
 unfold giveC
 rw [evs2]
 simp only [show sameEv V0 ⟨#[]⟩ V0 ⟨#[]⟩ = true by decide +kernel]
 rw [subs2, if_pos rfl]
 simp only [hm]
 rfl
theorem give1 {F : List SP} (hm : matchB S0 F V0 ⟨#[]⟩ = true) : giveC S0 ((B2 F).give (0, 1) (2, 1)) (0, 1) (2, 1) V0 ⟨#[]⟩ = 5 := by
 unfold giveC
 rw [show ((B2 F).give (0, 1) (2, 1)).evs (2, 1) = some (V0, ⟨#[]⟩) from evs2 F]
 simp only [show sameEv V0 ⟨#[]⟩ V0 ⟨#[]⟩ = true by decide +kernel]
 rw [show ((B2 F).give (0, 1) (2, 1)).subs (0, 1) = some F by show (B2 F).subs (0, 1) = _; rw [subs2, if_pos rfl]]
 simp only [hm]
 rw [show ((B2 F).give (0, 1) (2, 1)).got ((0, 1), (2, 1)) = true by unfold Bd.give; simp]
 rfl
theorem cells1 {w : World} {b : Nat} {cs : List Value} {t : TypeId} (h : w.heap[b]? = some (.cells cs.toArray t (0, 0))) (i : Nat) (u : Value) (hi : cs[i]? = some u) : w.cell? ⟨b, i, none⟩ = some u :=
 (blk_cell h i).trans (by simpa using hi)
theorem readsA {w : World} {b : Nat} {t : TypeId} (h : w.heap[b]? = some (.cells #[.string ⟨#[112, 114, 105, 99, 101]⟩, .int .i64 1, .int .i64 0, .int .i64 99] t (0, 0))) : Kd.C k61 w (some ⟨b, 0, none⟩) 1 S0 :=
 ⟨rfl, by decide, fun _ => ⟨_, rfl, fun j p hj => by
  match j, hj with
  | 0, hj =>
   obtain rfl := Option.some.inj hj
   refine ⟨_, rfl, k61_mk w _, fun i u hi => ?_⟩
   rw [add_flat, Nat.zero_mul, Nat.zero_add, Nat.zero_add]
   exact cells1 (cs := [.string ⟨#[112, 114, 105, 99, 101]⟩, .int .i64 1, .int .i64 0, .int .i64 99]) h i u hi⟩⟩
theorem readsV {w : World} {b : Nat} {t : TypeId} (h : w.heap[b]? = some (.cells #[.int .i64 5, .string ⟨#[]⟩] t (0, 0))) : Kd.C k72 w (some ⟨b, 0, none⟩) 1 V0 :=
 ⟨rfl, by decide, fun _ => ⟨_, rfl, fun j p hj => by
  match j, hj with
  | 0, hj =>
   obtain rfl := Option.some.inj hj
   refine ⟨_, rfl, k72_mk w _, fun i u hi => ?_⟩
   rw [add_flat, Nat.zero_mul, Nat.zero_add, Nat.zero_add]
   exact cells1 (cs := [.int .i64 5, .string ⟨#[]⟩]) h i u hi⟩⟩
theorem one_due {w : World} {base : Nat} {v : Value} {L : List SW} (hL : L = [⟨0, 1⟩]) (h : w.ownsRow base tW 2 v L.length (flatW L)) : ∃ g c cur, v = .slice (some ⟨g, 0, none⟩) 1 c ∧ w.heap[g]? = some (.cells cur tW (0, 0)) ∧ w.cell? ⟨g, 1, none⟩ = some (.int .i64 1) := by
 subst hL
 rcases h.2 with ⟨_, h0⟩ | ⟨g, cap, cur, rfl, _, hb, _, _, _, h4⟩
 ·
  cases h0
 ·
  refine ⟨g, cap, cur, rfl, hb, ?_⟩
  have h5 : (cur.toList.take 2)[1]? = (flatW [⟨0, 1⟩])[1]? := congrArg (·[1]?) h4
  rw [List.getElem?_take_of_lt (by omega), flatW_get _ 1 (by decide) ⟨0, 1⟩ rfl] at h5
  refine (blk_cell hb 1).trans ?_
  rw [← Array.getElem?_toList, h5]
  rfl
set_option maxHeartbeats 8000000 in
theorem awake_calls (w : World) : Calls Tryz.prog 6 #[] w fun e w' => e = .returned (.bool true) ∧ Below w.heap.size w w' := by
 obtain ⟨xs, hrd, hmt⟩ := rd0
 obtain ⟨F, hF⟩ : ∃ F, F = xs.map toP := ⟨_, rfl⟩
 rw [← hF] at hmt
 have HRD := mk0 (And.intro hrd hF)
 have HMT := mk0 hmt
 clear hrd hmt hF
 go_enter Tryz.func6, Tryz.ntmps6
 go_wp2_with fail
 have hb1 := below_alloc (Below.refl w.heap.size w) (.cells #[.string ⟨#[112, 114, 105, 99, 101]⟩, .int .i64 1, .int .i64 0, .int .i64 99] 61)
 have HA := readsA (heap_alloc_new w (.cells #[.string ⟨#[112, 114, 105, 99, 101]⟩, .int .i64 1, .int .i64 0, .int .i64 99] 61))
 generalize w.alloc (.cells #[.string ⟨#[112, 114, 105, 99, 101]⟩, .int .i64 1, .int .i64 0, .int .i64 99] 61) = w1 at hb1 HA ⊢
 obtain ⟨base, hbase⟩ : ∃ b, b = w.heap.size := ⟨_, rfl⟩
 rw [← hbase] at HA hb1 ⊢
 refine (new_calls base base 0 1 1 _ S0 w1 rfl (Or.inl rfl) HA (by decide) (by decide) (by rw [hbase]; exact hb1.size)).mono ?_
 rintro e w2 ⟨hb2, h⟩
 obtain ⟨g, rfl, hbd⟩ : ∃ g, e = .returned (.tuple #[.pointer (some ⟨g, 0, none⟩), .nilIface]) ∧ IsBd base w2 g S0 Bd.empty 0 := by
  rcases h with ⟨i, h, _⟩ | ⟨_, g, _, h1, h2⟩
  ·
   rw [ck0] at h; cases h
  ·
   exact ⟨g, h1, h2⟩
 have HB := mk0 (below_then hb1 (by rw [hbase]; exact hb1.size) hb2)
 have HBD := mk0 hbd
 clear h hbd hb2 HA hb1
 go_upto_region 3 with (fail)
 have hb3 := below_alloc (Below.refl w2.heap.size w2) (.cells #[.int .i64 5, .string ⟨#[]⟩] 72)
 have k3 := heap_alloc_new w2 (.cells #[.int .i64 5, .string ⟨#[]⟩] 72)
 have hs3 : (w2.alloc (.cells #[.int .i64 5, .string ⟨#[]⟩] 72)).heap.size = w2.heap.size + 1 := by show (w2.heap.push _).size = _; exact Array.size_push _
 obtain ⟨bv, hbv⟩ : ∃ b, b = w2.heap.size := ⟨_, rfl⟩
 rw [← hbv] at k3 hs3 ⊢
 generalize w2.alloc (.cells #[.int .i64 5, .string ⟨#[]⟩] 72) = w3 at hb3 k3 hs3 ⊢
 have hb4 := below_alloc (Below.refl w3.heap.size w3) (.cells #[.slice (some ⟨bv, 0, none⟩) 1 1, .string ⟨#[]⟩] 44)
 have k4 := heap_alloc_new w3 (.cells #[.slice (some ⟨bv, 0, none⟩) 1 1, .string ⟨#[]⟩] 44)
 rw [← hs3]
 generalize w3.alloc (.cells #[.slice (some ⟨bv, 0, none⟩) 1 1, .string ⟨#[]⟩] 44) = w4 at hb4 k4 ⊢
 generalize w3.heap.size = be at k4 hs3 ⊢
 have hb34 := below_then hb3 hb3.size hb4
 have HKV := mk0 ((hb4.block _ (blk_lt k3)).trans k3)
 have HKE := mk0 k4
 have n1 := mk0 (below_then HB.out (by rw [hbase]; exact HB.out.size) hb34)
 have n2 := mk0 (HBD.out.below hb34)
 clear hb3 k3 hs3 hb4 k4 hb34 hbv HB HBD
 have HB := n1
 have HBD := n2
 clear n1 n2
 have HPB := mk0 (publish_calls base g 0 bv 0 1 1 (2, 1) S0 Bd.empty _ V0 ⟨#[]⟩ w4 HBD.out (by rw [hbase]; exact HB.out.size) (by decide) ⟨by decide, by decide⟩ rfl (Or.inl rfl) (readsV HKV.out) (by decide))
 unfold encE at HPB
 have z1 := (blk_cell HKE.out 0).trans (show _ = some (Value.slice (some ⟨bv, 0, none⟩) 1 1) from rfl)
 have z2 := (blk_cell HKE.out 1).trans (show _ = some (Value.string ⟨#[]⟩) from rfl)
 go_wp2_with fail
 refine HPB.out.mono ?_
 rintro e w5 ⟨hk5, hp⟩
 obtain ⟨rfl, hbd⟩ : e = .returned .nilIface ∧ IsBd base w5 g S0 B1 1 := by
  rcases hp with ⟨h0, _⟩ | ⟨_, h1, h2⟩
  ·
   exact absurd pub0 h0
  ·
   exact ⟨h1, h2⟩
 have n1 := mk0 (HB.out.trans hk5.1)
 have n2 := mk0 hbd
 have n3 := mk0 (hk5.2 _ _ _ _ HKV.out)
 have n4 := mk0 (hk5.2 _ _ _ _ HKE.out)
 clear HB HBD HKV HKE hk5 hp hbd
 have HB := n1
 have HBD := n2
 have HKV := n3
 have HKE := n4
 clear n1 n2 n3 n4
 have HSC := mk0 (subscribe_calls base g 1 (0, 1) S0 B1 T0 w5 HBD.out (by rw [hbase]; exact HB.out.size) (by decide) ⟨by decide, by decide⟩ (by decide))
 unfold k2 T0 at HSC
 go_wp2_with fail
 refine HSC.out.mono ?_
 rintro e w6 ⟨hk5, hp⟩
 obtain ⟨rfl, hbd⟩ : e = .returned .nilIface ∧ IsBd base w6 g S0 (B2 F) 2 := by
  rcases hp with ⟨h0, _⟩ | ⟨_, h1, xs', h2, h3⟩
  ·
   exact absurd (sub0 HRD.out.1) h0
  ·
   have h4 : xs' = xs := by
    have h5 := h2.symm.trans HRD.out.1
    injection h5
   rw [h4, ← HRD.out.2] at h3
   exact ⟨h1, h3⟩
 have n1 := mk0 (HB.out.trans hk5.1)
 have n2 := mk0 hbd
 have n3 := mk0 (hk5.2 _ _ _ _ HKV.out)
 have n4 := mk0 (hk5.2 _ _ _ _ HKE.out)
 clear HB HBD HKV HKE hk5 hp hbd
 have HB := n1
 have HBD := n2
 have HKV := n3
 have HKE := n4
 clear n1 n2 n3 n4
 go_wp2_with fail
 refine (due_calls base g 2 (2, 1) S0 (B2 F) w6 HBD.out (by decide) ⟨by decide, by decide⟩).mono ?_
 rintro e w7 ⟨hb7, hp⟩
 obtain ⟨gl, cl, cur, rfl, hkl⟩ : ∃ gl cl cur, e = .returned (.tuple #[.slice (some ⟨gl, 0, none⟩) 1 cl, .nilIface]) ∧ w7.heap[gl]? = some (.cells cur tW (0, 0)) ∧ w7.cell? ⟨gl, 1, none⟩ = some (.int .i64 1) := by
  rcases hp with ⟨h0, _⟩ | ⟨V1, p1, h0, v, L, h1, h2, h3⟩
  ·
   rw [evs2] at h0; cases h0
  ·
   rw [evs2] at h0
   injection h0 with h0
   injection h0 with h5 h6
   subst h5
   subst h6
   obtain ⟨gl, cl, cur, rfl, h7, h8⟩ := one_due (list0 HMT.out h3) h2
   exact ⟨gl, cl, cur, h1, h7, h8⟩
 have n1 := mk0 (below_then HB.out (by rw [hbase]; exact HB.out.size) hb7)
 have n2 := mk0 (HBD.out.below hb7)
 have n3 := mk0 ((hb7.block _ (blk_lt HKV.out)).trans HKV.out)
 have n4 := mk0 ((hb7.block _ (blk_lt HKE.out)).trans HKE.out)
 have HKL := mk0 hkl
 clear HB HBD HKV HKE hb7 hp hkl z1 z2
 have HB := n1
 have HBD := n2
 have HKV := n3
 have HKE := n4
 clear n1 n2 n3 n4
 have z1 := (blk_cell HKE.out 0).trans (show _ = some (Value.slice (some ⟨bv, 0, none⟩) 1 1) from rfl)
 have z2 := (blk_cell HKE.out 1).trans (show _ = some (Value.string ⟨#[]⟩) from rfl)
 go_upto_region 7 with (fail)
 have hb8 := below_alloc (Below.refl w7.heap.size w7) (.cells #[.int .i64 1, .int .i64 2, .int .i64 1, .slice (some ⟨bv, 0, none⟩) 1 1, .string ⟨#[]⟩] 76)
 have k8 := heap_alloc_new w7 (.cells #[.int .i64 1, .int .i64 2, .int .i64 1, .slice (some ⟨bv, 0, none⟩) 1 1, .string ⟨#[]⟩] 76)
 generalize w7.alloc (.cells #[.int .i64 1, .int .i64 2, .int .i64 1, .slice (some ⟨bv, 0, none⟩) 1 1, .string ⟨#[]⟩] 76) = w8 at hb8 k8 ⊢
 generalize w7.heap.size = gd at k8 ⊢
 have n1 := mk0 (below_then HB.out (by rw [hbase]; exact HB.out.size) hb8)
 have n2 := mk0 (HBD.out.below hb8)
 have n3 := mk0 ((hb8.block _ (blk_lt HKV.out)).trans HKV.out)
 have hl8 := (hb8.block _ (blk_lt HKL.out.1)).trans HKL.out.1
 have HKD := mk0 k8
 have HL1 : cur[1]? = some (.int .i64 1) := (blk_cell HKL.out.1 1).symm.trans HKL.out.2
 have zl := (blk_cell hl8 1).trans HL1
 clear HB HBD HKV HKE hb8 k8 z1 z2 hl8 HL1 HKL
 have HB := n1
 have HBD := n2
 have HKV := n3
 clear n1 n2 n3
 have d0 := (blk_cell HKD.out 0).trans (show _ = some (Value.int .i64 1) from rfl)
 have d1 := (blk_cell HKD.out 1).trans (show _ = some (Value.int .i64 2) from rfl)
 have d2 := (blk_cell HKD.out 2).trans (show _ = some (Value.int .i64 1) from rfl)
 have d3 := (blk_cell HKD.out 3).trans (show _ = some (Value.slice (some ⟨bv, 0, none⟩) 1 1) from rfl)
 have d4 := (blk_cell HKD.out 4).trans (show _ = some (Value.string ⟨#[]⟩) from rfl)
 have HGV := mk0 (give_calls base g 2 bv 0 1 1 (0, 1) (2, 1) S0 (B2 F) (some ⟨bv, 0, none⟩) V0 ⟨#[]⟩ w8 HBD.out (by rw [hbase]; exact HB.out.size) (by decide) ⟨by decide, by decide⟩ ⟨by decide, by decide⟩ rfl (by decide) (readsV HKV.out))
 go_wp2_with fail
 refine HGV.out.mono ?_
 rintro e w9 ⟨hk9, hp⟩
 obtain ⟨rfl, hbd⟩ : e = .returned .nilIface ∧ IsBd base w9 g S0 ((B2 F).give (0, 1) (2, 1)) 3 := by
  rcases hp with ⟨h0, _⟩ | ⟨_, h1, h2⟩
  ·
   exact absurd (give0 HMT.out) h0
  ·
   exact ⟨h1, h2⟩
 have n1 := mk0 (HB.out.trans hk9.1)
 have n2 := mk0 hbd
 have n3 := mk0 (hk9.2 _ _ _ _ HKV.out)
 have n4 := mk0 (hk9.2 _ _ _ _ HKD.out)
 clear HB HBD HKV HKD hk9 hp hbd HGV d0 d1 d2 d3 d4 zl
 have HB := n1
 have HBD := n2
 have HKV := n3
 have HKD := n4
 clear n1 n2 n3 n4
 have d0 := (blk_cell HKD.out 0).trans (show _ = some (Value.int .i64 1) from rfl)
 have d1 := (blk_cell HKD.out 1).trans (show _ = some (Value.int .i64 2) from rfl)
 have d2 := (blk_cell HKD.out 2).trans (show _ = some (Value.int .i64 1) from rfl)
 have d3 := (blk_cell HKD.out 3).trans (show _ = some (Value.slice (some ⟨bv, 0, none⟩) 1 1) from rfl)
 have d4 := (blk_cell HKD.out 4).trans (show _ = some (Value.string ⟨#[]⟩) from rfl)
 have HGV := mk0 (give_calls base g 3 bv 0 1 1 (0, 1) (2, 1) S0 ((B2 F).give (0, 1) (2, 1)) (some ⟨bv, 0, none⟩) V0 ⟨#[]⟩ w9 HBD.out (by rw [hbase]; exact HB.out.size) (by decide) ⟨by decide, by decide⟩ ⟨by decide, by decide⟩ rfl (by decide) (readsV HKV.out))
 go_wp2_with fail
 refine HGV.out.mono ?_
 rintro e w10 ⟨hk10, hp⟩
 obtain ⟨b, n, rfl, her⟩ : ErrE w10 5 e := by
  rcases hp with ⟨_, h1, _⟩ | ⟨h0, _⟩
  ·
   rw [give1 HMT.out] at h1
   exact h1
  ·
   rw [give1 HMT.out] at h0
   exact absurd h0 (by decide)
 have hfin := HB.out.trans hk10.1
 clear HGV hk10 hp d0 d1 d2 d3 d4
 go_wp2_with fail
 refine (is_err 5 5 n _ _ her).mono ?_
 rintro e w11 ⟨rfl, rfl⟩
 clear her
 go_wp2
 try go_ret
 exact ⟨rfl, by rw [← hbase]; exact hfin⟩
end Go.Proofs.YtlokmijoaocofaaGreatDoor.Mine
end
section
namespace Go.Proofs.YtlokmijoaocofaaGreatDoor.Mine
open Go.RowKit YtlokmijoaocofaaGreatDoorW.PrintWords YtlokmijoaocofaaGreatDoorW.PrintLast YtlokmijoaocofaaGreatDoorW.PrintMore
open PBoardPlays
def toAt (x : S61) : S63 := ⟨x.f0, x.f1, x.f2, x.f3⟩
def cutA (x : S61) : S61 := ⟨cutB x.f0 20, x.f1, x.f2, x.f3⟩
def attrsOf (L : List S61) : List S61 := (L.take 6).map cutA
theorem attrs_snoc (L : List S61) (i : Nat) (h : i < L.length) : (L.take (i + 1)).map cutA = (L.take i).map cutA ++ [cutA (L.getD i z61)] := by
 rw [List.take_succ_eq_append_getElem h, List.map_append, List.getD_eq_getElem?_getD, List.getElem?_eq_getElem h]
 rfl
set_option maxHeartbeats 4000000 in
theorem attrs_calls (A : Option Addr) (n c : Nat) (L : List S61) (w : World) (hn : L.length = n) (hr : Kd.C k61 w A n L) (hc : n ≤ c) (hnm : ∀ p ∈ L, p.f0.size ≤ 9223372036854775807) (hn2 : n ≤ 9223372036854775807) :
 Calls Tryz.prog 4 #[.slice A n c] w fun e w' => ∃ v0 v1, e = .returned (.tuple #[v0, v1]) ∧ Kd.R k61 61 w' w.heap.size (fun _ => True) v0 (attrsOf L) ∧ Kd.R k63 63 w' w.heap.size (fun _ => True) v1 ((attrsOf L).map toAt) ∧ Below w.heap.size w w' := by
 have HR := mk0 hr
 have HN := mk0 hn
 have HNM := mk0 hnm
 clear hr hn hnm
 go_enter Tryz.func4, Tryz.ntmps4
 go_wp2_with fail
 have HB := mk0 (below_alloc (below_alloc (Below.refl w.heap.size w) (.cells #[] 61)) (.cells #[] 63))
 have HO4 : Aside0 (Kd.R k61 61 ((w.alloc (.cells #[] 61)).alloc (.cells #[] 63)) w.heap.size (fun _ => True) (.slice (some ⟨w.heap.size, 0, none⟩) 0 0) (([] : List S61))) :=
  ⟨Kd.R_alloc (show Kd.R k61 61 (w.alloc (.cells #[] 61)) w.heap.size (fun _ => True) (.slice (some ⟨w.heap.size, 0, none⟩) 0 0) ([] : List S61) from ⟨fun _ _ => trivial, [], World.ownsRow_lit w #[] 0 (Nat.le_refl _) (by decide) rfl, Reps.none _ _⟩) _⟩
 have HO5 : Aside0 (Kd.R k63 63 ((w.alloc (.cells #[] 61)).alloc (.cells #[] 63)) w.heap.size (fun _ => True) (.slice (some ⟨w.heap.size + 1, 0, none⟩) 0 0) (([] : List S63))) :=
  ⟨⟨fun _ _ => trivial, [], by
   have := World.ownsRow_lit (base := w.heap.size) (e := 63) (size := 4) (w.alloc (.cells #[] 61)) #[] 0 (by show _ ≤ (w.heap.push _).size; rw [Array.size_push]; omega) (by decide) rfl
   have e : (w.alloc (.cells #[] 61)).heap.size = w.heap.size + 1 := by show (w.heap.push _).size = _; exact Array.size_push _
   rw [e] at this
   exact this, Reps.none _ _⟩⟩
 generalize (w.alloc (.cells #[] 61)).alloc (.cells #[] 63) = w0 at HB HO4 HO5 ⊢
 generalize Value.slice (some { block := w.heap.size, off := 0 }) 0 0 = v40 at HO4 ⊢
 generalize Value.slice (some { block := w.heap.size + 1, off := 0 }) 0 0 = v50 at HO5 ⊢
 go_loopg [4, 5, 6, 7] 8 (fun k v4 v5 v6 v7 W => ∃ i : Nat, Aside0 (i ≤ n ∧ i ≤ 6 ∧ k + i = 8) ∧ v6 = .int .i64 (i : Int) ∧ Aside0 (Kd.R k61 61 W w.heap.size (fun _ => True) v4 ((L.take i).map cutA)) ∧ Aside0 (Kd.R k63 63 W w.heap.size (fun _ => True) v5 (((L.take i).map cutA).map toAt)) ∧ Aside0 (Below w.heap.size w W))
 case atStart => exact ⟨0, ⟨by omega, by omega, by omega⟩, rfl, HO4, HO5, HB⟩
 case round =>
  clear HO4 HO5 HB
  obtain ⟨i, HI, rfl, HO4, HO5, HB⟩ := hrel
  by_cases hi : i < n
  ·
   have b1 : decide ((i : Int) < (n : Int)) = true := decide_eq_true (by omega)
   have b2 : decide (i < n) = true := decide_eq_true (by omega)
   have p1 : (0 : Int) ≤ (i : Int) := by omega
   have p2 : (i : Int) < (n : Int) := by omega
   by_cases h6 : i < 6
   ·
    have b3 : decide ((i : Int) < 6) = true := decide_eq_true (by omega)
    obtain ⟨ad, e, h0, h1, h2, h3⟩ := at_T61 HR.out i p1 p2
    cases e
    rw [Int.toNat_natCast] at h0 h1 h2 h3
    replace h0 := (HB.out.cell (World.block_lt_of_cell? w _ h0)).trans h0
    replace h1 := (HB.out.cell (World.block_lt_of_cell? w _ h1)).trans h1
    replace h2 := (HB.out.cell (World.block_lt_of_cell? w _ h2)).trans h2
    replace h3 := (HB.out.cell (World.block_lt_of_cell? w _ h3)).trans h3
    have hrd : rd_T61 L (i : Int) = L.getD i z61 := rfl
    rw [hrd] at h0 h1 h2 h3
    have hs := attrs_snoc L i (by have := HN.out; omega)
    have hz : (L.getD i z61).f0.size ≤ 9223372036854775807 := HNM.out _ (by rw [List.getD_eq_getElem?_getD, List.getElem?_eq_getElem (by have := HN.out; omega)]; exact List.getElem_mem _)
    have HS := mk0 hs
    clear hrd hs
    generalize L.getD i z61 = p at h0 h1 h2 h3 hz HS
    go_wp2_with fail
    refine (cut_P p.f0 20 _ hz (by omega)).mono ?_
    rintro e w1 ⟨rfl, rfl⟩
    generalize hcut : cutB p.f0 20 = nm
    have HC := mk0 (show cutA p = ⟨nm, p.f1, p.f2, p.f3⟩ by unfold cutA; rw [hcut])
    clear hcut
    go_upto_region 7 with (fail)
    have KB7 : Aside0 ((wr.alloc (.cells #[.string nm, .int .i64 p.f1, .int .i64 p.f2, .int .i64 p.f3] 61)).heap[wr.heap.size]? = some (.cells #[.string nm, .int .i64 p.f1, .int .i64 p.f2, .int .i64 p.f3] 61 (0, 0))) := ⟨heap_alloc_new wr _⟩
    have HLV := mk0 (fun k (hk : u4.ownBlock = some k) => (Kd.R_bound HO4.out).1 k hk |>.2.2.1)
    have n1_ := mk0 (below_alloc HB.out (.cells #[.string nm, .int .i64 p.f1, .int .i64 p.f2, .int .i64 p.f3] 61))
    have n2_ := mk0 (Kd.R_alloc HO4.out (.cells #[.string nm, .int .i64 p.f1, .int .i64 p.f2, .int .i64 p.f3] 61))
    have n3_ := mk0 (Kd.R_alloc HO5.out (.cells #[.string nm, .int .i64 p.f1, .int .i64 p.f2, .int .i64 p.f3] 61))
    clear HB HO4 HO5 h0 h1 h2 h3
    have HB := n1_
    have HO4 := n2_
    have HO5 := n3_
    clear n1_ n2_ n3_
    generalize wr.alloc (.cells #[.string nm, .int .i64 p.f1, .int .i64 p.f2, .int .i64 p.f3] 61) = w2 at KB7 HB HO4 HO5 ⊢
    generalize wr.heap.size = g7 at KB7 HLV ⊢
    have y0 := (blk_cell KB7.out 0).trans (show _ = some (Value.string nm) from rfl)
    have y1 := (blk_cell KB7.out 1).trans (show _ = some (Value.int .i64 p.f1) from rfl)
    have y2 := (blk_cell KB7.out 2).trans (show _ = some (Value.int .i64 p.f2) from rfl)
    have y3 := (blk_cell KB7.out 3).trans (show _ = some (Value.int .i64 p.f3) from rfl)
    have hbd : ((L.take i).map cutA).length ≤ 6 := by simp; omega
    have hbd2 : (((L.take i).map cutA).map toAt).length ≤ 6 := by simp; omega
    have HBD := mk0 (And.intro hbd hbd2)
    clear hbd hbd2
    go_wp2_with (first
     | ((with_reducible refine gate_builtin (b := .append) (xs := #[.tmp 28, .tmp 30]) rfl ?_); at_builtin; go_loud (refine Kd.R_append k61 (w0 := w) w.heap.size rfl (.tmp 28) (.tmp 30) 23 61 (.agg #[(.string ⟨#[]⟩), (.int .i64 0), (.int .i64 0), (.int .i64 0)]) 40 rfl Tryz.underlying23 info61 rfl (by decide) (by omega) _ _ (⟨nm, p.f1, p.f2, p.f3⟩ : S61) [.string nm, .int .i64 p.f1, .int .i64 p.f2, .int .i64 p.f3] (fun _ => True) (fun _ => False) rfl ?aX ?aP (fun _ hk => hk.elim) ?aF HO4.out HB.out HB.out.size ?aL ?_; (case aX => first | rfl | (go_simp; done) | (go_simp; rfl)); (case aP => exact k61_mkM _ _ _ (⟨nm, p.f1, p.f2, p.f3⟩ : S61)); (case aF => exact (fun k hk => trivial)); (case aL => have := HBD.out; omega); intro v9 w9 ho hb hg hat; have n0_ := mk0 ho; have n1_ := mk0 hb; have n2_ := mk0 ((hg.block _ (blk_lt KB7.out) (fun e => absurd (HLV.out _ e.symm) (Nat.lt_irrefl _))).trans KB7.out); have n3_ := mk0 (Kd.R_mono (Kd.R_grown (Kd.R_apartR HO5.out HO4.out (by decide)) hg (fun k hk => hk.2)) (ok' := fun _ => True) (fun _ _ => trivial)); clear HO4 HO5 HB KB7 ho hb hg hat y0 y1 y2 y3; have HO4 := n0_; have HB := n1_; have KB7 := n2_; have HO5 := n3_; clear n0_ n1_ n2_ n3_; have y0 := (blk_cell KB7.out 0).trans (show _ = some (Value.string nm) from rfl); have y1 := (blk_cell KB7.out 1).trans (show _ = some (Value.int .i64 p.f1) from rfl); have y2 := (blk_cell KB7.out 2).trans (show _ = some (Value.int .i64 p.f2) from rfl); have y3 := (blk_cell KB7.out 3).trans (show _ = some (Value.int .i64 p.f3) from rfl)))
     | ((with_reducible refine gate_builtin (b := .append) (xs := #[.tmp 32, .tmp 34]) rfl ?_); at_builtin; go_loud (refine Kd.R_append k63 (w0 := w) w.heap.size rfl (.tmp 32) (.tmp 34) 25 63 (.agg #[(.string ⟨#[]⟩), (.int .i64 0), (.int .i64 0), (.int .i64 0)]) 40 rfl Tryz.underlying25 info63 rfl (by decide) (by omega) _ _ (⟨nm, p.f1, p.f2, p.f3⟩ : S63) [.string nm, .int .i64 p.f1, .int .i64 p.f2, .int .i64 p.f3] (fun _ => True) (fun _ => False) rfl ?aX ?aP (fun _ hk => hk.elim) ?aF HO5.out HB.out HB.out.size ?aL ?_; (case aX => first | rfl | (go_simp; done) | (go_simp; rfl)); (case aP => exact k63_mkM _ _ _ (⟨nm, p.f1, p.f2, p.f3⟩ : S63)); (case aF => exact (fun k hk => trivial)); (case aL => have := HBD.out; omega); intro v9 w9 ho hb hg hat; have n0_ := mk0 ho; have n1_ := mk0 hb; have n3_ := mk0 (Kd.R_mono (Kd.R_grown (Kd.R_apartR HO4.out HO5.out (by decide)) hg (fun k hk => hk.2)) (ok' := fun _ => True) (fun _ _ => trivial)); clear HO4 HO5 HB KB7 ho hb hg hat y0 y1 y2 y3; have HO5 := n0_; have HB := n1_; have HO4 := n3_; clear n0_ n1_ n3_)))
    go_roundg (gk - 1)
    case measure => have := HI.out; omega
    case rel => exact ⟨i + 1, ⟨by omega, by omega, by have := HI.out; omega⟩, rfl, ⟨by rw [HS.out, HC.out]; exact HO4.out⟩, ⟨by rw [HS.out, HC.out, List.map_append]; exact HO5.out⟩, HB⟩
   ·
    have b3 : decide ((i : Int) < 6) = false := decide_eq_false (by omega)
    have hE : attrsOf L = (L.take i).map cutA := by unfold attrsOf; rw [show i = 6 by have := HI.out; omega]
    have HE := mk0 hE
    clear hE
    rw [← HE.out] at HO4 HO5
    have hfin := And.intro HO4.out (And.intro HO5.out HB.out)
    go_wp2
    go_ret2
    exact ⟨_, _, rfl, hfin⟩
  ·
   have b1 : decide ((i : Int) < (n : Int)) = false := decide_eq_false (by omega)
   have b2 : decide (i < n) = false := decide_eq_false (by omega)
   have hE : attrsOf L = (L.take i).map cutA := by
    unfold attrsOf
    have h1 : L.length ≤ i := by have := HN.out; omega
    rw [List.take_of_length_le h1, List.take_of_length_le (by have := HI.out; omega)]
   have HE := mk0 hE
   clear hE
   rw [← HE.out] at HO4 HO5
   have hfin := And.intro HO4.out (And.intro HO5.out HB.out)
   clear hi
   go_wp2
   go_ret2
   exact ⟨_, _, rfl, hfin⟩
end Go.Proofs.YtlokmijoaocofaaGreatDoor.Mine
end
