/- Texts of one claim, one behind the other, made short by a program. -/
import Derived.Test.YtlokmijoaocofaaGreatDoorMP13
set_option linter.unusedSimpArgs false
set_option linter.unusedVariables false
set_option maxRecDepth 100000
section
namespace Go.Proofs.YtlokmijoaocofaaGreatDoor.Mine
open Go.Maps Go.RowKit YtlokmijoaocofaaGreatDoorW.PrintWords YtlokmijoaocofaaGreatDoorW.PrintLast YtlokmijoaocofaaGreatDoorW.PrintMore
open PBoardPlays
def Bd.give (B : Bd) (x t : P2) : Bd := { B with got := fun y => if y = (x, t) then true else B.got y }
def giveC (S : List SA) (B : Bd) (x t : P2) (V : List SV) (p : ByteArray) : Int :=
 match B.evs t with
 | none => 9
 | some (V0, p0) =>
  if sameEv V0 p0 V p = true then
   match B.subs x with
   | none => 12
   | some F => if matchB S F V0 p0 = true then (if B.got (x, t) = true then 5 else 0) else 3
  else 11
def GivePost (base g : Nat) (S : List SA) (B : Bd) (N : Nat) (x t : P2) (V : List SV) (p : ByteArray) (w : World) (e : Ending) (w' : World) : Prop :=
 Kept base w w' ∧ ((giveC S B x t V p ≠ 0 ∧ ErrE w' (giveC S B x t V p) e ∧ IsBd base w' g S B N) ∨ (giveC S B x t V p = 0 ∧ e = .returned .nilIface ∧ IsBd base w' g S (B.give x t) (N + 1)))
theorem evs_look {w : World} {f : P2 → Option Value} {g : P2 → Option (List SV × ByteArray)} {be N : Nat} (hm : MapIs Tryz.prog 96 k2 w be N f) (h : evOk w f g) {t : P2} (ht : wf2 t) :
 ∃ E k c p, (∀ W, Below w.heap.size w W → (Instr.lookup 66 (.map (some be)) (.agg #[.int .i64 t.1, .int .i64 t.2]) true).run Tryz.prog W = .ok (.tuple #[.agg #[.slice E k c, .string p], .bool (g t).isSome]) W) ∧ ∀ V0 p0, g t = some (V0, p0) → p = p0 ∧ V0.length = k ∧ k ≤ c ∧ k ≤ 100000 ∧ Kd.C k72 w E k V0 := by
 obtain ⟨l, hl⟩ := key_what ht
 cases hg : g t with
 | none =>
  have hf := (h t).1 hg
  exact ⟨none, 0, 0, ⟨#[]⟩, fun W hb => (hm.below hb).look_none lawWhat Tryz.underlying66 (by rfl) hl hf, fun V0 p0 h => by cases h⟩
 | some vp =>
  obtain ⟨V0, p0⟩ := vp
  obtain ⟨E, k, c, hf, h1, h2, h3, h4⟩ := (h t).2 V0 p0 hg
  exact ⟨E, k, c, p0, fun W hb => (hm.below hb).look_some lawWhat Tryz.underlying66 (by rfl) hl hf, fun V1 p1 h => by
   injection h with h
   injection h with h5 h6
   subst h5
   exact ⟨h6, h1, h2, h3, h4⟩⟩
theorem subs_look {w : World} {f : P2 → Option Value} {g : P2 → Option (List SP)} {bs N : Nat} (hm : MapIs Tryz.prog 56 k2 w bs N f) (h : subOk w f g) {x : P2} (hx : wf2 x) :
 ∃ A n c, (∀ W, Below w.heap.size w W → (Instr.lookup 67 (.map (some bs)) (.agg #[.int .i64 x.1, .int .i64 x.2]) true).run Tryz.prog W = .ok (.tuple #[.slice A n c, .bool (g x).isSome]) W) ∧ ∀ F, g x = some F → F.length = n ∧ n ≤ c ∧ n ≤ 100000 ∧ Kd.C k149 w A n F := by
 obtain ⟨l, hl⟩ := key_who hx
 cases hg : g x with
 | none =>
  have hf := (h x).1 hg
  exact ⟨none, 0, 0, fun W hb => (hm.below hb).look_none lawWho Tryz.underlying67 (by rfl) hl hf, fun F h => by cases h⟩
 | some F =>
  obtain ⟨A, n, c, hf, h1, h2, h3, h4⟩ := (h x).2 F hg
  exact ⟨A, n, c, fun W hb => (hm.below hb).look_some lawWho Tryz.underlying67 (by rfl) hl hf, fun F1 h => by
   injection h with h5
   subst h5
   exact ⟨h1, h2, h3, h4⟩⟩
set_option maxHeartbeats 8000000 in
theorem give_calls (base g N b off k c : Nat) (x t : P2) (S : List SA) (B : Bd) (E : Option Addr) (V : List SV) (pay : ByteArray) (w : World) (hb : IsBd base w g S B N) (hbase : base ≤ w.heap.size) (hN : N ≤ 1000000) (hx : wf2 x) (ht : wf2 t) (hk : V.length = k) (hkc : k ≤ c) (hr : Kd.C k72 w E k V) :
 Calls Tryz.prog 18 #[.pointer (some ⟨g, 0, none⟩), .int .i64 x.1, .agg #[.int .i64 x.2, .int .i64 t.1, .int .i64 t.2, .slice E k c, .string pay]] w (GivePost base g S B N x t V pay w) := by
 have HBD := mk0 hb
 have HR := mk0 (And.intro hk (And.intro hkc hr))
 obtain ⟨A, n, cS, be, bs, bg, fe, fs, fg, h1, ⟨h2, h3, h4⟩, m1, m2, m3, hne, hba, e1, e2, e3⟩ := hb
 obtain ⟨E0, k0, c0, p0, hev, HEV0⟩ := evs_look m1 e1 ht
 obtain ⟨AF, nF, cF, hsb, HSB0⟩ := subs_look m2 e2 hx
 obtain ⟨lg, hlg⟩ := key_given (x := (x, t)) ⟨hx, ht⟩
 have HLG := mk0 hlg
 have HM := mk0 (And.intro m1 (And.intro m2 (And.intro m3 (And.intro hne (And.intro hba (And.intro e1 (And.intro e2 e3)))))))
 have HG := mk0 h1
 have HSN := mk0 (And.intro h2 (And.intro h3 h4))
 have HEV := mk0 hev
 have HSB := mk0 hsb
 have HEV1 := mk0 HEV0
 have HSB1 := mk0 HSB0
 clear h1 h2 h4 m1 m2 m3 hne hba e1 e2 e3 hlg hev hsb HEV0 HSB0 hk hkc hr hx ht
 obtain ⟨x1, x2⟩ := x
 obtain ⟨t1, t2⟩ := t
 obtain ⟨be1, hbe1⟩ : ∃ z, z = (B.evs (t1, t2)).isSome := ⟨_, rfl⟩
 obtain ⟨bs1, hbs1⟩ : ∃ z, z = (B.subs (x1, x2)).isSome := ⟨_, rfl⟩
 rw [← hbe1] at HEV
 rw [← hbs1] at HSB
 have HBE := mk0 hbe1
 have HBS := mk0 hbs1
 clear hbe1 hbs1
 have HF0 := mk0 (fun (cd : Int) (h0 : cd ≠ 0) (hc : giveC S B (x1, x2) (t1, t2) V pay = cd) e w' (h1 : Kept base w w') (h2 : ErrE w' cd e) (h3 : IsBd base w' g S B N) => show GivePost base g S B N (x1, x2) (t1, t2) V pay w e w' from ⟨h1, Or.inl ⟨by rw [hc]; exact h0, by rw [hc]; exact h2, h3⟩⟩)
 have HF1 := mk0 (fun (hc : giveC S B (x1, x2) (t1, t2) V pay = 0) w' (h1 : Kept base w w') (h3 : IsBd base w' g S (B.give (x1, x2) (t1, t2)) (N + 1)) => show GivePost base g S B N (x1, x2) (t1, t2) V pay w (.returned .nilIface) w' from ⟨h1, Or.inr ⟨hc, rfl, h3⟩⟩)
 generalize GivePost base g S B N (x1, x2) (t1, t2) V pay w = POST at HF0 HF1 ⊢
 go_enter Tryz.func18, Tryz.ntmps18
 go_upto_region 2 with (fail)
 have hb1 := below_alloc (Below.refl w.heap.size w) (.cells #[.int .i64 x2, .int .i64 t1, .int .i64 t2, .slice E k c, .string pay] 76)
 have k1 := heap_alloc_new w (.cells #[.int .i64 x2, .int .i64 t1, .int .i64 t2, .slice E k c, .string pay] 76)
 have hs1 : (w.alloc (.cells #[.int .i64 x2, .int .i64 t1, .int .i64 t2, .slice E k c, .string pay] 76)).heap.size = w.heap.size + 1 := by show (w.heap.push _).size = _; exact Array.size_push _
 generalize w.alloc (.cells #[.int .i64 x2, .int .i64 t1, .int .i64 t2, .slice E k c, .string pay] 76) = w1 at hb1 k1 hs1 ⊢
 have hb2 := below_alloc (Below.refl w1.heap.size w1) (.cells #[.int .i64 x1, .int .i64 x2, .int .i64 t1, .int .i64 t2] 102)
 have k2 := heap_alloc_new w1 (.cells #[.int .i64 x1, .int .i64 x2, .int .i64 t1, .int .i64 t2] 102)
 rw [← hs1]
 generalize w1.alloc (.cells #[.int .i64 x1, .int .i64 x2, .int .i64 t1, .int .i64 t2] 102) = w2 at hb2 k2 ⊢
 have HKD := mk0 ((hb2.block _ (blk_lt k1)).trans k1)
 have HKB := mk0 k2
 have HB := mk0 (below_then hb1 hb1.size hb2)
 clear k1 k2 hb1 hb2 hs1
 generalize w1.heap.size = gx at HKB ⊢
 obtain ⟨gd, hgd⟩ : ∃ g, g = w.heap.size := ⟨_, rfl⟩
 rw [← hgd] at HKD ⊢
 clear hgd
 have hG2 := (HB.out.block _ (blk_lt HG.out)).trans HG.out
 have z1 := (blk_cell hG2 1).trans (show _ = some (Value.map (some be)) from rfl)
 have z2 := (blk_cell HKB.out 2).trans (show _ = some (Value.int .i64 t1) from rfl)
 have z3 := (blk_cell HKB.out 3).trans (show _ = some (Value.int .i64 t2) from rfl)
 have hlk : (Instr.lookup 66 (.map (some be)) (.agg #[.int .i64 t1, .int .i64 t2]) true).run Tryz.prog w2.drew = .ok (.tuple #[.agg #[.slice E0 k0 c0, .string p0], .bool be1]) w2.drew := HEV.out _ (below_drew HB.out)
 have hlk2 : (Instr.lookup 66 (.map (some be)) (.agg #[.int .i64 t1, .int .i64 t2]) true).run Tryz.prog (w2.alloc (.cells #[.slice none 0 0, .string ⟨#[]⟩] 44)).drew = .ok (.tuple #[.agg #[.slice E0 k0 c0, .string p0], .bool be1]) (w2.alloc (.cells #[.slice none 0 0, .string ⟨#[]⟩] 44)).drew := HEV.out _ (below_drew (below_alloc HB.out _))
 go_region_held3 (fun X => X.cell? ⟨g, 1, none⟩ = some (.map (some be)) ∧ X.cell? ⟨gx, 2, none⟩ = some (.int .i64 t1) ∧ X.cell? ⟨gx, 3, none⟩ = some (.int .i64 t2)) (go_keep) (fail)
 all_goals
  clear hlk hlk2 z1 z2 z3 hG2
  have hb3 := below_drew (below_alloc (Below.refl w2.heap.size w2) (.cells #[.slice E0 k0 c0, .string p0] 44))
  have k3 : ((w2.alloc (.cells #[.slice E0 k0 c0, .string p0] 44)).drew).heap[w2.heap.size]? = some (.cells #[.slice E0 k0 c0, .string p0] 44 (0, 0)) := heap_alloc_new w2 _
  have n0_ := mk0 ((hb3.block _ (blk_lt HKD.out)).trans HKD.out)
  have n1 := mk0 (below_then HB.out HB.out.size hb3)
  have n2 := mk0 ((hb3.block _ (blk_lt HKB.out)).trans HKB.out)
  have HKE := mk0 k3
  generalize ((w2.alloc (.cells #[.slice E0 k0 c0, .string p0] 44)).drew) = w3 at HKE n0_ n1 n2 ⊢
  generalize w2.heap.size = ge at HKE ⊢
  clear HKD HB HKB hb3 k3
  have HKD := n0_
  have HB := n1
  have HKB := n2
  clear n0_ n1 n2
  have hG3 := (HB.out.block _ (blk_lt HG.out)).trans HG.out
  have q0 : ∀ q : BelowP w3, q.w.cell? ⟨g, 2, none⟩ = some (.map (some bs)) := fun q => q.cell ((blk_cell hG3 2).trans rfl)
  have q1 : ∀ q : BelowP w3, q.w.cell? ⟨gx, 0, none⟩ = some (.int .i64 x1) := fun q => q.cell ((blk_cell HKB.out 0).trans rfl)
  have q2 : ∀ q : BelowP w3, q.w.cell? ⟨gx, 1, none⟩ = some (.int .i64 x2) := fun q => q.cell ((blk_cell HKB.out 1).trans rfl)
  have q3 : ∀ q : BelowP w3, (Instr.lookup 67 (.map (some bs)) (.agg #[.int .i64 x1, .int .i64 x2]) true).run Tryz.prog q.w = .ok (.tuple #[.slice AF nF cF, .bool bs1]) q.w := fun q => HSB.out _ (below_then HB.out HB.out.size q.h)
  clear hG3
  go_wp2_with fail
  refine wp_region_quiet_below (by kernel_rfl) (by kernel_rfl) ?_
  repeat ((with_reducible refine wpQuiet_step (fun K hK => ?_)); go_simp; first | ((with_reducible refine hK _ ?_); clear hK K) | ((with_reducible apply Exists.intro); (with_reducible refine ⟨fun _ => ?_, hK _ ?_⟩); (fail); clear hK K))
  with_reducible refine wpQuiet_nil ?_
  rintro _ ⟨pq, rfl⟩
  clear q0 q1 q2 q3
  obtain ⟨w5, hw5⟩ : ∃ W, W = pq.w := ⟨_, rfl⟩
  have hb5 := pq.h
  rw [← hw5] at hb5 ⊢
  clear hw5
  have n0_ := mk0 ((hb5.block _ (blk_lt HKD.out)).trans HKD.out)
  have n1 := mk0 (below_then HB.out HB.out.size hb5)
  have n2 := mk0 ((hb5.block _ (blk_lt HKB.out)).trans HKB.out)
  have n3 := mk0 ((hb5.block _ (blk_lt HKE.out)).trans HKE.out)
  clear HKD HB HKB HKE hb5 pq
  have HKD := n0_
  have HB := n1
  have HKB := n2
  have HKE := n3
  clear n0_ n1 n2 n3
  cases hbe : be1 with
  | false =>
   subst hbe
   have HFIN := mk0 (HF0.out 9 (by decide) (by unfold giveC; rw [show B.evs (t1, t2) = none by have := HBE.out; simpa using this.symm]))
   go_wp2_with fail
   refine (bfault_calls 9 _).mono ?_
   rintro e w8 ⟨b1, hbl, rfl, hf, hb⟩
   have hb8 := below_then HB.out HB.out.size hb
   have hfin := HFIN.out _ w8 (Kept.of hb8 hbase) ⟨b1, 1, rfl, IsFault.errIs hf⟩ (HBD.out.below hb8)
   clear hb hf hbl hb8
   go_wp2
   try go_ret
   exact hfin
  | true =>
   subst hbe
   obtain ⟨V0, hev⟩ : ∃ V0, B.evs (t1, t2) = some (V0, p0) := by
    have h1 := HBE.out
    cases hev : B.evs (t1, t2) with
    | none => rw [hev] at h1; cases h1
    | some vp =>
     obtain ⟨V0, p1⟩ := vp
     exact ⟨V0, by rw [(HEV1.out V0 p1 hev).1]⟩
   have HV0 := mk0 hev
   have HVC := mk0 (HEV1.out V0 p0 hev).2
   clear hev
   have z1 := (blk_cell HKE.out 0).trans (show _ = some (Value.slice E0 k0 c0) from rfl)
   have z2 := (blk_cell HKE.out 1).trans (show _ = some (Value.string p0) from rfl)
   have z3 := (blk_cell HKD.out 3).trans (show _ = some (Value.slice E k c) from rfl)
   have z4 := (blk_cell HKD.out 4).trans (show _ = some (Value.string pay) from rfl)
   have HSM := mk0 (same_calls E0 E k0 k c0 c V0 V p0 pay w5 HVC.out.1 HR.out.1 (Kd.C_below HVC.out.2.2.2 HB.out) (Kd.C_below HR.out.2.2 HB.out) HVC.out.2.1 HR.out.2.1 (by have := HVC.out.2.2.1; omega))
   unfold encE at HSM
   go_wp2_with fail
   (with_reducible refine HSM.out.mono ?_)
   rintro e w6 ⟨rfl, hb6⟩
   have n0_ := mk0 ((hb6.block _ (blk_lt HKD.out)).trans HKD.out)
   have n1 := mk0 (below_then HB.out HB.out.size hb6)
   have n2 := mk0 ((hb6.block _ (blk_lt HKB.out)).trans HKB.out)
   have n3 := mk0 ((hb6.block _ (blk_lt HKE.out)).trans HKE.out)
   clear HKD HB HKB HKE hb6 HSM z1 z2 z3 z4
   have HKD := n0_
   have HB := n1
   have HKB := n2
   have HKE := n3
   clear n0_ n1 n2 n3
   cases hsm : sameEv V0 p0 V pay with
   | false =>
    have HFIN := mk0 (HF0.out 11 (by decide) (by unfold giveC; rw [HV0.out]; simp only [hsm]; rfl))
    clear hsm
    go_wp2_with fail
    refine (bfault_calls 11 _).mono ?_
    rintro e w8 ⟨b1, hbl, rfl, hf, hb⟩
    have hb8 := below_then HB.out HB.out.size hb
    have hfin := HFIN.out _ w8 (Kept.of hb8 hbase) ⟨b1, 1, rfl, IsFault.errIs hf⟩ (HBD.out.below hb8)
    clear hb hf hbl hb8
    go_wp2
    try go_ret
    exact hfin
   | true =>
    have HSMT := mk0 hsm
    clear hsm
    cases hbs : bs1 with
    | false =>
     subst hbs
     have HFIN := mk0 (HF0.out 12 (by decide) (by unfold giveC; rw [HV0.out]; simp only [HSMT.out]; rw [show B.subs (x1, x2) = none by have := HBS.out; simpa using this.symm]; rfl))
     go_wp2_with fail
     refine (bfault_calls 12 _).mono ?_
     rintro e w8 ⟨b1, hbl, rfl, hf, hb⟩
     have hb8 := below_then HB.out HB.out.size hb
     have hfin := HFIN.out _ w8 (Kept.of hb8 hbase) ⟨b1, 1, rfl, IsFault.errIs hf⟩ (HBD.out.below hb8)
     clear hb hf hbl hb8
     go_wp2
     try go_ret
     exact hfin
    | true =>
     subst hbs
     obtain ⟨F, hsf⟩ : ∃ F, B.subs (x1, x2) = some F := by
      have h1 := HBS.out
      cases hsf : B.subs (x1, x2) with
      | none => rw [hsf] at h1; cases h1
      | some F => exact ⟨F, rfl⟩
     have HF := mk0 hsf
     have HFC := mk0 (HSB1.out F hsf)
     clear hsf
     have hG6 := (HB.out.block _ (blk_lt HG.out)).trans HG.out
     have q0 : ∀ q : BelowP w6, q.w.cell? ⟨g, 0, none⟩ = some (.slice A n cS) := fun q => q.cell ((blk_cell hG6 0).trans rfl)
     have q1 : ∀ q : BelowP w6, q.w.cell? ⟨ge, 0, none⟩ = some (.slice E0 k0 c0) := fun q => q.cell ((blk_cell HKE.out 0).trans rfl)
     have q2 : ∀ q : BelowP w6, q.w.cell? ⟨ge, 1, none⟩ = some (.string p0) := fun q => q.cell ((blk_cell HKE.out 1).trans rfl)
     have HMC := mk0 (fun q : BelowP w6 => match_calls A AF E0 n nF cS cF k0 c0 S F V0 p0 q.w HSN.out.1 HFC.out.1 HVC.out.1 (Kd.C_below (Kd.C_below HSN.out.2.2 HB.out) q.h) (Kd.C_below (Kd.C_below HFC.out.2.2.2 HB.out) q.h) (Kd.C_below (Kd.C_below HVC.out.2.2.2 HB.out) q.h) h3 HFC.out.2.2.1 HFC.out.2.1)
     unfold encE at HMC
     clear hG6
     cases hmt : matchB S F V0 p0 with
     | false =>
      have HFIN := mk0 (HF0.out 3 (by decide) (by unfold giveC; rw [HV0.out]; simp only [HSMT.out]; rw [HF.out]; simp only [hmt]; rfl))
      rw [hmt] at HMC
      clear hmt
      go_wp2_with fail
      refine wp_region_quiet_below (by kernel_rfl) (by kernel_rfl) ?_
      repeat ((with_reducible refine wpQuiet_step (fun K hK => ?_)); go_simp; first | ((with_reducible refine hK _ ?_); clear hK K) | ((with_reducible apply Exists.intro); (with_reducible refine ⟨fun _ => ?_, hK _ ?_⟩); ((go_at_call 30; (with_reducible refine Calls.below_of (HMC.out _)))); clear hK K))
      with_reducible refine wpQuiet_nil ?_
      rintro _ ⟨pq, rfl⟩
      clear HMC q0 q1 q2
      obtain ⟨w5, hw5⟩ : ∃ W, W = pq.w := ⟨_, rfl⟩
      have hb5 := pq.h
      rw [← hw5] at hb5 ⊢
      clear hw5
      have n0_ := mk0 ((hb5.block _ (blk_lt HKD.out)).trans HKD.out)
      have n1 := mk0 (below_then HB.out HB.out.size hb5)
      have n2 := mk0 ((hb5.block _ (blk_lt HKB.out)).trans HKB.out)
      have n3 := mk0 ((hb5.block _ (blk_lt HKE.out)).trans HKE.out)
      clear HKD HB HKB HKE hb5 pq
      have HKD := n0_
      have HB := n1
      have HKB := n2
      have HKE := n3
      clear n0_ n1 n2 n3
      go_wp2_with fail
      refine (bfault_calls 3 _).mono ?_
      rintro e w8 ⟨b1, hbl, rfl, hf, hb⟩
      have hb8 := below_then HB.out HB.out.size hb
      have hfin := HFIN.out _ w8 (Kept.of hb8 hbase) ⟨b1, 1, rfl, IsFault.errIs hf⟩ (HBD.out.below hb8)
      clear hb hf hbl hb8
      go_wp2
      try go_ret
      exact hfin
     | true =>
      have HMT := mk0 hmt
      rw [hmt] at HMC
      clear hmt
      go_wp2_with fail
      refine wp_region_quiet_below (by kernel_rfl) (by kernel_rfl) ?_
      repeat ((with_reducible refine wpQuiet_step (fun K hK => ?_)); go_simp; first | ((with_reducible refine hK _ ?_); clear hK K) | ((with_reducible apply Exists.intro); (with_reducible refine ⟨fun _ => ?_, hK _ ?_⟩); ((go_at_call 30; (with_reducible refine Calls.below_of (HMC.out _)))); clear hK K))
      with_reducible refine wpQuiet_nil ?_
      rintro _ ⟨pq, rfl⟩
      clear HMC q0 q1 q2
      obtain ⟨w5, hw5⟩ : ∃ W, W = pq.w := ⟨_, rfl⟩
      have hb5 := pq.h
      rw [← hw5] at hb5 ⊢
      clear hw5
      have n0_ := mk0 ((hb5.block _ (blk_lt HKD.out)).trans HKD.out)
      have n1 := mk0 (below_then HB.out HB.out.size hb5)
      have n2 := mk0 ((hb5.block _ (blk_lt HKB.out)).trans HKB.out)
      have n3 := mk0 ((hb5.block _ (blk_lt HKE.out)).trans HKE.out)
      clear HKD HB HKB HKE hb5 pq
      have HKD := n0_
      have HB := n1
      have HKB := n2
      have HKE := n3
      clear n0_ n1 n2 n3
      have hG6 := (HB.out.block _ (blk_lt HG.out)).trans HG.out
      have q0 : ∀ q : BelowP w5, q.w.cell? ⟨g, 3, none⟩ = some (.map (some bg)) := fun q => q.cell ((blk_cell hG6 3).trans rfl)
      have q1 : ∀ q : BelowP w5, q.w.cell? ⟨gx, 0, none⟩ = some (.int .i64 x1) := fun q => q.cell ((blk_cell HKB.out 0).trans rfl)
      have q2 : ∀ q : BelowP w5, q.w.cell? ⟨gx, 1, none⟩ = some (.int .i64 x2) := fun q => q.cell ((blk_cell HKB.out 1).trans rfl)
      have q3 : ∀ q : BelowP w5, q.w.cell? ⟨gx, 2, none⟩ = some (.int .i64 t1) := fun q => q.cell ((blk_cell HKB.out 2).trans rfl)
      have q4 : ∀ q : BelowP w5, q.w.cell? ⟨gx, 3, none⟩ = some (.int .i64 t2) := fun q => q.cell ((blk_cell HKB.out 3).trans rfl)
      have hgt : ∀ q : BelowP w5, (Instr.lookup 68 (.map (some bg)) (.agg #[.int .i64 x1, .int .i64 x2, .int .i64 t1, .int .i64 t2]) false).run Tryz.prog q.w = .ok (.bool (B.got ((x1, x2), (t1, t2)))) q.w := fun q => by
       have h5 := ((HM.out.2.2.1.below HB.out).below q.h).look1 lawGiven Tryz.underlying68 (z := .bool false) (by rfl) HLG.out
       have h6 : (fg ((x1, x2), (t1, t2))).getD (.bool false) = .bool (B.got ((x1, x2), (t1, t2))) := by
        rw [HM.out.2.2.2.2.2.2.2 ((x1, x2), (t1, t2))]
        cases B.got ((x1, x2), (t1, t2)) <;> rfl
       rw [h6] at h5
       exact h5
      clear hG6
      cases hgo : B.got ((x1, x2), (t1, t2)) with
      | true =>
       have HFIN := mk0 (HF0.out 5 (by decide) (by unfold giveC; rw [HV0.out]; simp only [HSMT.out]; rw [HF.out]; simp only [HMT.out]; rw [hgo]; rfl))
       rw [hgo] at hgt
       clear hgo
       go_wp2_with fail
       refine wp_region_quiet_below (by kernel_rfl) (by kernel_rfl) ?_
       repeat ((with_reducible refine wpQuiet_step (fun K hK => ?_)); go_simp; first | ((with_reducible refine hK _ ?_); clear hK K) | ((with_reducible apply Exists.intro); (with_reducible refine ⟨fun _ => ?_, hK _ ?_⟩); (fail); clear hK K))
       with_reducible refine wpQuiet_nil ?_
       rintro _ ⟨pq, rfl⟩
       clear q0 q1 q2 q3 q4 hgt
       obtain ⟨w5, hw5⟩ : ∃ W, W = pq.w := ⟨_, rfl⟩
       have hb5 := pq.h
       rw [← hw5] at hb5 ⊢
       clear hw5
       have n0_ := mk0 ((hb5.block _ (blk_lt HKD.out)).trans HKD.out)
       have n1 := mk0 (below_then HB.out HB.out.size hb5)
       have n2 := mk0 ((hb5.block _ (blk_lt HKB.out)).trans HKB.out)
       have n3 := mk0 ((hb5.block _ (blk_lt HKE.out)).trans HKE.out)
       clear HKD HB HKB HKE hb5 pq
       have HKD := n0_
       have HB := n1
       have HKB := n2
       have HKE := n3
       clear n0_ n1 n2 n3
       go_wp2_with fail
       refine (bfault_calls 5 _).mono ?_
       rintro e w8 ⟨b1, hbl, rfl, hf, hb⟩
       have hb8 := below_then HB.out HB.out.size hb
       have hfin := HFIN.out _ w8 (Kept.of hb8 hbase) ⟨b1, 1, rfl, IsFault.errIs hf⟩ (HBD.out.below hb8)
       clear hb hf hbl hb8
       go_wp2
       try go_ret
       exact hfin
      | false =>
       have HOK := mk0 (HF1.out (by unfold giveC; rw [HV0.out]; simp only [HSMT.out]; rw [HF.out]; simp only [HMT.out]; rw [hgo]; rfl))
       rw [hgo] at hgt
       clear hgo
       go_wp2_with fail
       refine wp_region_quiet_below (by kernel_rfl) (by kernel_rfl) ?_
       repeat ((with_reducible refine wpQuiet_step (fun K hK => ?_)); go_simp; first | ((with_reducible refine hK _ ?_); clear hK K) | ((with_reducible apply Exists.intro); (with_reducible refine ⟨fun _ => ?_, hK _ ?_⟩); (fail); clear hK K))
       with_reducible refine wpQuiet_nil ?_
       rintro _ ⟨pq, rfl⟩
       clear q0 q1 q2 q3 q4 hgt
       go_upto_region 14 with (fail)
       obtain ⟨w5, hw5⟩ : ∃ W, W = pq.w := ⟨_, rfl⟩
       have hb5 := pq.h
       rw [← hw5] at hb5 ⊢
       clear hw5
       have n0_ := mk0 ((hb5.block _ (blk_lt HKD.out)).trans HKD.out)
       have n1 := mk0 (below_then HB.out HB.out.size hb5)
       have n2 := mk0 ((hb5.block _ (blk_lt HKB.out)).trans HKB.out)
       have n3 := mk0 ((hb5.block _ (blk_lt HKE.out)).trans HKE.out)
       clear HKD HB HKB HKE hb5 pq
       have HKD := n0_
       have HB := n1
       have HKB := n2
       have HKE := n3
       clear n0_ n1 n2 n3
       have hG6 := (HB.out.block _ (blk_lt HG.out)).trans HG.out
       have z0 := (blk_cell hG6 3).trans (show _ = some (Value.map (some bg)) from rfl)
       have z1 := (blk_cell HKB.out 0).trans (show _ = some (Value.int .i64 x1) from rfl)
       have z2 := (blk_cell HKB.out 1).trans (show _ = some (Value.int .i64 x2) from rfl)
       have z3 := (blk_cell HKB.out 2).trans (show _ = some (Value.int .i64 t1) from rfl)
       have z4 := (blk_cell HKB.out 3).trans (show _ = some (Value.int .i64 t2) from rfl)
       have hM5 := HM.out.2.2.1.below HB.out
       obtain ⟨W6, hrun, hM6, hgr⟩ := MapIs.store (w := w5.drew) (hM5.block rfl) lawGiven (fun _ _ => k4_inj) Tryz.underlying68 (by unfold maxLen; omega) HLG.out (.bool true)
       have hup : (Instr.mapUpdate 68 (.map (some bg)) (.agg #[.int .i64 x1, .int .i64 x2, .int .i64 t1, .int .i64 t2]) (.bool true)).run Tryz.prog w5.drew = .ok () W6 := hrun
       clear hrun
       obtain ⟨es, cl, hobj⟩ := hM5.obj
       have HBd : Below w.heap.size w w5.drew := ⟨HB.out.os, HB.out.tape, HB.out.output, HB.out.size, HB.out.block⟩
       have hobjd : w5.drew.heap[bg]? = some (.map es cl) := hobj
       have hgne : g ≠ bg := by
        rintro rfl
        rw [hG6] at hobj
        cases hobj
       have hne := HM.out.2.2.2.1
       have hkept : Kept base w W6 := (Kept.of HBd hbase).trans (Kept.turned hobjd hgr HM.out.2.2.2.2.1.2.2.2)
       have hgot6 : gotOk (upd fg ((x1, x2), (t1, t2)) (some (.bool true))) (B.give (x1, x2) (t1, t2)).got := fun y => by
        unfold upd Bd.give
        show _ = if (if y = ((x1, x2), (t1, t2)) then true else B.got y) = true then _ else _
        by_cases hy : y = ((x1, x2), (t1, t2))
        ·
         rw [if_pos hy, if_pos hy]
         rfl
        ·
         rw [if_neg hy, if_neg hy]
         exact HM.out.2.2.2.2.2.2.2 y
       have hbd : IsBd base W6 g S (B.give (x1, x2) (t1, t2)) (N + 1) := ⟨A, n, cS, be, bs, bg, fe, fs, _, (hgr.block g (by show g < w5.heap.size; exact blk_lt hG6) (fun e => hgne (Option.some.inj e))).trans hG6, ⟨HSN.out.1, HSN.out.2.1, CA_turned hobjd hgr (Kd.C_below HSN.out.2.2 HBd)⟩, ((HM.out.1.below HBd).other hgr hne.2.1).mono (by omega), ((HM.out.2.1.below HBd).other hgr hne.2.2).mono (by omega), hM6, hne, HM.out.2.2.2.2.1, (HM.out.2.2.2.2.2.1.below HBd).turned hobjd hgr, (HM.out.2.2.2.2.2.2.1.below HBd).turned hobjd hgr, hgot6⟩
       have hfin := HOK.out _ hkept hbd
       clear hbd hgot6 hkept hne hgne hobjd HBd hobj hgr hM6 hM5 hG6
       go_region_with (fail)
       all_goals
        go_wp2
        try go_ret
        exact hfin
def givOf (x t : P2) : RGiv := ⟨x.1, x.2, t.1, t.2⟩
def keyS (s : RSub) : P2 := (s.node, s.id)
structure Rel (B : Bd) (R : RB) (k : Nat) : Prop where
 ev : ∀ x, B.evs x = (R.E.find? (evIs x)).map (fun e => (e.V, e.pay))
 sub : ∀ x, B.subs x = (R.U.find? (subIs x)).map (fun s => s.F)
 got : ∀ x t, B.got (x, t) = R.G.any (fun g => decide (g = givOf x t))
 un : R.U.Pairwise (fun a b => keyS a ≠ keyS b)
 wf : ∀ s ∈ R.U, wf2 (keyS s)
 le : R.E.length ≤ k
 lu : R.U.length ≤ k
 lg : R.G.length ≤ k
def RB.empty : RB := ⟨[], [], []⟩
theorem Rel.empty : Rel Bd.empty RB.empty 0 := ⟨fun _ => rfl, fun _ => rfl, fun _ _ => rfl, List.Pairwise.nil, fun s hs => (by cases hs), Nat.le_refl _, Nat.le_refl _, Nat.le_refl _⟩
theorem Rel.mono {B : Bd} {R : RB} {k m : Nat} (h : Rel B R k) (hm : k ≤ m) : Rel B R m := ⟨h.ev, h.sub, h.got, h.un, h.wf, Nat.le_trans h.le hm, Nat.le_trans h.lu hm, Nat.le_trans h.lg hm⟩
theorem evIs_self (e : REv) : evIs (e.pub, e.seq) e = true := by simp [evIs]
theorem evIs_iff {t : P2} {e : REv} : evIs t e = true ↔ (e.pub, e.seq) = t := by
 obtain ⟨t1, t2⟩ := t
 simp [evIs]
theorem subIs_iff {t : P2} {s : RSub} : subIs t s = true ↔ keyS s = t := by
 obtain ⟨t1, t2⟩ := t
 simp [subIs, keyS]
theorem find_snoc {α : Type} (p : α → Bool) (l : List α) (x : α) : (l ++ [x]).find? p = (l.find? p).or (if p x = true then some x else none) := by
 rw [List.find?_append]
 congr 1
 rw [List.find?_cons]
 cases p x <;> rfl
def rpubC (S : List SA) (R : RB) (t : P2) (V : List SV) (pay : ByteArray) : Int := if (evBad S V pay).isSome then 3 else if (R.E.find? (evIs t)).isSome then 5 else 0
theorem rpubC_eq {S : List SA} {B : Bd} {R : RB} {k : Nat} (h : Rel B R k) (t : P2) (V : List SV) (pay : ByteArray) : rpubC S R t V pay = pubC S B t V pay := by
 unfold rpubC pubC
 rw [h.ev t, Option.isSome_map]
def RB.pub (R : RB) (e : REv) : RB := { R with E := R.E ++ [e] }
theorem Rel.pub {S : List SA} {B : Bd} {R : RB} {k : Nat} (h : Rel B R k) (e : REv) (h0 : rpubC S R (e.pub, e.seq) e.V e.pay = 0) : Rel (B.pub (e.pub, e.seq) e.V e.pay) (R.pub e) (k + 1) := by
 have hn : R.E.find? (evIs (e.pub, e.seq)) = none := by
  unfold rpubC at h0
  split at h0
  ·
   cases h0
  ·
   split at h0
   ·
    cases h0
   ·
    rename_i h1
    simpa using h1
 refine ⟨fun x => ?_, h.sub, h.got, h.un, h.wf, ?_, Nat.le_succ_of_le h.lu, Nat.le_succ_of_le h.lg⟩
 ·
  show upd B.evs (e.pub, e.seq) (some (e.V, e.pay)) x = ((R.E ++ [e]).find? (evIs x)).map _
  rw [find_snoc]
  unfold upd
  by_cases hx : x = (e.pub, e.seq)
  ·
   subst hx
   rw [if_pos rfl, hn, evIs_self, if_pos rfl]
   rfl
  ·
   rw [if_neg hx, h.ev x, if_neg (fun hc => hx (evIs_iff.1 hc).symm), Option.or_none]
 ·
  show (R.E ++ [e]).length ≤ k + 1
  have := h.le
  simp
  omega
def RB.sub (R : RB) (s : RSub) : RB := { R with U := R.U ++ [s] }
def rsubC (S : List SA) (R : RB) (x : P2) (t : ByteArray) : Int :=
 match readR S t with
 | .inr c => c
 | .inl _ => if (R.U.find? (subIs x)).isSome then 5 else 0
theorem rsubC_eq {S : List SA} {B : Bd} {R : RB} {k : Nat} (h : Rel B R k) (x : P2) (t : ByteArray) : rsubC S R x t = subC S B x t := by
 unfold rsubC subC
 rw [h.sub x, Option.isSome_map]
 cases readR S t <;> rfl
theorem Rel.subscribe {B : Bd} {R : RB} {k : Nat} (h : Rel B R k) (s : RSub) (hw : wf2 (keyS s)) (hn : R.U.find? (subIs (keyS s)) = none) : Rel (B.sub (keyS s) s.F) (R.sub s) (k + 1) := by
 have hni : ∀ a ∈ R.U, keyS a ≠ keyS s := fun a ha e => by
  have := List.find?_eq_none.1 hn a ha
  exact this (subIs_iff.2 e)
 refine ⟨h.ev, fun x => ?_, h.got, ?_, ?_, Nat.le_succ_of_le h.le, ?_, Nat.le_succ_of_le h.lg⟩
 ·
  show upd B.subs (keyS s) (some s.F) x = ((R.U ++ [s]).find? (subIs x)).map _
  rw [find_snoc]
  unfold upd
  by_cases hx : x = keyS s
  ·
   subst hx
   rw [if_pos rfl, hn, if_pos (subIs_iff.2 rfl)]
   rfl
  ·
   rw [if_neg hx, h.sub x, if_neg (fun hc => hx (subIs_iff.1 hc).symm), Option.or_none]
 ·
  show (R.U ++ [s]).Pairwise _
  rw [List.pairwise_append]
  exact ⟨h.un, List.pairwise_singleton _ _, fun a ha b hb => by rw [List.mem_singleton.1 hb]; exact hni a ha⟩
 ·
  intro a ha
  rcases List.mem_append.1 ha with ha | ha
  ·
   exact h.wf a ha
  ·
   rw [List.mem_singleton.1 ha]; exact hw
 ·
  show (R.U ++ [s]).length ≤ k + 1
  have := h.lu
  simp
  omega
def keepB (n id : Int) (all : Bool) (s : RSub) : Bool := !(s.node == n) || (!all && !(s.id == id))
def RB.without (R : RB) (n id : Int) (all : Bool) : RB := { R with U := R.U.filter (keepB n id all) }
theorem find_filter {α : Type} (p q : α → Bool) (l : List α) (h : ∀ x ∈ l, p x = true → q x = true) : (l.filter q).find? p = l.find? p := by
 induction l with
 | nil => rfl
 | cons a r ih =>
  have ih := ih (fun x hx => h x (List.mem_cons_of_mem _ hx))
  cases hq : q a with
  | true =>
   rw [List.filter_cons_of_pos hq, List.find?_cons, List.find?_cons, ih]
  | false =>
   rw [List.filter_cons_of_neg (by simp [hq]), ih, List.find?_cons]
   cases hp : p a with
   | true => rw [h a List.mem_cons_self hp] at hq; cases hq
   | false => rfl
theorem find_filter_none {α : Type} (p q : α → Bool) (l : List α) (h : ∀ x ∈ l, p x = true → q x = false) : (l.filter q).find? p = none := by
 rw [List.find?_eq_none]
 intro x hx hp
 obtain ⟨h1, h2⟩ := List.mem_filter.1 hx
 rw [h x h1 hp] at h2
 cases h2
theorem Rel.unsub {B : Bd} {R : RB} {k : Nat} (h : Rel B R k) (x : P2) : Rel (B.unsub x) (R.without x.1 x.2 false) k := by
 have hkeep : ∀ s, keepB x.1 x.2 false s = !(subIs x s) := fun s => by
  unfold keepB subIs
  cases s.node == x.1 <;> cases s.id == x.2 <;> rfl
 refine ⟨h.ev, fun y => ?_, h.got, h.un.filter _, fun s hs => h.wf s (List.mem_filter.1 hs).1, h.le, Nat.le_trans (List.length_filter_le _ _) h.lu, h.lg⟩
 show upd B.subs x none y = ((R.U.filter _).find? (subIs y)).map _
 unfold upd
 by_cases hy : y = x
 ·
  subst hy
  rw [if_pos rfl, find_filter_none _ _ _ (fun s _ hp => by rw [hkeep, hp]; rfl)]
  rfl
 ·
  rw [if_neg hy, h.sub y, find_filter _ _ _ (fun s _ hp => by
   rw [hkeep]
   cases hc : subIs x s with
   | false => rfl
   | true => exact absurd ((subIs_iff.1 hp).symm.trans (subIs_iff.1 hc)) hy)]
theorem Rel.gone {B : Bd} {R : RB} {k : Nat} (h : Rel B R k) (n id : Int) : Rel (B.gone n) (R.without n id true) k := by
 have hkeep : ∀ s, keepB n id true s = !(s.node == n) := fun s => by unfold keepB; simp
 refine ⟨h.ev, fun y => ?_, h.got, h.un.filter _, fun s hs => h.wf s (List.mem_filter.1 hs).1, h.le, Nat.le_trans (List.length_filter_le _ _) h.lu, h.lg⟩
 show (if (y.1 == n) = true then none else B.subs y) = ((R.U.filter _).find? (subIs y)).map _
 by_cases hy : (y.1 == n) = true
 ·
  rw [if_pos hy, find_filter_none _ _ _ (fun s _ hp => by
   rw [hkeep]
   have := subIs_iff.1 hp
   have h1 : s.node = y.1 := congrArg Prod.fst this
   rw [h1, hy]
   rfl)]
  rfl
 ·
  rw [if_neg hy, h.sub y, find_filter _ _ _ (fun s _ hp => by
   rw [hkeep]
   have := subIs_iff.1 hp
   have h1 : s.node = y.1 := congrArg Prod.fst this
   rw [h1]
   simpa using hy)]
theorem gone_count {B : Bd} {R : RB} {k : Nat} (h : Rel B R k) (n id : Int) (r : Nat) (hr : ∀ ks : List P2, ks.Nodup → (∀ x, x ∈ ks ↔ (wf2 x ∧ (B.subs x).isSome = true ∧ (x.1 == n) = true)) → r = ks.length) : r = R.U.length - (R.without n id true).U.length := by
 have hkeep : ∀ s, keepB n id true s = !(s.node == n) := fun s => by unfold keepB; simp
 have e1 := filt_split (fun s : RSub => s.node == n) R.U
 have e2 : (R.without n id true).U = R.U.filter fun s => !(s.node == n) := List.filter_congr (fun s _ => hkeep s)
 rw [hr ((R.U.filter fun s => s.node == n).map keyS)]
 ·
  rw [e2, List.length_map]
  omega
 ·
  rw [List.Nodup, List.pairwise_map]
  exact h.un.filter _
 ·
  intro x
  rw [List.mem_map]
  constructor
  ·
   rintro ⟨s, hs, rfl⟩
   obtain ⟨h1, h2⟩ := List.mem_filter.1 hs
   refine ⟨h.wf s h1, ?_, h2⟩
   rw [h.sub, Option.isSome_map, List.find?_isSome]
   exact ⟨s, h1, subIs_iff.2 rfl⟩
  ·
   rintro ⟨h1, h2, h3⟩
   rw [h.sub, Option.isSome_map, List.find?_isSome] at h2
   obtain ⟨s, hs, hp⟩ := h2
   have hk := subIs_iff.1 hp
   exact ⟨s, List.mem_filter.2 ⟨hs, by rw [← hk] at h3; exact h3⟩, hk⟩
theorem unsub_count {B : Bd} {R : RB} {k : Nat} (h : Rel B R k) (x : P2) : (R.U.length - (R.without x.1 x.2 false).U.length = 0 ↔ B.subs x = none) := by
 have hkeep : ∀ s, keepB x.1 x.2 false s = !(subIs x s) := fun s => by
  unfold keepB subIs
  cases s.node == x.1 <;> cases s.id == x.2 <;> rfl
 have e1 := filt_split (subIs x) R.U
 have e2 : (R.without x.1 x.2 false).U = R.U.filter fun s => !(subIs x s) := List.filter_congr (fun s _ => hkeep s)
 rw [e2, h.sub, Option.map_eq_none_iff, List.find?_eq_none]
 constructor
 ·
  intro h0 s hs hp
  have : (R.U.filter (subIs x)).length = 0 := by omega
  have h2 := List.length_eq_zero_iff.1 this
  have h3 : s ∈ R.U.filter (subIs x) := List.mem_filter.2 ⟨hs, hp⟩
  rw [h2] at h3
  cases h3
 ·
  intro h0
  have : R.U.filter (subIs x) = [] := List.filter_eq_nil_iff.2 h0
  rw [this] at e1
  simp at e1
  omega
def RB.give (R : RB) (g : RGiv) : RB := { R with G := R.G ++ [g] }
def rgiveC (S : List SA) (R : RB) (g : RGiv) (V : List SV) (p : ByteArray) : Int :=
 match R.E.find? (evIs (g.pub, g.seq)) with
 | none => 9
 | some e =>
  if sameEv e.V e.pay V p = true then
   match R.U.find? (subIs (g.node, g.id)) with
   | none => 12
   | some s => if matchB S s.F e.V e.pay = true then (if R.G.any (fun y => decide (y = g)) = true then 5 else 0) else 3
  else 11
theorem rgiveC_eq {S : List SA} {B : Bd} {R : RB} {k : Nat} (h : Rel B R k) (x t : P2) (V : List SV) (p : ByteArray) : rgiveC S R (givOf x t) V p = giveC S B x t V p := by
 unfold rgiveC giveC
 rw [h.ev t, h.sub x, h.got x t]
 show (match R.E.find? (evIs t) with | none => _ | some e => _) = _
 cases R.E.find? (evIs t) with
 | none => rfl
 | some e =>
  show (if sameEv e.V e.pay V p = true then (match R.U.find? (subIs x) with | none => _ | some s => _) else _) = _
  cases R.U.find? (subIs x) <;> rfl
theorem Rel.give {B : Bd} {R : RB} {k : Nat} (h : Rel B R k) (x t : P2) : Rel (B.give x t) (R.give (givOf x t)) (k + 1) := by
 refine ⟨h.ev, h.sub, fun y u => ?_, h.un, h.wf, Nat.le_succ_of_le h.le, Nat.le_succ_of_le h.lu, ?_⟩
 ·
  show (if (y, u) = (x, t) then true else B.got (y, u)) = (R.G ++ [givOf x t]).any _
  rw [List.any_append, ← h.got y u]
  by_cases hy : (y, u) = (x, t)
  ·
   rw [if_pos hy]
   injection hy with h1 h2
   subst h1
   subst h2
   simp
  ·
   rw [if_neg hy]
   have : ¬ givOf x t = givOf y u := by
    intro e
    unfold givOf at e
    injection e with e1 e2 e3 e4
    exact hy (Prod.ext (Prod.ext e1.symm e2.symm) (Prod.ext e3.symm e4.symm))
   simp [this]
 ·
  show (R.G ++ [_]).length ≤ k + 1
  have := h.lg
  simp
  omega
def ltG (a b : RGiv) : Bool := decide (a.node < b.node) || (a.node == b.node && decide (a.id < b.id))
def insG (g : RGiv) : List RGiv → Bool → List RGiv
 | [], false => [g]
 | [], true => []
 | x :: r, false => if ltG g x = true then g :: x :: insG g r true else x :: insG g r false
 | x :: r, true => x :: insG g r true
def rdueB (S : List SA) (R : RB) (t : P2) (e : REv) (s : RSub) : Bool := matchB S s.F e.V e.pay && !(R.G.any (fun y => decide (y = givOf (keyS s) t)))
def rdueL (S : List SA) (R : RB) (t : P2) (e : REv) : List RSub → List RGiv → List RGiv
 | [], out => out
 | s :: r, out => rdueL S R t e r (if rdueB S R t e s = true then insG (givOf (keyS s) t) out false else out)
theorem insG_true (g : RGiv) (l : List RGiv) : insG g l true = l := by
 induction l with
 | nil => rfl
 | cons x r ih => show x :: insG g r true = _; rw [ih]
theorem insG_mem (g : RGiv) (l : List RGiv) (y : RGiv) : y ∈ insG g l false ↔ y = g ∨ y ∈ l := by
 induction l with
 | nil => show y ∈ [g] ↔ _; simp
 | cons x r ih =>
  show y ∈ (if ltG g x = true then g :: x :: insG g r true else x :: insG g r false) ↔ _
  split
  ·
   rw [insG_true]
   simp
  ·
   rw [List.mem_cons, ih, List.mem_cons]
   constructor
   ·
    rintro (h | h | h)
    ·
     exact Or.inr (Or.inl h)
    ·
     exact Or.inl h
    ·
     exact Or.inr (Or.inr h)
   ·
    rintro (h | h | h)
    ·
     exact Or.inr (Or.inl h)
    ·
     exact Or.inl h
    ·
     exact Or.inr (Or.inr h)
theorem ltG_iff {a b : RGiv} : ltG a b = true ↔ (a.node < b.node ∨ (a.node = b.node ∧ a.id < b.id)) := by
 simp [ltG]
theorem insG_sorted (g : RGiv) (l : List RGiv) (hs : l.Pairwise (fun a b => ltG a b = true)) (hn : ∀ y ∈ l, ¬ (y.node = g.node ∧ y.id = g.id)) : (insG g l false).Pairwise (fun a b => ltG a b = true) := by
 induction l with
 | nil => exact List.pairwise_singleton _ _
 | cons x r ih =>
  obtain ⟨h1, h2⟩ := List.pairwise_cons.1 hs
  show List.Pairwise _ (if ltG g x = true then g :: x :: insG g r true else x :: insG g r false)
  split
  ·
   rename_i hgx
   rw [insG_true]
   refine List.pairwise_cons.2 ⟨fun y hy => ?_, hs⟩
   rcases List.mem_cons.1 hy with rfl | hy
   ·
    exact hgx
   ·
    have := ltG_iff.1 (h1 y hy)
    have := ltG_iff.1 hgx
    exact ltG_iff.2 (by omega)
  ·
   rename_i hgx
   refine List.pairwise_cons.2 ⟨fun y hy => ?_, ih h2 (fun y hy => hn y (List.mem_cons_of_mem _ hy))⟩
   rcases (insG_mem g r y).1 hy with rfl | hy
   ·
    have h3 := hn x List.mem_cons_self
    have h4 : ¬ (y.node < x.node ∨ (y.node = x.node ∧ y.id < x.id)) := fun h => hgx (ltG_iff.2 h)
    exact ltG_iff.2 (by omega)
   ·
    exact h1 y hy
structure DueR (due : RSub → Bool) (t : P2) (U : List RSub) (out : List RGiv) : Prop where
 sorted : out.Pairwise (fun a b => ltG a b = true)
 mem : ∀ g, g ∈ out ↔ ∃ s ∈ U, due s = true ∧ g = givOf (keyS s) t
theorem rdueL_due {S : List SA} {R : RB} {t : P2} {e : REv} : ∀ (r done : List RSub) (out : List RGiv), (done ++ r).Pairwise (fun a b => keyS a ≠ keyS b) → DueR (rdueB S R t e) t done out → DueR (rdueB S R t e) t (done ++ r) (rdueL S R t e r out) := by
 intro r
 induction r with
 | nil => intro done out _ h; rw [List.append_nil]; exact h
 | cons s r ih =>
  intro done out hp h
  have hd : DueR (rdueB S R t e) t (done ++ [s]) (if rdueB S R t e s = true then insG (givOf (keyS s) t) out false else out) := by
   have hns : ∀ a ∈ done, keyS a ≠ keyS s := fun a ha => (List.pairwise_append.1 hp).2.2 a ha s List.mem_cons_self
   by_cases hs : rdueB S R t e s = true
   ·
    rw [if_pos hs]
    refine ⟨insG_sorted _ _ h.sorted (fun y hy hyg => ?_), fun g => ?_⟩
    ·
     obtain ⟨a, ha, _, rfl⟩ := (h.mem y).1 hy
     exact hns a ha (Prod.ext hyg.1 hyg.2)
    ·
     rw [insG_mem, h.mem]
     constructor
     ·
      rintro (rfl | ⟨a, ha, h1, h2⟩)
      ·
       exact ⟨s, by simp, hs, rfl⟩
      ·
       exact ⟨a, List.mem_append_left _ ha, h1, h2⟩
     ·
      rintro ⟨a, ha, h1, h2⟩
      rcases List.mem_append.1 ha with ha | ha
      ·
       exact Or.inr ⟨a, ha, h1, h2⟩
      ·
       rw [List.mem_singleton.1 ha] at h2
       exact Or.inl h2
   ·
    rw [if_neg hs]
    refine ⟨h.sorted, fun g => ?_⟩
    rw [h.mem]
    constructor
    ·
     rintro ⟨a, ha, h1, h2⟩
     exact ⟨a, List.mem_append_left _ ha, h1, h2⟩
    ·
     rintro ⟨a, ha, h1, h2⟩
     rcases List.mem_append.1 ha with ha | ha
     ·
      exact ⟨a, ha, h1, h2⟩
     ·
      rw [List.mem_singleton.1 ha] at h1
      exact absurd h1 hs
  have := ih (done ++ [s]) _ (by rw [List.append_assoc]; exact hp) hd
  rw [List.append_assoc] at this
  exact this
def giW (g : RGiv) : SW := ⟨g.node, g.id⟩
theorem due_eq {S : List SA} {B : Bd} {R : RB} {k N : Nat} {t : P2} {e : REv} {L : List SW} (h : Rel B R k) (he : R.E.find? (evIs t) = some e) (hL : DueList (dueB S B t e.V e.pay) N L) : L = (rdueL S R t e R.U []).map giW := by
 have hd := rdueL_due (S := S) (R := R) (t := t) (e := e) R.U [] [] (by simpa using h.un) ⟨List.Pairwise.nil, fun g => by simp⟩
 rw [List.nil_append] at hd
 refine ltW_ext hL.sorted ?_ (fun y => ?_)
 ·
  rw [List.pairwise_map]
  exact hd.sorted.imp (fun {a b} hab => by
   have := ltG_iff.1 hab
   unfold ltW giW
   omega)
 ·
  have hbig : ∀ s ∈ R.U, B.subs (keyS s) = some s.F := fun s hs => by
   rw [h.sub]
   have h1 : (R.U.find? (subIs (keyS s))).isSome = true := List.find?_isSome.2 ⟨s, hs, subIs_iff.2 rfl⟩
   cases hf : R.U.find? (subIs (keyS s)) with
   | none => rw [hf] at h1; cases h1
   | some s' =>
    have h2 := subIs_iff.1 (List.find?_some hf)
    have h3 := List.mem_of_find?_eq_some hf
    have : s' = s := by
     apply Classical.byContradiction
     intro hne
     have := h.un
     obtain ⟨i, hi, hsi⟩ := List.getElem_of_mem hs
     obtain ⟨j, hj, hsj⟩ := List.getElem_of_mem h3
     rcases Nat.lt_trichotomy i j with hij | hij | hij
     ·
      exact (List.pairwise_iff_getElem.1 this i j hi hj hij) (by rw [hsi, hsj, h2])
     ·
      subst hij
      exact hne (hsj.symm.trans hsi)
     ·
      exact (List.pairwise_iff_getElem.1 this j i hj hi hij) (by rw [hsi, hsj, h2])
    rw [this]
    rfl
  have hdue : ∀ s ∈ R.U, dueB S B t e.V e.pay (keyS s) = rdueB S R t e s := fun s hs => by
   unfold dueB rdueB
   rw [hbig s hs, h.got]
  constructor
  ·
   intro hy
   obtain ⟨h1, h2⟩ := hL.mem y hy
   have h3 : (B.subs (pr y)).isSome = true := by
    unfold dueB at h2
    cases hb : B.subs (pr y) with
    | none => rw [hb] at h2; cases h2
    | some F => rfl
   rw [h.sub, Option.isSome_map, List.find?_isSome] at h3
   obtain ⟨s, hs, hp⟩ := h3
   have hk := subIs_iff.1 hp
   rw [← hk, hdue s hs] at h2
   refine List.mem_map.2 ⟨givOf (keyS s) t, (hd.mem _).2 ⟨s, hs, h2, rfl⟩, ?_⟩
   rw [hk]
   rfl
  ·
   intro hy
   obtain ⟨g, hg, rfl⟩ := List.mem_map.1 hy
   obtain ⟨s, hs, h1, rfl⟩ := (hd.mem g).1 hg
   exact hL.all _ (h.wf s hs) (by show dueB S B t e.V e.pay (keyS s) = true; rw [hdue s hs]; exact h1)
end Go.Proofs.YtlokmijoaocofaaGreatDoor.Mine
end
