/- Texts of one claim, one behind the other, made short by a program. -/
import Derived.Test.YtlokmijoaocofaaGreatDoorMP12
import Derived.Lib.SlMapFilter
set_option linter.unusedSimpArgs false
set_option linter.unusedVariables false
set_option maxRecDepth 100000
section
namespace Go.Proofs.YtlokmijoaocofaaGreatDoor.Mine
open Go.Maps Go.RowKit YtlokmijoaocofaaGreatDoorW.PrintWords YtlokmijoaocofaaGreatDoorW.PrintLast YtlokmijoaocofaaGreatDoorW.PrintMore
open PBoardPlays
open Value renaming slice → Vs
def ErrE (w' : World) (c : Int) (e : Ending) : Prop := ∃ b n, e = .returned (.iface 143 (.pointer (some ⟨b, 0, none⟩))) ∧ ErrIs w' c n (.iface 143 (.pointer (some ⟨b, 0, none⟩)))
def Bd.pub (B : Bd) (x : P2) (V : List SV) (pay : ByteArray) : Bd := { B with evs := upd B.evs x (some (V, pay)) }
def pubC (S : List SA) (B : Bd) (x : P2) (V : List SV) (pay : ByteArray) : Int :=
 if (evBad S V pay).isSome then 3 else if (B.evs x).isSome then 5 else 0
def PubPost (base g : Nat) (S : List SA) (B : Bd) (N : Nat) (x : P2) (V : List SV) (pay : ByteArray) (w : World) (e : Ending) (w' : World) : Prop :=
 Kept base w w' ∧ ((pubC S B x V pay ≠ 0 ∧ ErrE w' (pubC S B x V pay) e ∧ IsBd base w' g S B N) ∨ (pubC S B x V pay = 0 ∧ e = .returned .nilIface ∧ IsBd base w' g S (B.pub x V pay) (N + 1)))
set_option maxHeartbeats 8000000 in
theorem publish_calls (base g N b off k c : Nat) (x : P2) (S : List SA) (B : Bd) (E : Option Addr) (V : List SV) (pay : ByteArray) (w : World) (hb : IsBd base w g S B N) (hbase : base ≤ w.heap.size) (hN : N ≤ 1000000) (hx : wf2 x) (hk : V.length = k) (hE : E = some ⟨b, off, none⟩ ∨ k = 0) (hr : Kd.C k72 w E k V) (hS1 : 0 < S.length) :
 Calls Tryz.prog 16 #[.pointer (some ⟨g, 0, none⟩), .int .i64 x.1, .int .i64 x.2, encE E k c pay] w (PubPost base g S B N x V pay w) := by
 have HBD := mk0 hb
 have HR := mk0 hr
 have HK := mk0 hk
 have HE := mk0 hE
 obtain ⟨l, hl⟩ := key_what hx
 have HL := mk0 hl
 have HX := mk0 hx
 clear hb hr hk hE hl hx
 obtain ⟨x1, x2⟩ := x
 cases heb : evBad S V pay with
 | some i =>
  have HPC := mk0 (show pubC S B (x1, x2) V pay = 3 by unfold pubC; rw [heb]; rfl)
  have HEB := mk0 heb
  have HFIN := mk0 (fun e w' (h1 : Kept base w w') (h2 : ErrE w' 3 e) (h3 : IsBd base w' g S B N) => show PubPost base g S B N (x1, x2) V pay w e w' from ⟨h1, Or.inl ⟨by rw [HPC.out]; decide, by rw [HPC.out]; exact h2, h3⟩⟩)
  generalize PubPost base g S B N (x1, x2) V pay w = POST at HFIN ⊢
  clear heb
  unfold encE
  go_enter Tryz.func16, Tryz.ntmps16
  go_wp2_with fail
  have hb2 := below_alloc (Below.refl w.heap.size w) (.cells #[.slice E k c, .string pay] 44)
  have HKE := mk0 (show (w.alloc (.cells #[.slice E k c, .string pay] 44)).heap[w.heap.size]? = some (.cells #[.slice E k c, .string pay] 44 (0, 0)) from heap_alloc_new w _)
  have HB := mk0 hb2
  have HBD2 := mk0 (HBD.out.below hb2)
  have HR2 := mk0 (Kd.C_below HR.out hb2)
  clear hb2
  generalize w.alloc (.cells #[.slice E k c, .string pay] 44) = W2 at HKE HB HBD2 HR2 ⊢
  generalize w.heap.size = ge at HKE ⊢
  obtain ⟨A, n, cS, be, bs, bg, fe, fs, fg, h1, ⟨h2, h3, h4⟩, _⟩ := HBD2.out
  have q0 := (blk_cell h1 0).trans (show _ = some (Vs A n cS) from rfl)
  have q1 := (blk_cell HKE.out 0).trans (show _ = some (Vs E k c) from rfl)
  have q2 := (blk_cell HKE.out 1).trans (show _ = some (Value.string pay) from rfl)
  have HSC := mk0 h4
  have HSN := mk0 h2
  have HEVC := mk0 (fun W (c1 : Kd.C k61 W A n S) (c2 : Kd.C k72 W E k V) => event_calls A E n k cS c S V pay W HSN.out HK.out c1 c2 h3)
  unfold encE at HEVC
  clear h1 h2 h4
  go_region_with (first
   | (go_at_call 43; (with_reducible refine (HEVC.out _ ?c1 ?c2).mono ?_); (case c1 => with_reducible repeat (first | exact HSC.out | apply Kd.C_drew | apply Kd.C_drewN)); (case c2 => with_reducible repeat (first | exact HR2.out | apply Kd.C_drew | apply Kd.C_drewN)); rintro e w1 hq; obtain ⟨b1, hbl, rfl, hf, hb⟩ := hq.bad HEB.out))
  all_goals
   have hb3 : Below W2.heap.size W2 w1 := ⟨hb.os, hb.tape, hb.output, hb.size, hb.block⟩
   have hfin := HFIN.out _ _ (Kept.of (below_then HB.out HB.out.size hb3) hbase) ⟨b1, 1, rfl, IsFault.errIs hf⟩ (HBD2.out.below hb3)
   clear hb hf hbl hq hb3
   go_wp2
   try go_ret
   exact hfin
 | none =>
  have hlen := evBad_len heb
  have HEB := mk0 heb
  obtain ⟨A, n, cS, be, bs, bg, fe, fs, fg, h1, ⟨h2, h3, h4⟩, m1, m2, m3, hne, hba, e1, e2, e3⟩ := HBD.out
  have HM := mk0 (And.intro m1 (And.intro m2 (And.intro m3 (And.intro hne (And.intro hba (And.intro e1 (And.intro e2 e3)))))))
  have HG := mk0 h1
  have HSN := mk0 (And.intro h2 (And.intro h3 h4))
  have HLEN := mk0 hlen
  clear h1 h2 h4 m1 m2 m3 hne hba e1 e2 e3 heb hlen
  unfold encE
  go_enter Tryz.func16, Tryz.ntmps16
  go_wp2_with fail
  have hb2 := below_alloc (Below.refl w.heap.size w) (.cells #[.slice E k c, .string pay] 44)
  have HKE := mk0 (show (w.alloc (.cells #[.slice E k c, .string pay] 44)).heap[w.heap.size]? = some (.cells #[.slice E k c, .string pay] 44 (0, 0)) from heap_alloc_new w _)
  have HB := mk0 hb2
  generalize w.alloc (.cells #[.slice E k c, .string pay] 44) = W2 at HKE HB hb2 ⊢
  obtain ⟨ge, hge⟩ : ∃ g, g = w.heap.size := ⟨_, rfl⟩
  rw [← hge] at HKE ⊢
  have HGE := mk0 hge
  have q0 : ∀ q : BelowP W2, q.w.cell? ⟨g, 0, none⟩ = some (.slice A n cS) := fun q => q.cell ((blk_cell ((hb2.block _ (blk_lt HG.out)).trans HG.out) 0).trans rfl)
  have q1 : ∀ q : BelowP W2, q.w.cell? ⟨ge, 0, none⟩ = some (.slice E k c) := fun q => q.cell ((blk_cell HKE.out 0).trans rfl)
  have q2 : ∀ q : BelowP W2, q.w.cell? ⟨ge, 1, none⟩ = some (.string pay) := fun q => q.cell ((blk_cell HKE.out 1).trans rfl)
  have HEVC := mk0 (fun q : BelowP W2 => (event_calls A E n k cS c S V pay q.w HSN.out.1 HK.out (Kd.C_below (Kd.C_below HSN.out.2.2 hb2) q.h) (Kd.C_below (Kd.C_below HR.out hb2) q.h) h3).mono (fun e w' hq => hq.ok HEB.out))
  unfold encE at HEVC
  clear hge hb2
  refine wp_region_quiet_below (by kernel_rfl) (by kernel_rfl) ?_
  repeat (quiet_step ((go_at_call 43; (with_reducible refine Calls.below_of (HEVC.out _)))))
  refine wpQuiet_nil ?_
  rintro _ ⟨pq, rfl⟩
  obtain ⟨W3, hW3⟩ : ∃ W, W = pq.w := ⟨_, rfl⟩
  have hb3 := pq.h
  rw [← hW3] at hb3 ⊢
  clear hW3
  have n_ := mk0 (below_then HB.out HB.out.size hb3)
  have k_ := mk0 ((hb3.block _ (blk_lt HKE.out)).trans HKE.out)
  clear HEVC HB HKE hb3 q0 q1 q2 pq
  have HB := n_
  have HKE := k_
  clear n_ k_
  have HBD3 := mk0 (HBD.out.below HB.out)
  have hG3 := (HB.out.block _ (blk_lt HG.out)).trans HG.out
  have y0 := (blk_cell hG3 1).trans (show _ = some (Value.map (some be)) from rfl)
  have z0 := (blk_cell HKE.out 0).trans (show _ = some (Vs E k c) from rfl)
  have z1 := (blk_cell HKE.out 1).trans (show _ = some (Value.string pay) from rfl)
  have lg := blk_lt hG3
  cases hev : B.evs (x1, x2) with
  | some vp =>
   obtain ⟨V2, p2⟩ := vp
   obtain ⟨A2, n2, c2, hfe, _⟩ := (HM.out.2.2.2.2.2.1 (x1, x2)).2 V2 p2 hev
   have hlk : (Instr.lookup 66 (.map (some be)) (.agg #[.int .i64 x1, .int .i64 x2]) true).run Tryz.prog W3 = .ok (.tuple #[.agg #[.slice A2 n2 c2, .string p2], .bool true]) W3 := (HM.out.1.below HB.out).look_some lawWhat Tryz.underlying66 (by rfl) HL.out hfe
   have HPC := mk0 (show pubC S B (x1, x2) V pay = 5 by unfold pubC; rw [HEB.out, hev]; rfl)
   clear hev hfe hG3
   go_wp2_with fail
   refine (bfault_calls 5 _).mono ?_
   rintro e w4 ⟨b1, hbl, rfl, hf, hb⟩
   have hb4 := below_then (below_alloc (Below.refl W3.heap.size W3) (.cells #[.slice A2 n2 c2, .string p2] 44)) (below_size (below_alloc (Below.refl _ _) _)) hb
   have hfin : PubPost base g S B N (x1, x2) V pay w (.returned (.iface 143 (.pointer (some ⟨b1, 0, none⟩)))) w4 := ⟨Kept.of (below_then HB.out HB.out.size hb4) hbase, Or.inl ⟨by rw [HPC.out]; decide, by rw [HPC.out]; exact ⟨b1, 1, rfl, IsFault.errIs hf⟩, HBD3.out.below hb4⟩⟩
   clear hb hf hbl hb4
   go_wp2
   try go_ret
   exact hfin
  | none =>
   have hfe := (HM.out.2.2.2.2.2.1 (x1, x2)).1 hev
   have hlk : (Instr.lookup 66 (.map (some be)) (.agg #[.int .i64 x1, .int .i64 x2]) true).run Tryz.prog W3 = .ok (.tuple #[.agg #[.slice none 0 0, .string ⟨#[]⟩], .bool false]) W3 := (HM.out.1.below HB.out).look_none lawWhat Tryz.underlying66 (by rfl) HL.out hfe
   have HPC := mk0 (show pubC S B (x1, x2) V pay = 0 by unfold pubC; rw [HEB.out, hev]; rfl)
   have hk0 : 0 < k := by have := HLEN.out; have := HSN.out.1; have := HK.out; have := hS1; omega
   have hk9 : k ≤ 100000 := by have := HLEN.out; have := HSN.out.1; have := HK.out; omega
   obtain rfl : E = some ⟨b, off, none⟩ := by
    rcases HE.out with h | h
    ·
     exact h
    ·
     omega
   have ln := blk_lt HKE.out
   have ln2 : ¬ (ge = W3.heap.size) := by omega
   clear hev hfe hG3
   go_wp2_with fail
   refine (clone_V b off k c V _ HK.out (Kd.C_below (Kd.C_below HR.out HB.out) (below_alloc (Below.refl _ _) _)) (by omega) hk0).mono ?_
   rintro e w4 ⟨A4, c4, rfl, hc4, hC4, hR4, hb⟩
   have ha := below_alloc (Below.refl W3.heap.size W3) (.cells #[.slice none 0 0, .string ⟨#[]⟩] 44)
   have hb4 := below_then ha ha.size hb
   have k4 := (hb4.block _ ln).trans HKE.out
   have HR4 := mk0 (Kd.R_mono (Kd.R_bound hR4) (ok' := fun k => ge < k) (fun k hk => by have := hk.2.1; have := ha.size; omega))
   have n_ := mk0 (below_then HB.out HB.out.size hb4)
   clear HB hb hb4 ha hR4 hC4 z0 z1 y0 hlk ln ln2 HKE HBD3 lg
   have HB := n_
   clear n_
   have z0 := (blk_cell k4 0).trans (show _ = some (Vs (some ⟨b, off, none⟩) k c) from rfl)
   have zf := blk_frozen k4 0
   go_upto_region 8 with (fail)
   have k5 : (w4.setCell ⟨ge, 0, none⟩ (.slice A4 k c4)).heap[ge]? = some (.cells #[.slice A4 k c4, .string pay] 44 (0, 0)) := by simpa using blk_set k4 0 (.slice A4 k c4)
   have HR5 := mk0 (Kd.R_far (p := ⟨ge, 0, none⟩) HR4.out (fun k hk => by show k ≠ ge; omega) (.slice A4 k c4))
   have n_ := mk0 (below_set (j := 0) (v := .slice A4 k c4) HB.out (Nat.le_of_eq HGE.out.symm))
   clear HB HR4 z0 zf
   have HB := n_
   clear n_
   generalize w4.setCell ⟨ge, 0, none⟩ (.slice A4 k c4) = W5 at k5 HR5 HB ⊢
   clear k4
   have z0 := (blk_cell k5 0).trans (show _ = some (Vs A4 k c4) from rfl)
   have z1 := (blk_cell k5 1).trans (show _ = some (Value.string pay) from rfl)
   have hG5 := (HB.out.block _ (blk_lt HG.out)).trans HG.out
   have y0 := (blk_cell hG5 1).trans (show _ = some (Value.map (some be)) from rfl)
   have hM5 := HM.out.1.below HB.out
   obtain ⟨W6, hrun, hM6, hgr⟩ := MapIs.store (w := W5.drew) (hM5.block rfl) lawWhat (fun _ _ => k2_inj) Tryz.underlying66 (by unfold maxLen; omega) HL.out (.agg #[.slice A4 k c4, .string pay])
   have hup : (Instr.mapUpdate 66 (.map (some be)) (.agg #[.int .i64 x1, .int .i64 x2]) (.agg #[.slice A4 k c4, .string pay])).run Tryz.prog W5.drew = .ok () W6 := hrun
   clear hrun
   obtain ⟨es, cl, hobj⟩ := hM5.obj
   have HBd : Below w.heap.size w W5.drew := ⟨HB.out.os, HB.out.tape, HB.out.output, HB.out.size, HB.out.block⟩
   have hobjd : W5.drew.heap[be]? = some (.map es cl) := hobj
   have hgne : g ≠ be := by
    rintro rfl
    rw [hG5] at hobj
    cases hobj
   have hne := HM.out.2.2.2.1
   have hkept : Kept base w W6 := (Kept.of HBd hbase).trans (Kept.turned hobjd hgr HM.out.2.2.2.2.1.2.1)
   obtain ⟨A5, c5, hv5, hc5, hC5⟩ := Kd.R_reads HR5.out
   have hA5 : A4 = A5 ∧ k = V.length ∧ c4 = c5 := by injection hv5 with h1 h2 h3; exact ⟨h1, h2, h3⟩
   have hev6 : evOk W6 (upd fe (x1, x2) (some (.agg #[.slice A4 k c4, .string pay]))) (upd B.evs (x1, x2) (some (V, pay))) := fun y => by
    unfold upd
    by_cases hy : y = (x1, x2)
    ·
     rw [if_pos hy, if_pos hy]
     refine ⟨fun h => (by cases h), fun V2 p2 h => ?_⟩
     injection h with h
     injection h with h1 h2
     subst h1
     subst h2
     refine ⟨A4, k, c4, rfl, HK.out, by omega, hk9, ?_⟩
     have hC6 : Kd.C k72 W5.drew A4 k V := by rw [hA5.1, hA5.2.1]; exact Kd.C_drew hC5
     exact CV_turned hobjd hgr hC6
    ·
     rw [if_neg hy, if_neg hy]
     exact ((HM.out.2.2.2.2.2.1.below HBd).turned hobjd hgr) y
   have hbd : IsBd base W6 g S (B.pub (x1, x2) V pay) (N + 1) := ⟨A, n, cS, be, bs, bg, _, fs, fg, (hgr.block g (by show g < W5.heap.size; exact blk_lt hG5) (fun e => hgne (Option.some.inj e))).trans hG5, ⟨HSN.out.1, HSN.out.2.1, CA_turned hobjd hgr (Kd.C_below HSN.out.2.2 HBd)⟩, hM6, ((HM.out.2.1.below HBd).other hgr hne.1.symm).mono (by omega), ((HM.out.2.2.1.below HBd).other hgr hne.2.1.symm).mono (by omega), hne, HM.out.2.2.2.2.1, hev6, (HM.out.2.2.2.2.2.2.1.below HBd).turned hobjd hgr, HM.out.2.2.2.2.2.2.2⟩
   have hfin : PubPost base g S B N (x1, x2) V pay w (.returned .nilIface) W6 := ⟨hkept, Or.inr ⟨HPC.out, rfl, hbd⟩⟩
   clear hbd hev6 hA5 hC5 hc5 hv5 hkept hne hgne hobjd HBd hobj hgr hM6 hM5 hG5 k5
   go_region_with (fail)
   all_goals
    go_wp2
    try go_ret
    exact hfin
end Go.Proofs.YtlokmijoaocofaaGreatDoor.Mine
end
section
namespace Go.Proofs.YtlokmijoaocofaaGreatDoor.Mine
open Go.Maps Go.ChangeMaps Go.MapKept Go.RowKit YtlokmijoaocofaaGreatDoorW.PrintWords YtlokmijoaocofaaGreatDoorW.PrintLast YtlokmijoaocofaaGreatDoorW.PrintMore
open PBoardPlays
def pr (y : SW) : P2 := (y.f0, y.f1)
def mkW (x : P2) : SW := ⟨x.1, x.2⟩
theorem mkW_pr (y : SW) : mkW (pr y) = y := rfl
theorem pr_mkW (x : P2) : pr (mkW x) = x := rfl
theorem pr_inj {x y : SW} (h : pr x = pr y) : x = y := by rw [← mkW_pr x, ← mkW_pr y, h]
def dueB (S : List SA) (B : Bd) (t : P2) (V : List SV) (p : ByteArray) (x : P2) : Bool :=
 match B.subs x with
 | none => false
 | some F => matchB S F V p && !B.got (x, t)
abbrev keyW (y : SW) (l : Lit) : Prop := keyOf Tryz.prog tW (k2 (pr y)) = some l
structure DueRel (left : Lit → Bool) (cnt N : Nat) (due : P2 → Bool) (xs : List SW) : Prop where
 nodup : xs.Nodup
 len : xs.length + cnt ≤ N
 mem : ∀ y ∈ xs, wf2 (pr y) ∧ due (pr y) = true ∧ ∀ l, keyW y l → left l = false
 all : ∀ y l, keyW y l → due (pr y) = true → left l = false → y ∈ xs
theorem DueRel.start {D : DataW Value} {cnt N : Nat} {due : P2 → Bool} (hc : cnt ≤ N) (h : ∀ y l, keyW y l → due (pr y) = true → Maps.has D l = true) : DueRel (Maps.has D) cnt N due [] :=
 ⟨List.nodup_nil, by simpa using hc, fun y hy => (by cases hy), fun y l hk hd hl => by rw [h y l hk hd] at hl; cases hl⟩
theorem DueRel.step {left : Lit → Bool} {cnt cnt' N : Nat} {due : P2 → Bool} {xs : List SW} {x : P2} {kl : Lit} (h : DueRel left cnt N due xs) (hk : keyOf Tryz.prog tW (k2 x) = some kl) (hx : wf2 x) (hl : left kl = true) (hc : cnt' < cnt) (hd : due x = true) :
 DueRel (fun z => left z && !z.sameKey kl) cnt' N due (xs ++ [mkW x]) := by
 have hni : mkW x ∉ xs := fun hm => by
  have := (h.mem _ hm).2.2 kl hk
  rw [hl] at this
  cases this
 have hkk : kl.sameKey kl = true := WideAt.sameKey_self (lawWho.key hk)
 refine ⟨?_, ?_, ?_, ?_⟩
 ·
  rw [List.nodup_append]
  refine ⟨h.nodup, by simp, fun a ha b hb => ?_⟩
  rw [List.mem_singleton.1 hb]
  rintro rfl
  exact hni ha
 ·
  have := h.len
  simp only [List.length_append, List.length_singleton]
  omega
 ·
  intro y hy
  rcases List.mem_append.1 hy with hy | hy
  ·
   obtain ⟨h1, h2, h3⟩ := h.mem y hy
   exact ⟨h1, h2, fun l hl => by rw [h3 l hl]; rfl⟩
  ·
   obtain rfl := List.mem_singleton.1 hy
   refine ⟨hx, hd, fun l hl2 => ?_⟩
   have : l = kl := Option.some.inj (hl2.symm.trans hk)
   rw [this, hkk]
   simp
 ·
  intro y l hy hdy hly
  simp only [Bool.and_eq_false_iff] at hly
  rcases hly with hly | hly
  ·
   exact List.mem_append_left _ (h.all y l hy hdy hly)
  ·
   have hs : l.sameKey kl = true := by simpa using hly
   have := WideAt.sameKey_eq hs
   subst this
   have := k2_inj (lawWho.inj hy hk)
   have e : y = mkW x := pr_inj (this.trans (pr_mkW x).symm)
   rw [e]
   simp
theorem DueRel.skip {left : Lit → Bool} {cnt cnt' N : Nat} {due : P2 → Bool} {xs : List SW} {x : P2} {kl : Lit} (h : DueRel left cnt N due xs) (hk : keyOf Tryz.prog tW (k2 x) = some kl) (hc : cnt' < cnt) (hd : due x = false) :
 DueRel (fun z => left z && !z.sameKey kl) cnt' N due xs := by
 refine ⟨h.nodup, by have := h.len; omega, ?_, ?_⟩
 ·
  intro y hy
  obtain ⟨h1, h2, h3⟩ := h.mem y hy
  exact ⟨h1, h2, fun l hl => by rw [h3 l hl]; rfl⟩
 ·
  intro y l hy hdy hly
  simp only [Bool.and_eq_false_iff] at hly
  rcases hly with hly | hly
  ·
   exact h.all y l hy hdy hly
  ·
   have hs : l.sameKey kl = true := by simpa using hly
   have := WideAt.sameKey_eq hs
   subst this
   have := k2_inj (lawWho.inj hy hk)
   rw [this, hd] at hdy
   cases hdy
structure DueList (due : P2 → Bool) (N : Nat) (L : List SW) : Prop where
 sorted : L.Pairwise ltW
 len : L.length ≤ N
 mem : ∀ y ∈ L, wf2 (pr y) ∧ due (pr y) = true
 all : ∀ y, wf2 (pr y) → due (pr y) = true → y ∈ L
theorem DueRel.done {left : Lit → Bool} {cnt N : Nat} {due : P2 → Bool} {xs : List SW} (h : DueRel left cnt N due xs) (hl : ∀ kl, left kl = false) : DueList due N (sortW xs) :=
 ⟨sortW_sorted xs h.nodup, by rw [sortW_length]; have := h.len; omega, fun y hy => by have := h.mem y ((sortW_mem xs y).1 hy); exact ⟨this.1, this.2.1⟩, fun y hw hd => by
  obtain ⟨l, hk⟩ := key_who hw
  exact (sortW_mem xs y).2 (h.all y l hk hd (hl l))⟩
theorem DueList.uniq {due due' : P2 → Bool} {N M : Nat} {L L' : List SW} (h : DueList due N L) (h' : DueList due' M L') (e : ∀ x, wf2 x → due x = due' x) : L = L' :=
 ltW_ext h.sorted h'.sorted fun y => ⟨fun hy => by
  obtain ⟨h1, h2⟩ := h.mem y hy
  exact h'.all y h1 (by rw [← e _ h1]; exact h2), fun hy => by
  obtain ⟨h1, h2⟩ := h'.mem y hy
  exact h.all y h1 (by rw [e _ h1]; exact h2)⟩
theorem ranges_cnt {H : Type} {w : World} {P : Program} {k : TypeId} {R : Value → Option (DataW H × List MemPlace)} {b r n : Nat} {D : DataW H} {left : Lit → Bool} {cnt : Nat} (h : w.ranges P k R b r n D left cnt) : cnt ≤ n := by
 obtain ⟨es, clock, since, seen, c0, _, _, hs, _, _, _, hc, _⟩ := h
 rw [← hc]
 refine Nat.le_trans ?_ hs
 unfold leftOf
 exact Array.size_filter_le
theorem who_wf {x : P2} {kl : Lit} (h : keyOf Tryz.prog tW (k2 x) = some kl) : wf2 x := by
 obtain ⟨y, hy, hw⟩ := key_who_inv h
 rw [k2_inj hy]
 exact hw
theorem holds_come {D : DataW Value} {f : P2 → Option Value} (hD : Holds Tryz.prog tW k2 D f) {x : P2} {kl : Lit} {c : Value} {y : DataW Value × List MemPlace} (hk : keyOf Tryz.prog tW (k2 x) = some kl) (hv : rawR c = some y) (hat : ∀ zd, D.atKey kl zd = y.1) : f x = some c := by
 have h1 : y = (.held c, []) := (Option.some.inj hv).symm
 obtain ⟨h2, h3⟩ := hD x kl hk
 rw [has_true_of_atKey hat] at h2
 cases hf : f x with
 | none => rw [hf] at h2; cases h2
 | some v =>
  have h4 := h3 v hf (.held c)
  have h5 := hat (.held c)
  rw [h1] at h5
  have h6 : (DataW.held c : DataW Value) = .held v := h5.symm.trans h4
  exact congrArg some (DataW.held.inj h6).symm
structure Come (w w' : World) (b r n : Nat) (D : DataW Value) (left : Lit → Bool) (cnt cnt' : Nat) (y : SW) (cv : Value) (kl : Lit) : Prop where
 key : keyOf Tryz.prog tW (k2 (pr y)) = some kl
 came : left kl = true
 at_ : ∀ zd, D.atKey kl zd = .held cv
 rg : w'.ranges Tryz.prog tW rawR b r n D (fun z => left z && !z.sameKey kl) cnt'
 lt : cnt' < cnt
 grown : w.grownBy w' (some r)
 size : w'.heap.size = w.heap.size
section
variable (w : World) {ops : Array Oper} {rest : List Oper} {o : Oper} {a : Act} {Q : Exit → Act → World → Prop}
theorem next_who (hg : o.guard = none) (it : Operand) (hop : o.op = Op.next it false) (b r n : Nat) (D : DataW Value) (left : Lit → Bool) (cnt : Nat)
 (hit : a.eval it = .pointer (some ⟨r, 0, none⟩)) (h : w.ranges Tryz.prog tW rawR b r n D left cnt)
 (hDone : Aside0 (∀ kl, left kl = false) → wpList Tryz.prog ops Q rest (a.put o.dst (.tuple #[.bool false])) w)
 (hMore : ∀ (y : SW) (cv : Value) (kl : Lit) (w' : World) (cnt' : Nat), Aside0 (Come w w' b r n D left cnt cnt' y cv kl) → (Instr.entry (.pointer (some ⟨r, 0, none⟩))).run Tryz.prog w' = .ok (.tuple #[.agg #[.int .i64 y.f0, .int .i64 y.f1], cv]) w' → wpList Tryz.prog ops Q rest (a.put o.dst (.tuple #[.bool true, .agg #[.int .i64 y.f0, .int .i64 y.f1], cv])) w') :
 wpList Tryz.prog ops Q (o :: rest) a w :=
 wpList_next_ranges w hg it hop tW lawWho rawR (fun y : SW => k2 (pr y)) id (fun key kl h => by obtain ⟨x, h1, _⟩ := key_who_inv h; exact ⟨mkW x, h1⟩) (fun v y _ => ⟨v, rfl⟩) b r n D left cnt hit h (fun _ hl => hDone ⟨hl⟩)
  (fun y cv kl yv w' cnt' hk hl hv hat hrg hlt hgr hsz hen => hMore y cv kl w' cnt' ⟨⟨hk, hl, fun zd => by
   have h1 : yv = (.held cv, []) := (Option.some.inj hv).symm
   have h2 := hat zd
   rw [h1] at h2
   exact h2, hrg, hlt, hgr, hsz⟩⟩ hen)
end
end Go.Proofs.YtlokmijoaocofaaGreatDoor.Mine
end
section
namespace Go.Proofs.YtlokmijoaocofaaGreatDoor.Mine
open Go.Maps Go.RowKit YtlokmijoaocofaaGreatDoorW.PrintWords YtlokmijoaocofaaGreatDoorW.PrintLast YtlokmijoaocofaaGreatDoorW.PrintMore
open PBoardPlays
def DuePost (S : List SA) (B : Bd) (N : Nat) (t : P2) (w : World) (e : Ending) (w' : World) : Prop :=
 Below w.heap.size w w' ∧ ((B.evs t = none ∧ ∃ b n, e = .returned (.tuple #[.slice none 0 0, .iface 143 (.pointer (some ⟨b, 0, none⟩))]) ∧ ErrIs w' 9 n (.iface 143 (.pointer (some ⟨b, 0, none⟩)))) ∨
  (∃ V p, B.evs t = some (V, p) ∧ ∃ v L, e = .returned (.tuple #[v, .nilIface]) ∧ w'.ownsRow w.heap.size tW 2 v L.length (flatW L) ∧ DueList (dueB S B t V p) N L))
set_option maxHeartbeats 8000000 in
theorem due_calls (base g N : Nat) (t : P2) (S : List SA) (B : Bd) (w : World) (hb : IsBd base w g S B N) (hN : N ≤ 1000000) (ht : wf2 t) :
 Calls Tryz.prog 10 #[.pointer (some ⟨g, 0, none⟩), .int .i64 t.1, .int .i64 t.2] w (DuePost S B N t w) := by
 have HBD := mk0 hb
 obtain ⟨l, hl⟩ := key_what ht
 have HL := mk0 hl
 have HX := mk0 ht
 obtain ⟨A, n, cS, be, bs, bg, fe, fs, fg, h1, ⟨h2, h3, h4⟩, m1, m2, m3, hne, hba, e1, e2, e3⟩ := hb
 have HM := mk0 (And.intro m1 (And.intro m2 (And.intro m3 (And.intro hne (And.intro hba (And.intro e1 (And.intro e2 e3)))))))
 have HG := mk0 h1
 have HSN := mk0 (And.intro h2 (And.intro h3 h4))
 clear h1 h2 h4 m1 m2 m3 hne hba e1 e2 e3 hl ht
 have y0 := (blk_cell HG.out 1).trans (show _ = some (Value.map (some be)) from rfl)
 have lg := blk_lt HG.out
 have lg2 : ¬ (g = w.heap.size) := by omega
 cases hev : B.evs t with
 | none =>
  have hfe := (HM.out.2.2.2.2.2.1 t).1 hev
  obtain ⟨x1, x2⟩ := t
  have hlk : (Instr.lookup 66 (.map (some be)) (.agg #[.int .i64 x1, .int .i64 x2]) true).run Tryz.prog w = .ok (.tuple #[.agg #[.slice none 0 0, .string ⟨#[]⟩], .bool false]) w := HM.out.1.look_none lawWhat Tryz.underlying66 (by rfl) HL.out hfe
  have HEV := mk0 hev
  clear hev hfe
  go_enter Tryz.func10, Tryz.ntmps10
  go_wp2_with fail
  refine (bfault_calls 9 _).mono ?_
  rintro e w4 ⟨b1, hbl, rfl, hf, hb⟩
  have hb4 := below_then (below_alloc (Below.refl w.heap.size w) (.cells #[.slice none 0 0, .string ⟨#[]⟩] 44)) (below_size (below_alloc (Below.refl _ _) _)) hb
  have hfin : DuePost S B N (x1, x2) w (.returned (.tuple #[.slice none 0 0, .iface 143 (.pointer (some ⟨b1, 0, none⟩))])) w4 := ⟨hb4, Or.inl ⟨HEV.out, b1, 1, rfl, IsFault.errIs hf⟩⟩
  clear hb hf hbl hb4
  go_wp2
  try go_ret2
  exact hfin
 | some vp =>
  obtain ⟨V, pay⟩ := vp
  obtain ⟨E, k, c, hfe, hk, hkc, hk9, hCV⟩ := (HM.out.2.2.2.2.2.1 t).2 V pay hev
  obtain ⟨x1, x2⟩ := t
  have hlk : (Instr.lookup 66 (.map (some be)) (.agg #[.int .i64 x1, .int .i64 x2]) true).run Tryz.prog w = .ok (.tuple #[.agg #[.slice E k c, .string pay], .bool true]) w := HM.out.1.look_some lawWhat Tryz.underlying66 (by rfl) HL.out hfe
  have HEV := mk0 hev
  have HCV := mk0 (And.intro hk (And.intro hkc (And.intro hk9 hCV)))
  clear hev hfe hk hkc hk9 hCV
  have y2 := (blk_cell HG.out 2).trans (show _ = some (Value.map (some bs)) from rfl)
  go_enter Tryz.func10, Tryz.ntmps10
  go_upto_region 5 with (fail)
  have hb2 := below_alloc (Below.refl w.heap.size w) (.cells #[.slice E k c, .string pay] 44)
  have HKE := mk0 (heap_alloc_new w (.cells #[.slice E k c, .string pay] 44))
  have hs2 : (w.alloc (.cells #[.slice E k c, .string pay] 44)).heap.size = w.heap.size + 1 := by show (w.heap.push _).size = _; exact Array.size_push _
  generalize w.alloc (.cells #[.slice E k c, .string pay] 44) = W2 at HKE hb2 hs2 ⊢
  obtain ⟨ge, hge⟩ : ∃ g, g = w.heap.size := ⟨_, rfl⟩
  obtain ⟨D, hown, hhold⟩ := HM.out.2.1.below hb2
  have HD := mk0 hhold
  have hG2 := (hb2.block _ (blk_lt HG.out)).trans HG.out
  have y2 := (blk_cell hG2 2).trans (show _ = some (Value.map (some bs)) from rfl)
  clear y0 hlk lg2 lg hhold
  go_wp2_with (first
   | (at_range; refine wpList_range_own _ rfl _ 67 rfl 56 99 lawWho Tryz.underlying67 _ bs N _ rfl hown ?_; intro w0 hrg0 hg0 hs0)
   | go_in)
  go_frame
  obtain ⟨r, hr⟩ : ∃ r, r = W2.heap.size := ⟨_, rfl⟩
  rw [← hr] at hrg0 ⊢
  have hb0 : Below W2.heap.size W2 w0 := ⟨hg0.os, hg0.tape, hg0.output, hg0.size, fun i hi => hg0.block i hi (by simp)⟩
  have HB := mk0 (below_then hb2 hb2.size hb0)
  have HKE0 := (hb0.block _ (blk_lt HKE.out)).trans HKE.out
  have HGR := mk0 (show r = ge + 1 ∧ ge = w.heap.size by omega)
  rw [← hge] at HKE0 ⊢
  clear HKE
  have HKE := mk0 HKE0
  have HO := mk0 (Kd.R_nil kW tW w0 w.heap.size (fun k => k ≠ ge ∧ k ≠ r))
  have HDR := mk0 (show DueRel (Maps.has D) (Maps.size D) N (dueB S B (x1, x2) V pay) [] from DueRel.start (ranges_cnt hrg0) (fun y l hk hd => by
   rw [(HD.out (pr y) l hk).1]
   cases hs : B.subs (pr y) with
   | none => unfold dueB at hd; rw [hs] at hd; cases hd
   | some F =>
    obtain ⟨_, _, _, h1, _⟩ := (HM.out.2.2.2.2.2.2.1 (pr y)).2 F hs
    rw [h1]
    rfl))
  have HRG := mk0 hrg0
  clear hrg0 hg0 hs0 hb0 HKE0 hb2 hs2 hown hG2 y2 hr hge
  go_loopw [10] (fun v10 wr => ∃ (left : Lit → Bool) (cnt : Nat) (xs : List SW), Aside0 (wr.ranges Tryz.prog 56 rawR bs r N D left cnt) ∧ Aside0 (Kd.R kW tW wr w.heap.size (fun k => k ≠ ge ∧ k ≠ r) v10 xs) ∧ Aside0 (DueRel left cnt N (dueB S B (x1, x2) V pay) xs) ∧ Aside0 (wr.heap[ge]? = some (.cells #[.slice E k c, .string pay] 44 (0, 0))) ∧ Aside0 (Below w.heap.size w wr))
   (fun _ wr => wr.rangeLeft bs r)
  case atStart => exact ⟨_, _, _, HRG, HO, HDR, HKE, HB⟩
  case round =>
   clear HRG HO HDR HKE HB
   obtain ⟨left, cnt, xs, HRG, HO, HDR, HKE, HB⟩ := hrel
   go_wp2_with (first
    | (at_next; refine next_who _ rfl _ rfl bs r N D _ _ rfl HRG.out ?_ ?_)
    | go_in)
   ·
    intro hl0
    have HDL := mk0 (HDR.out.done hl0.out)
    go_wp2_with fail
    refine (sort_who wr w.heap.size u10 xs (own_of_R HO.out) (by have := HDR.out.len; omega)).mono ?_
    rintro e w4 ⟨rfl, ho, hg⟩
    have hb4 : Below w.heap.size w w4 := HB.out.grown hg HB.out.size (fun k hk => own_base (own_of_R HO.out) k hk)
    have hfin : DuePost S B N (x1, x2) w (.returned (.tuple #[u10, .nilIface])) w4 := ⟨hb4, Or.inr ⟨V, pay, HEV.out, u10, _, rfl, ho, HDL.out⟩⟩
    clear ho hg hb4
    go_wp2
    try go_ret2
    exact hfin
   ·
    intro y cv kl w1 cnt1 HC hen
    have hcv := holds_come HD.out (y := (.held cv, [])) HC.out.key rfl HC.out.at_
    have HW := mk0 (who_wf HC.out.key)
    obtain ⟨F, AF, nF, cF, hF, rfl, hFn, hFc, hF9, hCF⟩ : ∃ F AF nF cF, B.subs (pr y) = some F ∧ cv = .slice AF nF cF ∧ F.length = nF ∧ nF ≤ cF ∧ nF ≤ 100000 ∧ Kd.C k149 w AF nF F := by
     cases hs : B.subs (pr y) with
     | none =>
      have := (HM.out.2.2.2.2.2.2.1 (pr y)).1 hs
      rw [hcv] at this
      cases this
     | some F =>
      obtain ⟨AF, nF, cF, h1, h2, h3, h4, h5⟩ := (HM.out.2.2.2.2.2.2.1 (pr y)).2 F hs
      rw [hcv] at h1
      exact ⟨F, AF, nF, cF, rfl, Option.some.inj h1, h2, h3, h4, h5⟩
    have HF := mk0 (And.intro hF (And.intro hFn (And.intro hFc (And.intro hF9 hCF))))
    clear hcv hF hFn hFc hF9 hCF
    obtain ⟨lg, hlg⟩ := key_given (x := (pr y, (x1, x2))) ⟨HW.out, HX.out⟩
    have HLG := mk0 hlg
    clear hlg
    have n1 := mk0 (HB.out.grown HC.out.grown HB.out.size (fun k hk => by injection hk with hk; have := HGR.out; omega))
    have n2 := mk0 (Kd.R_grown HO.out HC.out.grown (fun k hk e => hk.2 (Option.some.inj e)))
    have n3 := mk0 ((HC.out.grown.block ge (blk_lt HKE.out) (fun e => by have := Option.some.inj e; have := HGR.out; omega)).trans HKE.out)
    have n4 := mk0 HC.out.rg
    have HLT := mk0 (And.intro HC.out.lt HRG.out.left_eq)
    have HKY := mk0 (And.intro HC.out.key HC.out.came)
    clear HB HO HKE HRG HC
    have HB := n1
    have HO := n2
    have HKE := n3
    have HRG := n4
    clear n1 n2 n3 n4
    go_upto_region 8 with (fail)
    have hb3 := below_alloc (Below.refl w1.heap.size w1) (.cells #[.int .i64 y.f0, .int .i64 y.f1] 56)
    have n0_ := mk0 (heap_alloc_new w1 (.cells #[.int .i64 y.f0, .int .i64 y.f1] 56))
    have n1 := mk0 (below_then HB.out HB.out.size hb3)
    have n2 := mk0 (Kd.R_below HO.out hb3)
    have n3 := mk0 ((hb3.block _ (blk_lt HKE.out)).trans HKE.out)
    have n4 := mk0 (HRG.out.alloc (.cells #[.int .i64 y.f0, .int .i64 y.f1] 56))
    clear HB HO HKE HRG hb3 hen
    generalize w1.alloc (.cells #[.int .i64 y.f0, .int .i64 y.f1] 56) = w3 at n0_ n1 n2 n3 n4 ⊢
    generalize w1.heap.size = gw at n0_ ⊢
    have HKW := n0_
    have HB := n1
    have HO := n2
    have HKE := n3
    have HRG := n4
    clear n0_ n1 n2 n3 n4
    have hG3 := (HB.out.block _ (blk_lt HG.out)).trans HG.out
    have q0 : ∀ q : BelowP w3, q.w.cell? ⟨g, 0, none⟩ = some (.slice A n cS) := fun q => q.cell ((blk_cell hG3 0).trans rfl)
    have q1 : ∀ q : BelowP w3, q.w.cell? ⟨ge, 0, none⟩ = some (.slice E k c) := fun q => q.cell ((blk_cell HKE.out 0).trans rfl)
    have q2 : ∀ q : BelowP w3, q.w.cell? ⟨ge, 1, none⟩ = some (.string pay) := fun q => q.cell ((blk_cell HKE.out 1).trans rfl)
    have q3 : ∀ q : BelowP w3, q.w.cell? ⟨g, 3, none⟩ = some (.map (some bg)) := fun q => q.cell ((blk_cell hG3 3).trans rfl)
    have q4 : ∀ q : BelowP w3, q.w.cell? ⟨gw, 0, none⟩ = some (.int .i64 y.f0) := fun q => q.cell ((blk_cell HKW.out 0).trans rfl)
    have q5 : ∀ q : BelowP w3, q.w.cell? ⟨gw, 1, none⟩ = some (.int .i64 y.f1) := fun q => q.cell ((blk_cell HKW.out 1).trans rfl)
    have HMC := mk0 (fun q : BelowP w3 => match_calls A AF E n nF cS cF k c S F V pay q.w HSN.out.1 HF.out.2.1 HCV.out.1 (Kd.C_below (Kd.C_below HSN.out.2.2 HB.out) q.h) (Kd.C_below (Kd.C_below HF.out.2.2.2.2 HB.out) q.h) (Kd.C_below (Kd.C_below HCV.out.2.2.2 HB.out) q.h) h3 HF.out.2.2.2.1 HF.out.2.2.1)
    unfold encE at HMC
    have hgt : ∀ q : BelowP w3, (Instr.lookup 68 (.map (some bg)) (.agg #[.int .i64 y.f0, .int .i64 y.f1, .int .i64 x1, .int .i64 x2]) false).run Tryz.prog q.w = .ok (.bool (B.got (pr y, (x1, x2)))) q.w := fun q => by
     have h5 := ((HM.out.2.2.1.below HB.out).below q.h).look1 lawGiven Tryz.underlying68 (z := .bool false) (by rfl) HLG.out
     have h6 : (fg (pr y, (x1, x2))).getD (.bool false) = .bool (B.got (pr y, (x1, x2))) := by
      rw [HM.out.2.2.2.2.2.2.2 (pr y, (x1, x2))]
      cases B.got (pr y, (x1, x2)) <;> rfl
     rw [h6] at h5
     exact h5
    have HDB := mk0 (show dueB S B (x1, x2) V pay (pr y) = (matchB S F V pay && !B.got (pr y, (x1, x2))) by unfold dueB; rw [HF.out.1])
    generalize matchB S F V pay = bm at HMC HDB
    generalize B.got (pr y, (x1, x2)) = bgt at hgt HDB
    clear hG3
    cases bm with
    | false =>
     clear hgt q3 q4 q5
     refine wp_region_quiet_below (by kernel_rfl) (by kernel_rfl) ?_
     repeat ((with_reducible refine wpQuiet_step (fun K hK => ?_)); go_simp; first | ((with_reducible refine hK _ ?_); clear hK K) | ((with_reducible apply Exists.intro); (with_reducible refine ⟨fun _ => ?_, hK _ ?_⟩); ((go_at_call 30; (with_reducible refine Calls.below_of (HMC.out _)))); clear hK K))
     with_reducible refine wpQuiet_nil ?_
     rintro _ ⟨pq, rfl⟩
     obtain ⟨w5, hw5⟩ : ∃ W, W = pq.w := ⟨_, rfl⟩
     have hb5 := pq.h
     rw [← hw5] at hb5 ⊢
     clear hw5
     have n0_ := mk0 ((hb5.block _ (blk_lt HKW.out)).trans HKW.out)
     have n1 := mk0 (below_then HB.out HB.out.size hb5)
     have n2 := mk0 (Kd.R_below HO.out hb5)
     have n3 := mk0 ((hb5.block _ (blk_lt HKE.out)).trans HKE.out)
     have n4 := mk0 (HRG.out.kept (row := none) ⟨hb5.os, hb5.tape, hb5.output, hb5.size, fun i hi _ => hb5.block i hi⟩ (by simp) (by simp))
     clear HKW HB HO HKE HRG hb5 HMC pq
     have HKW := n0_
     have HB := n1
     have HO := n2
     have HKE := n3
     have HRG := n4
     clear n0_ n1 n2 n3 n4
     have hDR := HDR.out.skip HKY.out.1 HLT.out.1 HDB.out
     go_wp2_with fail
     go_roundw
     case rel => exact ⟨_, _, xs, HRG, HO, ⟨hDR⟩, HKE, HB⟩
     case measure => rw [HRG.out.left_eq, HLT.out.2]; exact HLT.out.1
    | true =>
     cases bgt with
     | true =>
      refine wp_region_quiet_below (by kernel_rfl) (by kernel_rfl) ?_
      repeat ((with_reducible refine wpQuiet_step (fun K hK => ?_)); go_simp; first | ((with_reducible refine hK _ ?_); clear hK K) | ((with_reducible apply Exists.intro); (with_reducible refine ⟨fun _ => ?_, hK _ ?_⟩); ((go_at_call 30; (with_reducible refine Calls.below_of (HMC.out _)))); clear hK K))
      with_reducible refine wpQuiet_nil ?_
      rintro _ ⟨pq, rfl⟩
      obtain ⟨w5, hw5⟩ : ∃ W, W = pq.w := ⟨_, rfl⟩
      have hb5 := pq.h
      rw [← hw5] at hb5 ⊢
      clear hw5
      have n0_ := mk0 ((hb5.block _ (blk_lt HKW.out)).trans HKW.out)
      have n1 := mk0 (below_then HB.out HB.out.size hb5)
      have n2 := mk0 (Kd.R_below HO.out hb5)
      have n3 := mk0 ((hb5.block _ (blk_lt HKE.out)).trans HKE.out)
      have n4 := mk0 (HRG.out.kept (row := none) ⟨hb5.os, hb5.tape, hb5.output, hb5.size, fun i hi _ => hb5.block i hi⟩ (by simp) (by simp))
      clear HKW HB HO HKE HRG hb5 HMC pq
      have HKW := n0_
      have HB := n1
      have HO := n2
      have HKE := n3
      have HRG := n4
      clear n0_ n1 n2 n3 n4
      have hDR := HDR.out.skip HKY.out.1 HLT.out.1 HDB.out
      go_wp2_with fail
      go_roundw
      case rel => exact ⟨_, _, xs, HRG, HO, ⟨hDR⟩, HKE, HB⟩
      case measure => rw [HRG.out.left_eq, HLT.out.2]; exact HLT.out.1
     | false =>
      refine wp_region_quiet_below (by kernel_rfl) (by kernel_rfl) ?_
      repeat ((with_reducible refine wpQuiet_step (fun K hK => ?_)); go_simp; first | ((with_reducible refine hK _ ?_); clear hK K) | ((with_reducible apply Exists.intro); (with_reducible refine ⟨fun _ => ?_, hK _ ?_⟩); ((go_at_call 30; (with_reducible refine Calls.below_of (HMC.out _)))); clear hK K))
      with_reducible refine wpQuiet_nil ?_
      rintro _ ⟨pq, rfl⟩
      obtain ⟨w5, hw5⟩ : ∃ W, W = pq.w := ⟨_, rfl⟩
      have hb5 := pq.h
      rw [← hw5] at hb5 ⊢
      clear hw5
      have n0_ := mk0 ((hb5.block _ (blk_lt HKW.out)).trans HKW.out)
      have n1 := mk0 (below_then HB.out HB.out.size hb5)
      have n2 := mk0 (Kd.R_below HO.out hb5)
      have n3 := mk0 ((hb5.block _ (blk_lt HKE.out)).trans HKE.out)
      have n4 := mk0 (HRG.out.kept (row := none) ⟨hb5.os, hb5.tape, hb5.output, hb5.size, fun i hi _ => hb5.block i hi⟩ (by simp) (by simp))
      clear HKW HB HO HKE HRG hb5 HMC pq
      have HKW := n0_
      have HB := n1
      have HO := n2
      have HKE := n3
      have HRG := n4
      clear n0_ n1 n2 n3 n4
      have hDR := HDR.out.step HKY.out.1 HW.out HKY.out.2 HLT.out.1 HDB.out
      have y4 := (blk_cell HKW.out 0).trans (show _ = some (Value.int .i64 y.f0) from rfl)
      have y5 := (blk_cell HKW.out 1).trans (show _ = some (Value.int .i64 y.f1) from rfl)
      clear q0 q1 q2 q3 q4 q5 hgt
      go_wp2_with ((with_reducible refine gate_builtin (b := .append) (xs := #[.tmp 57, .tmp 59]) rfl ?_); at_builtin; go_loud (refine Kd.R_append kW (w0 := w) w.heap.size rfl (.tmp 57) (.tmp 59) 49 56 (.agg #[(.int .i64 0), (.int .i64 0)]) 16 rfl Tryz.underlying49 info56 rfl (by decide) (by omega) _ _ y [.int .i64 y.f0, .int .i64 y.f1] (fun k => k ≠ ge ∧ k ≠ r) (fun _ => False) rfl ?aX ?aP (fun _ hk => hk.elim) ?aF HO.out HB.out HB.out.size ?aL ?_; (case aX => first | rfl | (go_simp; done) | (go_simp; rfl)); (case aP => exact k56_mkM _ _ _ y); (case aF => exact (fun k hk => by have l1 := blk_lt HKE.out; have l2 := HRG.out.lt; exact ⟨by omega, by omega⟩)); (case aL => have := HDR.out.len; omega); intro v9 w9 ho hb hg hat; go_frame))
      have HDR2 := mk0 hDR
      have n4 := mk0 (HRG.out.kept hg (fun e => by have l1 := HM.out.2.1.lt; have l2 := own_base (own_of_R HO.out) _ e.symm; omega) (fun e => (HO.out.1 _ e.symm).2 rfl))
      have n3 := mk0 ((hg.block _ (blk_lt HKE.out) (fun e => (HO.out.1 _ e.symm).1 rfl)).trans HKE.out)
      clear hDR HRG
      have HRG := n4
      go_roundw
      case rel => exact ⟨_, _, _, HRG, ⟨ho⟩, HDR2, n3, ⟨hb⟩⟩
      case measure => rw [HRG.out.left_eq, HLT.out.2]; exact HLT.out.1
end Go.Proofs.YtlokmijoaocofaaGreatDoor.Mine
end
section
namespace Go.Proofs.YtlokmijoaocofaaGreatDoor.Mine
open Go.Maps Go.ChangeMaps Go.MapKept Go.RowKit
open Go.WideElems (Fit rd rg pl rd_val elemAt rg_of rd_key)
theorem filt_split {β : Type} (t : β → Bool) (l : List β) : l.length = (l.filter t).length + (l.filter fun x => !t x).length := by
 induction l with
 | nil => rfl
 | cons a r ih => cases h : t a <;> simp [h] <;> omega
section
variable {α : Type} {P : Program} {k : TypeId} {kv : α → Value} {p : α → Bool} {es0 : List (Lit × DataW Value)} {f : α → Option Value}
open Classical in
noncomputable def keyPd (P : Program) (k : TypeId) (kv : α → Value) (p : α → Bool) : Lit → DataW Value → Bool := fun l _ => decide (∃ x, keyOf P k (kv x) = some l ∧ p x = true)
open Classical in
theorem keyPd_at (K : Keyed P k) (hinj : ∀ x y, kv x = kv y → x = y) {x : α} {l : Lit} (hk : keyOf P k (kv x) = some l) (d : DataW Value) : keyPd P k kv p l d = p x := by
 unfold keyPd
 cases hp : p x with
 | true => exact decide_eq_true ⟨x, hk, hp⟩
 | false =>
  refine decide_eq_false ?_
  rintro ⟨y, hy, hpy⟩
  rw [hinj _ _ (K.inj hy hk), hp] at hpy
  cases hpy
theorem Holds.gone (K : Keyed P k) (hinj : ∀ x y, kv x = kv y → x = y) (h : Holds P k kv (.map es0) f) (hap : es0.Pairwise (fun p q => p.1 ≠ q.1)) (hkeys : ∀ q ∈ es0, WideAt.IsKeyLit q.1) :
 Holds P k kv (Lib.deleteFuncD (keyPd P k kv p) (.map es0)) (fun x => if p x then none else f x) := by
 intro x l hk
 obtain ⟨h1, h2⟩ := h x l hk
 have hkl := K.key hk
 show Maps.has (Lib.deleteFuncD (keyPd P k kv p) (.map es0)) l = (if p x = true then none else f x).isSome ∧ ∀ v, (if p x = true then none else f x) = some v → ∀ zd, (Lib.deleteFuncD (keyPd P k kv p) (.map es0)).atKey l zd = .held v
 unfold Lib.deleteFuncD
 cases hp : p x with
 | true =>
  rw [if_pos rfl]
  refine ⟨?_, fun v hv => by cases hv⟩
  show ((es0.filter fun q => !keyPd P k kv p q.1 q.2).any (fun q => q.1.sameKey l)) = _
  rw [List.any_eq_false.2]
  ·
   rfl
  ·
   intro q hq hs
   have e := WideAt.sameKey_eq hs
   obtain ⟨_, h4⟩ := List.mem_filter.1 hq
   rw [e, keyPd_at K hinj hk, hp] at h4
   cases h4
 | false =>
  rw [if_neg (by decide)]
  have hh : ∀ q ∈ es0, q.1.sameKey l = true → q ∈ es0.filter fun q => !keyPd P k kv p q.1 q.2 := fun q hq hs => List.mem_filter.2 ⟨hq, by
   rw [WideAt.sameKey_eq hs, keyPd_at K hinj hk, hp]
   rfl⟩
  refine ⟨?_, fun v hv zd => ?_⟩
  ·
   show ((es0.filter fun q => !keyPd P k kv p q.1 q.2).any (fun q => q.1.sameKey l)) = _
   rw [← h1]
   show _ = es0.any (fun q => q.1.sameKey l)
   rw [Bool.eq_iff_iff, List.any_eq_true, List.any_eq_true]
   constructor
   ·
    rintro ⟨q, hq, hs⟩
    exact ⟨q, (List.mem_filter.1 hq).1, hs⟩
   ·
    rintro ⟨q, hq, hs⟩
    exact ⟨q, hh q hq hs, hs⟩
  ·
   have h5 : es0.any (fun q => q.1.sameKey l) = true := by
    have h6 : es0.any (fun q => q.1.sameKey l) = (f x).isSome := h1
    rw [h6, hv]
    rfl
   obtain ⟨q, hq, hs⟩ := List.any_eq_true.1 h5
   have e := WideAt.sameKey_eq hs
   have hq' : (l, q.2) ∈ es0 := by rw [← e]; exact hq
   have h7 : (DataW.map es0).atKey l zd = q.2 := WideAt.atKey_mem zd hkl hap hq'
   rw [h2 v hv zd] at h7
   have hq2 := hh q hq hs
   have hq2' : (l, q.2) ∈ es0.filter fun q => !keyPd P k kv p q.1 q.2 := by rw [← e]; exact hq2
   have h8 : (DataW.map (es0.filter fun q => !keyPd P k kv p q.1 q.2)).atKey l zd = q.2 := WideAt.atKey_mem zd hkl (hap.filter _) hq2'
   exact h8.trans h7.symm
theorem keys_of {w : World} {R : Value → Option (DataW Value × List MemPlace)} {b n : Nat} (h : w.ownsMap P k R b n (.map es0)) (inv : ∀ key kl, keyOf P k key = some kl → ∃ x, key = kv x) : ∀ q ∈ es0, ∃ x, keyOf P k (kv x) = some q.1 := by
 obtain ⟨es, clock, _, F, _, he⟩ := h
 intro q hq
 injection he with he
 rw [he] at hq
 obtain ⟨x, hx, rfl⟩ := List.mem_map.1 (mem_sorted.1 hq)
 obtain ⟨y, hy⟩ := F.reads x hx
 rw [rg_of hy]
 obtain ⟨z, hz⟩ := inv _ _ (rd_key hy)
 exact ⟨z, by rw [← hz]; exact rd_key hy⟩
theorem count_gone (K : Keyed P k) (hinj : ∀ x y, kv x = kv y → x = y) (h : Holds P k kv (.map es0) f) (hap : es0.Pairwise (fun p q => p.1 ≠ q.1)) (hall : ∀ q ∈ es0, ∃ x, keyOf P k (kv x) = some q.1)
 {ks : List α} (hn : ks.Nodup) (hks : ∀ x, x ∈ ks ↔ ((∃ l, keyOf P k (kv x) = some l) ∧ (f x).isSome = true ∧ p x = true)) :
 es0.length - (es0.filter fun q => !keyPd P k kv p q.1 q.2).length = ks.length := by
 have hlen : es0.length - (es0.filter fun q => !keyPd P k kv p q.1 q.2).length = (es0.filter fun q => keyPd P k kv p q.1 q.2).length := by
  have := filt_split (fun q : Lit × DataW Value => keyPd P k kv p q.1 q.2) es0
  omega
 rw [hlen]
 let kl : α → Lit := fun x => (keyOf P k (kv x)).getD (.bool false)
 have hkl : ∀ x l, keyOf P k (kv x) = some l → kl x = l := fun x l h => by show (keyOf P k (kv x)).getD _ = _; rw [h]; rfl
 have n1 : (ks.map kl).Nodup := by
  rw [List.Nodup, List.pairwise_map]
  refine List.Pairwise.imp_of_mem ?_ hn
  intro x y hx hy hne e
  obtain ⟨⟨lx, h1⟩, _⟩ := (hks x).1 hx
  obtain ⟨⟨ly, h2⟩, _⟩ := (hks y).1 hy
  rw [hkl x lx h1, hkl y ly h2] at e
  exact hne (hinj _ _ (K.inj h1 (e ▸ h2)))
 have n2 : ((es0.filter fun q => keyPd P k kv p q.1 q.2).map (·.1)).Nodup := by
  rw [List.Nodup, List.pairwise_map]
  exact hap.filter _
 have hm : ∀ l, l ∈ ks.map kl ↔ l ∈ (es0.filter fun q => keyPd P k kv p q.1 q.2).map (·.1) := by
  intro l
  rw [List.mem_map, List.mem_map]
  constructor
  ·
   rintro ⟨x, hx, rfl⟩
   obtain ⟨⟨l, h1⟩, h2, h3⟩ := (hks x).1 hx
   rw [hkl x l h1]
   have h4 := (h x l h1).1
   rw [h2] at h4
   obtain ⟨q, hq, hs⟩ := List.any_eq_true.1 (show es0.any (fun q => q.1.sameKey l) = true from h4)
   have e := WideAt.sameKey_eq hs
   exact ⟨q, List.mem_filter.2 ⟨hq, by rw [e, keyPd_at K hinj h1]; exact h3⟩, e⟩
  ·
   rintro ⟨q, hq, rfl⟩
   obtain ⟨hq, hp⟩ := List.mem_filter.1 hq
   obtain ⟨x, h1⟩ := hall q hq
   rw [keyPd_at K hinj h1] at hp
   refine ⟨x, (hks x).2 ⟨⟨_, h1⟩, ?_, hp⟩, hkl x _ h1⟩
   rw [← (h x _ h1).1]
   exact List.any_eq_true.2 ⟨q, hq, WideAt.sameKey_self (K.key h1)⟩
 have := ((List.perm_ext_iff_of_nodup n1 n2).2 hm).length_eq
 simpa using this.symm
end
end Go.Proofs.YtlokmijoaocofaaGreatDoor.Mine
end
section
namespace Go.Proofs.YtlokmijoaocofaaGreatDoor.Mine
open Go.Maps Go.RowKit YtlokmijoaocofaaGreatDoorW.PrintWords YtlokmijoaocofaaGreatDoorW.PrintLast YtlokmijoaocofaaGreatDoorW.PrintMore
open PBoardPlays
def Bd.gone (B : Bd) (n : Int) : Bd := { B with subs := fun x => if (x.1 == n) = true then none else B.subs x }
def GonePost (base g : Nat) (S : List SA) (B : Bd) (N : Nat) (n : Int) (w : World) (e : Ending) (w' : World) : Prop :=
 Kept base w w' ∧ IsBd base w' g S (B.gone n) N ∧ ∃ r : Nat, e = .returned (.int .i64 (r : Int)) ∧ ∀ ks : List P2, ks.Nodup → (∀ x, x ∈ ks ↔ (wf2 x ∧ (B.subs x).isSome = true ∧ (x.1 == n) = true)) → r = ks.length
theorem who_wf_iff (x : P2) : (∃ l, keyOf Tryz.prog tW (k2 x) = some l) ↔ wf2 x := ⟨fun ⟨_, h⟩ => who_wf h, key_who⟩
set_option maxHeartbeats 8000000 in
theorem gone_calls (base g N : Nat) (n : Int) (S : List SA) (B : Bd) (w : World) (hb : IsBd base w g S B N) (hN : N ≤ 1000000) :
 Calls Tryz.prog 27 #[.pointer (some ⟨g, 0, none⟩), .int .i64 n] w (GonePost base g S B N n w) := by
 obtain ⟨A, m, cS, be, bs, bg, fe, fs, fg, h1, ⟨h2, h3, h4⟩, m1, m2, m3, hne, hba, e1, e2, e3⟩ := hb
 obtain ⟨es, cl, hobj⟩ := m2.obj
 obtain ⟨D, hown, hhold⟩ := m2
 obtain ⟨es0, rfl, hap, hkeys⟩ := hown.entries lawWho
 have hall := keys_of (kv := k2) hown (fun key kl h => by obtain ⟨x, h1, _⟩ := key_who_inv h; exact ⟨x, h1⟩)
 have hgne : some g ≠ some bs := by
  intro e
  injection e with e
  subst e
  rw [h1] at hobj
  cases hobj
 obtain ⟨pd, hpd⟩ : ∃ pd, pd = keyPd Tryz.prog tW k2 (fun x : P2 => x.1 == n) := ⟨_, rfl⟩
 have hpdat : ∀ (x : P2) l d, keyOf Tryz.prog tW (k2 x) = some l → pd l d = (x.1 == n) := fun x l d hk => by rw [hpd]; exact keyPd_at lawWho (fun _ _ => k2_inj) hk d
 have hle0 : es0.length ≤ N := hown.size_le
 have hg1 := hhold.gone (p := fun x : P2 => x.1 == n) lawWho (fun _ _ => k2_inj) hap hkeys
 rw [← hpd] at hg1
 have HFIN := mk0 (fun (w' : World) (hgr : w.grownBy w' (some bs)) (hw : w'.ownsMap Tryz.prog tW rawR bs N (Lib.deleteFuncD pd (.map es0))) => show GonePost base g S B N n w (.returned (.int .i64 ((es0.length - (es0.filter fun q => !pd q.1 q.2).length : Nat) : Int))) w' from by
  refine ⟨Kept.turned hobj hgr hba.2.2.1, ⟨A, m, cS, be, bs, bg, fe, _, fg, (hgr.block g (blk_lt h1) hgne).trans h1, ⟨h2, h3, CA_turned hobj hgr h4⟩, m1.other hgr hne.1, ⟨_, hw, hg1⟩, m3.other hgr hne.2.2.symm, hne, hba, e1.turned hobj hgr, fun x => ?_, e3⟩, _, rfl, fun ks hn hks => ?_⟩
  ·
   have h5 := (e2.turned hobj hgr) x
   by_cases hx : (x.1 == n) = true
   ·
    have a1 : (if (x.1 == n) = true then none else fs x) = none := if_pos hx
    have a2 : (B.gone n).subs x = none := if_pos hx
    exact ⟨fun _ => a1, fun F hF => by rw [a2] at hF; cases hF⟩
   ·
    have a1 : (if (x.1 == n) = true then none else fs x) = fs x := if_neg hx
    have a2 : (B.gone n).subs x = B.subs x := if_neg hx
    refine ⟨fun h => a1.trans (h5.1 (a2.symm.trans h)), fun F hF => ?_⟩
    obtain ⟨A6, n6, c6, h6, h7⟩ := h5.2 F (a2.symm.trans hF)
    exact ⟨A6, n6, c6, a1.trans h6, h7⟩
  ·
   rw [hpd]
   refine count_gone lawWho (fun _ _ => k2_inj) hhold hap hall hn (fun x => ?_)
   rw [hks, who_wf_iff]
   have : (B.subs x).isSome = (fs x).isSome := by
    cases hs : B.subs x with
    | none => rw [(e2 x).1 hs]; rfl
    | some F => obtain ⟨_, _, _, h5, _⟩ := (e2 x).2 F hs; rw [h5]; rfl
   rw [this])
 have HG := mk0 h1
 have HNE := mk0 hgne
 have HPD := mk0 hpdat
 have HAP := mk0 hap
 have HKS := mk0 hkeys
 have HLE := mk0 hle0
 have hln : ∀ ty, (Builtin.len_ #[67] ty #[.map (some bs)]).run Tryz.prog w = .ok (.int .i64 (es0.length : Nat)) w := fun ty => hown.len Tryz.underlying67 ty
 have y2 := (blk_cell h1 2).trans (show _ = some (Value.map (some bs)) from rfl)
 clear hpd hpdat hap hkeys hle0 hg1 hall hhold h1 h2 h4 m1 m3 hne hba e1 e2 e3 hgne hobj
 generalize GonePost base g S B N n w = POST at HFIN ⊢
 go_enter Tryz.func27, Tryz.ntmps27
 go_wp2_with (first
  | (at_range; refine wpList_range_own _ rfl _ 67 rfl 56 99 lawWho Tryz.underlying67 _ bs N _ rfl hown ?_; intro w0 hrg0 hg0 hs0)
  | go_in)
 go_frame
 have HRG := mk0 (show w0.ranges Tryz.prog tW rawR bs w.heap.size N (Fk pd es0 (Maps.has (.map es0))) (Maps.has (.map es0)) (Maps.size (.map es0)) by rw [Fk_start HKS.out]; exact hrg0)
 have HGR := mk0 (hg0.but (some bs))
 clear hrg0 hg0 hs0 hown hln y2
 go_loopw [6] (fun _ wr => ∃ (left : Lit → Bool) (cnt : Nat), Aside0 (wr.ranges Tryz.prog tW rawR bs w.heap.size N (Fk pd es0 left) left cnt) ∧ Aside0 (w.grownBy wr (some bs)))
  (fun _ wr => wr.rangeLeft bs w.heap.size)
 case atStart => exact ⟨_, _, HRG, HGR⟩
 case round =>
  clear HRG HGR
  obtain ⟨left, cnt, HRG, HGR⟩ := hrel
  go_wp2_with (first
   | (at_next; refine next_who _ rfl _ rfl bs w.heap.size N _ _ _ rfl HRG.out ?_ ?_)
   | go_in)
  ·
   intro hl0
   have hw := HRG.out.owns
   rw [Fk_end hl0.out] at hw
   have hfin := HFIN.out wr HGR.out hw
   have hln : ∀ ty, (Builtin.len_ #[67] ty #[.map (some bs)]).run Tryz.prog wr = .ok (.int .i64 ((es0.filter fun q => !pd q.1 q.2).length : Nat)) wr := fun ty => hw.len Tryz.underlying67 ty
   have hle : (es0.filter fun q => !pd q.1 q.2).length ≤ es0.length := List.length_filter_le _ _
   have hl2 := HLE.out
   clear hw
   generalize (es0.filter fun q => !pd q.1 q.2).length = k1 at hln hle hfin
   generalize es0.length = k0 at hle hl2 hfin ⊢
   have e0 : ((k0 - k1 : Nat) : Int) = (k0 : Int) - (k1 : Int) := by omega
   rw [e0] at hfin
   have hGr := (HGR.out.block g (blk_lt HG.out) HNE.out).trans HG.out
   have y2 := (blk_cell hGr 2).trans (show _ = some (Value.map (some bs)) from rfl)
   go_wp2
   try go_ret
   exact hfin
  ·
   rintro ⟨yf, yg⟩ cv kl w1 cnt1 HC hen
   dsimp only at hen ⊢
   have hgr1 := HGR.out.andThen HC.out.grown (fun j hj => by cases hj; exact Or.inl (Nat.le_refl _))
   have hrg1 := HC.out.rg
   have HLE2 := mk0 (show wr.rangeLeft bs w.heap.size = cnt ∧ cnt1 < cnt from ⟨HRG.out.left_eq, HC.out.lt⟩)
   have hpk := HPD.out (yf, yg) kl (.held cv) HC.out.key
   have HK := mk0 (And.intro HC.out.key (And.intro HC.out.came HC.out.at_))
   clear HRG HGR HC
   go_upto_region 5 with (fail)
   have HGR := mk0 (hgr1.andThen (World.grownBy_alloc w1 (.cells #[.int .i64 yf, .int .i64 yg] 56) none) (fun j hj => by cases hj))
   have HRG := mk0 (hrg1.alloc (.cells #[.int .i64 yf, .int .i64 yg] 56))
   have kw := heap_alloc_new w1 (.cells #[.int .i64 yf, .int .i64 yg] 56)
   clear hgr1 hrg1 hen
   generalize w1.alloc (.cells #[.int .i64 yf, .int .i64 yg] 56) = w2 at kw HGR HRG ⊢
   generalize w1.heap.size = gw at kw ⊢
   have z0 := (blk_cell kw 0).trans (show _ = some (Value.int .i64 yf) from rfl)
   have z1 := (blk_cell kw 1).trans (show _ = some (Value.int .i64 yg) from rfl)
   by_cases hyn : yf = n
   ·
    have hpk1 : pd kl (.held cv) = true := hpk.trans (by show (yf == n) = true; simpa using hyn)
    have o1 : (yf == n) = true := by simpa using hyn
    clear hyn
    have hGr := (HGR.out.block g (blk_lt HG.out) HNE.out).trans HG.out
    have y2 := (blk_cell hGr 2).trans (show _ = some (Value.map (some bs)) from rfl)
    obtain ⟨w5, cnt5, hrun, hrg5, hle, hturn⟩ := World.ranges.drop (w := w2.drew) (show w2.drew.ranges Tryz.prog tW rawR bs w.heap.size N (Fk pd es0 left) (fun z => left z && !z.sameKey kl) cnt1 from HRG.out) lawWho Tryz.underlying67 HK.out.1 0
    have hup : (Builtin.delete_ #[67, 56] 0 #[.map (some bs), .agg #[.int .i64 yf, .int .i64 yg]]).run Tryz.prog w2.drew = .ok (.tuple #[]) w5 := hrun
    clear hrun
    rw [strike_twice, Fk_struck HAP.out (lawWho.key HK.out.1) HK.out.2.1 hpk1 HK.out.2.2] at hrg5
    have n1 := mk0 hrg5
    have n2 := mk0 ((show w.grownBy w2.drew (some bs) from ⟨HGR.out.os, HGR.out.tape, HGR.out.output, HGR.out.size, HGR.out.block⟩).andThen hturn.grown (fun j hj => by cases hj; exact Or.inr rfl))
    clear hrg5 hturn hpk hpk1 kw
    go_wp2_with fail
    go_region_with (fail)
    all_goals
     go_roundw
     case rel => exact ⟨_, _, _, _, _, _, _, _, _, _, _, _, _, _, ⟨_, cnt5, n1, n2⟩, rfl⟩
     case measure => rw [n1.out.left_eq, HLE2.out.1]; have := HLE2.out.2; omega
   ·
    have o1 : (yf == n) = false := by simpa using hyn
    have hpk1 : pd kl (.held cv) = false := hpk.trans o1
    have hst := Fk_stays HAP.out (lawWho.key HK.out.1) HK.out.2.1 hpk1 HK.out.2.2
    have n1 := HRG.out
    rw [hst] at n1
    have HRG1 := mk0 n1
    clear HRG n1 hst hpk hpk1 kw
    go_wp2_with fail
    go_roundw
    case rel => exact ⟨_, cnt1, HRG1, HGR⟩
    case measure => rw [HRG1.out.left_eq, HLE2.out.1]; exact HLE2.out.2
def Bd.sub (B : Bd) (x : P2) (F : List SP) : Bd := { B with subs := upd B.subs x (some F) }
def subC (S : List SA) (B : Bd) (x : P2) (t : ByteArray) : Int :=
 match readR S t with
 | .inr c => c
 | .inl _ => if (B.subs x).isSome then 5 else 0
theorem parseR_not0 {s : ByteArray} {z : Int × Int} (h : parseR s = .inr z) : z.2 ≠ 0 := by
 unfold parseR at h
 split at h
 ·
  injection h with h
  subst h
  decide
 ·
  split at h
  ·
   cases h
  ·
   injection h with h
   subst h
   show (2 : Int) ≠ 0
   decide
theorem readR_not0 {S : List SA} {t : ByteArray} {c : Int} (h : readR S t = .inr c) : c ≠ 0 := by
 unfold readR at h
 split at h
 ·
  rename_i z hz
  injection h with h
  subst h
  exact parseR_not0 hz
 ·
  split at h
  ·
   cases h
  ·
   injection h with h
   subst h
   decide
def SubPost (base g : Nat) (S : List SA) (B : Bd) (N : Nat) (x : P2) (t : ByteArray) (w : World) (e : Ending) (w' : World) : Prop :=
 Kept base w w' ∧ ((subC S B x t ≠ 0 ∧ ErrE w' (subC S B x t) e ∧ IsBd base w' g S B N) ∨ (subC S B x t = 0 ∧ e = .returned .nilIface ∧ ∃ xs, readR S t = .inl xs ∧ IsBd base w' g S (B.sub x (xs.map toP)) (N + 1)))
set_option maxHeartbeats 8000000 in
theorem subscribe_calls (base g N : Nat) (x : P2) (S : List SA) (B : Bd) (t : ByteArray) (w : World) (hb : IsBd base w g S B N) (hbase : base ≤ w.heap.size) (hN : N ≤ 1000000) (hx : wf2 x) (ht : t.size ≤ 1000) :
 Calls Tryz.prog 17 #[.pointer (some ⟨g, 0, none⟩), k2 x, .string t] w (SubPost base g S B N x t w) := by
 have HBD := mk0 hb
 obtain ⟨l, hl⟩ := key_who hx
 have HL := mk0 hl
 have HX := mk0 hx
 obtain ⟨A, n, cS, be, bs, bg, fe, fs, fg, h1, ⟨h2, h3, h4⟩, m1, m2, m3, hne, hba, e1, e2, e3⟩ := hb
 have HM := mk0 (And.intro m1 (And.intro m2 (And.intro m3 (And.intro hne (And.intro hba (And.intro e1 (And.intro e2 e3)))))))
 have HG := mk0 h1
 have HSN := mk0 (And.intro h2 (And.intro h3 h4))
 clear h1 h2 h4 m1 m2 m3 hne hba e1 e2 e3 hl hx
 obtain ⟨x1, x2⟩ := x
 unfold k2
 go_enter Tryz.func17, Tryz.ntmps17
 have lg := blk_lt HG.out
 have lg2 : ¬ (g = w.heap.size) := by omega
 have y0 := (blk_cell HG.out 0).trans (show _ = some (Value.slice A n cS) from rfl)
 go_wp2_with fail
 have hb2 := below_alloc (Below.refl w.heap.size w) (.cells #[.int .i64 x1, .int .i64 x2] 56)
 refine (read_calls A n cS S t _ HSN.out.1 (Kd.C_below HSN.out.2.2 hb2) h3 ht).mono ?_
 rintro e w3 hq
 have HKW := heap_alloc_new w (.cells #[.int .i64 x1, .int .i64 x2] 56)
 cases hrd : readR S t with
 | inr cd =>
  obtain ⟨b, k, rfl, hei, hb⟩ := hq.no hrd
  have hb3 := below_then hb2 hb2.size hb
  have hfin : SubPost base g S B N (x1, x2) t w (.returned (.iface 143 (.pointer (some ⟨b, 0, none⟩)))) w3 := ⟨Kept.of hb3 hbase, Or.inl ⟨by unfold subC; rw [hrd]; exact readR_not0 hrd, by unfold subC; rw [hrd]; exact ⟨b, k, rfl, hei⟩, HBD.out.below hb3⟩⟩
  clear hq hei hb hb3 hb2 HKW hrd
  go_wp2
  try go_ret
  exact hfin
 | inl xs =>
  obtain ⟨v1, rfl, ho, hb⟩ := hq.ok hrd
  have HRD := mk0 hrd
  have HB := mk0 (below_then hb2 hb2.size hb)
  have HKE := mk0 ((hb.block _ (blk_lt HKW)).trans HKW)
  have HO := mk0 ho
  obtain ⟨A1, c1, rfl, hc1, hC1⟩ := Kd.R_reads ho
  have hlx : (xs.map toP).length ≤ 100000 := by
   have := parse_count (s := t) (xs := xs) (by
    unfold readR at hrd
    split at hrd
    ·
     cases hrd
    ·
     rename_i ys hys
     split at hrd
     ·
      rw [hys]; injection hrd with hrd; rw [hrd]
     ·
      cases hrd)
   simp; omega
  have HC1 := mk0 (And.intro hC1 (And.intro hc1 hlx))
  clear hq ho hb hb2 HKW hrd hC1 hc1 hlx lg lg2 y0
  obtain ⟨F, hF⟩ : ∃ F, F = xs.map toP := ⟨_, rfl⟩
  rw [← hF] at HC1 ⊢
  have HF := mk0 hF
  obtain ⟨nF, hnF⟩ : ∃ n, F.length = n := ⟨_, rfl⟩
  have HNF := mk0 hnF
  rw [hnF] at HC1 ⊢
  clear hF hnF HO
  obtain ⟨gw, hgw⟩ : ∃ g, g = w.heap.size := ⟨_, rfl⟩
  rw [← hgw] at HKE ⊢
  clear hgw
  have hG3 := (HB.out.block _ (blk_lt HG.out)).trans HG.out
  have q0 : ∀ q : BelowP w3, q.w.cell? ⟨gw, 0, none⟩ = some (.int .i64 x1) := fun q => q.cell ((blk_cell HKE.out 0).trans rfl)
  have q1 : ∀ q : BelowP w3, q.w.cell? ⟨gw, 1, none⟩ = some (.int .i64 x2) := fun q => q.cell ((blk_cell HKE.out 1).trans rfl)
  have q2 : ∀ q : BelowP w3, q.w.cell? ⟨g, 2, none⟩ = some (.map (some bs)) := fun q => q.cell ((blk_cell hG3 2).trans rfl)
  cases hev : B.subs (x1, x2) with
  | some F2 =>
   obtain ⟨A2, n2, c2, hfe, _⟩ := (HM.out.2.2.2.2.2.2.1 (x1, x2)).2 F2 hev
   have hlk : ∀ q : BelowP w3, (Instr.lookup 67 (.map (some bs)) (.agg #[.int .i64 x1, .int .i64 x2]) true).run Tryz.prog q.w = .ok (.tuple #[.slice A2 n2 c2, .bool true]) q.w := fun q => ((HM.out.2.1.below HB.out).below q.h).look_some lawWho Tryz.underlying67 (by rfl) HL.out hfe
   have HPC := mk0 (show subC S B (x1, x2) t = 5 by unfold subC; rw [HRD.out]; simp only [hev]; rfl)
   clear hev hfe hG3
   go_wp2_with fail
   refine wp_region_quiet_below (by kernel_rfl) (by kernel_rfl) ?_
   repeat (quiet_step (fail))
   refine wpQuiet_nil ?_
   rintro _ ⟨pq, rfl⟩
   go_wp2_with fail
   refine (bfault_calls 5 _).mono ?_
   rintro e w4 ⟨b1, hbl, rfl, hf, hb⟩
   have hb4 := below_then HB.out HB.out.size (below_then pq.h pq.h.size hb)
   have hfin : SubPost base g S B N (x1, x2) t w (.returned (.iface 143 (.pointer (some ⟨b1, 0, none⟩)))) w4 := ⟨Kept.of hb4 hbase, Or.inl ⟨by rw [HPC.out]; decide, by rw [HPC.out]; exact ⟨b1, 1, rfl, IsFault.errIs hf⟩, HBD.out.below hb4⟩⟩
   clear hb hf hbl hb4 hlk q0 q1 q2
   go_wp2
   try go_ret
   exact hfin
  | none =>
   have hfe := (HM.out.2.2.2.2.2.2.1 (x1, x2)).1 hev
   have hlk : ∀ q : BelowP w3, (Instr.lookup 67 (.map (some bs)) (.agg #[.int .i64 x1, .int .i64 x2]) true).run Tryz.prog q.w = .ok (.tuple #[.slice none 0 0, .bool false]) q.w := fun q => ((HM.out.2.1.below HB.out).below q.h).look_none lawWho Tryz.underlying67 (by rfl) HL.out hfe
   have HPC := mk0 (show subC S B (x1, x2) t = 0 by unfold subC; rw [HRD.out]; simp only [hev]; rfl)
   clear hev hfe hG3
   go_wp2_with fail
   refine wp_region_quiet_below (by kernel_rfl) (by kernel_rfl) ?_
   repeat (quiet_step (fail))
   refine wpQuiet_nil ?_
   rintro _ ⟨pq, rfl⟩
   go_upto_region 7 with (fail)
   obtain ⟨W5, hW5⟩ : ∃ W, W = pq.w := ⟨_, rfl⟩
   have hb5 := pq.h
   rw [← hW5] at hb5 ⊢
   have k5 := (hb5.block _ (blk_lt HKE.out)).trans HKE.out
   have HC5 := mk0 (Kd.C_below HC1.out.1 hb5)
   have n_ := mk0 (below_then HB.out HB.out.size hb5)
   clear hW5 pq HB hb5 hlk q0 q1 q2 HKE
   have HB := n_
   clear n_
   have z0 := (blk_cell k5 0).trans (show _ = some (Value.int .i64 x1) from rfl)
   have z1 := (blk_cell k5 1).trans (show _ = some (Value.int .i64 x2) from rfl)
   have hG5 := (HB.out.block _ (blk_lt HG.out)).trans HG.out
   have y0 := (blk_cell hG5 2).trans (show _ = some (Value.map (some bs)) from rfl)
   have hM5 := HM.out.2.1.below HB.out
   obtain ⟨W6, hrun, hM6, hgr⟩ := MapIs.store (w := W5.drew) (hM5.block rfl) lawWho (fun _ _ => k2_inj) Tryz.underlying67 (by unfold maxLen; omega) HL.out (.slice A1 nF c1)
   have hup : (Instr.mapUpdate 67 (.map (some bs)) (.agg #[.int .i64 x1, .int .i64 x2]) (.slice A1 nF c1)).run Tryz.prog W5.drew = .ok () W6 := hrun
   clear hrun
   obtain ⟨es, cl, hobj⟩ := hM5.obj
   have HBd : Below w.heap.size w W5.drew := ⟨HB.out.os, HB.out.tape, HB.out.output, HB.out.size, HB.out.block⟩
   have hobjd : W5.drew.heap[bs]? = some (.map es cl) := hobj
   have hgne : g ≠ bs := by
    rintro rfl
    rw [hG5] at hobj
    cases hobj
   have hne := HM.out.2.2.2.1
   have hkept : Kept base w W6 := (Kept.of HBd hbase).trans (Kept.turned hobjd hgr HM.out.2.2.2.2.1.2.2.1)
   have hev6 : subOk W6 (upd fs (x1, x2) (some (.slice A1 nF c1))) (upd B.subs (x1, x2) (some F)) := fun y => by
    unfold upd
    by_cases hy : y = (x1, x2)
    ·
     rw [if_pos hy, if_pos hy]
     refine ⟨fun h => (by cases h), fun F2 h => ?_⟩
     injection h with h
     subst h
     exact ⟨A1, nF, c1, rfl, HNF.out, HC1.out.2.1, by have := HC1.out.2.2; have := HNF.out; rw [← HF.out] at *; omega, CP_turned hobjd hgr (Kd.C_drew HC5.out)⟩
    ·
     rw [if_neg hy, if_neg hy]
     exact ((HM.out.2.2.2.2.2.2.1.below HBd).turned hobjd hgr) y
   have hbd : IsBd base W6 g S (B.sub (x1, x2) F) (N + 1) := ⟨A, n, cS, be, bs, bg, fe, _, fg, (hgr.block g (by show g < W5.heap.size; exact blk_lt hG5) (fun e => hgne (Option.some.inj e))).trans hG5, ⟨HSN.out.1, HSN.out.2.1, CA_turned hobjd hgr (Kd.C_below HSN.out.2.2 HBd)⟩, ((HM.out.1.below HBd).other hgr hne.1).mono (by omega), hM6, ((HM.out.2.2.1.below HBd).other hgr hne.2.2.symm).mono (by omega), hne, HM.out.2.2.2.2.1, (HM.out.2.2.2.2.2.1.below HBd).turned hobjd hgr, hev6, HM.out.2.2.2.2.2.2.2⟩
   have hfin : SubPost base g S B N (x1, x2) t w (.returned .nilIface) W6 := ⟨hkept, Or.inr ⟨HPC.out, rfl, xs, HRD.out, by rw [← HF.out]; exact hbd⟩⟩
   clear hbd hev6 hkept hne hgne hobjd HBd hobj hgr hM6 hM5 hG5 k5
   go_region_with (fail)
   all_goals
    go_wp2
    try go_ret
    exact hfin
def Bd.unsub (B : Bd) (x : P2) : Bd := { B with subs := upd B.subs x none }
def UnsubPost (base g : Nat) (S : List SA) (B : Bd) (N : Nat) (x : P2) (w : World) (e : Ending) (w' : World) : Prop :=
 Kept base w w' ∧ ((B.subs x = none ∧ ErrE w' 9 e ∧ IsBd base w' g S B N) ∨ ((B.subs x).isSome = true ∧ e = .returned .nilIface ∧ IsBd base w' g S (B.unsub x) N))
set_option maxHeartbeats 8000000 in
theorem unsub_calls (base g N : Nat) (x : P2) (S : List SA) (B : Bd) (w : World) (hb : IsBd base w g S B N) (hbase : base ≤ w.heap.size) (hx : wf2 x) :
 Calls Tryz.prog 25 #[.pointer (some ⟨g, 0, none⟩), k2 x] w (UnsubPost base g S B N x w) := by
 have HBD := mk0 hb
 obtain ⟨l, hl⟩ := key_who hx
 have HL := mk0 hl
 have HX := mk0 hx
 obtain ⟨A, n, cS, be, bs, bg, fe, fs, fg, h1, ⟨h2, h3, h4⟩, m1, m2, m3, hne, hba, e1, e2, e3⟩ := hb
 have HM := mk0 (And.intro m1 (And.intro m2 (And.intro m3 (And.intro hne (And.intro hba (And.intro e1 (And.intro e2 e3)))))))
 have HG := mk0 h1
 have HSN := mk0 (And.intro h2 (And.intro h3 h4))
 clear h1 h2 h4 m1 m2 m3 hne hba e1 e2 e3 hl hx
 obtain ⟨x1, x2⟩ := x
 unfold k2
 go_enter Tryz.func25, Tryz.ntmps25
 go_upto_region 1 with (fail)
 have hb2 := below_alloc (Below.refl w.heap.size w) (.cells #[.int .i64 x1, .int .i64 x2] 56)
 have HKE := mk0 (heap_alloc_new w (.cells #[.int .i64 x1, .int .i64 x2] 56))
 have HB := mk0 hb2
 clear hb2
 generalize w.alloc (.cells #[.int .i64 x1, .int .i64 x2] 56) = w3 at HKE HB ⊢
 obtain ⟨gw, hgw⟩ : ∃ g, g = w.heap.size := ⟨_, rfl⟩
 rw [← hgw] at HKE ⊢
 clear hgw
 have hG3 := (HB.out.block _ (blk_lt HG.out)).trans HG.out
 have q0 : ∀ q : BelowP w3, q.w.cell? ⟨gw, 0, none⟩ = some (.int .i64 x1) := fun q => q.cell ((blk_cell HKE.out 0).trans rfl)
 have q1 : ∀ q : BelowP w3, q.w.cell? ⟨gw, 1, none⟩ = some (.int .i64 x2) := fun q => q.cell ((blk_cell HKE.out 1).trans rfl)
 have q2 : ∀ q : BelowP w3, q.w.cell? ⟨g, 2, none⟩ = some (.map (some bs)) := fun q => q.cell ((blk_cell hG3 2).trans rfl)
 cases hev : B.subs (x1, x2) with
 | none =>
  have hfe := (HM.out.2.2.2.2.2.2.1 (x1, x2)).1 hev
  have hlk : ∀ q : BelowP w3, (Instr.lookup 67 (.map (some bs)) (.agg #[.int .i64 x1, .int .i64 x2]) true).run Tryz.prog q.w = .ok (.tuple #[.slice none 0 0, .bool false]) q.w := fun q => ((HM.out.2.1.below HB.out).below q.h).look_none lawWho Tryz.underlying67 (by rfl) HL.out hfe
  have HPC := mk0 hev
  clear hev hfe hG3
  refine wp_region_quiet_below (by kernel_rfl) (by kernel_rfl) ?_
  repeat (quiet_step (fail))
  refine wpQuiet_nil ?_
  rintro _ ⟨pq, rfl⟩
  go_wp2_with fail
  refine (bfault_calls 9 _).mono ?_
  rintro e w4 ⟨b1, hbl, rfl, hf, hb⟩
  have hb4 := below_then HB.out HB.out.size (below_then pq.h pq.h.size hb)
  have hfin : UnsubPost base g S B N (x1, x2) w (.returned (.iface 143 (.pointer (some ⟨b1, 0, none⟩)))) w4 := ⟨Kept.of hb4 hbase, Or.inl ⟨HPC.out, ⟨b1, 1, rfl, IsFault.errIs hf⟩, HBD.out.below hb4⟩⟩
  clear hb hf hbl hb4 hlk q0 q1 q2
  go_wp2
  try go_ret
  exact hfin
 | some F2 =>
  obtain ⟨A2, n2, c2, hfe, _⟩ := (HM.out.2.2.2.2.2.2.1 (x1, x2)).2 F2 hev
  have hlk : ∀ q : BelowP w3, (Instr.lookup 67 (.map (some bs)) (.agg #[.int .i64 x1, .int .i64 x2]) true).run Tryz.prog q.w = .ok (.tuple #[.slice A2 n2 c2, .bool true]) q.w := fun q => ((HM.out.2.1.below HB.out).below q.h).look_some lawWho Tryz.underlying67 (by rfl) HL.out hfe
  have HPC := mk0 (show (B.subs (x1, x2)).isSome = true by rw [hev]; rfl)
  clear hev hfe hG3
  refine wp_region_quiet_below (by kernel_rfl) (by kernel_rfl) ?_
  repeat (quiet_step (fail))
  refine wpQuiet_nil ?_
  rintro _ ⟨pq, rfl⟩
  go_upto_region 4 with (fail)
  obtain ⟨W5, hW5⟩ : ∃ W, W = pq.w := ⟨_, rfl⟩
  have hb5 := pq.h
  rw [← hW5] at hb5 ⊢
  have k5 := (hb5.block _ (blk_lt HKE.out)).trans HKE.out
  have n_ := mk0 (below_then HB.out HB.out.size hb5)
  clear hW5 pq HB hb5 hlk q0 q1 q2 HKE
  have HB := n_
  clear n_
  have z0 := (blk_cell k5 0).trans (show _ = some (Value.int .i64 x1) from rfl)
  have z1 := (blk_cell k5 1).trans (show _ = some (Value.int .i64 x2) from rfl)
  have hG5 := (HB.out.block _ (blk_lt HG.out)).trans HG.out
  have y0 := (blk_cell hG5 2).trans (show _ = some (Value.map (some bs)) from rfl)
  have hM5 := HM.out.2.1.below HB.out
  obtain ⟨W6, hrun, hM6, hgr⟩ := MapIs.drop (w := W5.drew) (hM5.block rfl) lawWho (fun _ _ => k2_inj) Tryz.underlying67 HL.out 0
  have hup : (Builtin.delete_ #[67, 56] 0 #[.map (some bs), .agg #[.int .i64 x1, .int .i64 x2]]).run Tryz.prog W5.drew = .ok (.tuple #[]) W6 := hrun
  clear hrun
  obtain ⟨es, cl, hobj⟩ := hM5.obj
  have HBd : Below w.heap.size w W5.drew := ⟨HB.out.os, HB.out.tape, HB.out.output, HB.out.size, HB.out.block⟩
  have hobjd : W5.drew.heap[bs]? = some (.map es cl) := hobj
  have hgne : g ≠ bs := by
   rintro rfl
   rw [hG5] at hobj
   cases hobj
  have hne := HM.out.2.2.2.1
  have hkept : Kept base w W6 := (Kept.of HBd hbase).trans (Kept.turned hobjd hgr HM.out.2.2.2.2.1.2.2.1)
  have hev6 : subOk W6 (upd fs (x1, x2) none) (upd B.subs (x1, x2) none) := fun y => by
   unfold upd
   by_cases hy : y = (x1, x2)
   ·
    rw [if_pos hy, if_pos hy]
    exact ⟨fun _ => rfl, fun F2 h => by cases h⟩
   ·
    rw [if_neg hy, if_neg hy]
    exact ((HM.out.2.2.2.2.2.2.1.below HBd).turned hobjd hgr) y
  have hbd : IsBd base W6 g S (B.unsub (x1, x2)) N := ⟨A, n, cS, be, bs, bg, fe, _, fg, (hgr.block g (by show g < W5.heap.size; exact blk_lt hG5) (fun e => hgne (Option.some.inj e))).trans hG5, ⟨HSN.out.1, HSN.out.2.1, CA_turned hobjd hgr (Kd.C_below HSN.out.2.2 HBd)⟩, (HM.out.1.below HBd).other hgr hne.1, hM6, (HM.out.2.2.1.below HBd).other hgr hne.2.2.symm, hne, HM.out.2.2.2.2.1, (HM.out.2.2.2.2.2.1.below HBd).turned hobjd hgr, hev6, HM.out.2.2.2.2.2.2.2⟩
  have hfin : UnsubPost base g S B N (x1, x2) w (.returned .nilIface) W6 := ⟨hkept, Or.inr ⟨HPC.out, rfl, hbd⟩⟩
  clear hbd hev6 hkept hne hgne hobjd HBd hobj hgr hM6 hM5 hG5 k5
  go_region_with (fail)
  all_goals
   go_wp2
   try go_ret
   exact hfin
end Go.Proofs.YtlokmijoaocofaaGreatDoor.Mine
end
