/-
  Texts of this claim, one behind the other: what each one proves, and its conditions, stand at its head.
-/
import Derived.Test.YtlokmijoaocofaaMT3
import Derived.Deep.RegionHeld3
import Derived.Deep.Slices
import Derived.Deep.Fields
import Derived.ChangeSame
import Derived.Lib.SmallJoins
import Derived.Lib.SlMapFilter
set_option linter.unusedSimpArgs false
set_option linter.unusedVariables false
section
/-
  (*Board).Due walked. Conditions: publisher and number are int64, the maps at most a million entries.
-/
namespace Go.Proofs.Ytlokmijoaocofaa.Mine
open Go.Maps Go.RowKit Go.Proofs.YtlokmijoaocofaaW.PrintWords Go.Proofs.YtlokmijoaocofaaW.PrintLast Go.Proofs.YtlokmijoaocofaaW.PrintMore
open Go.Proofs.Ytlokmijoaocofaa.PBoardAgain
def DuePost (S : List SA) (B : Bd) (N : Nat) (t : P2) (w : World) (e : Ending) (w' : World) : Prop :=
  Below w.heap.size w w' ∧ ((B.evs t = none ∧ ∃ b n, e = .returned (.tuple #[.slice none 0 0, .iface 103 (.pointer (some ⟨b, 0, none⟩))]) ∧ ErrIs w' 9 n (.iface 103 (.pointer (some ⟨b, 0, none⟩)))) ∨
   (∃ V p, B.evs t = some (V, p) ∧ ∃ v L, e = .returned (.tuple #[v, .nilIface]) ∧ w'.ownsRow w.heap.size tW 2 v L.length (flatW L) ∧ DueList (dueB S B t V p) N L))
set_option maxHeartbeats 8000000 in
set_option maxRecDepth 100000 in
theorem due_calls (base g N : Nat) (t : P2) (S : List SA) (B : Bd) (w : World) (hb : IsBd base w g S B N) (hN : N ≤ 1000000) (ht : wf2 t) :
    Calls Try.prog 16 #[.pointer (some ⟨g, 0, none⟩), .int .i64 t.1, .int .i64 t.2] w (DuePost S B N t w) := by
  have HBD := Aside0.mk hb
  obtain ⟨l, hl⟩ := key_what ht
  have HL := Aside0.mk hl
  have HX := Aside0.mk ht
  obtain ⟨A, n, cS, be, bs, bg, fe, fs, fg, h1, ⟨h2, h3, h4⟩, m1, m2, m3, hne, hba, e1, e2, e3⟩ := hb
  have HM := Aside0.mk (And.intro m1 (And.intro m2 (And.intro m3 (And.intro hne (And.intro hba (And.intro e1 (And.intro e2 e3)))))))
  have HG := Aside0.mk h1
  have HSN := Aside0.mk (And.intro h2 (And.intro h3 h4))
  clear h1 h2 h4 m1 m2 m3 hne hba e1 e2 e3 hl ht
  have y0 := (blk_cell HG.out 1).trans (show _ = some (Value.map (some be)) from rfl)
  have lg := blk_lt HG.out
  have lg2 : ¬ (g = w.heap.size) := by omega
  cases hev : B.evs t with
  | none =>
    have hfe := (HM.out.2.2.2.2.2.1 t).1 hev
    obtain ⟨x1, x2⟩ := t
    have hlk : (Instr.lookup 70 (.map (some be)) (.agg #[.int .i64 x1, .int .i64 x2]) true).run Try.prog w = .ok (.tuple #[.agg #[.slice none 0 0, .string ⟨#[]⟩], .bool false]) w := HM.out.1.look_none lawWhat Try.underlying70 (by rfl) HL.out hfe
    have HEV := Aside0.mk hev
    clear hev hfe
    go_enter Try.func16, Try.ntmps16
    go_wp2_with fail
    refine (bfault_calls 9 _).mono ?_
    rintro e w4 ⟨b1, hbl, rfl, hf, hb⟩
    have hb4 := below_then (below_alloc (Below.refl w.heap.size w) (.cells #[.slice none 0 0, .string ⟨#[]⟩] 24)) (below_size (below_alloc (Below.refl _ _) _)) hb
    have hfin : DuePost S B N (x1, x2) w (.returned (.tuple #[.slice none 0 0, .iface 103 (.pointer (some ⟨b1, 0, none⟩))])) w4 := ⟨hb4, Or.inl ⟨HEV.out, b1, 1, rfl, IsFault.errIs hf⟩⟩
    clear hb hf hbl hb4
    go_wp2
    try go_ret2
    exact hfin
  | some vp =>
    obtain ⟨V, pay⟩ := vp
    obtain ⟨E, k, c, hfe, hk, hkc, hk9, hCV⟩ := (HM.out.2.2.2.2.2.1 t).2 V pay hev
    obtain ⟨x1, x2⟩ := t
    have hlk : (Instr.lookup 70 (.map (some be)) (.agg #[.int .i64 x1, .int .i64 x2]) true).run Try.prog w = .ok (.tuple #[.agg #[.slice E k c, .string pay], .bool true]) w := HM.out.1.look_some lawWhat Try.underlying70 (by rfl) HL.out hfe
    have HEV := Aside0.mk hev
    have HCV := Aside0.mk (And.intro hk (And.intro hkc (And.intro hk9 hCV)))
    clear hev hfe hk hkc hk9 hCV
    have y2 := (blk_cell HG.out 2).trans (show _ = some (Value.map (some bs)) from rfl)
    go_enter Try.func16, Try.ntmps16
    go_upto_region 5 with (fail)
    have hb2 := below_alloc (Below.refl w.heap.size w) (.cells #[.slice E k c, .string pay] 24)
    have HKE := Aside0.mk (heap_alloc_new w (.cells #[.slice E k c, .string pay] 24))
    have hs2 : (w.alloc (.cells #[.slice E k c, .string pay] 24)).heap.size = w.heap.size + 1 := by show (w.heap.push _).size = _; exact Array.size_push _
    generalize w.alloc (.cells #[.slice E k c, .string pay] 24) = W2 at HKE hb2 hs2 ⊢
    obtain ⟨ge, hge⟩ : ∃ g, g = w.heap.size := ⟨_, rfl⟩
    obtain ⟨D, hown, hhold⟩ := HM.out.2.1.below hb2
    have HD := Aside0.mk hhold
    have hG2 := (hb2.block _ (blk_lt HG.out)).trans HG.out
    have y2 := (blk_cell hG2 2).trans (show _ = some (Value.map (some bs)) from rfl)
    clear y0 hlk lg2 lg hhold
    go_wp2_with (first
      | (at_range; refine wpList_range_own _ rfl _ 71 rfl 43 76 lawWho Try.underlying71 _ bs N _ rfl hown ?_; intro w0 hrg0 hg0 hs0)
      | go_in)
    go_frame
    obtain ⟨r, hr⟩ : ∃ r, r = W2.heap.size := ⟨_, rfl⟩
    rw [← hr] at hrg0 ⊢
    have hb0 : Below W2.heap.size W2 w0 := ⟨hg0.os, hg0.tape, hg0.output, hg0.size, fun i hi => hg0.block i hi (by simp)⟩
    have HB := Aside0.mk (below_then hb2 hb2.size hb0)
    have HKE0 := (hb0.block _ (blk_lt HKE.out)).trans HKE.out
    have HGR := Aside0.mk (show r = ge + 1 ∧ ge = w.heap.size by omega)
    rw [← hge] at HKE0 ⊢
    clear HKE
    have HKE := Aside0.mk HKE0
    have HO := Aside0.mk (Kd.R_nil kW tW w0 w.heap.size (fun k => k ≠ ge ∧ k ≠ r))
    have HDR := Aside0.mk (show DueRel (Maps.has D) (Maps.size D) N (dueB S B (x1, x2) V pay) [] from DueRel.start (ranges_cnt hrg0) (fun y l hk hd => by
      rw [(HD.out (pr y) l hk).1]
      cases hs : B.subs (pr y) with
      | none => unfold dueB at hd; rw [hs] at hd; cases hd
      | some F =>
        obtain ⟨_, _, _, h1, _⟩ := (HM.out.2.2.2.2.2.2.1 (pr y)).2 F hs
        rw [h1]
        rfl))
    have HRG := Aside0.mk hrg0
    clear hrg0 hg0 hs0 hb0 HKE0 hb2 hs2 hown hG2 y2 hr hge
    go_loopw [10] (fun v10 wr => ∃ (left : Lit → Bool) (cnt : Nat) (xs : List SW), Aside0 (wr.ranges Try.prog 43 rawR bs r N D left cnt) ∧ Aside0 (Kd.R kW tW wr w.heap.size (fun k => k ≠ ge ∧ k ≠ r) v10 xs) ∧ Aside0 (DueRel left cnt N (dueB S B (x1, x2) V pay) xs) ∧ Aside0 (wr.heap[ge]? = some (.cells #[.slice E k c, .string pay] 24 (0, 0))) ∧ Aside0 (Below w.heap.size w wr))
      (fun _ wr => wr.rangeLeft bs r)
    case atStart => exact ⟨_, _, _, HRG, HO, HDR, HKE, HB⟩
    case round =>
      clear HRG HO HDR HKE HB
      obtain ⟨left, cnt, xs, HRG, HO, HDR, HKE, HB⟩ := hrel
      go_wp2_with (first
        | (at_next; refine next_who _ rfl _ rfl bs r N D _ _ rfl HRG.out ?_ ?_)
        | go_in)
      · intro hl0
        have HDL := Aside0.mk (HDR.out.done hl0.out)
        go_wp2_with fail
        refine (sort_who wr w.heap.size u10 xs (own_of_R HO.out) (by have := HDR.out.len; omega)).mono ?_
        rintro e w4 ⟨rfl, ho, hg⟩
        have hb4 : Below w.heap.size w w4 := HB.out.grown hg HB.out.size (fun k hk => own_base (own_of_R HO.out) k hk)
        have hfin : DuePost S B N (x1, x2) w (.returned (.tuple #[u10, .nilIface])) w4 := ⟨hb4, Or.inr ⟨V, pay, HEV.out, u10, _, rfl, ho, HDL.out⟩⟩
        clear ho hg hb4
        go_wp2
        try go_ret2
        exact hfin
      · intro y cv kl w1 cnt1 HC hen
        have hcv := holds_come HD.out (y := (.held cv, [])) HC.out.key rfl HC.out.at_
        have HW := Aside0.mk (who_wf HC.out.key)
        obtain ⟨F, AF, nF, cF, hF, rfl, hFn, hFc, hF9, hCF⟩ : ∃ F AF nF cF, B.subs (pr y) = some F ∧ cv = .slice AF nF cF ∧ F.length = nF ∧ nF ≤ cF ∧ nF ≤ 100000 ∧ Kd.C k119 w AF nF F := by
          cases hs : B.subs (pr y) with
          | none =>
            have := (HM.out.2.2.2.2.2.2.1 (pr y)).1 hs
            rw [hcv] at this
            cases this
          | some F =>
            obtain ⟨AF, nF, cF, h1, h2, h3, h4, h5⟩ := (HM.out.2.2.2.2.2.2.1 (pr y)).2 F hs
            rw [hcv] at h1
            exact ⟨F, AF, nF, cF, rfl, Option.some.inj h1, h2, h3, h4, h5⟩
        have HF := Aside0.mk (And.intro hF (And.intro hFn (And.intro hFc (And.intro hF9 hCF))))
        clear hcv hF hFn hFc hF9 hCF
        obtain ⟨lg, hlg⟩ := key_given (x := (pr y, (x1, x2))) ⟨HW.out, HX.out⟩
        have HLG := Aside0.mk hlg
        clear hlg
        have n1 := Aside0.mk (HB.out.grown HC.out.grown HB.out.size (fun k hk => by injection hk with hk; have := HGR.out; omega))
        have n2 := Aside0.mk (Kd.R_grown HO.out HC.out.grown (fun k hk e => hk.2 (Option.some.inj e)))
        have n3 := Aside0.mk ((HC.out.grown.block ge (blk_lt HKE.out) (fun e => by have := Option.some.inj e; have := HGR.out; omega)).trans HKE.out)
        have n4 := Aside0.mk HC.out.rg
        have HLT := Aside0.mk (And.intro HC.out.lt HRG.out.left_eq)
        have HKY := Aside0.mk (And.intro HC.out.key HC.out.came)
        clear HB HO HKE HRG HC
        have HB := n1
        have HO := n2
        have HKE := n3
        have HRG := n4
        clear n1 n2 n3 n4
        go_upto_region 8 with (fail)
        have hb3 := below_alloc (Below.refl w1.heap.size w1) (.cells #[.int .i64 y.f0, .int .i64 y.f1] 43)
        have n0_ := Aside0.mk (heap_alloc_new w1 (.cells #[.int .i64 y.f0, .int .i64 y.f1] 43))
        have n1 := Aside0.mk (below_then HB.out HB.out.size hb3)
        have n2 := Aside0.mk (Kd.R_below HO.out hb3)
        have n3 := Aside0.mk ((hb3.block _ (blk_lt HKE.out)).trans HKE.out)
        have n4 := Aside0.mk (HRG.out.alloc (.cells #[.int .i64 y.f0, .int .i64 y.f1] 43))
        clear HB HO HKE HRG hb3 hen
        generalize w1.alloc (.cells #[.int .i64 y.f0, .int .i64 y.f1] 43) = w3 at n0_ n1 n2 n3 n4 ⊢
        generalize w1.heap.size = gw at n0_ ⊢
        have HKW := n0_
        have HB := n1
        have HO := n2
        have HKE := n3
        have HRG := n4
        clear n0_ n1 n2 n3 n4
        have hG3 := (HB.out.block _ (blk_lt HG.out)).trans HG.out
        have q0 : ∀ q : BelowP w3, q.w.cell? ⟨g, 0, none⟩ = some (.slice A n cS) := fun q => q.cell ((blk_cell hG3 0).trans rfl)
        have q1 : ∀ q : BelowP w3, q.w.cell? ⟨ge, 0, none⟩ = some (.slice E k c) := fun q => q.cell ((blk_cell HKE.out 0).trans rfl)
        have q2 : ∀ q : BelowP w3, q.w.cell? ⟨ge, 1, none⟩ = some (.string pay) := fun q => q.cell ((blk_cell HKE.out 1).trans rfl)
        have q3 : ∀ q : BelowP w3, q.w.cell? ⟨g, 3, none⟩ = some (.map (some bg)) := fun q => q.cell ((blk_cell hG3 3).trans rfl)
        have q4 : ∀ q : BelowP w3, q.w.cell? ⟨gw, 0, none⟩ = some (.int .i64 y.f0) := fun q => q.cell ((blk_cell HKW.out 0).trans rfl)
        have q5 : ∀ q : BelowP w3, q.w.cell? ⟨gw, 1, none⟩ = some (.int .i64 y.f1) := fun q => q.cell ((blk_cell HKW.out 1).trans rfl)
        have HMC := Aside0.mk (fun q : BelowP w3 => match_calls A AF E n nF cS cF k c S F V pay q.w HSN.out.1 HF.out.2.1 HCV.out.1 (Kd.C_below (Kd.C_below HSN.out.2.2 HB.out) q.h) (Kd.C_below (Kd.C_below HF.out.2.2.2.2 HB.out) q.h) (Kd.C_below (Kd.C_below HCV.out.2.2.2 HB.out) q.h) h3 HF.out.2.2.2.1 HF.out.2.2.1)
        unfold encE at HMC
        have hgt : ∀ q : BelowP w3, (Instr.lookup 72 (.map (some bg)) (.agg #[.int .i64 y.f0, .int .i64 y.f1, .int .i64 x1, .int .i64 x2]) false).run Try.prog q.w = .ok (.bool (B.got (pr y, (x1, x2)))) q.w := fun q => by
          have h5 := ((HM.out.2.2.1.below HB.out).below q.h).look1 lawGiven Try.underlying72 (z := .bool false) (by rfl) HLG.out
          have h6 : (fg (pr y, (x1, x2))).getD (.bool false) = .bool (B.got (pr y, (x1, x2))) := by
            rw [HM.out.2.2.2.2.2.2.2 (pr y, (x1, x2))]
            cases B.got (pr y, (x1, x2)) <;> rfl
          rw [h6] at h5
          exact h5
        have HDB := Aside0.mk (show dueB S B (x1, x2) V pay (pr y) = (matchB S F V pay && !B.got (pr y, (x1, x2))) by unfold dueB; rw [HF.out.1])
        generalize matchB S F V pay = bm at HMC HDB
        generalize B.got (pr y, (x1, x2)) = bgt at hgt HDB
        clear hG3
        cases bm with
        | false =>
          clear hgt q3 q4 q5
          refine wp_region_quiet_below (by kernel_rfl) (by kernel_rfl) ?_
          repeat ((with_reducible refine wpQuiet_step (fun K hK => ?_)); go_simp; first | ((with_reducible refine hK _ ?_); clear hK K) | ((with_reducible apply Exists.intro); (with_reducible refine ⟨fun _ => ?_, hK _ ?_⟩); ((go_at_call 29; (with_reducible refine Calls.below_of (HMC.out _)))); clear hK K))
          with_reducible refine wpQuiet_nil ?_
          rintro _ ⟨pq, rfl⟩
          obtain ⟨w5, hw5⟩ : ∃ W, W = pq.w := ⟨_, rfl⟩
          have hb5 := pq.h
          rw [← hw5] at hb5 ⊢
          clear hw5
          have n0_ := Aside0.mk ((hb5.block _ (blk_lt HKW.out)).trans HKW.out)
          have n1 := Aside0.mk (below_then HB.out HB.out.size hb5)
          have n2 := Aside0.mk (Kd.R_below HO.out hb5)
          have n3 := Aside0.mk ((hb5.block _ (blk_lt HKE.out)).trans HKE.out)
          have n4 := Aside0.mk (HRG.out.kept (row := none) ⟨hb5.os, hb5.tape, hb5.output, hb5.size, fun i hi _ => hb5.block i hi⟩ (by simp) (by simp))
          clear HKW HB HO HKE HRG hb5 HMC pq
          have HKW := n0_
          have HB := n1
          have HO := n2
          have HKE := n3
          have HRG := n4
          clear n0_ n1 n2 n3 n4
          have hDR := HDR.out.skip HKY.out.1 HLT.out.1 HDB.out
          go_wp2_with fail
          go_roundw
          case rel => exact ⟨_, _, xs, HRG, HO, ⟨hDR⟩, HKE, HB⟩
          case measure => rw [HRG.out.left_eq, HLT.out.2]; exact HLT.out.1
        | true =>
          cases bgt with
          | true =>
            refine wp_region_quiet_below (by kernel_rfl) (by kernel_rfl) ?_
            repeat ((with_reducible refine wpQuiet_step (fun K hK => ?_)); go_simp; first | ((with_reducible refine hK _ ?_); clear hK K) | ((with_reducible apply Exists.intro); (with_reducible refine ⟨fun _ => ?_, hK _ ?_⟩); ((go_at_call 29; (with_reducible refine Calls.below_of (HMC.out _)))); clear hK K))
            with_reducible refine wpQuiet_nil ?_
            rintro _ ⟨pq, rfl⟩
            obtain ⟨w5, hw5⟩ : ∃ W, W = pq.w := ⟨_, rfl⟩
            have hb5 := pq.h
            rw [← hw5] at hb5 ⊢
            clear hw5
            have n0_ := Aside0.mk ((hb5.block _ (blk_lt HKW.out)).trans HKW.out)
            have n1 := Aside0.mk (below_then HB.out HB.out.size hb5)
            have n2 := Aside0.mk (Kd.R_below HO.out hb5)
            have n3 := Aside0.mk ((hb5.block _ (blk_lt HKE.out)).trans HKE.out)
            have n4 := Aside0.mk (HRG.out.kept (row := none) ⟨hb5.os, hb5.tape, hb5.output, hb5.size, fun i hi _ => hb5.block i hi⟩ (by simp) (by simp))
            clear HKW HB HO HKE HRG hb5 HMC pq
            have HKW := n0_
            have HB := n1
            have HO := n2
            have HKE := n3
            have HRG := n4
            clear n0_ n1 n2 n3 n4
            have hDR := HDR.out.skip HKY.out.1 HLT.out.1 HDB.out
            go_wp2_with fail
            go_roundw
            case rel => exact ⟨_, _, xs, HRG, HO, ⟨hDR⟩, HKE, HB⟩
            case measure => rw [HRG.out.left_eq, HLT.out.2]; exact HLT.out.1
          | false =>
            refine wp_region_quiet_below (by kernel_rfl) (by kernel_rfl) ?_
            repeat ((with_reducible refine wpQuiet_step (fun K hK => ?_)); go_simp; first | ((with_reducible refine hK _ ?_); clear hK K) | ((with_reducible apply Exists.intro); (with_reducible refine ⟨fun _ => ?_, hK _ ?_⟩); ((go_at_call 29; (with_reducible refine Calls.below_of (HMC.out _)))); clear hK K))
            with_reducible refine wpQuiet_nil ?_
            rintro _ ⟨pq, rfl⟩
            obtain ⟨w5, hw5⟩ : ∃ W, W = pq.w := ⟨_, rfl⟩
            have hb5 := pq.h
            rw [← hw5] at hb5 ⊢
            clear hw5
            have n0_ := Aside0.mk ((hb5.block _ (blk_lt HKW.out)).trans HKW.out)
            have n1 := Aside0.mk (below_then HB.out HB.out.size hb5)
            have n2 := Aside0.mk (Kd.R_below HO.out hb5)
            have n3 := Aside0.mk ((hb5.block _ (blk_lt HKE.out)).trans HKE.out)
            have n4 := Aside0.mk (HRG.out.kept (row := none) ⟨hb5.os, hb5.tape, hb5.output, hb5.size, fun i hi _ => hb5.block i hi⟩ (by simp) (by simp))
            clear HKW HB HO HKE HRG hb5 HMC pq
            have HKW := n0_
            have HB := n1
            have HO := n2
            have HKE := n3
            have HRG := n4
            clear n0_ n1 n2 n3 n4
            have hDR := HDR.out.step HKY.out.1 HW.out HKY.out.2 HLT.out.1 HDB.out
            have y4 := (blk_cell HKW.out 0).trans (show _ = some (Value.int .i64 y.f0) from rfl)
            have y5 := (blk_cell HKW.out 1).trans (show _ = some (Value.int .i64 y.f1) from rfl)
            clear q0 q1 q2 q3 q4 q5 hgt
            go_wp2_with ((with_reducible refine gate_builtin (b := .append) (xs := #[.tmp 57, .tmp 59]) rfl ?_); at_builtin; go_loud (refine Kd.R_append kW (w0 := w) w.heap.size rfl (.tmp 57) (.tmp 59) 49 43 (.agg #[(.int .i64 0), (.int .i64 0)]) 16 rfl Try.underlying49 info43 rfl (by decide) (by omega) _ _ y [.int .i64 y.f0, .int .i64 y.f1] (fun k => k ≠ ge ∧ k ≠ r) (fun _ => False) rfl ?aX ?aP (fun _ hk => hk.elim) ?aF HO.out HB.out HB.out.size ?aL ?_; (case aX => first | rfl | (go_simp; done) | (go_simp; rfl)); (case aP => exact k43_mkM _ _ _ y); (case aF => exact (fun k hk => by have l1 := blk_lt HKE.out; have l2 := HRG.out.lt; exact ⟨by omega, by omega⟩)); (case aL => have := HDR.out.len; omega); intro v9 w9 ho hb hg hat; go_frame))
            have HDR2 := Aside0.mk hDR
            have n4 := Aside0.mk (HRG.out.kept hg (fun e => by have l1 := HM.out.2.1.lt; have l2 := own_base (own_of_R HO.out) _ e.symm; omega) (fun e => (HO.out.1 _ e.symm).2 rfl))
            have n3 := Aside0.mk ((hg.block _ (blk_lt HKE.out) (fun e => (HO.out.1 _ e.symm).1 rfl)).trans HKE.out)
            clear hDR HRG
            have HRG := n4
            go_roundw
            case rel => exact ⟨_, _, _, HRG, ⟨ho⟩, HDR2, n3, ⟨hb⟩⟩
            case measure => rw [HRG.out.left_eq, HLT.out.2]; exact HLT.out.1
end Go.Proofs.Ytlokmijoaocofaa.Mine
end
section
/-
  (*Board).Give walked. Conditions: the numbers are int64, the maps at most a million entries, the delivery at most 1000000 values.
-/
namespace Go.Proofs.Ytlokmijoaocofaa.Mine
open Go.Maps Go.RowKit Go.Proofs.YtlokmijoaocofaaW.PrintWords Go.Proofs.YtlokmijoaocofaaW.PrintLast Go.Proofs.YtlokmijoaocofaaW.PrintMore
open Go.Proofs.Ytlokmijoaocofaa.PBoardAgain
def Bd.give (B : Bd) (x t : P2) : Bd := { B with got := fun y => if y = (x, t) then true else B.got y }
/-- What Give answers, by code. -/
def giveC (S : List SA) (B : Bd) (x t : P2) (V : List SV) (p : ByteArray) : Int :=
  match B.evs t with
  | none => 9
  | some (V0, p0) =>
    if sameEv V0 p0 V p = true then
      match B.subs x with
      | none => 12
      | some F => if matchB S F V0 p0 = true then (if B.got (x, t) = true then 5 else 0) else 3
    else 11
def GivePost (base g : Nat) (S : List SA) (B : Bd) (N : Nat) (x t : P2) (V : List SV) (p : ByteArray) (w : World) (e : Ending) (w' : World) : Prop :=
  Kept base w w' ∧ ((giveC S B x t V p ≠ 0 ∧ ErrE w' (giveC S B x t V p) e ∧ IsBd base w' g S B N) ∨ (giveC S B x t V p = 0 ∧ e = .returned .nilIface ∧ IsBd base w' g S (B.give x t) (N + 1)))
set_option maxRecDepth 100000 in
/-- A lookup of an event, there or not. -/
theorem evs_look {w : World} {f : P2 → Option Value} {g : P2 → Option (List SV × ByteArray)} {be N : Nat} (hm : MapIs Try.prog 88 k2 w be N f) (h : evOk w f g) {t : P2} (ht : wf2 t) :
    ∃ E k c p, (∀ W, Below w.heap.size w W → (Instr.lookup 70 (.map (some be)) (.agg #[.int .i64 t.1, .int .i64 t.2]) true).run Try.prog W = .ok (.tuple #[.agg #[.slice E k c, .string p], .bool (g t).isSome]) W) ∧ ∀ V0 p0, g t = some (V0, p0) → p = p0 ∧ V0.length = k ∧ k ≤ c ∧ k ≤ 100000 ∧ Kd.C k63 w E k V0 := by
  obtain ⟨l, hl⟩ := key_what ht
  cases hg : g t with
  | none =>
    have hf := (h t).1 hg
    exact ⟨none, 0, 0, ⟨#[]⟩, fun W hb => (hm.below hb).look_none lawWhat Try.underlying70 (by rfl) hl hf, fun V0 p0 h => by cases h⟩
  | some vp =>
    obtain ⟨V0, p0⟩ := vp
    obtain ⟨E, k, c, hf, h1, h2, h3, h4⟩ := (h t).2 V0 p0 hg
    exact ⟨E, k, c, p0, fun W hb => (hm.below hb).look_some lawWhat Try.underlying70 (by rfl) hl hf, fun V1 p1 h => by
      injection h with h
      injection h with h5 h6
      subst h5
      exact ⟨h6, h1, h2, h3, h4⟩⟩
set_option maxRecDepth 100000 in
theorem subs_look {w : World} {f : P2 → Option Value} {g : P2 → Option (List SP)} {bs N : Nat} (hm : MapIs Try.prog 43 k2 w bs N f) (h : subOk w f g) {x : P2} (hx : wf2 x) :
    ∃ A n c, (∀ W, Below w.heap.size w W → (Instr.lookup 71 (.map (some bs)) (.agg #[.int .i64 x.1, .int .i64 x.2]) true).run Try.prog W = .ok (.tuple #[.slice A n c, .bool (g x).isSome]) W) ∧ ∀ F, g x = some F → F.length = n ∧ n ≤ c ∧ n ≤ 100000 ∧ Kd.C k119 w A n F := by
  obtain ⟨l, hl⟩ := key_who hx
  cases hg : g x with
  | none =>
    have hf := (h x).1 hg
    exact ⟨none, 0, 0, fun W hb => (hm.below hb).look_none lawWho Try.underlying71 (by rfl) hl hf, fun F h => by cases h⟩
  | some F =>
    obtain ⟨A, n, c, hf, h1, h2, h3, h4⟩ := (h x).2 F hg
    exact ⟨A, n, c, fun W hb => (hm.below hb).look_some lawWho Try.underlying71 (by rfl) hl hf, fun F1 h => by
      injection h with h5
      subst h5
      exact ⟨h1, h2, h3, h4⟩⟩
set_option maxHeartbeats 8000000 in
set_option maxRecDepth 100000 in
theorem give_calls (base g N b off k c : Nat) (x t : P2) (S : List SA) (B : Bd) (E : Option Addr) (V : List SV) (pay : ByteArray) (w : World) (hb : IsBd base w g S B N) (hbase : base ≤ w.heap.size) (hN : N ≤ 1000000) (hx : wf2 x) (ht : wf2 t) (hk : V.length = k) (hkc : k ≤ c) (hr : Kd.C k63 w E k V) :
    Calls Try.prog 18 #[.pointer (some ⟨g, 0, none⟩), .int .i64 x.1, .agg #[.int .i64 x.2, .int .i64 t.1, .int .i64 t.2, .slice E k c, .string pay]] w (GivePost base g S B N x t V pay w) := by
  have HBD := Aside0.mk hb
  have HR := Aside0.mk (And.intro hk (And.intro hkc hr))
  obtain ⟨A, n, cS, be, bs, bg, fe, fs, fg, h1, ⟨h2, h3, h4⟩, m1, m2, m3, hne, hba, e1, e2, e3⟩ := hb
  obtain ⟨E0, k0, c0, p0, hev, HEV0⟩ := evs_look m1 e1 ht
  obtain ⟨AF, nF, cF, hsb, HSB0⟩ := subs_look m2 e2 hx
  obtain ⟨lg, hlg⟩ := key_given (x := (x, t)) ⟨hx, ht⟩
  have HLG := Aside0.mk hlg
  have HM := Aside0.mk (And.intro m1 (And.intro m2 (And.intro m3 (And.intro hne (And.intro hba (And.intro e1 (And.intro e2 e3)))))))
  have HG := Aside0.mk h1
  have HSN := Aside0.mk (And.intro h2 (And.intro h3 h4))
  have HEV := Aside0.mk hev
  have HSB := Aside0.mk hsb
  have HEV1 := Aside0.mk HEV0
  have HSB1 := Aside0.mk HSB0
  clear h1 h2 h4 m1 m2 m3 hne hba e1 e2 e3 hlg hev hsb HEV0 HSB0 hk hkc hr hx ht
  obtain ⟨x1, x2⟩ := x
  obtain ⟨t1, t2⟩ := t
  obtain ⟨be1, hbe1⟩ : ∃ z, z = (B.evs (t1, t2)).isSome := ⟨_, rfl⟩
  obtain ⟨bs1, hbs1⟩ : ∃ z, z = (B.subs (x1, x2)).isSome := ⟨_, rfl⟩
  rw [← hbe1] at HEV
  rw [← hbs1] at HSB
  have HBE := Aside0.mk hbe1
  have HBS := Aside0.mk hbs1
  clear hbe1 hbs1
  have HF0 := Aside0.mk (fun (cd : Int) (h0 : cd ≠ 0) (hc : giveC S B (x1, x2) (t1, t2) V pay = cd) e w' (h1 : Kept base w w') (h2 : ErrE w' cd e) (h3 : IsBd base w' g S B N) => show GivePost base g S B N (x1, x2) (t1, t2) V pay w e w' from ⟨h1, Or.inl ⟨by rw [hc]; exact h0, by rw [hc]; exact h2, h3⟩⟩)
  have HF1 := Aside0.mk (fun (hc : giveC S B (x1, x2) (t1, t2) V pay = 0) w' (h1 : Kept base w w') (h3 : IsBd base w' g S (B.give (x1, x2) (t1, t2)) (N + 1)) => show GivePost base g S B N (x1, x2) (t1, t2) V pay w (.returned .nilIface) w' from ⟨h1, Or.inr ⟨hc, rfl, h3⟩⟩)
  generalize GivePost base g S B N (x1, x2) (t1, t2) V pay w = POST at HF0 HF1 ⊢
  go_enter Try.func18, Try.ntmps18
  go_upto_region 2 with (fail)
  have hb1 := below_alloc (Below.refl w.heap.size w) (.cells #[.int .i64 x2, .int .i64 t1, .int .i64 t2, .slice E k c, .string pay] 58)
  have k1 := heap_alloc_new w (.cells #[.int .i64 x2, .int .i64 t1, .int .i64 t2, .slice E k c, .string pay] 58)
  have hs1 : (w.alloc (.cells #[.int .i64 x2, .int .i64 t1, .int .i64 t2, .slice E k c, .string pay] 58)).heap.size = w.heap.size + 1 := by show (w.heap.push _).size = _; exact Array.size_push _
  generalize w.alloc (.cells #[.int .i64 x2, .int .i64 t1, .int .i64 t2, .slice E k c, .string pay] 58) = w1 at hb1 k1 hs1 ⊢
  have hb2 := below_alloc (Below.refl w1.heap.size w1) (.cells #[.int .i64 x1, .int .i64 x2, .int .i64 t1, .int .i64 t2] 92)
  have k2 := heap_alloc_new w1 (.cells #[.int .i64 x1, .int .i64 x2, .int .i64 t1, .int .i64 t2] 92)
  rw [← hs1]
  generalize w1.alloc (.cells #[.int .i64 x1, .int .i64 x2, .int .i64 t1, .int .i64 t2] 92) = w2 at hb2 k2 ⊢
  have HKD := Aside0.mk ((hb2.block _ (blk_lt k1)).trans k1)
  have HKB := Aside0.mk k2
  have HB := Aside0.mk (below_then hb1 hb1.size hb2)
  clear k1 k2 hb1 hb2 hs1
  generalize w1.heap.size = gx at HKB ⊢
  obtain ⟨gd, hgd⟩ : ∃ g, g = w.heap.size := ⟨_, rfl⟩
  rw [← hgd] at HKD ⊢
  clear hgd
  have hG2 := (HB.out.block _ (blk_lt HG.out)).trans HG.out
  have z1 := (blk_cell hG2 1).trans (show _ = some (Value.map (some be)) from rfl)
  have z2 := (blk_cell HKB.out 2).trans (show _ = some (Value.int .i64 t1) from rfl)
  have z3 := (blk_cell HKB.out 3).trans (show _ = some (Value.int .i64 t2) from rfl)
  have hlk : (Instr.lookup 70 (.map (some be)) (.agg #[.int .i64 t1, .int .i64 t2]) true).run Try.prog w2.drew = .ok (.tuple #[.agg #[.slice E0 k0 c0, .string p0], .bool be1]) w2.drew := HEV.out _ (below_drew HB.out)
  have hlk2 : (Instr.lookup 70 (.map (some be)) (.agg #[.int .i64 t1, .int .i64 t2]) true).run Try.prog (w2.alloc (.cells #[.slice none 0 0, .string ⟨#[]⟩] 24)).drew = .ok (.tuple #[.agg #[.slice E0 k0 c0, .string p0], .bool be1]) (w2.alloc (.cells #[.slice none 0 0, .string ⟨#[]⟩] 24)).drew := HEV.out _ (below_drew (below_alloc HB.out _))
  go_region_held3 (fun X => X.cell? ⟨g, 1, none⟩ = some (.map (some be)) ∧ X.cell? ⟨gx, 2, none⟩ = some (.int .i64 t1) ∧ X.cell? ⟨gx, 3, none⟩ = some (.int .i64 t2)) (go_keep) (fail)
  all_goals
    clear hlk hlk2 z1 z2 z3 hG2
    have hb3 := below_drew (below_alloc (Below.refl w2.heap.size w2) (.cells #[.slice E0 k0 c0, .string p0] 24))
    have k3 : ((w2.alloc (.cells #[.slice E0 k0 c0, .string p0] 24)).drew).heap[w2.heap.size]? = some (.cells #[.slice E0 k0 c0, .string p0] 24 (0, 0)) := heap_alloc_new w2 _
    have n0_ := Aside0.mk ((hb3.block _ (blk_lt HKD.out)).trans HKD.out)
    have n1 := Aside0.mk (below_then HB.out HB.out.size hb3)
    have n2 := Aside0.mk ((hb3.block _ (blk_lt HKB.out)).trans HKB.out)
    have HKE := Aside0.mk k3
    generalize ((w2.alloc (.cells #[.slice E0 k0 c0, .string p0] 24)).drew) = w3 at HKE n0_ n1 n2 ⊢
    generalize w2.heap.size = ge at HKE ⊢
    clear HKD HB HKB hb3 k3
    have HKD := n0_
    have HB := n1
    have HKB := n2
    clear n0_ n1 n2
    have hG3 := (HB.out.block _ (blk_lt HG.out)).trans HG.out
    have q0 : ∀ q : BelowP w3, q.w.cell? ⟨g, 2, none⟩ = some (.map (some bs)) := fun q => q.cell ((blk_cell hG3 2).trans rfl)
    have q1 : ∀ q : BelowP w3, q.w.cell? ⟨gx, 0, none⟩ = some (.int .i64 x1) := fun q => q.cell ((blk_cell HKB.out 0).trans rfl)
    have q2 : ∀ q : BelowP w3, q.w.cell? ⟨gx, 1, none⟩ = some (.int .i64 x2) := fun q => q.cell ((blk_cell HKB.out 1).trans rfl)
    have q3 : ∀ q : BelowP w3, (Instr.lookup 71 (.map (some bs)) (.agg #[.int .i64 x1, .int .i64 x2]) true).run Try.prog q.w = .ok (.tuple #[.slice AF nF cF, .bool bs1]) q.w := fun q => HSB.out _ (below_then HB.out HB.out.size q.h)
    clear hG3
    go_wp2_with fail
    refine wp_region_quiet_below (by kernel_rfl) (by kernel_rfl) ?_
    repeat ((with_reducible refine wpQuiet_step (fun K hK => ?_)); go_simp; first | ((with_reducible refine hK _ ?_); clear hK K) | ((with_reducible apply Exists.intro); (with_reducible refine ⟨fun _ => ?_, hK _ ?_⟩); (fail); clear hK K))
    with_reducible refine wpQuiet_nil ?_
    rintro _ ⟨pq, rfl⟩
    clear q0 q1 q2 q3
    obtain ⟨w5, hw5⟩ : ∃ W, W = pq.w := ⟨_, rfl⟩
    have hb5 := pq.h
    rw [← hw5] at hb5 ⊢
    clear hw5
    have n0_ := Aside0.mk ((hb5.block _ (blk_lt HKD.out)).trans HKD.out)
    have n1 := Aside0.mk (below_then HB.out HB.out.size hb5)
    have n2 := Aside0.mk ((hb5.block _ (blk_lt HKB.out)).trans HKB.out)
    have n3 := Aside0.mk ((hb5.block _ (blk_lt HKE.out)).trans HKE.out)
    clear HKD HB HKB HKE hb5 pq
    have HKD := n0_
    have HB := n1
    have HKB := n2
    have HKE := n3
    clear n0_ n1 n2 n3
    cases hbe : be1 with
    | false =>
      subst hbe
      have HFIN := Aside0.mk (HF0.out 9 (by decide) (by unfold giveC; rw [show B.evs (t1, t2) = none by have := HBE.out; simpa using this.symm]))
      go_wp2_with fail
      refine (bfault_calls 9 _).mono ?_
      rintro e w8 ⟨b1, hbl, rfl, hf, hb⟩
      have hb8 := below_then HB.out HB.out.size hb
      have hfin := HFIN.out _ w8 (Kept.of hb8 hbase) ⟨b1, 1, rfl, IsFault.errIs hf⟩ (HBD.out.below hb8)
      clear hb hf hbl hb8
      go_wp2
      try go_ret
      exact hfin
    | true =>
      subst hbe
      obtain ⟨V0, hev⟩ : ∃ V0, B.evs (t1, t2) = some (V0, p0) := by
        have h1 := HBE.out
        cases hev : B.evs (t1, t2) with
        | none => rw [hev] at h1; cases h1
        | some vp =>
          obtain ⟨V0, p1⟩ := vp
          exact ⟨V0, by rw [(HEV1.out V0 p1 hev).1]⟩
      have HV0 := Aside0.mk hev
      have HVC := Aside0.mk (HEV1.out V0 p0 hev).2
      clear hev
      have z1 := (blk_cell HKE.out 0).trans (show _ = some (Value.slice E0 k0 c0) from rfl)
      have z2 := (blk_cell HKE.out 1).trans (show _ = some (Value.string p0) from rfl)
      have z3 := (blk_cell HKD.out 3).trans (show _ = some (Value.slice E k c) from rfl)
      have z4 := (blk_cell HKD.out 4).trans (show _ = some (Value.string pay) from rfl)
      have HSM := Aside0.mk (same_calls E0 E k0 k c0 c V0 V p0 pay w5 HVC.out.1 HR.out.1 (Kd.C_below HVC.out.2.2.2 HB.out) (Kd.C_below HR.out.2.2 HB.out) HVC.out.2.1 HR.out.2.1 (by have := HVC.out.2.2.1; omega))
      unfold encE at HSM
      go_wp2_with fail
      (with_reducible refine HSM.out.mono ?_)
      rintro e w6 ⟨rfl, hb6⟩
      have n0_ := Aside0.mk ((hb6.block _ (blk_lt HKD.out)).trans HKD.out)
      have n1 := Aside0.mk (below_then HB.out HB.out.size hb6)
      have n2 := Aside0.mk ((hb6.block _ (blk_lt HKB.out)).trans HKB.out)
      have n3 := Aside0.mk ((hb6.block _ (blk_lt HKE.out)).trans HKE.out)
      clear HKD HB HKB HKE hb6 HSM z1 z2 z3 z4
      have HKD := n0_
      have HB := n1
      have HKB := n2
      have HKE := n3
      clear n0_ n1 n2 n3
      cases hsm : sameEv V0 p0 V pay with
      | false =>
        have HFIN := Aside0.mk (HF0.out 11 (by decide) (by unfold giveC; rw [HV0.out]; simp only [hsm]; rfl))
        clear hsm
        go_wp2_with fail
        refine (bfault_calls 11 _).mono ?_
        rintro e w8 ⟨b1, hbl, rfl, hf, hb⟩
        have hb8 := below_then HB.out HB.out.size hb
        have hfin := HFIN.out _ w8 (Kept.of hb8 hbase) ⟨b1, 1, rfl, IsFault.errIs hf⟩ (HBD.out.below hb8)
        clear hb hf hbl hb8
        go_wp2
        try go_ret
        exact hfin
      | true =>
        have HSMT := Aside0.mk hsm
        clear hsm
        cases hbs : bs1 with
        | false =>
          subst hbs
          have HFIN := Aside0.mk (HF0.out 12 (by decide) (by unfold giveC; rw [HV0.out]; simp only [HSMT.out]; rw [show B.subs (x1, x2) = none by have := HBS.out; simpa using this.symm]; rfl))
          go_wp2_with fail
          refine (bfault_calls 12 _).mono ?_
          rintro e w8 ⟨b1, hbl, rfl, hf, hb⟩
          have hb8 := below_then HB.out HB.out.size hb
          have hfin := HFIN.out _ w8 (Kept.of hb8 hbase) ⟨b1, 1, rfl, IsFault.errIs hf⟩ (HBD.out.below hb8)
          clear hb hf hbl hb8
          go_wp2
          try go_ret
          exact hfin
        | true =>
          subst hbs
          obtain ⟨F, hsf⟩ : ∃ F, B.subs (x1, x2) = some F := by
            have h1 := HBS.out
            cases hsf : B.subs (x1, x2) with
            | none => rw [hsf] at h1; cases h1
            | some F => exact ⟨F, rfl⟩
          have HF := Aside0.mk hsf
          have HFC := Aside0.mk (HSB1.out F hsf)
          clear hsf
          have hG6 := (HB.out.block _ (blk_lt HG.out)).trans HG.out
          have q0 : ∀ q : BelowP w6, q.w.cell? ⟨g, 0, none⟩ = some (.slice A n cS) := fun q => q.cell ((blk_cell hG6 0).trans rfl)
          have q1 : ∀ q : BelowP w6, q.w.cell? ⟨ge, 0, none⟩ = some (.slice E0 k0 c0) := fun q => q.cell ((blk_cell HKE.out 0).trans rfl)
          have q2 : ∀ q : BelowP w6, q.w.cell? ⟨ge, 1, none⟩ = some (.string p0) := fun q => q.cell ((blk_cell HKE.out 1).trans rfl)
          have HMC := Aside0.mk (fun q : BelowP w6 => match_calls A AF E0 n nF cS cF k0 c0 S F V0 p0 q.w HSN.out.1 HFC.out.1 HVC.out.1 (Kd.C_below (Kd.C_below HSN.out.2.2 HB.out) q.h) (Kd.C_below (Kd.C_below HFC.out.2.2.2 HB.out) q.h) (Kd.C_below (Kd.C_below HVC.out.2.2.2 HB.out) q.h) h3 HFC.out.2.2.1 HFC.out.2.1)
          unfold encE at HMC
          clear hG6
          cases hmt : matchB S F V0 p0 with
          | false =>
            have HFIN := Aside0.mk (HF0.out 3 (by decide) (by unfold giveC; rw [HV0.out]; simp only [HSMT.out]; rw [HF.out]; simp only [hmt]; rfl))
            rw [hmt] at HMC
            clear hmt
            go_wp2_with fail
            refine wp_region_quiet_below (by kernel_rfl) (by kernel_rfl) ?_
            repeat ((with_reducible refine wpQuiet_step (fun K hK => ?_)); go_simp; first | ((with_reducible refine hK _ ?_); clear hK K) | ((with_reducible apply Exists.intro); (with_reducible refine ⟨fun _ => ?_, hK _ ?_⟩); ((go_at_call 29; (with_reducible refine Calls.below_of (HMC.out _)))); clear hK K))
            with_reducible refine wpQuiet_nil ?_
            rintro _ ⟨pq, rfl⟩
            clear HMC q0 q1 q2
            obtain ⟨w5, hw5⟩ : ∃ W, W = pq.w := ⟨_, rfl⟩
            have hb5 := pq.h
            rw [← hw5] at hb5 ⊢
            clear hw5
            have n0_ := Aside0.mk ((hb5.block _ (blk_lt HKD.out)).trans HKD.out)
            have n1 := Aside0.mk (below_then HB.out HB.out.size hb5)
            have n2 := Aside0.mk ((hb5.block _ (blk_lt HKB.out)).trans HKB.out)
            have n3 := Aside0.mk ((hb5.block _ (blk_lt HKE.out)).trans HKE.out)
            clear HKD HB HKB HKE hb5 pq
            have HKD := n0_
            have HB := n1
            have HKB := n2
            have HKE := n3
            clear n0_ n1 n2 n3
            go_wp2_with fail
            refine (bfault_calls 3 _).mono ?_
            rintro e w8 ⟨b1, hbl, rfl, hf, hb⟩
            have hb8 := below_then HB.out HB.out.size hb
            have hfin := HFIN.out _ w8 (Kept.of hb8 hbase) ⟨b1, 1, rfl, IsFault.errIs hf⟩ (HBD.out.below hb8)
            clear hb hf hbl hb8
            go_wp2
            try go_ret
            exact hfin
          | true =>
            have HMT := Aside0.mk hmt
            rw [hmt] at HMC
            clear hmt
            go_wp2_with fail
            refine wp_region_quiet_below (by kernel_rfl) (by kernel_rfl) ?_
            repeat ((with_reducible refine wpQuiet_step (fun K hK => ?_)); go_simp; first | ((with_reducible refine hK _ ?_); clear hK K) | ((with_reducible apply Exists.intro); (with_reducible refine ⟨fun _ => ?_, hK _ ?_⟩); ((go_at_call 29; (with_reducible refine Calls.below_of (HMC.out _)))); clear hK K))
            with_reducible refine wpQuiet_nil ?_
            rintro _ ⟨pq, rfl⟩
            clear HMC q0 q1 q2
            obtain ⟨w5, hw5⟩ : ∃ W, W = pq.w := ⟨_, rfl⟩
            have hb5 := pq.h
            rw [← hw5] at hb5 ⊢
            clear hw5
            have n0_ := Aside0.mk ((hb5.block _ (blk_lt HKD.out)).trans HKD.out)
            have n1 := Aside0.mk (below_then HB.out HB.out.size hb5)
            have n2 := Aside0.mk ((hb5.block _ (blk_lt HKB.out)).trans HKB.out)
            have n3 := Aside0.mk ((hb5.block _ (blk_lt HKE.out)).trans HKE.out)
            clear HKD HB HKB HKE hb5 pq
            have HKD := n0_
            have HB := n1
            have HKB := n2
            have HKE := n3
            clear n0_ n1 n2 n3
            have hG6 := (HB.out.block _ (blk_lt HG.out)).trans HG.out
            have q0 : ∀ q : BelowP w5, q.w.cell? ⟨g, 3, none⟩ = some (.map (some bg)) := fun q => q.cell ((blk_cell hG6 3).trans rfl)
            have q1 : ∀ q : BelowP w5, q.w.cell? ⟨gx, 0, none⟩ = some (.int .i64 x1) := fun q => q.cell ((blk_cell HKB.out 0).trans rfl)
            have q2 : ∀ q : BelowP w5, q.w.cell? ⟨gx, 1, none⟩ = some (.int .i64 x2) := fun q => q.cell ((blk_cell HKB.out 1).trans rfl)
            have q3 : ∀ q : BelowP w5, q.w.cell? ⟨gx, 2, none⟩ = some (.int .i64 t1) := fun q => q.cell ((blk_cell HKB.out 2).trans rfl)
            have q4 : ∀ q : BelowP w5, q.w.cell? ⟨gx, 3, none⟩ = some (.int .i64 t2) := fun q => q.cell ((blk_cell HKB.out 3).trans rfl)
            have hgt : ∀ q : BelowP w5, (Instr.lookup 72 (.map (some bg)) (.agg #[.int .i64 x1, .int .i64 x2, .int .i64 t1, .int .i64 t2]) false).run Try.prog q.w = .ok (.bool (B.got ((x1, x2), (t1, t2)))) q.w := fun q => by
              have h5 := ((HM.out.2.2.1.below HB.out).below q.h).look1 lawGiven Try.underlying72 (z := .bool false) (by rfl) HLG.out
              have h6 : (fg ((x1, x2), (t1, t2))).getD (.bool false) = .bool (B.got ((x1, x2), (t1, t2))) := by
                rw [HM.out.2.2.2.2.2.2.2 ((x1, x2), (t1, t2))]
                cases B.got ((x1, x2), (t1, t2)) <;> rfl
              rw [h6] at h5
              exact h5
            clear hG6
            cases hgo : B.got ((x1, x2), (t1, t2)) with
            | true =>
              have HFIN := Aside0.mk (HF0.out 5 (by decide) (by unfold giveC; rw [HV0.out]; simp only [HSMT.out]; rw [HF.out]; simp only [HMT.out]; rw [hgo]; rfl))
              rw [hgo] at hgt
              clear hgo
              go_wp2_with fail
              refine wp_region_quiet_below (by kernel_rfl) (by kernel_rfl) ?_
              repeat ((with_reducible refine wpQuiet_step (fun K hK => ?_)); go_simp; first | ((with_reducible refine hK _ ?_); clear hK K) | ((with_reducible apply Exists.intro); (with_reducible refine ⟨fun _ => ?_, hK _ ?_⟩); (fail); clear hK K))
              with_reducible refine wpQuiet_nil ?_
              rintro _ ⟨pq, rfl⟩
              clear q0 q1 q2 q3 q4 hgt
              obtain ⟨w5, hw5⟩ : ∃ W, W = pq.w := ⟨_, rfl⟩
              have hb5 := pq.h
              rw [← hw5] at hb5 ⊢
              clear hw5
              have n0_ := Aside0.mk ((hb5.block _ (blk_lt HKD.out)).trans HKD.out)
              have n1 := Aside0.mk (below_then HB.out HB.out.size hb5)
              have n2 := Aside0.mk ((hb5.block _ (blk_lt HKB.out)).trans HKB.out)
              have n3 := Aside0.mk ((hb5.block _ (blk_lt HKE.out)).trans HKE.out)
              clear HKD HB HKB HKE hb5 pq
              have HKD := n0_
              have HB := n1
              have HKB := n2
              have HKE := n3
              clear n0_ n1 n2 n3
              go_wp2_with fail
              refine (bfault_calls 5 _).mono ?_
              rintro e w8 ⟨b1, hbl, rfl, hf, hb⟩
              have hb8 := below_then HB.out HB.out.size hb
              have hfin := HFIN.out _ w8 (Kept.of hb8 hbase) ⟨b1, 1, rfl, IsFault.errIs hf⟩ (HBD.out.below hb8)
              clear hb hf hbl hb8
              go_wp2
              try go_ret
              exact hfin
            | false =>
              have HOK := Aside0.mk (HF1.out (by unfold giveC; rw [HV0.out]; simp only [HSMT.out]; rw [HF.out]; simp only [HMT.out]; rw [hgo]; rfl))
              rw [hgo] at hgt
              clear hgo
              go_wp2_with fail
              refine wp_region_quiet_below (by kernel_rfl) (by kernel_rfl) ?_
              repeat ((with_reducible refine wpQuiet_step (fun K hK => ?_)); go_simp; first | ((with_reducible refine hK _ ?_); clear hK K) | ((with_reducible apply Exists.intro); (with_reducible refine ⟨fun _ => ?_, hK _ ?_⟩); (fail); clear hK K))
              with_reducible refine wpQuiet_nil ?_
              rintro _ ⟨pq, rfl⟩
              clear q0 q1 q2 q3 q4 hgt
              go_upto_region 14 with (fail)
              obtain ⟨w5, hw5⟩ : ∃ W, W = pq.w := ⟨_, rfl⟩
              have hb5 := pq.h
              rw [← hw5] at hb5 ⊢
              clear hw5
              have n0_ := Aside0.mk ((hb5.block _ (blk_lt HKD.out)).trans HKD.out)
              have n1 := Aside0.mk (below_then HB.out HB.out.size hb5)
              have n2 := Aside0.mk ((hb5.block _ (blk_lt HKB.out)).trans HKB.out)
              have n3 := Aside0.mk ((hb5.block _ (blk_lt HKE.out)).trans HKE.out)
              clear HKD HB HKB HKE hb5 pq
              have HKD := n0_
              have HB := n1
              have HKB := n2
              have HKE := n3
              clear n0_ n1 n2 n3
              have hG6 := (HB.out.block _ (blk_lt HG.out)).trans HG.out
              have z0 := (blk_cell hG6 3).trans (show _ = some (Value.map (some bg)) from rfl)
              have z1 := (blk_cell HKB.out 0).trans (show _ = some (Value.int .i64 x1) from rfl)
              have z2 := (blk_cell HKB.out 1).trans (show _ = some (Value.int .i64 x2) from rfl)
              have z3 := (blk_cell HKB.out 2).trans (show _ = some (Value.int .i64 t1) from rfl)
              have z4 := (blk_cell HKB.out 3).trans (show _ = some (Value.int .i64 t2) from rfl)
              have hM5 := HM.out.2.2.1.below HB.out
              obtain ⟨W6, hrun, hM6, hgr⟩ := MapIs.store (w := w5.drew) (hM5.block rfl) lawGiven (fun _ _ => k4_inj) Try.underlying72 (by unfold maxLen; omega) HLG.out (.bool true)
              have hup : (Instr.mapUpdate 72 (.map (some bg)) (.agg #[.int .i64 x1, .int .i64 x2, .int .i64 t1, .int .i64 t2]) (.bool true)).run Try.prog w5.drew = .ok () W6 := hrun
              clear hrun
              obtain ⟨es, cl, hobj⟩ := hM5.obj
              have HBd : Below w.heap.size w w5.drew := ⟨HB.out.os, HB.out.tape, HB.out.output, HB.out.size, HB.out.block⟩
              have hobjd : w5.drew.heap[bg]? = some (.map es cl) := hobj
              have hgne : g ≠ bg := by
                rintro rfl
                rw [hG6] at hobj
                cases hobj
              have hne := HM.out.2.2.2.1
              have hkept : Kept base w W6 := (Kept.of HBd hbase).trans (Kept.turned hobjd hgr HM.out.2.2.2.2.1.2.2.2)
              have hgot6 : gotOk (upd fg ((x1, x2), (t1, t2)) (some (.bool true))) (B.give (x1, x2) (t1, t2)).got := fun y => by
                unfold upd Bd.give
                show _ = if (if y = ((x1, x2), (t1, t2)) then true else B.got y) = true then _ else _
                by_cases hy : y = ((x1, x2), (t1, t2))
                · rw [if_pos hy, if_pos hy]
                  rfl
                · rw [if_neg hy, if_neg hy]
                  exact HM.out.2.2.2.2.2.2.2 y
              have hbd : IsBd base W6 g S (B.give (x1, x2) (t1, t2)) (N + 1) := ⟨A, n, cS, be, bs, bg, fe, fs, _, (hgr.block g (by show g < w5.heap.size; exact blk_lt hG6) (fun e => hgne (Option.some.inj e))).trans hG6, ⟨HSN.out.1, HSN.out.2.1, CA_turned hobjd hgr (Kd.C_below HSN.out.2.2 HBd)⟩, ((HM.out.1.below HBd).other hgr hne.2.1).mono (by omega), ((HM.out.2.1.below HBd).other hgr hne.2.2).mono (by omega), hM6, hne, HM.out.2.2.2.2.1, (HM.out.2.2.2.2.2.1.below HBd).turned hobjd hgr, (HM.out.2.2.2.2.2.2.1.below HBd).turned hobjd hgr, hgot6⟩
              have hfin := HOK.out _ hkept hbd
              clear hbd hgot6 hkept hne hgne hobjd HBd hobj hgr hM6 hM5 hG6
              go_region_with (fail)
              all_goals
                go_wp2
                try go_ret
                exact hfin
end Go.Proofs.Ytlokmijoaocofaa.Mine
end
section
/-
  (*Board).Subscribe walked. Conditions: node and number are int64, the text at most 1000 bytes, the maps at most a million entries.
-/
namespace Go.Proofs.Ytlokmijoaocofaa.Mine
open Go.Maps Go.RowKit Go.Proofs.YtlokmijoaocofaaW.PrintWords Go.Proofs.YtlokmijoaocofaaW.PrintLast Go.Proofs.YtlokmijoaocofaaW.PrintMore
open Go.Proofs.Ytlokmijoaocofaa.PBoardAgain
def Bd.sub (B : Bd) (x : P2) (F : List SP) : Bd := { B with subs := upd B.subs x (some F) }
/-- What Subscribe answers, by code. -/
def subC (S : List SA) (B : Bd) (x : P2) (t : ByteArray) : Int :=
  match readR S t with
  | .inr c => c
  | .inl _ => if (B.subs x).isSome then 5 else 0
theorem parseR_not0 {s : ByteArray} {z : Int × Int} (h : parseR s = .inr z) : z.2 ≠ 0 := by
  unfold parseR at h
  split at h
  · injection h with h
    subst h
    decide
  · split at h
    · cases h
    · injection h with h
      subst h
      show (2 : Int) ≠ 0
      decide
theorem readR_not0 {S : List SA} {t : ByteArray} {c : Int} (h : readR S t = .inr c) : c ≠ 0 := by
  unfold readR at h
  split at h
  · rename_i z hz
    injection h with h
    subst h
    exact parseR_not0 hz
  · split at h
    · cases h
    · injection h with h
      subst h
      decide
def SubPost (base g : Nat) (S : List SA) (B : Bd) (N : Nat) (x : P2) (t : ByteArray) (w : World) (e : Ending) (w' : World) : Prop :=
  Kept base w w' ∧ ((subC S B x t ≠ 0 ∧ ErrE w' (subC S B x t) e ∧ IsBd base w' g S B N) ∨ (subC S B x t = 0 ∧ e = .returned .nilIface ∧ ∃ xs, readR S t = .inl xs ∧ IsBd base w' g S (B.sub x (xs.map toP)) (N + 1)))
set_option maxHeartbeats 8000000 in
set_option maxRecDepth 100000 in
theorem subscribe_calls (base g N : Nat) (x : P2) (S : List SA) (B : Bd) (t : ByteArray) (w : World) (hb : IsBd base w g S B N) (hbase : base ≤ w.heap.size) (hN : N ≤ 1000000) (hx : wf2 x) (ht : t.size ≤ 1000) :
    Calls Try.prog 12 #[.pointer (some ⟨g, 0, none⟩), k2 x, .string t] w (SubPost base g S B N x t w) := by
  have HBD := Aside0.mk hb
  obtain ⟨l, hl⟩ := key_who hx
  have HL := Aside0.mk hl
  have HX := Aside0.mk hx
  obtain ⟨A, n, cS, be, bs, bg, fe, fs, fg, h1, ⟨h2, h3, h4⟩, m1, m2, m3, hne, hba, e1, e2, e3⟩ := hb
  have HM := Aside0.mk (And.intro m1 (And.intro m2 (And.intro m3 (And.intro hne (And.intro hba (And.intro e1 (And.intro e2 e3)))))))
  have HG := Aside0.mk h1
  have HSN := Aside0.mk (And.intro h2 (And.intro h3 h4))
  clear h1 h2 h4 m1 m2 m3 hne hba e1 e2 e3 hl hx
  obtain ⟨x1, x2⟩ := x
  unfold k2
  go_enter Try.func12, Try.ntmps12
  have lg := blk_lt HG.out
  have lg2 : ¬ (g = w.heap.size) := by omega
  have y0 := (blk_cell HG.out 0).trans (show _ = some (Value.slice A n cS) from rfl)
  go_wp2_with fail
  have hb2 := below_alloc (Below.refl w.heap.size w) (.cells #[.int .i64 x1, .int .i64 x2] 43)
  refine (read_calls A n cS S t _ HSN.out.1 (Kd.C_below HSN.out.2.2 hb2) h3 ht).mono ?_
  rintro e w3 hq
  have HKW := heap_alloc_new w (.cells #[.int .i64 x1, .int .i64 x2] 43)
  cases hrd : readR S t with
  | inr cd =>
    obtain ⟨b, k, rfl, hei, hb⟩ := hq.no hrd
    have hb3 := below_then hb2 hb2.size hb
    have hfin : SubPost base g S B N (x1, x2) t w (.returned (.iface 103 (.pointer (some ⟨b, 0, none⟩)))) w3 := ⟨Kept.of hb3 hbase, Or.inl ⟨by unfold subC; rw [hrd]; exact readR_not0 hrd, by unfold subC; rw [hrd]; exact ⟨b, k, rfl, hei⟩, HBD.out.below hb3⟩⟩
    clear hq hei hb hb3 hb2 HKW hrd
    go_wp2
    try go_ret
    exact hfin
  | inl xs =>
    obtain ⟨v1, rfl, ho, hb⟩ := hq.ok hrd
    have HRD := Aside0.mk hrd
    have HB := Aside0.mk (below_then hb2 hb2.size hb)
    have HKE := Aside0.mk ((hb.block _ (blk_lt HKW)).trans HKW)
    have HO := Aside0.mk ho
    obtain ⟨A1, c1, rfl, hc1, hC1⟩ := Kd.R_reads ho
    have hlx : (xs.map toP).length ≤ 100000 := by
      have := parse_count (s := t) (xs := xs) (by
        unfold readR at hrd
        split at hrd
        · cases hrd
        · rename_i ys hys
          split at hrd
          · rw [hys]; injection hrd with hrd; rw [hrd]
          · cases hrd)
      simp; omega
    have HC1 := Aside0.mk (And.intro hC1 (And.intro hc1 hlx))
    clear hq ho hb hb2 HKW hrd hC1 hc1 hlx lg lg2 y0
    obtain ⟨F, hF⟩ : ∃ F, F = xs.map toP := ⟨_, rfl⟩
    rw [← hF] at HC1 ⊢
    have HF := Aside0.mk hF
    obtain ⟨nF, hnF⟩ : ∃ n, F.length = n := ⟨_, rfl⟩
    have HNF := Aside0.mk hnF
    rw [hnF] at HC1 ⊢
    clear hF hnF HO
    obtain ⟨gw, hgw⟩ : ∃ g, g = w.heap.size := ⟨_, rfl⟩
    rw [← hgw] at HKE ⊢
    clear hgw
    have hG3 := (HB.out.block _ (blk_lt HG.out)).trans HG.out
    have q0 : ∀ q : BelowP w3, q.w.cell? ⟨gw, 0, none⟩ = some (.int .i64 x1) := fun q => q.cell ((blk_cell HKE.out 0).trans rfl)
    have q1 : ∀ q : BelowP w3, q.w.cell? ⟨gw, 1, none⟩ = some (.int .i64 x2) := fun q => q.cell ((blk_cell HKE.out 1).trans rfl)
    have q2 : ∀ q : BelowP w3, q.w.cell? ⟨g, 2, none⟩ = some (.map (some bs)) := fun q => q.cell ((blk_cell hG3 2).trans rfl)
    cases hev : B.subs (x1, x2) with
    | some F2 =>
      obtain ⟨A2, n2, c2, hfe, _⟩ := (HM.out.2.2.2.2.2.2.1 (x1, x2)).2 F2 hev
      have hlk : ∀ q : BelowP w3, (Instr.lookup 71 (.map (some bs)) (.agg #[.int .i64 x1, .int .i64 x2]) true).run Try.prog q.w = .ok (.tuple #[.slice A2 n2 c2, .bool true]) q.w := fun q => ((HM.out.2.1.below HB.out).below q.h).look_some lawWho Try.underlying71 (by rfl) HL.out hfe
      have HPC := Aside0.mk (show subC S B (x1, x2) t = 5 by unfold subC; rw [HRD.out]; simp only [hev]; rfl)
      clear hev hfe hG3
      go_wp2_with fail
      refine wp_region_quiet_below (by kernel_rfl) (by kernel_rfl) ?_
      repeat (quiet_step (fail))
      refine wpQuiet_nil ?_
      rintro _ ⟨pq, rfl⟩
      go_wp2_with fail
      refine (bfault_calls 5 _).mono ?_
      rintro e w4 ⟨b1, hbl, rfl, hf, hb⟩
      have hb4 := below_then HB.out HB.out.size (below_then pq.h pq.h.size hb)
      have hfin : SubPost base g S B N (x1, x2) t w (.returned (.iface 103 (.pointer (some ⟨b1, 0, none⟩)))) w4 := ⟨Kept.of hb4 hbase, Or.inl ⟨by rw [HPC.out]; decide, by rw [HPC.out]; exact ⟨b1, 1, rfl, IsFault.errIs hf⟩, HBD.out.below hb4⟩⟩
      clear hb hf hbl hb4 hlk q0 q1 q2
      go_wp2
      try go_ret
      exact hfin
    | none =>
      have hfe := (HM.out.2.2.2.2.2.2.1 (x1, x2)).1 hev
      have hlk : ∀ q : BelowP w3, (Instr.lookup 71 (.map (some bs)) (.agg #[.int .i64 x1, .int .i64 x2]) true).run Try.prog q.w = .ok (.tuple #[.slice none 0 0, .bool false]) q.w := fun q => ((HM.out.2.1.below HB.out).below q.h).look_none lawWho Try.underlying71 (by rfl) HL.out hfe
      have HPC := Aside0.mk (show subC S B (x1, x2) t = 0 by unfold subC; rw [HRD.out]; simp only [hev]; rfl)
      clear hev hfe hG3
      go_wp2_with fail
      refine wp_region_quiet_below (by kernel_rfl) (by kernel_rfl) ?_
      repeat (quiet_step (fail))
      refine wpQuiet_nil ?_
      rintro _ ⟨pq, rfl⟩
      go_upto_region 7 with (fail)
      obtain ⟨W5, hW5⟩ : ∃ W, W = pq.w := ⟨_, rfl⟩
      have hb5 := pq.h
      rw [← hW5] at hb5 ⊢
      have k5 := (hb5.block _ (blk_lt HKE.out)).trans HKE.out
      have HC5 := Aside0.mk (Kd.C_below HC1.out.1 hb5)
      have n_ := Aside0.mk (below_then HB.out HB.out.size hb5)
      clear hW5 pq HB hb5 hlk q0 q1 q2 HKE
      have HB := n_
      clear n_
      have z0 := (blk_cell k5 0).trans (show _ = some (Value.int .i64 x1) from rfl)
      have z1 := (blk_cell k5 1).trans (show _ = some (Value.int .i64 x2) from rfl)
      have hG5 := (HB.out.block _ (blk_lt HG.out)).trans HG.out
      have y0 := (blk_cell hG5 2).trans (show _ = some (Value.map (some bs)) from rfl)
      have hM5 := HM.out.2.1.below HB.out
      obtain ⟨W6, hrun, hM6, hgr⟩ := MapIs.store (w := W5.drew) (hM5.block rfl) lawWho (fun _ _ => k2_inj) Try.underlying71 (by unfold maxLen; omega) HL.out (.slice A1 nF c1)
      have hup : (Instr.mapUpdate 71 (.map (some bs)) (.agg #[.int .i64 x1, .int .i64 x2]) (.slice A1 nF c1)).run Try.prog W5.drew = .ok () W6 := hrun
      clear hrun
      obtain ⟨es, cl, hobj⟩ := hM5.obj
      have HBd : Below w.heap.size w W5.drew := ⟨HB.out.os, HB.out.tape, HB.out.output, HB.out.size, HB.out.block⟩
      have hobjd : W5.drew.heap[bs]? = some (.map es cl) := hobj
      have hgne : g ≠ bs := by
        rintro rfl
        rw [hG5] at hobj
        cases hobj
      have hne := HM.out.2.2.2.1
      have hkept : Kept base w W6 := (Kept.of HBd hbase).trans (Kept.turned hobjd hgr HM.out.2.2.2.2.1.2.2.1)
      have hev6 : subOk W6 (upd fs (x1, x2) (some (.slice A1 nF c1))) (upd B.subs (x1, x2) (some F)) := fun y => by
        unfold upd
        by_cases hy : y = (x1, x2)
        · rw [if_pos hy, if_pos hy]
          refine ⟨fun h => (by cases h), fun F2 h => ?_⟩
          injection h with h
          subst h
          exact ⟨A1, nF, c1, rfl, HNF.out, HC1.out.2.1, by have := HC1.out.2.2; have := HNF.out; rw [← HF.out] at *; omega, CP_turned hobjd hgr (Kd.C_drew HC5.out)⟩
        · rw [if_neg hy, if_neg hy]
          exact ((HM.out.2.2.2.2.2.2.1.below HBd).turned hobjd hgr) y
      have hbd : IsBd base W6 g S (B.sub (x1, x2) F) (N + 1) := ⟨A, n, cS, be, bs, bg, fe, _, fg, (hgr.block g (by show g < W5.heap.size; exact blk_lt hG5) (fun e => hgne (Option.some.inj e))).trans hG5, ⟨HSN.out.1, HSN.out.2.1, CA_turned hobjd hgr (Kd.C_below HSN.out.2.2 HBd)⟩, ((HM.out.1.below HBd).other hgr hne.1).mono (by omega), hM6, ((HM.out.2.2.1.below HBd).other hgr hne.2.2.symm).mono (by omega), hne, HM.out.2.2.2.2.1, (HM.out.2.2.2.2.2.1.below HBd).turned hobjd hgr, hev6, HM.out.2.2.2.2.2.2.2⟩
      have hfin : SubPost base g S B N (x1, x2) t w (.returned .nilIface) W6 := ⟨hkept, Or.inr ⟨HPC.out, rfl, xs, HRD.out, by rw [← HF.out]; exact hbd⟩⟩
      clear hbd hev6 hkept hne hgne hobjd HBd hobj hgr hM6 hM5 hG5 k5
      go_region_with (fail)
      all_goals
        go_wp2
        try go_ret
        exact hfin
end Go.Proofs.Ytlokmijoaocofaa.Mine
end
section
/-
  The board's awake: what the plain functions answer at its one input. No condition.
-/
namespace Go.Proofs.Ytlokmijoaocofaa.Mine
open Go.Maps Go.RowKit Go.Proofs.YtlokmijoaocofaaW.PrintWords Go.Proofs.YtlokmijoaocofaaW.PrintLast Go.Proofs.YtlokmijoaocofaaW.PrintMore
open Go.Proofs.Ytlokmijoaocofaa.PBoardAgain
def S0 : List SA := [⟨⟨#[112, 114, 105, 99, 101]⟩, 1, 0, 99⟩]
def V0 : List SV := [⟨5, ⟨#[]⟩⟩]
def T0 : ByteArray := ⟨#[112, 114, 105, 99, 101, 32, 105, 110, 32, 51, 46, 46, 57]⟩
theorem ck0 : checkBad S0 = none := by decide +kernel
theorem eb0 : evBad S0 V0 ⟨#[]⟩ = none := by decide +kernel
theorem rd0 : ∃ xs, readR S0 T0 = .inl xs ∧ matchB S0 (xs.map toP) V0 ⟨#[]⟩ = true := by
  have h : (match readR S0 T0 with | .inl xs => matchB S0 (xs.map toP) V0 ⟨#[]⟩ | .inr _ => false) = true := by decide +kernel
  cases hr : readR S0 T0 with
  | inl xs => rw [hr] at h; exact ⟨xs, rfl, h⟩
  | inr c => rw [hr] at h; cases h
def B1 : Bd := Bd.empty.pub (2, 1) V0 ⟨#[]⟩
theorem pub0 : pubC S0 Bd.empty (2, 1) V0 ⟨#[]⟩ = 0 := by unfold pubC; rw [eb0]; rfl
theorem sub0 {xs : List _} (h : readR S0 T0 = .inl xs) : subC S0 B1 (0, 1) T0 = 0 := by unfold subC; rw [h]; rfl
def B2 (F : List SP) : Bd := B1.sub (0, 1) F
theorem evs2 (F : List SP) : (B2 F).evs (2, 1) = some (V0, ⟨#[]⟩) := by
  show upd Bd.empty.evs (2, 1) (some (V0, ⟨#[]⟩)) (2, 1) = _
  unfold upd
  rw [if_pos rfl]
theorem subs2 (F : List SP) (x : P2) : (B2 F).subs x = if x = (0, 1) then some F else none := rfl
theorem due0 {F : List SP} (hm : matchB S0 F V0 ⟨#[]⟩ = true) (x : P2) : dueB S0 (B2 F) (2, 1) V0 ⟨#[]⟩ x = decide (x = (0, 1)) := by
  unfold dueB
  rw [subs2]
  by_cases h : x = (0, 1)
  · rw [if_pos h, decide_eq_true h]
    simp only [hm]
    rfl
  · rw [if_neg h, decide_eq_false h]
theorem list0 {F : List SP} (hm : matchB S0 F V0 ⟨#[]⟩ = true) {N : Nat} {L : List SW} (h : DueList (dueB S0 (B2 F) (2, 1) V0 ⟨#[]⟩) N L) : L = [⟨0, 1⟩] := by
  have h2 : DueList (fun x => decide (x = ((0 : Int), (1 : Int)))) 1 [⟨0, 1⟩] := ⟨by simp, by simp, fun y hy => by
    obtain rfl := List.mem_singleton.1 hy
    exact ⟨⟨by decide, by decide⟩, by decide⟩, fun y _ hd => by
    have : pr y = (0, 1) := by simpa using hd
    have e : y = ⟨0, 1⟩ := pr_inj this
    rw [e]
    simp⟩
  exact h.uniq h2 (fun x _ => due0 hm x)
theorem give0 {F : List SP} (hm : matchB S0 F V0 ⟨#[]⟩ = true) : giveC S0 (B2 F) (0, 1) (2, 1) V0 ⟨#[]⟩ = 0 := by
  unfold giveC
  rw [evs2]
  simp only [show sameEv V0 ⟨#[]⟩ V0 ⟨#[]⟩ = true by decide +kernel]
  rw [subs2, if_pos rfl]
  simp only [hm]
  rfl
theorem give1 {F : List SP} (hm : matchB S0 F V0 ⟨#[]⟩ = true) : giveC S0 ((B2 F).give (0, 1) (2, 1)) (0, 1) (2, 1) V0 ⟨#[]⟩ = 5 := by
  unfold giveC
  rw [show ((B2 F).give (0, 1) (2, 1)).evs (2, 1) = some (V0, ⟨#[]⟩) from evs2 F]
  simp only [show sameEv V0 ⟨#[]⟩ V0 ⟨#[]⟩ = true by decide +kernel]
  rw [show ((B2 F).give (0, 1) (2, 1)).subs (0, 1) = some F by show (B2 F).subs (0, 1) = _; rw [subs2, if_pos rfl]]
  simp only [hm]
  rw [show ((B2 F).give (0, 1) (2, 1)).got ((0, 1), (2, 1)) = true by unfold Bd.give; simp]
  rfl
end Go.Proofs.Ytlokmijoaocofaa.Mine
end
section
/-
  The board laws' awake, walked: true. No condition.
-/
namespace Go.Proofs.Ytlokmijoaocofaa.Mine
open Go.Maps Go.RowKit Go.Proofs.YtlokmijoaocofaaW.PrintWords Go.Proofs.YtlokmijoaocofaaW.PrintLast Go.Proofs.YtlokmijoaocofaaW.PrintMore
open Go.Proofs.Ytlokmijoaocofaa.PBoardAgain
theorem cells1 {w : World} {b : Nat} {cs : List Value} {t : TypeId} (h : w.heap[b]? = some (.cells cs.toArray t (0, 0))) (i : Nat) (u : Value) (hi : cs[i]? = some u) : w.cell? ⟨b, i, none⟩ = some u :=
  (blk_cell h i).trans (by simpa using hi)
theorem readsA {w : World} {b : Nat} {t : TypeId} (h : w.heap[b]? = some (.cells #[.string ⟨#[112, 114, 105, 99, 101]⟩, .int .i64 1, .int .i64 0, .int .i64 99] t (0, 0))) : Kd.C k65 w (some ⟨b, 0, none⟩) 1 S0 :=
  ⟨rfl, by decide, fun _ => ⟨_, rfl, fun j p hj => by
    match j, hj with
    | 0, hj =>
      obtain rfl := Option.some.inj hj
      refine ⟨_, rfl, k65_mk w _, fun i u hi => ?_⟩
      rw [add_flat, Nat.zero_mul, Nat.zero_add, Nat.zero_add]
      exact cells1 (cs := [.string ⟨#[112, 114, 105, 99, 101]⟩, .int .i64 1, .int .i64 0, .int .i64 99]) h i u hi⟩⟩
theorem readsV {w : World} {b : Nat} {t : TypeId} (h : w.heap[b]? = some (.cells #[.int .i64 5, .string ⟨#[]⟩] t (0, 0))) : Kd.C k63 w (some ⟨b, 0, none⟩) 1 V0 :=
  ⟨rfl, by decide, fun _ => ⟨_, rfl, fun j p hj => by
    match j, hj with
    | 0, hj =>
      obtain rfl := Option.some.inj hj
      refine ⟨_, rfl, k63_mk w _, fun i u hi => ?_⟩
      rw [add_flat, Nat.zero_mul, Nat.zero_add, Nat.zero_add]
      exact cells1 (cs := [.int .i64 5, .string ⟨#[]⟩]) h i u hi⟩⟩
/-- The list of one that is due. -/
theorem one_due {w : World} {base : Nat} {v : Value} {L : List SW} (hL : L = [⟨0, 1⟩]) (h : w.ownsRow base tW 2 v L.length (flatW L)) : ∃ g c cur, v = .slice (some ⟨g, 0, none⟩) 1 c ∧ w.heap[g]? = some (.cells cur tW (0, 0)) ∧ w.cell? ⟨g, 1, none⟩ = some (.int .i64 1) := by
  subst hL
  rcases h.2 with ⟨_, h0⟩ | ⟨g, cap, cur, rfl, _, hb, _, _, _, h4⟩
  · cases h0
  · refine ⟨g, cap, cur, rfl, hb, ?_⟩
    have h5 : (cur.toList.take 2)[1]? = (flatW [⟨0, 1⟩])[1]? := congrArg (·[1]?) h4
    rw [List.getElem?_take_of_lt (by omega), flatW_get _ 1 (by decide) ⟨0, 1⟩ rfl] at h5
    refine (blk_cell hb 1).trans ?_
    rw [← Array.getElem?_toList, h5]
    rfl
set_option maxHeartbeats 8000000 in
set_option maxRecDepth 100000 in
theorem awake_calls (w : World) : Calls Try.prog 8 #[] w fun e w' => e = .returned (.bool true) ∧ Below w.heap.size w w' := by
  obtain ⟨xs, hrd, hmt⟩ := rd0
  obtain ⟨F, hF⟩ : ∃ F, F = xs.map toP := ⟨_, rfl⟩
  rw [← hF] at hmt
  have HRD := Aside0.mk (And.intro hrd hF)
  have HMT := Aside0.mk hmt
  clear hrd hmt hF
  go_enter Try.func8, Try.ntmps8
  go_wp2_with fail
  have hb1 := below_alloc (Below.refl w.heap.size w) (.cells #[.string ⟨#[112, 114, 105, 99, 101]⟩, .int .i64 1, .int .i64 0, .int .i64 99] 65)
  have HA := readsA (heap_alloc_new w (.cells #[.string ⟨#[112, 114, 105, 99, 101]⟩, .int .i64 1, .int .i64 0, .int .i64 99] 65))
  generalize w.alloc (.cells #[.string ⟨#[112, 114, 105, 99, 101]⟩, .int .i64 1, .int .i64 0, .int .i64 99] 65) = w1 at hb1 HA ⊢
  obtain ⟨base, hbase⟩ : ∃ b, b = w.heap.size := ⟨_, rfl⟩
  rw [← hbase] at HA hb1 ⊢
  refine (new_calls base base 0 1 1 _ S0 w1 rfl (Or.inl rfl) HA (by decide) (by decide) (by rw [hbase]; exact hb1.size)).mono ?_
  rintro e w2 ⟨hb2, h⟩
  obtain ⟨g, rfl, hbd⟩ : ∃ g, e = .returned (.tuple #[.pointer (some ⟨g, 0, none⟩), .nilIface]) ∧ IsBd base w2 g S0 Bd.empty 0 := by
    rcases h with ⟨i, h, _⟩ | ⟨_, g, _, h1, h2⟩
    · rw [ck0] at h; cases h
    · exact ⟨g, h1, h2⟩
  have HB := Aside0.mk (below_then hb1 (by rw [hbase]; exact hb1.size) hb2)
  have HBD := Aside0.mk hbd
  clear h hbd hb2 HA hb1
  go_upto_region 3 with (fail)
  have hb3 := below_alloc (Below.refl w2.heap.size w2) (.cells #[.int .i64 5, .string ⟨#[]⟩] 63)
  have k3 := heap_alloc_new w2 (.cells #[.int .i64 5, .string ⟨#[]⟩] 63)
  have hs3 : (w2.alloc (.cells #[.int .i64 5, .string ⟨#[]⟩] 63)).heap.size = w2.heap.size + 1 := by show (w2.heap.push _).size = _; exact Array.size_push _
  obtain ⟨bv, hbv⟩ : ∃ b, b = w2.heap.size := ⟨_, rfl⟩
  rw [← hbv] at k3 hs3 ⊢
  generalize w2.alloc (.cells #[.int .i64 5, .string ⟨#[]⟩] 63) = w3 at hb3 k3 hs3 ⊢
  have hb4 := below_alloc (Below.refl w3.heap.size w3) (.cells #[.slice (some ⟨bv, 0, none⟩) 1 1, .string ⟨#[]⟩] 24)
  have k4 := heap_alloc_new w3 (.cells #[.slice (some ⟨bv, 0, none⟩) 1 1, .string ⟨#[]⟩] 24)
  rw [← hs3]
  generalize w3.alloc (.cells #[.slice (some ⟨bv, 0, none⟩) 1 1, .string ⟨#[]⟩] 24) = w4 at hb4 k4 ⊢
  generalize w3.heap.size = be at k4 hs3 ⊢
  have hb34 := below_then hb3 hb3.size hb4
  have HKV := Aside0.mk ((hb4.block _ (blk_lt k3)).trans k3)
  have HKE := Aside0.mk k4
  have n1 := Aside0.mk (below_then HB.out (by rw [hbase]; exact HB.out.size) hb34)
  have n2 := Aside0.mk (HBD.out.below hb34)
  clear hb3 k3 hs3 hb4 k4 hb34 hbv HB HBD
  have HB := n1
  have HBD := n2
  clear n1 n2
  have HPB := Aside0.mk (publish_calls base g 0 bv 0 1 1 (2, 1) S0 Bd.empty _ V0 ⟨#[]⟩ w4 HBD.out (by rw [hbase]; exact HB.out.size) (by decide) ⟨by decide, by decide⟩ rfl (Or.inl rfl) (readsV HKV.out) (by decide))
  unfold encE at HPB
  have z1 := (blk_cell HKE.out 0).trans (show _ = some (Value.slice (some ⟨bv, 0, none⟩) 1 1) from rfl)
  have z2 := (blk_cell HKE.out 1).trans (show _ = some (Value.string ⟨#[]⟩) from rfl)
  go_wp2_with fail
  refine HPB.out.mono ?_
  rintro e w5 ⟨hk5, hp⟩
  obtain ⟨rfl, hbd⟩ : e = .returned .nilIface ∧ IsBd base w5 g S0 B1 1 := by
    rcases hp with ⟨h0, _⟩ | ⟨_, h1, h2⟩
    · exact absurd pub0 h0
    · exact ⟨h1, h2⟩
  have n1 := Aside0.mk (HB.out.trans hk5.1)
  have n2 := Aside0.mk hbd
  have n3 := Aside0.mk (hk5.2 _ _ _ _ HKV.out)
  have n4 := Aside0.mk (hk5.2 _ _ _ _ HKE.out)
  clear HB HBD HKV HKE hk5 hp hbd
  have HB := n1
  have HBD := n2
  have HKV := n3
  have HKE := n4
  clear n1 n2 n3 n4
  have HSC := Aside0.mk (subscribe_calls base g 1 (0, 1) S0 B1 T0 w5 HBD.out (by rw [hbase]; exact HB.out.size) (by decide) ⟨by decide, by decide⟩ (by decide))
  unfold k2 T0 at HSC
  go_wp2_with fail
  refine HSC.out.mono ?_
  rintro e w6 ⟨hk5, hp⟩
  obtain ⟨rfl, hbd⟩ : e = .returned .nilIface ∧ IsBd base w6 g S0 (B2 F) 2 := by
    rcases hp with ⟨h0, _⟩ | ⟨_, h1, xs', h2, h3⟩
    · exact absurd (sub0 HRD.out.1) h0
    · have h4 : xs' = xs := by
        have h5 := h2.symm.trans HRD.out.1
        injection h5
      rw [h4, ← HRD.out.2] at h3
      exact ⟨h1, h3⟩
  have n1 := Aside0.mk (HB.out.trans hk5.1)
  have n2 := Aside0.mk hbd
  have n3 := Aside0.mk (hk5.2 _ _ _ _ HKV.out)
  have n4 := Aside0.mk (hk5.2 _ _ _ _ HKE.out)
  clear HB HBD HKV HKE hk5 hp hbd
  have HB := n1
  have HBD := n2
  have HKV := n3
  have HKE := n4
  clear n1 n2 n3 n4
  go_wp2_with fail
  refine (due_calls base g 2 (2, 1) S0 (B2 F) w6 HBD.out (by decide) ⟨by decide, by decide⟩).mono ?_
  rintro e w7 ⟨hb7, hp⟩
  obtain ⟨gl, cl, cur, rfl, hkl⟩ : ∃ gl cl cur, e = .returned (.tuple #[.slice (some ⟨gl, 0, none⟩) 1 cl, .nilIface]) ∧ w7.heap[gl]? = some (.cells cur tW (0, 0)) ∧ w7.cell? ⟨gl, 1, none⟩ = some (.int .i64 1) := by
    rcases hp with ⟨h0, _⟩ | ⟨V1, p1, h0, v, L, h1, h2, h3⟩
    · rw [evs2] at h0; cases h0
    · rw [evs2] at h0
      injection h0 with h0
      injection h0 with h5 h6
      subst h5
      subst h6
      obtain ⟨gl, cl, cur, rfl, h7, h8⟩ := one_due (list0 HMT.out h3) h2
      exact ⟨gl, cl, cur, h1, h7, h8⟩
  have n1 := Aside0.mk (below_then HB.out (by rw [hbase]; exact HB.out.size) hb7)
  have n2 := Aside0.mk (HBD.out.below hb7)
  have n3 := Aside0.mk ((hb7.block _ (blk_lt HKV.out)).trans HKV.out)
  have n4 := Aside0.mk ((hb7.block _ (blk_lt HKE.out)).trans HKE.out)
  have HKL := Aside0.mk hkl
  clear HB HBD HKV HKE hb7 hp hkl z1 z2
  have HB := n1
  have HBD := n2
  have HKV := n3
  have HKE := n4
  clear n1 n2 n3 n4
  have z1 := (blk_cell HKE.out 0).trans (show _ = some (Value.slice (some ⟨bv, 0, none⟩) 1 1) from rfl)
  have z2 := (blk_cell HKE.out 1).trans (show _ = some (Value.string ⟨#[]⟩) from rfl)
  go_upto_region 7 with (fail)
  have hb8 := below_alloc (Below.refl w7.heap.size w7) (.cells #[.int .i64 1, .int .i64 2, .int .i64 1, .slice (some ⟨bv, 0, none⟩) 1 1, .string ⟨#[]⟩] 58)
  have k8 := heap_alloc_new w7 (.cells #[.int .i64 1, .int .i64 2, .int .i64 1, .slice (some ⟨bv, 0, none⟩) 1 1, .string ⟨#[]⟩] 58)
  generalize w7.alloc (.cells #[.int .i64 1, .int .i64 2, .int .i64 1, .slice (some ⟨bv, 0, none⟩) 1 1, .string ⟨#[]⟩] 58) = w8 at hb8 k8 ⊢
  generalize w7.heap.size = gd at k8 ⊢
  have n1 := Aside0.mk (below_then HB.out (by rw [hbase]; exact HB.out.size) hb8)
  have n2 := Aside0.mk (HBD.out.below hb8)
  have n3 := Aside0.mk ((hb8.block _ (blk_lt HKV.out)).trans HKV.out)
  have hl8 := (hb8.block _ (blk_lt HKL.out.1)).trans HKL.out.1
  have HKD := Aside0.mk k8
  have HL1 : cur[1]? = some (.int .i64 1) := (blk_cell HKL.out.1 1).symm.trans HKL.out.2
  have zl := (blk_cell hl8 1).trans HL1
  clear HB HBD HKV HKE hb8 k8 z1 z2 hl8 HL1 HKL
  have HB := n1
  have HBD := n2
  have HKV := n3
  clear n1 n2 n3
  have d0 := (blk_cell HKD.out 0).trans (show _ = some (Value.int .i64 1) from rfl)
  have d1 := (blk_cell HKD.out 1).trans (show _ = some (Value.int .i64 2) from rfl)
  have d2 := (blk_cell HKD.out 2).trans (show _ = some (Value.int .i64 1) from rfl)
  have d3 := (blk_cell HKD.out 3).trans (show _ = some (Value.slice (some ⟨bv, 0, none⟩) 1 1) from rfl)
  have d4 := (blk_cell HKD.out 4).trans (show _ = some (Value.string ⟨#[]⟩) from rfl)
  have HGV := Aside0.mk (give_calls base g 2 bv 0 1 1 (0, 1) (2, 1) S0 (B2 F) (some ⟨bv, 0, none⟩) V0 ⟨#[]⟩ w8 HBD.out (by rw [hbase]; exact HB.out.size) (by decide) ⟨by decide, by decide⟩ ⟨by decide, by decide⟩ rfl (by decide) (readsV HKV.out))
  go_wp2_with fail
  refine HGV.out.mono ?_
  rintro e w9 ⟨hk9, hp⟩
  obtain ⟨rfl, hbd⟩ : e = .returned .nilIface ∧ IsBd base w9 g S0 ((B2 F).give (0, 1) (2, 1)) 3 := by
    rcases hp with ⟨h0, _⟩ | ⟨_, h1, h2⟩
    · exact absurd (give0 HMT.out) h0
    · exact ⟨h1, h2⟩
  have n1 := Aside0.mk (HB.out.trans hk9.1)
  have n2 := Aside0.mk hbd
  have n3 := Aside0.mk (hk9.2 _ _ _ _ HKV.out)
  have n4 := Aside0.mk (hk9.2 _ _ _ _ HKD.out)
  clear HB HBD HKV HKD hk9 hp hbd HGV d0 d1 d2 d3 d4 zl
  have HB := n1
  have HBD := n2
  have HKV := n3
  have HKD := n4
  clear n1 n2 n3 n4
  have d0 := (blk_cell HKD.out 0).trans (show _ = some (Value.int .i64 1) from rfl)
  have d1 := (blk_cell HKD.out 1).trans (show _ = some (Value.int .i64 2) from rfl)
  have d2 := (blk_cell HKD.out 2).trans (show _ = some (Value.int .i64 1) from rfl)
  have d3 := (blk_cell HKD.out 3).trans (show _ = some (Value.slice (some ⟨bv, 0, none⟩) 1 1) from rfl)
  have d4 := (blk_cell HKD.out 4).trans (show _ = some (Value.string ⟨#[]⟩) from rfl)
  have HGV := Aside0.mk (give_calls base g 3 bv 0 1 1 (0, 1) (2, 1) S0 ((B2 F).give (0, 1) (2, 1)) (some ⟨bv, 0, none⟩) V0 ⟨#[]⟩ w9 HBD.out (by rw [hbase]; exact HB.out.size) (by decide) ⟨by decide, by decide⟩ ⟨by decide, by decide⟩ rfl (by decide) (readsV HKV.out))
  go_wp2_with fail
  refine HGV.out.mono ?_
  rintro e w10 ⟨hk10, hp⟩
  obtain ⟨b, n, rfl, her⟩ : ErrE w10 5 e := by
    rcases hp with ⟨_, h1, _⟩ | ⟨h0, _⟩
    · rw [give1 HMT.out] at h1
      exact h1
    · rw [give1 HMT.out] at h0
      exact absurd h0 (by decide)
  have hfin := HB.out.trans hk10.1
  clear HGV hk10 hp d0 d1 d2 d3 d4
  go_wp2_with fail
  refine (is_err 5 5 n _ _ her).mono ?_
  rintro e w11 ⟨rfl, rfl⟩
  clear her
  go_wp2
  try go_ret
  exact ⟨rfl, by rw [← hbase]; exact hfin⟩
end Go.Proofs.Ytlokmijoaocofaa.Mine
end
section
/-
  BoardSame walked: true. Conditions: what an argument is (lengths that a program can hold).
-/
namespace Go.Proofs.Ytlokmijoaocofaa.Mine
open Go.Maps Go.RowKit Go.Proofs.YtlokmijoaocofaaW.PrintWords Go.Proofs.YtlokmijoaocofaaW.PrintLast Go.Proofs.YtlokmijoaocofaaW.PrintMore
open Go.Proofs.Ytlokmijoaocofaa.PBoardAgain
theorem eqA29 (d : Nat) (w : World) (x0 y0 : Int) (x1 y1 : ByteArray) :
    (Op.equalIn (d + 2) 29 (.agg #[.int .i64 x0, .string x1]) (.agg #[.int .i64 y0, .string y1])).run Try.prog w = .ok (x0 == y0 && (x1.toList == y1.toList)) w := by
  refine eqA_of Try.underlying29 (by kernel_rfl) ?_
  refine eqf_cons (by rfl) (by go_simp; rfl) (by go_simp; rfl) (by go_simp) ?_
  exact eqf_last (by rfl) (by go_simp; rfl) (by go_simp; rfl) (by go_simp)
attribute [local go_sem high] eqA29
def upTo (V1 V2 : List SV) (i : Nat) : Bool := (List.range i).all fun j => eqV (V1.getD j z63) (V2.getD j z63)
theorem upTo_succ (V1 V2 : List SV) (i : Nat) : upTo V1 V2 (i + 1) = (upTo V1 V2 i && eqV (V1.getD i z63) (V2.getD i z63)) := by
  unfold upTo
  rw [List.range_succ, List.all_append]
  simp
theorem upTo_same : ∀ V1 V2 : List SV, V1.length = V2.length → sameL V1 V2 = upTo V1 V2 V1.length
  | [], [], _ => rfl
  | [], _ :: _, h => by simp at h
  | _ :: _, [], h => by simp at h
  | x :: r, y :: s, h => by
    unfold sameL upTo
    rw [List.length_cons, List.range_succ_eq_map, List.all_cons, List.all_map, upTo_same r s (by simpa using h)]
    rfl
theorem rd_map (V : List SV) (i : Nat) (h : i < V.length) : rd_T29 (V.map toV) (i : Int) = toV (V.getD i z63) := by
  show (V.map toV).getD (Int.toNat (i : Int)) _ = _
  rw [Int.toNat_natCast, List.getD_eq_getElem?_getD, List.getD_eq_getElem?_getD, List.getElem?_map, List.getElem?_eq_getElem h]
  rfl
def b0 (V1 : List SV) (p1 : ByteArray) (V2 : List SV) (p2 : ByteArray) : Bool := decide (V1.length = V2.length) && (p1.toList == p2.toList)
theorem same_end (V1 V2 : List SV) (p1 p2 : ByteArray) (i : Nat) (h1 : i ≤ V1.length) (h2 : i ≤ V2.length) (h3 : i = V1.length ∨ i = V2.length) : (b0 V1 p1 V2 p2 && upTo V1 V2 i) = sameEv V1 p1 V2 p2 := by
  unfold b0 sameEv
  by_cases h : V1.length = V2.length
  · rw [decide_eq_true h, Bool.true_and, upTo_same V1 V2 h, show i = V1.length by omega]
  · rw [decide_eq_false h, sameL_len V1 V2 h]
    simp
set_option maxHeartbeats 8000000 in
set_option maxRecDepth 100000 in
theorem boardSame_calls (A B : Option Addr) (n c m d : Nat) (L M : List SV) (pay pay2 : ByteArray) (w : World) (hn : L.length = n) (hr : Kd.C k63 w A n L) (hc : n ≤ c) (hnm : ∀ p ∈ L, p.f1.size ≤ 9223372036854775807) (hpay : pay.size ≤ 9223372036854775807) (hn2 : n ≤ 9223372036854775807)
    (hm : M.length = m) (hr2 : Kd.C k63 w B m M) (hd : m ≤ d) (hmm : ∀ p ∈ M, p.f1.size ≤ 9223372036854775807) (hpay2 : pay2.size ≤ 9223372036854775807) (hm2 : m ≤ 9223372036854775807) :
    Calls Try.prog 3 #[encE A n c pay, encE B m d pay2] w fun e w' => e = .returned (.bool true) ∧ Below w.heap.size w w' := by
  have HE1 := Aside0.mk (fun W (hb : Below w.heap.size w W) => event5_calls A n c L pay W hn (Kd.C_below hr hb) hc hnm hpay hn2)
  have HE2 := Aside0.mk (fun W (hb : Below w.heap.size w W) => event5_calls B m d M pay2 W hm (Kd.C_below hr2 hb) hd hmm hpay2 hm2)
  have HL1 := Aside0.mk (show (evOf L).length ≤ 6 by unfold evOf; simp; omega)
  have HL2 := Aside0.mk (show (evOf M).length ≤ 6 by unfold evOf; simp; omega)
  generalize cutB pay 210 = p1 at HE1
  generalize cutB pay2 210 = p2 at HE2
  generalize evOf L = V1 at HE1 HL1
  generalize evOf M = V2 at HE2 HL2
  clear hn hr hc hnm hpay hn2 hm hr2 hd hmm hpay2 hm2
  unfold encE at HE1 HE2 ⊢
  go_enter Try.func3, Try.ntmps3
  go_wp2_with fail
  have hba := below_alloc (Below.refl w.heap.size w) (.cells #[.slice A n c, .string pay] 24)
  have hsa : (w.alloc (.cells #[.slice A n c, .string pay] 24)).heap.size = w.heap.size + 1 := by show (w.heap.push _).size = _; exact Array.size_push _
  generalize w.alloc (.cells #[.slice A n c, .string pay] 24) = wa at hba hsa ⊢
  have hbb := below_alloc (Below.refl wa.heap.size wa) (.cells #[.slice B m d, .string pay2] 24)
  have kb := heap_alloc_new wa (.cells #[.slice B m d, .string pay2] 24)
  rw [← hsa]
  generalize wa.alloc (.cells #[.slice B m d, .string pay2] 24) = wb at hbb kb ⊢
  generalize wa.heap.size = gb at kb ⊢
  have hb2 := below_then hba hba.size hbb
  refine (HE1.out wb hb2).mono ?_
  rintro e w3 ⟨v0, v1, rfl, hR0, hR1, hb3⟩
  obtain ⟨A1, c1, rfl, hc1, hC1⟩ := Kd.R_reads hR0
  obtain ⟨P1, d1, rfl, hd1, hD1⟩ := Kd.R_reads hR1
  rw [List.length_map] at hd1 hD1 ⊢
  have kb3 := (hb3.block _ (blk_lt kb)).trans kb
  have hbx := below_then hb2 hb2.size hb3
  clear hba hsa hbb kb hb2 hR0 hR1 hb3
  obtain ⟨n1, hn1⟩ : ∃ n, n = V1.length := ⟨_, rfl⟩
  rw [← hn1] at hc1 hC1 hd1 hD1 ⊢
  have HN1 := Aside0.mk hn1
  clear hn1
  go_upto_region 2 with (fail)
  have hb4 := below_alloc (Below.refl w3.heap.size w3) (.cells #[.slice A1 n1 c1, .string p1] 24)
  have kx := heap_alloc_new w3 (.cells #[.slice A1 n1 c1, .string p1] 24)
  have kb4 := (hb4.block _ (blk_lt kb3)).trans kb3
  have hB4 := below_then hbx hbx.size hb4
  have HC1 := Aside0.mk (And.intro hc1 (And.intro hd1 (And.intro (Kd.C_below hC1 hb4) (Kd.C_below hD1 hb4))))
  clear hb4 hbx kb3 hc1 hC1 hd1 hD1
  generalize w3.alloc (.cells #[.slice A1 n1 c1, .string p1] 24) = w4 at kx kb4 hB4 HC1 ⊢
  generalize w3.heap.size = gx at kx ⊢
  have y0 := (blk_cell kb4 0).trans (show _ = some (Value.slice B m d) from rfl)
  have y1 := (blk_cell kb4 1).trans (show _ = some (Value.string pay2) from rfl)
  go_wp2_with fail
  refine (HE2.out w4 hB4).mono ?_
  rintro e w5 ⟨v0, v1, rfl, hR0, hR1, hb5⟩
  obtain ⟨A2, c2, rfl, hc2, hC2⟩ := Kd.R_reads hR0
  obtain ⟨P2, d2, rfl, hd2, hD2⟩ := Kd.R_reads hR1
  rw [List.length_map] at hd2 hD2 ⊢
  have kx5 := (hb5.block _ (blk_lt kx)).trans kx
  have hB5 := below_then hB4 hB4.size hb5
  have n1_ := Aside0.mk (And.intro HC1.out.1 (And.intro HC1.out.2.1 (And.intro (Kd.C_below HC1.out.2.2.1 hb5) (Kd.C_below HC1.out.2.2.2 hb5))))
  clear HC1 kx kb4 hB4 y0 y1 hR0 hR1 hb5
  have HC1 := n1_
  clear n1_
  obtain ⟨n2, hn2⟩ : ∃ n, n = V2.length := ⟨_, rfl⟩
  rw [← hn2] at hc2 hC2 hd2 hD2 ⊢
  have HN2 := Aside0.mk hn2
  clear hn2
  go_upto_region 3 with (fail)
  have hb6 := below_alloc (Below.refl w5.heap.size w5) (.cells #[.slice A2 n2 c2, .string p2] 24)
  have ky := heap_alloc_new w5 (.cells #[.slice A2 n2 c2, .string p2] 24)
  have kx6 := (hb6.block _ (blk_lt kx5)).trans kx5
  have hB6 := below_then hB5 hB5.size hb6
  have HC2 := Aside0.mk (And.intro hc2 (And.intro hd2 (And.intro (Kd.C_below hC2 hb6) (Kd.C_below hD2 hb6))))
  have n1_ := Aside0.mk (And.intro HC1.out.1 (And.intro HC1.out.2.1 (And.intro (Kd.C_below HC1.out.2.2.1 hb6) (Kd.C_below HC1.out.2.2.2 hb6))))
  clear HC1 hb6 hB5 kx5 hc2 hC2 hd2 hD2
  have HC1 := n1_
  clear n1_
  generalize w5.alloc (.cells #[.slice A2 n2 c2, .string p2] 24) = w6 at ky kx6 hB6 HC1 HC2 ⊢
  generalize w5.heap.size = gy at ky ⊢
  have HKX := Aside0.mk kx6
  have HKY := Aside0.mk ky
  have HB := Aside0.mk hB6
  have z0 := (blk_cell kx6 1).trans (show _ = some (Value.string p1) from rfl)
  have z1 := (blk_cell ky 1).trans (show _ = some (Value.string p2) from rfl)
  clear kx6 ky hB6 HE1 HE2
  by_cases hnn : n1 = n2
  · have e1 : ((n1 : Int) == (n2 : Int)) = true := by rw [hnn]; simp
    have HF := Aside0.mk (show b0 V1 p1 V2 p2 = (p1.toList == p2.toList) by unfold b0; rw [← HN1.out, ← HN2.out, decide_eq_true hnn, Bool.true_and])
    clear hnn
    go_upto_region 4 with (fail)
    generalize (p1.toList == p2.toList) = fl at HF ⊢
    clear e1
    clear z0 z1
    go_wp2_with fail
    have HS := Aside0.mk (show Value.bool (b0 V1 p1 V2 p2 && upTo V1 V2 0) = _ by rw [HF.out, show upTo V1 V2 0 = true from rfl, Bool.and_true])
    go_loopg [9, 10] 8 (fun k v9 v10 W => ∃ (i : Nat), Aside0 (i ≤ n1 ∧ i ≤ n2 ∧ i ≤ 6 ∧ k + i = 8) ∧ Aside0 (Value.bool (b0 V1 p1 V2 p2 && upTo V1 V2 i) = v9) ∧ v10 = .int .i64 (i : Int) ∧ Aside0 (Below w6.heap.size w6 W))
    case atStart => exact ⟨0, ⟨by omega, by omega, by omega, by omega⟩, HS, rfl, ⟨Below.refl _ _⟩⟩
    case round =>
      clear HS
      obtain ⟨i, HI, HS, rfl, HBW⟩ := hrel
      obtain ⟨s0, hs0⟩ : ∃ z, z = (b0 V1 p1 V2 p2 && upTo V1 V2 i) := ⟨_, rfl⟩
      obtain rfl : u9 = .bool s0 := by rw [hs0]; exact HS.out.symm
      have HS0 := Aside0.mk hs0
      clear hs0 HS
      by_cases hi : i < n1
      · have f1 : decide ((i : Int) < (n1 : Int)) = true := decide_eq_true (by omega)
        have f2 : decide (i < n1) = true := decide_eq_true (by omega)
        by_cases hi2 : i < n2
        · have f3 : decide ((i : Int) < (n2 : Int)) = true := decide_eq_true (by omega)
          have f4 : decide (i < n2) = true := decide_eq_true (by omega)
          have HU := Aside0.mk (upTo_succ V1 V2 i)
          obtain ⟨ad1, ea, h0, h1⟩ := at_T29 (Kd.C_below HC1.out.2.2.2 HBW.out) (i : Int) (by omega) (by omega)
          obtain ⟨ad2, eb, h2, h3⟩ := at_T29 (Kd.C_below HC2.out.2.2.2 HBW.out) (i : Int) (by omega) (by omega)
          cases ea
          cases eb
          rw [rd_map V1 i (by have := HN1.out; omega), Int.toNat_natCast] at h0 h1
          rw [rd_map V2 i (by have := HN2.out; omega), Int.toNat_natCast] at h2 h3
          generalize V1.getD i z63 = a at HU h0 h1
          generalize V2.getD i z63 = b at HU h2 h3
          have q0 : ∀ q : BelowP wr, q.w.cell? (ad1.add (i * 2)) = some (.int .i64 a.f0) := fun q => q.cell h0
          have q1 : ∀ q : BelowP wr, q.w.cell? ⟨(ad1.add (i * 2)).block, (ad1.add (i * 2)).off + 1, none⟩ = some (.string a.f1) := fun q => q.cell h1
          have q2 : ∀ q : BelowP wr, q.w.cell? (ad2.add (i * 2)) = some (.int .i64 b.f0) := fun q => q.cell h2
          have q3 : ∀ q : BelowP wr, q.w.cell? ⟨(ad2.add (i * 2)).block, (ad2.add (i * 2)).off + 1, none⟩ = some (.string b.f1) := fun q => q.cell h3
          have i1 : (0 : Int) ≤ (i : Int) := by omega
          have i2 : (i : Int) < (n1 : Int) := by omega
          have i3 : (i : Int) < (n2 : Int) := by omega
          clear h0 h1 h2 h3 hi hi2
          cases hs0 : s0 with
          | false =>
            subst hs0
            clear q0 q1 q2 q3
            go_wp2_with fail
            refine wp_region_quiet_below (by kernel_rfl) (by kernel_rfl) ?_
            repeat ((with_reducible refine wpQuiet_step (fun K hK => ?_)); go_simp; first | ((with_reducible refine hK _ ?_); clear hK K) | ((with_reducible apply Exists.intro); (with_reducible refine ⟨fun _ => ?_, hK _ ?_⟩); (fail); clear hK K))
            with_reducible refine wpQuiet_nil ?_
            rintro _ ⟨pq, rfl⟩
            have HR2 := Aside0.mk (show Value.bool (b0 V1 p1 V2 p2 && upTo V1 V2 (i + 1)) = .bool false by rw [HU.out, ← Bool.and_assoc, ← HS0.out, Bool.false_and])
            have HBQ := Aside0.mk (below_then HBW.out HBW.out.size pq.h)
            go_wp2_with fail
            go_roundg (gk - 1)
            case measure => have := HI.out; omega
            case rel => exact ⟨i + 1, ⟨by omega, by omega, by have := HI.out; have := HN1.out; have := HL1.out; omega, by have := HI.out; omega⟩, HR2, (by have := HI.out; rw [wrap_in (by omega) (by omega), show (i : Int) + 1 = ((i + 1 : Nat) : Int) by omega]), HBQ⟩
          | true =>
            subst hs0
            have hu29 := Try.underlying29
            have hb1 : b0 V1 p1 V2 p2 = true ∧ upTo V1 V2 i = true := by have := HS0.out; simpa using this.symm
            have HR2 := Aside0.mk (show Value.bool (b0 V1 p1 V2 p2 && upTo V1 V2 (i + 1)) = .bool (a.f0 == b.f0 && (a.f1.toList == b.f1.toList)) by rw [HU.out, hb1.1, hb1.2, Bool.true_and, Bool.true_and]; rfl)
            clear hb1
            go_wp2_with fail
            refine wp_region_quiet_below (by kernel_rfl) (by kernel_rfl) ?_
            repeat ((with_reducible refine wpQuiet_step (fun K hK => ?_)); go_simp; first | ((with_reducible refine hK _ ?_); clear hK K) | ((with_reducible apply Exists.intro); (with_reducible refine ⟨fun _ => ?_, hK _ ?_⟩); (fail); clear hK K))
            with_reducible refine wpQuiet_nil ?_
            rintro _ ⟨pq, rfl⟩
            clear q0 q1 q2 q3 hu29
            have HBQ := Aside0.mk (below_then HBW.out HBW.out.size pq.h)
            go_wp2_with fail
            go_roundg (gk - 1)
            case measure => have := HI.out; omega
            case rel => exact ⟨i + 1, ⟨by omega, by omega, by have := HI.out; have := HN1.out; have := HL1.out; omega, by have := HI.out; omega⟩, HR2, (by have := HI.out; rw [wrap_in (by omega) (by omega), show (i : Int) + 1 = ((i + 1 : Nat) : Int) by omega]), HBQ⟩
        · have f3 : decide ((i : Int) < (n2 : Int)) = false := decide_eq_false (by omega)
          have f4 : decide (i < n2) = false := decide_eq_false (by omega)
          have HEND := Aside0.mk (show s0 = sameEv V1 p1 V2 p2 by rw [HS0.out]; exact same_end V1 V2 p1 p2 i (by have := HI.out; have := HN1.out; omega) (by have := HI.out; have := HN2.out; omega) (Or.inr (by have := HI.out; have := HN2.out; omega)))
          have HEN2 := HEND
          clear HS0 HI hi
          go_wp2_with fail
          refine (awake_calls _).mono ?_
          rintro e w8 ⟨rfl, hb8⟩
          have hw8 := below_then HBW.out HBW.out.size hb8
          have kx8 := (hw8.block _ (blk_lt HKX.out)).trans HKX.out
          have ky8 := (hw8.block _ (blk_lt HKY.out)).trans HKY.out
          have y0 := (blk_cell kx8 0).trans (show _ = some (Value.slice A1 n1 c1) from rfl)
          have y1 := (blk_cell kx8 1).trans (show _ = some (Value.string p1) from rfl)
          have y2 := (blk_cell ky8 0).trans (show _ = some (Value.slice A2 n2 c2) from rfl)
          have y3 := (blk_cell ky8 1).trans (show _ = some (Value.string p2) from rfl)
          have S12 := Aside0.mk (fun W (hb : Below w6.heap.size w6 W) => same_calls A1 A2 n1 n2 c1 c2 V1 V2 p1 p2 W HN1.out.symm HN2.out.symm (Kd.C_below HC1.out.2.2.1 hb) (Kd.C_below HC2.out.2.2.1 hb) HC1.out.1 HC2.out.1 (by have := HN1.out; have := HL1.out; omega))
          have S11 := Aside0.mk (fun W (hb : Below w6.heap.size w6 W) => same_calls A1 A1 n1 n1 c1 c1 V1 V1 p1 p1 W HN1.out.symm HN1.out.symm (Kd.C_below HC1.out.2.2.1 hb) (Kd.C_below HC1.out.2.2.1 hb) HC1.out.1 HC1.out.1 (by have := HN1.out; have := HL1.out; omega))
          have S22 := Aside0.mk (fun W (hb : Below w6.heap.size w6 W) => same_calls A2 A2 n2 n2 c2 c2 V2 V2 p2 p2 W HN2.out.symm HN2.out.symm (Kd.C_below HC2.out.2.2.1 hb) (Kd.C_below HC2.out.2.2.1 hb) HC2.out.1 HC2.out.1 (by have := HN2.out; have := HL2.out; omega))
          rw [show sameEv V1 p1 V1 p1 = true by unfold sameEv; rw [sameL_refl]; simp] at S11
          rw [show sameEv V2 p2 V2 p2 = true by unfold sameEv; rw [sameL_refl]; simp] at S22
          unfold encE at S12 S11 S22
          have hse := HEND.out
          generalize sameEv V1 p1 V2 p2 = sv at S12 hse
          subst hse
          clear HEND HEN2
          have HW8 := Aside0.mk hw8
          clear hb8 hw8 kx8 ky8
          go_wp2_with fail
          refine (S12.out _ HW8.out).mono ?_
          rintro e w9 ⟨rfl, hb9⟩
          have HW9 := Aside0.mk (below_then HW8.out HW8.out.size hb9)
          clear hb9 HW8 y0 y1 y2 y3 S12
          have y0 := (blk_cell ((HW9.out.block _ (blk_lt HKX.out)).trans HKX.out) 0).trans (show _ = some (Value.slice A1 n1 c1) from rfl)
          have y1 := (blk_cell ((HW9.out.block _ (blk_lt HKX.out)).trans HKX.out) 1).trans (show _ = some (Value.string p1) from rfl)
          have y2 := (blk_cell ((HW9.out.block _ (blk_lt HKY.out)).trans HKY.out) 0).trans (show _ = some (Value.slice A2 n2 c2) from rfl)
          have y3 := (blk_cell ((HW9.out.block _ (blk_lt HKY.out)).trans HKY.out) 1).trans (show _ = some (Value.string p2) from rfl)
          go_wp2_with fail
          refine (S11.out _ HW9.out).mono ?_
          rintro e w10 ⟨rfl, hb9⟩
          have HW10 := Aside0.mk (below_then HW9.out HW9.out.size hb9)
          clear hb9 HW9 y0 y1 y2 y3 S11
          have y0 := (blk_cell ((HW10.out.block _ (blk_lt HKX.out)).trans HKX.out) 0).trans (show _ = some (Value.slice A1 n1 c1) from rfl)
          have y1 := (blk_cell ((HW10.out.block _ (blk_lt HKX.out)).trans HKX.out) 1).trans (show _ = some (Value.string p1) from rfl)
          have y2 := (blk_cell ((HW10.out.block _ (blk_lt HKY.out)).trans HKY.out) 0).trans (show _ = some (Value.slice A2 n2 c2) from rfl)
          have y3 := (blk_cell ((HW10.out.block _ (blk_lt HKY.out)).trans HKY.out) 1).trans (show _ = some (Value.string p2) from rfl)
          go_wp2_with fail
          refine (S22.out _ HW10.out).mono ?_
          rintro e w11 ⟨rfl, hb9⟩
          have hfin := below_then HB.out HB.out.size (below_then HW10.out HW10.out.size hb9)
          clear hb9 HW10 y0 y1 y2 y3 S22
          go_wp2
          try go_ret
          exact ⟨rfl, hfin⟩
      · have f1 : decide ((i : Int) < (n1 : Int)) = false := decide_eq_false (by omega)
        have f2 : decide (i < n1) = false := decide_eq_false (by omega)
        have HEND := Aside0.mk (show s0 = sameEv V1 p1 V2 p2 by rw [HS0.out]; exact same_end V1 V2 p1 p2 i (by have := HI.out; have := HN1.out; omega) (by have := HI.out; have := HN2.out; omega) (Or.inl (by have := HI.out; have := HN1.out; omega)))
        have HEN2 := HEND
        clear HS0 HI hi
        go_wp2_with fail
        refine (awake_calls _).mono ?_
        rintro e w8 ⟨rfl, hb8⟩
        have hw8 := below_then HBW.out HBW.out.size hb8
        have kx8 := (hw8.block _ (blk_lt HKX.out)).trans HKX.out
        have ky8 := (hw8.block _ (blk_lt HKY.out)).trans HKY.out
        have y0 := (blk_cell kx8 0).trans (show _ = some (Value.slice A1 n1 c1) from rfl)
        have y1 := (blk_cell kx8 1).trans (show _ = some (Value.string p1) from rfl)
        have y2 := (blk_cell ky8 0).trans (show _ = some (Value.slice A2 n2 c2) from rfl)
        have y3 := (blk_cell ky8 1).trans (show _ = some (Value.string p2) from rfl)
        have S12 := Aside0.mk (fun W (hb : Below w6.heap.size w6 W) => same_calls A1 A2 n1 n2 c1 c2 V1 V2 p1 p2 W HN1.out.symm HN2.out.symm (Kd.C_below HC1.out.2.2.1 hb) (Kd.C_below HC2.out.2.2.1 hb) HC1.out.1 HC2.out.1 (by have := HN1.out; have := HL1.out; omega))
        have S11 := Aside0.mk (fun W (hb : Below w6.heap.size w6 W) => same_calls A1 A1 n1 n1 c1 c1 V1 V1 p1 p1 W HN1.out.symm HN1.out.symm (Kd.C_below HC1.out.2.2.1 hb) (Kd.C_below HC1.out.2.2.1 hb) HC1.out.1 HC1.out.1 (by have := HN1.out; have := HL1.out; omega))
        have S22 := Aside0.mk (fun W (hb : Below w6.heap.size w6 W) => same_calls A2 A2 n2 n2 c2 c2 V2 V2 p2 p2 W HN2.out.symm HN2.out.symm (Kd.C_below HC2.out.2.2.1 hb) (Kd.C_below HC2.out.2.2.1 hb) HC2.out.1 HC2.out.1 (by have := HN2.out; have := HL2.out; omega))
        rw [show sameEv V1 p1 V1 p1 = true by unfold sameEv; rw [sameL_refl]; simp] at S11
        rw [show sameEv V2 p2 V2 p2 = true by unfold sameEv; rw [sameL_refl]; simp] at S22
        unfold encE at S12 S11 S22
        have hse := HEND.out
        generalize sameEv V1 p1 V2 p2 = sv at S12 hse
        subst hse
        clear HEND HEN2
        have HW8 := Aside0.mk hw8
        clear hb8 hw8 kx8 ky8
        go_wp2_with fail
        refine (S12.out _ HW8.out).mono ?_
        rintro e w9 ⟨rfl, hb9⟩
        have HW9 := Aside0.mk (below_then HW8.out HW8.out.size hb9)
        clear hb9 HW8 y0 y1 y2 y3 S12
        have y0 := (blk_cell ((HW9.out.block _ (blk_lt HKX.out)).trans HKX.out) 0).trans (show _ = some (Value.slice A1 n1 c1) from rfl)
        have y1 := (blk_cell ((HW9.out.block _ (blk_lt HKX.out)).trans HKX.out) 1).trans (show _ = some (Value.string p1) from rfl)
        have y2 := (blk_cell ((HW9.out.block _ (blk_lt HKY.out)).trans HKY.out) 0).trans (show _ = some (Value.slice A2 n2 c2) from rfl)
        have y3 := (blk_cell ((HW9.out.block _ (blk_lt HKY.out)).trans HKY.out) 1).trans (show _ = some (Value.string p2) from rfl)
        go_wp2_with fail
        refine (S11.out _ HW9.out).mono ?_
        rintro e w10 ⟨rfl, hb9⟩
        have HW10 := Aside0.mk (below_then HW9.out HW9.out.size hb9)
        clear hb9 HW9 y0 y1 y2 y3 S11
        have y0 := (blk_cell ((HW10.out.block _ (blk_lt HKX.out)).trans HKX.out) 0).trans (show _ = some (Value.slice A1 n1 c1) from rfl)
        have y1 := (blk_cell ((HW10.out.block _ (blk_lt HKX.out)).trans HKX.out) 1).trans (show _ = some (Value.string p1) from rfl)
        have y2 := (blk_cell ((HW10.out.block _ (blk_lt HKY.out)).trans HKY.out) 0).trans (show _ = some (Value.slice A2 n2 c2) from rfl)
        have y3 := (blk_cell ((HW10.out.block _ (blk_lt HKY.out)).trans HKY.out) 1).trans (show _ = some (Value.string p2) from rfl)
        go_wp2_with fail
        refine (S22.out _ HW10.out).mono ?_
        rintro e w11 ⟨rfl, hb9⟩
        have hfin := below_then HB.out HB.out.size (below_then HW10.out HW10.out.size hb9)
        clear hb9 HW10 y0 y1 y2 y3 S22
        go_wp2
        try go_ret
        exact ⟨rfl, hfin⟩
  · have e1 : ((n1 : Int) == (n2 : Int)) = false := by simpa using (by omega : ¬ ((n1 : Int) = (n2 : Int)))
    have HF := Aside0.mk (show b0 V1 p1 V2 p2 = false by unfold b0; rw [← HN1.out, ← HN2.out, decide_eq_false hnn, Bool.false_and])
    clear hnn
    go_upto_region 4 with (fail)
    clear e1
    clear z0 z1
    go_wp2_with fail
    have HS := Aside0.mk (show Value.bool (b0 V1 p1 V2 p2 && upTo V1 V2 0) = _ by rw [HF.out, show upTo V1 V2 0 = true from rfl, Bool.and_true])
    go_loopg [9, 10] 8 (fun k v9 v10 W => ∃ (i : Nat), Aside0 (i ≤ n1 ∧ i ≤ n2 ∧ i ≤ 6 ∧ k + i = 8) ∧ Aside0 (Value.bool (b0 V1 p1 V2 p2 && upTo V1 V2 i) = v9) ∧ v10 = .int .i64 (i : Int) ∧ Aside0 (Below w6.heap.size w6 W))
    case atStart => exact ⟨0, ⟨by omega, by omega, by omega, by omega⟩, HS, rfl, ⟨Below.refl _ _⟩⟩
    case round =>
      clear HS
      obtain ⟨i, HI, HS, rfl, HBW⟩ := hrel
      obtain ⟨s0, hs0⟩ : ∃ z, z = (b0 V1 p1 V2 p2 && upTo V1 V2 i) := ⟨_, rfl⟩
      obtain rfl : u9 = .bool s0 := by rw [hs0]; exact HS.out.symm
      have HS0 := Aside0.mk hs0
      clear hs0 HS
      by_cases hi : i < n1
      · have f1 : decide ((i : Int) < (n1 : Int)) = true := decide_eq_true (by omega)
        have f2 : decide (i < n1) = true := decide_eq_true (by omega)
        by_cases hi2 : i < n2
        · have f3 : decide ((i : Int) < (n2 : Int)) = true := decide_eq_true (by omega)
          have f4 : decide (i < n2) = true := decide_eq_true (by omega)
          have HU := Aside0.mk (upTo_succ V1 V2 i)
          obtain ⟨ad1, ea, h0, h1⟩ := at_T29 (Kd.C_below HC1.out.2.2.2 HBW.out) (i : Int) (by omega) (by omega)
          obtain ⟨ad2, eb, h2, h3⟩ := at_T29 (Kd.C_below HC2.out.2.2.2 HBW.out) (i : Int) (by omega) (by omega)
          cases ea
          cases eb
          rw [rd_map V1 i (by have := HN1.out; omega), Int.toNat_natCast] at h0 h1
          rw [rd_map V2 i (by have := HN2.out; omega), Int.toNat_natCast] at h2 h3
          generalize V1.getD i z63 = a at HU h0 h1
          generalize V2.getD i z63 = b at HU h2 h3
          have q0 : ∀ q : BelowP wr, q.w.cell? (ad1.add (i * 2)) = some (.int .i64 a.f0) := fun q => q.cell h0
          have q1 : ∀ q : BelowP wr, q.w.cell? ⟨(ad1.add (i * 2)).block, (ad1.add (i * 2)).off + 1, none⟩ = some (.string a.f1) := fun q => q.cell h1
          have q2 : ∀ q : BelowP wr, q.w.cell? (ad2.add (i * 2)) = some (.int .i64 b.f0) := fun q => q.cell h2
          have q3 : ∀ q : BelowP wr, q.w.cell? ⟨(ad2.add (i * 2)).block, (ad2.add (i * 2)).off + 1, none⟩ = some (.string b.f1) := fun q => q.cell h3
          have i1 : (0 : Int) ≤ (i : Int) := by omega
          have i2 : (i : Int) < (n1 : Int) := by omega
          have i3 : (i : Int) < (n2 : Int) := by omega
          clear h0 h1 h2 h3 hi hi2
          cases hs0 : s0 with
          | false =>
            subst hs0
            clear q0 q1 q2 q3
            go_wp2_with fail
            refine wp_region_quiet_below (by kernel_rfl) (by kernel_rfl) ?_
            repeat ((with_reducible refine wpQuiet_step (fun K hK => ?_)); go_simp; first | ((with_reducible refine hK _ ?_); clear hK K) | ((with_reducible apply Exists.intro); (with_reducible refine ⟨fun _ => ?_, hK _ ?_⟩); (fail); clear hK K))
            with_reducible refine wpQuiet_nil ?_
            rintro _ ⟨pq, rfl⟩
            have HR2 := Aside0.mk (show Value.bool (b0 V1 p1 V2 p2 && upTo V1 V2 (i + 1)) = .bool false by rw [HU.out, ← Bool.and_assoc, ← HS0.out, Bool.false_and])
            have HBQ := Aside0.mk (below_then HBW.out HBW.out.size pq.h)
            go_wp2_with fail
            go_roundg (gk - 1)
            case measure => have := HI.out; omega
            case rel => exact ⟨i + 1, ⟨by omega, by omega, by have := HI.out; have := HN1.out; have := HL1.out; omega, by have := HI.out; omega⟩, HR2, (by have := HI.out; rw [wrap_in (by omega) (by omega), show (i : Int) + 1 = ((i + 1 : Nat) : Int) by omega]), HBQ⟩
          | true =>
            subst hs0
            have hu29 := Try.underlying29
            have hb1 : b0 V1 p1 V2 p2 = true ∧ upTo V1 V2 i = true := by have := HS0.out; simpa using this.symm
            have HR2 := Aside0.mk (show Value.bool (b0 V1 p1 V2 p2 && upTo V1 V2 (i + 1)) = .bool (a.f0 == b.f0 && (a.f1.toList == b.f1.toList)) by rw [HU.out, hb1.1, hb1.2, Bool.true_and, Bool.true_and]; rfl)
            clear hb1
            go_wp2_with fail
            refine wp_region_quiet_below (by kernel_rfl) (by kernel_rfl) ?_
            repeat ((with_reducible refine wpQuiet_step (fun K hK => ?_)); go_simp; first | ((with_reducible refine hK _ ?_); clear hK K) | ((with_reducible apply Exists.intro); (with_reducible refine ⟨fun _ => ?_, hK _ ?_⟩); (fail); clear hK K))
            with_reducible refine wpQuiet_nil ?_
            rintro _ ⟨pq, rfl⟩
            clear q0 q1 q2 q3 hu29
            have HBQ := Aside0.mk (below_then HBW.out HBW.out.size pq.h)
            go_wp2_with fail
            go_roundg (gk - 1)
            case measure => have := HI.out; omega
            case rel => exact ⟨i + 1, ⟨by omega, by omega, by have := HI.out; have := HN1.out; have := HL1.out; omega, by have := HI.out; omega⟩, HR2, (by have := HI.out; rw [wrap_in (by omega) (by omega), show (i : Int) + 1 = ((i + 1 : Nat) : Int) by omega]), HBQ⟩
        · have f3 : decide ((i : Int) < (n2 : Int)) = false := decide_eq_false (by omega)
          have f4 : decide (i < n2) = false := decide_eq_false (by omega)
          have HEND := Aside0.mk (show s0 = sameEv V1 p1 V2 p2 by rw [HS0.out]; exact same_end V1 V2 p1 p2 i (by have := HI.out; have := HN1.out; omega) (by have := HI.out; have := HN2.out; omega) (Or.inr (by have := HI.out; have := HN2.out; omega)))
          have HEN2 := HEND
          clear HS0 HI hi
          go_wp2_with fail
          refine (awake_calls _).mono ?_
          rintro e w8 ⟨rfl, hb8⟩
          have hw8 := below_then HBW.out HBW.out.size hb8
          have kx8 := (hw8.block _ (blk_lt HKX.out)).trans HKX.out
          have ky8 := (hw8.block _ (blk_lt HKY.out)).trans HKY.out
          have y0 := (blk_cell kx8 0).trans (show _ = some (Value.slice A1 n1 c1) from rfl)
          have y1 := (blk_cell kx8 1).trans (show _ = some (Value.string p1) from rfl)
          have y2 := (blk_cell ky8 0).trans (show _ = some (Value.slice A2 n2 c2) from rfl)
          have y3 := (blk_cell ky8 1).trans (show _ = some (Value.string p2) from rfl)
          have S12 := Aside0.mk (fun W (hb : Below w6.heap.size w6 W) => same_calls A1 A2 n1 n2 c1 c2 V1 V2 p1 p2 W HN1.out.symm HN2.out.symm (Kd.C_below HC1.out.2.2.1 hb) (Kd.C_below HC2.out.2.2.1 hb) HC1.out.1 HC2.out.1 (by have := HN1.out; have := HL1.out; omega))
          have S11 := Aside0.mk (fun W (hb : Below w6.heap.size w6 W) => same_calls A1 A1 n1 n1 c1 c1 V1 V1 p1 p1 W HN1.out.symm HN1.out.symm (Kd.C_below HC1.out.2.2.1 hb) (Kd.C_below HC1.out.2.2.1 hb) HC1.out.1 HC1.out.1 (by have := HN1.out; have := HL1.out; omega))
          have S22 := Aside0.mk (fun W (hb : Below w6.heap.size w6 W) => same_calls A2 A2 n2 n2 c2 c2 V2 V2 p2 p2 W HN2.out.symm HN2.out.symm (Kd.C_below HC2.out.2.2.1 hb) (Kd.C_below HC2.out.2.2.1 hb) HC2.out.1 HC2.out.1 (by have := HN2.out; have := HL2.out; omega))
          rw [show sameEv V1 p1 V1 p1 = true by unfold sameEv; rw [sameL_refl]; simp] at S11
          rw [show sameEv V2 p2 V2 p2 = true by unfold sameEv; rw [sameL_refl]; simp] at S22
          unfold encE at S12 S11 S22
          have hse := HEND.out
          generalize sameEv V1 p1 V2 p2 = sv at S12 hse
          subst hse
          clear HEND HEN2
          have HW8 := Aside0.mk hw8
          clear hb8 hw8 kx8 ky8
          go_wp2_with fail
          refine (S12.out _ HW8.out).mono ?_
          rintro e w9 ⟨rfl, hb9⟩
          have HW9 := Aside0.mk (below_then HW8.out HW8.out.size hb9)
          clear hb9 HW8 y0 y1 y2 y3 S12
          have y0 := (blk_cell ((HW9.out.block _ (blk_lt HKX.out)).trans HKX.out) 0).trans (show _ = some (Value.slice A1 n1 c1) from rfl)
          have y1 := (blk_cell ((HW9.out.block _ (blk_lt HKX.out)).trans HKX.out) 1).trans (show _ = some (Value.string p1) from rfl)
          have y2 := (blk_cell ((HW9.out.block _ (blk_lt HKY.out)).trans HKY.out) 0).trans (show _ = some (Value.slice A2 n2 c2) from rfl)
          have y3 := (blk_cell ((HW9.out.block _ (blk_lt HKY.out)).trans HKY.out) 1).trans (show _ = some (Value.string p2) from rfl)
          go_wp2_with fail
          refine (S11.out _ HW9.out).mono ?_
          rintro e w10 ⟨rfl, hb9⟩
          have HW10 := Aside0.mk (below_then HW9.out HW9.out.size hb9)
          clear hb9 HW9 y0 y1 y2 y3 S11
          have y0 := (blk_cell ((HW10.out.block _ (blk_lt HKX.out)).trans HKX.out) 0).trans (show _ = some (Value.slice A1 n1 c1) from rfl)
          have y1 := (blk_cell ((HW10.out.block _ (blk_lt HKX.out)).trans HKX.out) 1).trans (show _ = some (Value.string p1) from rfl)
          have y2 := (blk_cell ((HW10.out.block _ (blk_lt HKY.out)).trans HKY.out) 0).trans (show _ = some (Value.slice A2 n2 c2) from rfl)
          have y3 := (blk_cell ((HW10.out.block _ (blk_lt HKY.out)).trans HKY.out) 1).trans (show _ = some (Value.string p2) from rfl)
          go_wp2_with fail
          refine (S22.out _ HW10.out).mono ?_
          rintro e w11 ⟨rfl, hb9⟩
          have hfin := below_then HB.out HB.out.size (below_then HW10.out HW10.out.size hb9)
          clear hb9 HW10 y0 y1 y2 y3 S22
          go_wp2
          try go_ret
          exact ⟨rfl, hfin⟩
      · have f1 : decide ((i : Int) < (n1 : Int)) = false := decide_eq_false (by omega)
        have f2 : decide (i < n1) = false := decide_eq_false (by omega)
        have HEND := Aside0.mk (show s0 = sameEv V1 p1 V2 p2 by rw [HS0.out]; exact same_end V1 V2 p1 p2 i (by have := HI.out; have := HN1.out; omega) (by have := HI.out; have := HN2.out; omega) (Or.inl (by have := HI.out; have := HN1.out; omega)))
        have HEN2 := HEND
        clear HS0 HI hi
        go_wp2_with fail
        refine (awake_calls _).mono ?_
        rintro e w8 ⟨rfl, hb8⟩
        have hw8 := below_then HBW.out HBW.out.size hb8
        have kx8 := (hw8.block _ (blk_lt HKX.out)).trans HKX.out
        have ky8 := (hw8.block _ (blk_lt HKY.out)).trans HKY.out
        have y0 := (blk_cell kx8 0).trans (show _ = some (Value.slice A1 n1 c1) from rfl)
        have y1 := (blk_cell kx8 1).trans (show _ = some (Value.string p1) from rfl)
        have y2 := (blk_cell ky8 0).trans (show _ = some (Value.slice A2 n2 c2) from rfl)
        have y3 := (blk_cell ky8 1).trans (show _ = some (Value.string p2) from rfl)
        have S12 := Aside0.mk (fun W (hb : Below w6.heap.size w6 W) => same_calls A1 A2 n1 n2 c1 c2 V1 V2 p1 p2 W HN1.out.symm HN2.out.symm (Kd.C_below HC1.out.2.2.1 hb) (Kd.C_below HC2.out.2.2.1 hb) HC1.out.1 HC2.out.1 (by have := HN1.out; have := HL1.out; omega))
        have S11 := Aside0.mk (fun W (hb : Below w6.heap.size w6 W) => same_calls A1 A1 n1 n1 c1 c1 V1 V1 p1 p1 W HN1.out.symm HN1.out.symm (Kd.C_below HC1.out.2.2.1 hb) (Kd.C_below HC1.out.2.2.1 hb) HC1.out.1 HC1.out.1 (by have := HN1.out; have := HL1.out; omega))
        have S22 := Aside0.mk (fun W (hb : Below w6.heap.size w6 W) => same_calls A2 A2 n2 n2 c2 c2 V2 V2 p2 p2 W HN2.out.symm HN2.out.symm (Kd.C_below HC2.out.2.2.1 hb) (Kd.C_below HC2.out.2.2.1 hb) HC2.out.1 HC2.out.1 (by have := HN2.out; have := HL2.out; omega))
        rw [show sameEv V1 p1 V1 p1 = true by unfold sameEv; rw [sameL_refl]; simp] at S11
        rw [show sameEv V2 p2 V2 p2 = true by unfold sameEv; rw [sameL_refl]; simp] at S22
        unfold encE at S12 S11 S22
        have hse := HEND.out
        generalize sameEv V1 p1 V2 p2 = sv at S12 hse
        subst hse
        clear HEND HEN2
        have HW8 := Aside0.mk hw8
        clear hb8 hw8 kx8 ky8
        go_wp2_with fail
        refine (S12.out _ HW8.out).mono ?_
        rintro e w9 ⟨rfl, hb9⟩
        have HW9 := Aside0.mk (below_then HW8.out HW8.out.size hb9)
        clear hb9 HW8 y0 y1 y2 y3 S12
        have y0 := (blk_cell ((HW9.out.block _ (blk_lt HKX.out)).trans HKX.out) 0).trans (show _ = some (Value.slice A1 n1 c1) from rfl)
        have y1 := (blk_cell ((HW9.out.block _ (blk_lt HKX.out)).trans HKX.out) 1).trans (show _ = some (Value.string p1) from rfl)
        have y2 := (blk_cell ((HW9.out.block _ (blk_lt HKY.out)).trans HKY.out) 0).trans (show _ = some (Value.slice A2 n2 c2) from rfl)
        have y3 := (blk_cell ((HW9.out.block _ (blk_lt HKY.out)).trans HKY.out) 1).trans (show _ = some (Value.string p2) from rfl)
        go_wp2_with fail
        refine (S11.out _ HW9.out).mono ?_
        rintro e w10 ⟨rfl, hb9⟩
        have HW10 := Aside0.mk (below_then HW9.out HW9.out.size hb9)
        clear hb9 HW9 y0 y1 y2 y3 S11
        have y0 := (blk_cell ((HW10.out.block _ (blk_lt HKX.out)).trans HKX.out) 0).trans (show _ = some (Value.slice A1 n1 c1) from rfl)
        have y1 := (blk_cell ((HW10.out.block _ (blk_lt HKX.out)).trans HKX.out) 1).trans (show _ = some (Value.string p1) from rfl)
        have y2 := (blk_cell ((HW10.out.block _ (blk_lt HKY.out)).trans HKY.out) 0).trans (show _ = some (Value.slice A2 n2 c2) from rfl)
        have y3 := (blk_cell ((HW10.out.block _ (blk_lt HKY.out)).trans HKY.out) 1).trans (show _ = some (Value.string p2) from rfl)
        go_wp2_with fail
        refine (S22.out _ HW10.out).mono ?_
        rintro e w11 ⟨rfl, hb9⟩
        have hfin := below_then HB.out HB.out.size (below_then HW10.out HW10.out.size hb9)
        clear hb9 HW10 y0 y1 y2 y3 S22
        go_wp2
        try go_ret
        exact ⟨rfl, hfin⟩
end Go.Proofs.Ytlokmijoaocofaa.Mine
end
section
/-
  An argument that is an event: opened to its list of values and its payload. No condition.
-/
namespace Go.Proofs.Ytlokmijoaocofaa.Mine
open Go.ChangeShapes Go.WideShapes Go.ChangeAt Go.Deep Go.RowKit Go.Proofs.YtlokmijoaocofaaW.PrintWords Go.Proofs.YtlokmijoaocofaaW.PrintLast Go.Proofs.YtlokmijoaocofaaW.PrintMore
open Go.Proofs.Ytlokmijoaocofaa.PBoardAgain
section
variable {H : Type} {enc : TypeId × Value → H} {P : Program} {w : World} {base : Nat} {spare : Nat → Bool} {held : Bool}
theorem open_slice_fields {t e : TypeId} {fs : Array Field} {fuel : Nat} {cs : List Value} {x : DataW H × List MemPlace} (ht : P.underlying t = some (.slice e)) (he : P.underlying e = some (.struct fs))
    (hone : oneCellFields P fs = true) (hC : P.cellsOf e = fs.size) (h : DataW.trod enc P w base spare held fuel t cs = some x) :
    (cs = [.slice none 0 0] ∧ x = (.nil, [])) ∨
    ∃ (a : Addr) (len cap m : Nat) (D : Nat → DataW H) (Pl : Nat → List MemPlace), cs = [.slice (some a) len cap] ∧ base ≤ a.block ∧ len ≤ cap ∧ cap ≤ maxLen ∧ m = (if spare a.block then cap else len) ∧
      x = (.slice ((List.range len).map D) ((List.range (m - len)).map fun j => D (len + j)), MemPlace.row a (m * fs.size) ++ (List.range m).flatMap Pl) ∧
      ∀ i, i < m → ∃ (ys : List (DataW H × List MemPlace)) (n : Nat), D i = .agg (ys.map (·.1)) ∧ Pl i = ys.flatMap (·.2) ∧ ys.length = fs.size ∧
        ∀ (j : Nat) (f : Field), fs[j]? = some f → ∃ (v : Value) (y : DataW H × List MemPlace), w.cell? (a.add (i * fs.size + j)) = some v ∧ ys[j]? = some y ∧ DataW.trod enc P w base spare held n f.type [v] = some y := by
  rcases open_slice ht h with h0 | ⟨a, len, cap, m, n, D, Pl, hcs, hb, hl, hm, hmm, hx, hi⟩
  · exact .inl h0
  · refine .inr ⟨a, len, cap, m, D, Pl, hcs, hb, hl, hm, hmm, by rw [hC] at hx; exact hx, fun i him => ?_⟩
    obtain ⟨cs', hc, ht'⟩ := hi i him
    rw [hC] at hc
    obtain ⟨ys, n', hn', hy, hlen, hyl, hf⟩ := DataW.trod_struct he ht'
    obtain ⟨_, hcl, hat⟩ := World.cells?_some hc
    simp only [Prod.mk.injEq] at hy
    refine ⟨ys, n', hy.1, hy.2, hyl, fun j f hj => ?_⟩
    obtain ⟨ho, hk⟩ := hone_of hone j f hj
    have hjl : j < fs.size := (Array.getElem?_eq_some_iff.1 hj).1
    have hcell := hat j hjl
    have hv : cs'[j]? = some (cs'[j]'(by omega)) := List.getElem?_eq_getElem (by omega)
    have h1 := hf j f hj
    rw [ho, hk] at h1
    have hone' : (cs'.drop j).take 1 = [cs'[j]'(by omega)] := by
      rw [List.drop_eq_getElem_cons (by omega)]
      rfl
    rw [hone'] at h1
    have hys : ys[j]? = some (ys[j]'(by omega)) := List.getElem?_eq_getElem (by omega)
    refine ⟨_, _, ?_, hys, h1.trans hys⟩
    rw [← Go.Deep.add_add, hcell, hv]
end
theorem pick {α : Type} (P : Nat → α → Prop) (n : Nat) (h : ∀ i, i < n → ∃ x, P i x) : ∃ L : List α, L.length = n ∧ ∀ i x, L[i]? = some x → P i x := by
  induction n with
  | zero => exact ⟨[], rfl, by simp⟩
  | succ n ih =>
    obtain ⟨L, hl, hL⟩ := ih (fun i hi => h i (by omega))
    obtain ⟨x, hx⟩ := h n (by omega)
    refine ⟨L ++ [x], by simp [hl], fun i y hy => ?_⟩
    by_cases hi : i < n
    · rw [List.getElem?_append_left (by omega)] at hy
      exact hL i y hy
    · have hlt := (List.getElem?_eq_some_iff.1 hy).1
      have hin : i = n := by simp [hl] at hlt; omega
      subst hin
      rw [List.getElem?_append_right (by omega), hl] at hy
      simp at hy
      subst hy
      exact hx
set_option maxRecDepth 100000 in
theorem open_vals {H : Type} {enc : TypeId × Value → H} {W : World} {v : Value} {fuel : Nat} {y : DataW H × List MemPlace} (hf : DataW.trod enc Try.prog W 0 (fun _ => true) true fuel 22 [v] = some y) :
    ∃ (A : Option Addr) (n c : Nat) (L : List SV), v = .slice A n c ∧ L.length = n ∧ n ≤ c ∧ c ≤ maxLen ∧ Kd.C k63 W A n L ∧ ∀ x ∈ L, x.f1.size ≤ maxLen := by
  rcases open_slice_fields Try.underlying22 Try.underlying63 (by kernel_rfl) (by kernel_rfl) hf with ⟨hcs, _⟩ | ⟨a, len, cap, m, D, Pl, hcs, _, hl, hm, hmm, hx, hi⟩
  · simp at hcs
    subst hcs
    exact ⟨none, 0, 0, [], rfl, rfl, Nat.le_refl _, Nat.zero_le _, Kd.C_nil _ _, by simp⟩
  · simp at hcs
    subst hcs
    rw [if_pos rfl] at hmm
    subst hmm
    obtain ⟨L, hL, hat⟩ := pick (fun i (x : SV) => (x.f1.size ≤ maxLen) ∧ ∀ j u, ([Value.int .i64 x.f0, .string x.f1])[j]? = some u → W.cell? (a.add (i * 2 + j)) = some u) len (fun i hin => by
      obtain ⟨ys, q, _, _, _, hfl⟩ := hi i (by omega)
      obtain ⟨v0, y0, c0, _, t0⟩ := hfl 0 _ rfl
      obtain ⟨v1, y1, c1, _, t1⟩ := hfl 1 _ rfl
      obtain ⟨s0, e0, _, z0⟩ := DataW.trod_int Try.underlying3 t0
      obtain ⟨s1, e1, _, z1⟩ := DataW.trod_string Try.underlying9 t1
      obtain rfl := List.singleton_inj.1 e0
      obtain rfl := List.singleton_inj.1 e1
      refine ⟨⟨s0, s1⟩, z1, fun j u hj => ?_⟩
      match j, hj with
      | 0, hj => cases hj; exact c0
      | 1, hj => cases hj; exact c1)
    refine ⟨some a, len, m, L, rfl, hL, hl, hm, ⟨hL, by have : maxLen = 9223372036854775807 := rfl; omega, fun _ => ⟨a, rfl, fun j x hj => ?_⟩⟩, fun x hx => ?_⟩
    · exact ⟨[Value.int .i64 x.f0, .string x.f1], rfl, k63_mk W x, (hat j x hj).2⟩
    · obtain ⟨j, hj, rfl⟩ := List.getElem_of_mem hx
      exact (hat j _ (List.getElem?_eq_getElem hj)).1
set_option maxRecDepth 100000 in
theorem open_event {H : Type} {enc : TypeId × Value → H} {W : World} {v : Value} {d : DataW H} {p : List MemPlace} {r : Reach} {b0 : Nat} (hv : Value.okWide Try.prog W r b0 24 v) (h : DataW.Trod enc Try.prog W 0 (fun _ => true) true 24 v d p) :
    ∃ (A : Option Addr) (n c : Nat) (L : List SV) (pay : ByteArray), v = encE A n c pay ∧ L.length = n ∧ n ≤ c ∧ c ≤ maxLen ∧ Kd.C k63 W A n L ∧ (∀ x ∈ L, x.f1.size ≤ maxLen) ∧ pay.size ≤ maxLen := by
  obtain ⟨v0, v1, y0, y1, n0, rfl, rfl, rfl, t0, t1⟩ := Go.Joins.open_agg2 Try.underlying24 (by kernel_rfl) (by kernel_rfl) hv h
  obtain ⟨A, n, c, L, rfl, h1, h2, h3, h4, h5⟩ := open_vals t0
  obtain ⟨s1, e1, _, z1⟩ := DataW.trod_string Try.underlying9 t1
  obtain rfl := List.singleton_inj.1 e1
  exact ⟨A, n, c, L, s1, rfl, h1, h2, h3, h4, h5, z1⟩
end Go.Proofs.Ytlokmijoaocofaa.Mine
end
section
/-
  wigwaglaw05.Attrs, walked: a schema of at most 6 attributes, their names cut. Condition: the names at most 2^63 - 1 bytes.
-/
namespace Go.Proofs.Ytlokmijoaocofaa.Mine
open Go.RowKit Go.Proofs.YtlokmijoaocofaaW.PrintWords Go.Proofs.YtlokmijoaocofaaW.PrintLast Go.Proofs.YtlokmijoaocofaaW.PrintMore
open Go.Proofs.Ytlokmijoaocofaa.PBoardAgain
def toA (x : S65) : S67 := ⟨x.f0, x.f1, x.f2, x.f3⟩
def cutA (x : S65) : S65 := ⟨cutB x.f0 20, x.f1, x.f2, x.f3⟩
def attrsOf (L : List S65) : List S65 := (L.take 6).map cutA
theorem attrs_snoc (L : List S65) (i : Nat) (h : i < L.length) : (L.take (i + 1)).map cutA = (L.take i).map cutA ++ [cutA (L.getD i z65)] := by
  rw [List.take_succ_eq_append_getElem h, List.map_append, List.getD_eq_getElem?_getD, List.getElem?_eq_getElem h]
  rfl
set_option maxHeartbeats 4000000 in
set_option maxRecDepth 100000 in
theorem attrs_calls (A : Option Addr) (n c : Nat) (L : List S65) (w : World) (hn : L.length = n) (hr : Kd.C k65 w A n L) (hc : n ≤ c) (hnm : ∀ p ∈ L, p.f0.size ≤ 9223372036854775807) (hn2 : n ≤ 9223372036854775807) :
    Calls Try.prog 10 #[.slice A n c] w fun e w' => ∃ v0 v1, e = .returned (.tuple #[v0, v1]) ∧ Kd.R k65 65 w' w.heap.size (fun _ => True) v0 (attrsOf L) ∧ Kd.R k67 67 w' w.heap.size (fun _ => True) v1 ((attrsOf L).map toA) ∧ Below w.heap.size w w' := by
  have HR := Aside0.mk hr
  have HN := Aside0.mk hn
  have HNM := Aside0.mk hnm
  clear hr hn hnm
  go_enter Try.func10, Try.ntmps10
  go_wp2_with fail
  have HB := Aside0.mk (below_alloc (below_alloc (Below.refl w.heap.size w) (.cells #[] 65)) (.cells #[] 67))
  have HO4 : Aside0 (Kd.R k65 65 ((w.alloc (.cells #[] 65)).alloc (.cells #[] 67)) w.heap.size (fun _ => True) (.slice (some ⟨w.heap.size, 0, none⟩) 0 0) (([] : List S65))) :=
    ⟨Kd.R_alloc (show Kd.R k65 65 (w.alloc (.cells #[] 65)) w.heap.size (fun _ => True) (.slice (some ⟨w.heap.size, 0, none⟩) 0 0) ([] : List S65) from ⟨fun _ _ => trivial, [], World.ownsRow_lit w #[] 0 (Nat.le_refl _) (by decide) rfl, Reps.none _ _⟩) _⟩
  have HO5 : Aside0 (Kd.R k67 67 ((w.alloc (.cells #[] 65)).alloc (.cells #[] 67)) w.heap.size (fun _ => True) (.slice (some ⟨w.heap.size + 1, 0, none⟩) 0 0) (([] : List S67))) :=
    ⟨⟨fun _ _ => trivial, [], by
      have := World.ownsRow_lit (base := w.heap.size) (e := 67) (size := 4) (w.alloc (.cells #[] 65)) #[] 0 (by show _ ≤ (w.heap.push _).size; rw [Array.size_push]; omega) (by decide) rfl
      have e : (w.alloc (.cells #[] 65)).heap.size = w.heap.size + 1 := by show (w.heap.push _).size = _; exact Array.size_push _
      rw [e] at this
      exact this, Reps.none _ _⟩⟩
  generalize (w.alloc (.cells #[] 65)).alloc (.cells #[] 67) = w0 at HB HO4 HO5 ⊢
  generalize Value.slice (some { block := w.heap.size, off := 0 }) 0 0 = v40 at HO4 ⊢
  generalize Value.slice (some { block := w.heap.size + 1, off := 0 }) 0 0 = v50 at HO5 ⊢
  go_loopg [4, 5, 6, 7] 8 (fun k v4 v5 v6 v7 W => ∃ i : Nat, Aside0 (i ≤ n ∧ i ≤ 6 ∧ k + i = 8) ∧ v6 = .int .i64 (i : Int) ∧ Aside0 (Kd.R k65 65 W w.heap.size (fun _ => True) v4 ((L.take i).map cutA)) ∧ Aside0 (Kd.R k67 67 W w.heap.size (fun _ => True) v5 (((L.take i).map cutA).map toA)) ∧ Aside0 (Below w.heap.size w W))
  case atStart => exact ⟨0, ⟨by omega, by omega, by omega⟩, rfl, HO4, HO5, HB⟩
  case round =>
    clear HO4 HO5 HB
    obtain ⟨i, HI, rfl, HO4, HO5, HB⟩ := hrel
    by_cases hi : i < n
    · have b1 : decide ((i : Int) < (n : Int)) = true := decide_eq_true (by omega)
      have b2 : decide (i < n) = true := decide_eq_true (by omega)
      have p1 : (0 : Int) ≤ (i : Int) := by omega
      have p2 : (i : Int) < (n : Int) := by omega
      by_cases h6 : i < 6
      · have b3 : decide ((i : Int) < 6) = true := decide_eq_true (by omega)
        obtain ⟨ad, e, h0, h1, h2, h3⟩ := at_T65 HR.out i p1 p2
        cases e
        rw [Int.toNat_natCast] at h0 h1 h2 h3
        replace h0 := (HB.out.cell (World.block_lt_of_cell? w _ h0)).trans h0
        replace h1 := (HB.out.cell (World.block_lt_of_cell? w _ h1)).trans h1
        replace h2 := (HB.out.cell (World.block_lt_of_cell? w _ h2)).trans h2
        replace h3 := (HB.out.cell (World.block_lt_of_cell? w _ h3)).trans h3
        have hrd : rd_T65 L (i : Int) = L.getD i z65 := rfl
        rw [hrd] at h0 h1 h2 h3
        have hs := attrs_snoc L i (by have := HN.out; omega)
        have hz : (L.getD i z65).f0.size ≤ 9223372036854775807 := HNM.out _ (by rw [List.getD_eq_getElem?_getD, List.getElem?_eq_getElem (by have := HN.out; omega)]; exact List.getElem_mem _)
        have HS := Aside0.mk hs
        clear hrd hs
        generalize L.getD i z65 = p at h0 h1 h2 h3 hz HS
        go_wp2_with fail
        refine (cut_P p.f0 20 _ hz (by omega)).mono ?_
        rintro e w1 ⟨rfl, rfl⟩
        generalize hcut : cutB p.f0 20 = nm
        have HC := Aside0.mk (show cutA p = ⟨nm, p.f1, p.f2, p.f3⟩ by unfold cutA; rw [hcut])
        clear hcut
        go_upto_region 7 with (fail)
        have KB7 : Aside0 ((wr.alloc (.cells #[.string nm, .int .i64 p.f1, .int .i64 p.f2, .int .i64 p.f3] 65)).heap[wr.heap.size]? = some (.cells #[.string nm, .int .i64 p.f1, .int .i64 p.f2, .int .i64 p.f3] 65 (0, 0))) := ⟨heap_alloc_new wr _⟩
        have HLV := Aside0.mk (fun k (hk : u4.ownBlock = some k) => (Kd.R_bound HO4.out).1 k hk |>.2.2.1)
        have n1_ := Aside0.mk (below_alloc HB.out (.cells #[.string nm, .int .i64 p.f1, .int .i64 p.f2, .int .i64 p.f3] 65))
        have n2_ := Aside0.mk (Kd.R_alloc HO4.out (.cells #[.string nm, .int .i64 p.f1, .int .i64 p.f2, .int .i64 p.f3] 65))
        have n3_ := Aside0.mk (Kd.R_alloc HO5.out (.cells #[.string nm, .int .i64 p.f1, .int .i64 p.f2, .int .i64 p.f3] 65))
        clear HB HO4 HO5 h0 h1 h2 h3
        have HB := n1_
        have HO4 := n2_
        have HO5 := n3_
        clear n1_ n2_ n3_
        generalize wr.alloc (.cells #[.string nm, .int .i64 p.f1, .int .i64 p.f2, .int .i64 p.f3] 65) = w2 at KB7 HB HO4 HO5 ⊢
        generalize wr.heap.size = g7 at KB7 HLV ⊢
        have y0 := (blk_cell KB7.out 0).trans (show _ = some (Value.string nm) from rfl)
        have y1 := (blk_cell KB7.out 1).trans (show _ = some (Value.int .i64 p.f1) from rfl)
        have y2 := (blk_cell KB7.out 2).trans (show _ = some (Value.int .i64 p.f2) from rfl)
        have y3 := (blk_cell KB7.out 3).trans (show _ = some (Value.int .i64 p.f3) from rfl)
        have hbd : ((L.take i).map cutA).length ≤ 6 := by simp; omega
        have hbd2 : (((L.take i).map cutA).map toA).length ≤ 6 := by simp; omega
        have HBD := Aside0.mk (And.intro hbd hbd2)
        clear hbd hbd2
        go_wp2_with (first
          | ((with_reducible refine gate_builtin (b := .append) (xs := #[.tmp 28, .tmp 30]) rfl ?_); at_builtin; go_loud (refine Kd.R_append k65 (w0 := w) w.heap.size rfl (.tmp 28) (.tmp 30) 33 65 (.agg #[(.string ⟨#[]⟩), (.int .i64 0), (.int .i64 0), (.int .i64 0)]) 40 rfl Try.underlying33 info65 rfl (by decide) (by omega) _ _ (⟨nm, p.f1, p.f2, p.f3⟩ : S65) [.string nm, .int .i64 p.f1, .int .i64 p.f2, .int .i64 p.f3] (fun _ => True) (fun _ => False) rfl ?aX ?aP (fun _ hk => hk.elim) ?aF HO4.out HB.out HB.out.size ?aL ?_; (case aX => first | rfl | (go_simp; done) | (go_simp; rfl)); (case aP => exact k65_mkM _ _ _ (⟨nm, p.f1, p.f2, p.f3⟩ : S65)); (case aF => exact (fun k hk => trivial)); (case aL => have := HBD.out; omega); intro v9 w9 ho hb hg hat; have n0_ := Aside0.mk ho; have n1_ := Aside0.mk hb; have n2_ := Aside0.mk ((hg.block _ (blk_lt KB7.out) (fun e => absurd (HLV.out _ e.symm) (Nat.lt_irrefl _))).trans KB7.out); have n3_ := Aside0.mk (Kd.R_mono (Kd.R_grown (Kd.R_apartR HO5.out HO4.out (by decide)) hg (fun k hk => hk.2)) (ok' := fun _ => True) (fun _ _ => trivial)); clear HO4 HO5 HB KB7 ho hb hg hat y0 y1 y2 y3; have HO4 := n0_; have HB := n1_; have KB7 := n2_; have HO5 := n3_; clear n0_ n1_ n2_ n3_; have y0 := (blk_cell KB7.out 0).trans (show _ = some (Value.string nm) from rfl); have y1 := (blk_cell KB7.out 1).trans (show _ = some (Value.int .i64 p.f1) from rfl); have y2 := (blk_cell KB7.out 2).trans (show _ = some (Value.int .i64 p.f2) from rfl); have y3 := (blk_cell KB7.out 3).trans (show _ = some (Value.int .i64 p.f3) from rfl)))
          | ((with_reducible refine gate_builtin (b := .append) (xs := #[.tmp 32, .tmp 34]) rfl ?_); at_builtin; go_loud (refine Kd.R_append k67 (w0 := w) w.heap.size rfl (.tmp 32) (.tmp 34) 34 67 (.agg #[(.string ⟨#[]⟩), (.int .i64 0), (.int .i64 0), (.int .i64 0)]) 40 rfl Try.underlying34 info67 rfl (by decide) (by omega) _ _ (⟨nm, p.f1, p.f2, p.f3⟩ : S67) [.string nm, .int .i64 p.f1, .int .i64 p.f2, .int .i64 p.f3] (fun _ => True) (fun _ => False) rfl ?aX ?aP (fun _ hk => hk.elim) ?aF HO5.out HB.out HB.out.size ?aL ?_; (case aX => first | rfl | (go_simp; done) | (go_simp; rfl)); (case aP => exact k67_mkM _ _ _ (⟨nm, p.f1, p.f2, p.f3⟩ : S67)); (case aF => exact (fun k hk => trivial)); (case aL => have := HBD.out; omega); intro v9 w9 ho hb hg hat; have n0_ := Aside0.mk ho; have n1_ := Aside0.mk hb; have n3_ := Aside0.mk (Kd.R_mono (Kd.R_grown (Kd.R_apartR HO4.out HO5.out (by decide)) hg (fun k hk => hk.2)) (ok' := fun _ => True) (fun _ _ => trivial)); clear HO4 HO5 HB KB7 ho hb hg hat y0 y1 y2 y3; have HO5 := n0_; have HB := n1_; have HO4 := n3_; clear n0_ n1_ n3_)))
        go_roundg (gk - 1)
        case measure => have := HI.out; omega
        case rel => exact ⟨i + 1, ⟨by omega, by omega, by have := HI.out; omega⟩, rfl, ⟨by rw [HS.out, HC.out]; exact HO4.out⟩, ⟨by rw [HS.out, HC.out, List.map_append]; exact HO5.out⟩, HB⟩
      · have b3 : decide ((i : Int) < 6) = false := decide_eq_false (by omega)
        have hE : attrsOf L = (L.take i).map cutA := by unfold attrsOf; rw [show i = 6 by have := HI.out; omega]
        have HE := Aside0.mk hE
        clear hE
        rw [← HE.out] at HO4 HO5
        have hfin := And.intro HO4.out (And.intro HO5.out HB.out)
        go_wp2
        go_ret2
        exact ⟨_, _, rfl, hfin⟩
    · have b1 : decide ((i : Int) < (n : Int)) = false := decide_eq_false (by omega)
      have b2 : decide (i < n) = false := decide_eq_false (by omega)
      have hE : attrsOf L = (L.take i).map cutA := by
        unfold attrsOf
        have h1 : L.length ≤ i := by have := HN.out; omega
        rw [List.take_of_length_le h1, List.take_of_length_le (by have := HI.out; omega)]
      have HE := Aside0.mk hE
      clear hE
      rw [← HE.out] at HO4 HO5
      have hfin := And.intro HO4.out (And.intro HO5.out HB.out)
      clear hi
      go_wp2
      go_ret2
      exact ⟨_, _, rfl, hfin⟩
end Go.Proofs.Ytlokmijoaocofaa.Mine
end
section
/-
  An argument that is a schema: opened to its list of attributes. No condition.
-/
namespace Go.Proofs.Ytlokmijoaocofaa.Mine
open Go.ChangeShapes Go.WideShapes Go.ChangeAt Go.Deep Go.RowKit Go.Proofs.YtlokmijoaocofaaW.PrintWords Go.Proofs.YtlokmijoaocofaaW.PrintLast Go.Proofs.YtlokmijoaocofaaW.PrintMore
open Go.Proofs.Ytlokmijoaocofaa.PBoardAgain
set_option maxRecDepth 100000 in
theorem open_schema {H : Type} {enc : TypeId × Value → H} {W : World} {v : Value} {d : DataW H} {p : List MemPlace} {r : Reach} {b0 : Nat} (hv : Value.okWide Try.prog W r b0 33 v) (h : DataW.Trod enc Try.prog W 0 (fun _ => true) true 33 v d p) :
    ∃ (A : Option Addr) (n c : Nat) (L : List S65), v = .slice A n c ∧ L.length = n ∧ n ≤ c ∧ c ≤ maxLen ∧ Kd.C k65 W A n L ∧ ∀ x ∈ L, x.f0.size ≤ maxLen ∧ (Lit.int .i64 x.f1).wf = true ∧ (Lit.int .i64 x.f2).wf = true ∧ (Lit.int .i64 x.f3).wf = true := by
  obtain ⟨A, n, c, rfl⟩ := okWide_slice Try.underlying33 hv
  obtain ⟨fuel, hf⟩ := h
  rcases open_slice_fields Try.underlying33 Try.underlying65 (by kernel_rfl) (by kernel_rfl) hf with ⟨hcs, _⟩ | ⟨a, len, cap, m, D, Pl, hcs, _, hl, hm, hmm, hx, hi⟩
  · simp [Value.cells] at hcs
    obtain ⟨rfl, rfl, rfl⟩ := hcs
    exact ⟨none, 0, 0, [], rfl, rfl, Nat.le_refl _, Nat.zero_le _, Kd.C_nil _ _, by simp⟩
  · simp [Value.cells] at hcs
    obtain ⟨rfl, rfl, rfl⟩ := hcs
    rw [if_pos rfl] at hmm
    subst hmm
    obtain ⟨L, hL, hat⟩ := pick (fun i (x : S65) => (x.f0.size ≤ maxLen ∧ (Lit.int .i64 x.f1).wf = true ∧ (Lit.int .i64 x.f2).wf = true ∧ (Lit.int .i64 x.f3).wf = true) ∧ ∀ j u, ([Value.string x.f0, .int .i64 x.f1, .int .i64 x.f2, .int .i64 x.f3])[j]? = some u → W.cell? (a.add (i * ([Value.string x.f0, .int .i64 x.f1, .int .i64 x.f2, .int .i64 x.f3]).length + j)) = some u) n (fun i hin => by
      obtain ⟨ys, q, _, _, _, hfl⟩ := hi i (by omega)
      obtain ⟨v0, y0, c0, _, t0⟩ := hfl 0 _ rfl; obtain ⟨v1, y1, c1, _, t1⟩ := hfl 1 _ rfl; obtain ⟨v2, y2, c2, _, t2⟩ := hfl 2 _ rfl; obtain ⟨v3, y3, c3, _, t3⟩ := hfl 3 _ rfl; obtain ⟨s0, e0, _, z0⟩ := DataW.trod_string Try.underlying9 t0; obtain ⟨s1, e1, _, z1⟩ := DataW.trod_int Try.underlying3 t1; obtain ⟨s2, e2, _, z2⟩ := DataW.trod_int Try.underlying3 t2; obtain ⟨s3, e3, _, z3⟩ := DataW.trod_int Try.underlying3 t3; obtain rfl := List.singleton_inj.1 e0; obtain rfl := List.singleton_inj.1 e1; obtain rfl := List.singleton_inj.1 e2; obtain rfl := List.singleton_inj.1 e3; refine ⟨⟨s0, s1, s2, s3⟩, ⟨z0, z1, z2, z3⟩, fun j u hj => ?_⟩; match j, hj with | 0, hj => (obtain rfl := Option.some.inj hj; exact c0) | 1, hj => (obtain rfl := Option.some.inj hj; exact c1) | 2, hj => (obtain rfl := Option.some.inj hj; exact c2) | 3, hj => (obtain rfl := Option.some.inj hj; exact c3))
    refine ⟨some a, n, m, L, rfl, hL, hl, hm, ⟨hL, by have : maxLen = 9223372036854775807 := rfl; omega, fun _ => ⟨a, rfl, fun j x hj => ?_⟩⟩, fun x hx => ?_⟩
    · exact ⟨[Value.string x.f0, .int .i64 x.f1, .int .i64 x.f2, .int .i64 x.f3], rfl, k65_mk W x, (hat j x hj).2⟩
    · obtain ⟨j, hj, rfl⟩ := List.getElem_of_mem hx
      exact (hat j _ (List.getElem?_eq_getElem hj)).1
end Go.Proofs.Ytlokmijoaocofaa.Mine
end
section
/-
  An argument that is a list of calls (Act): opened to a list; what one of them reads as. No condition.
-/
namespace Go.Proofs.Ytlokmijoaocofaa.Mine
open Go.ChangeShapes Go.WideShapes Go.ChangeAt Go.Deep Go.RowKit Go.Proofs.YtlokmijoaocofaaW.PrintWords Go.Proofs.YtlokmijoaocofaaW.PrintLast Go.Proofs.YtlokmijoaocofaaW.PrintMore
open Go.Proofs.Ytlokmijoaocofaa.PBoardAgain
structure ActR where
  kind : Int
  pub : Int
  seq : Int
  node : Int
  sub : Int
  text : ByteArray
  A : Option Addr
  n : Nat
  c : Nat
  V : List SV
  pay : ByteArray
def actCells (a : ActR) : List Value := [.int .i64 a.kind, .int .i64 a.pub, .int .i64 a.seq, .int .i64 a.node, .int .i64 a.sub, .string a.text, .slice a.A a.n a.c, .string a.pay]
structure ActOk (w : World) (a : ActR) : Prop where
  kind : (Lit.int .i64 a.kind).wf = true
  pub : (Lit.int .i64 a.pub).wf = true
  seq : (Lit.int .i64 a.seq).wf = true
  node : (Lit.int .i64 a.node).wf = true
  sub : (Lit.int .i64 a.sub).wf = true
  text : a.text.size ≤ maxLen
  len : a.V.length = a.n
  cap : a.n ≤ a.c
  big : a.c ≤ maxLen
  vals : Kd.C k63 w a.A a.n a.V
  size : ∀ x ∈ a.V, x.f1.size ≤ maxLen
  pay : a.pay.size ≤ maxLen
theorem ActOk.below {w w' : World} {a : ActR} (h : ActOk w a) (hb : Below w.heap.size w w') : ActOk w' a := ⟨h.kind, h.pub, h.seq, h.node, h.sub, h.text, h.len, h.cap, h.big, Kd.C_below h.vals hb, h.size, h.pay⟩
def ActsIs (w : World) (A : Option Addr) (n : Nat) (L : List ActR) : Prop :=
  L.length = n ∧ n ≤ maxLen ∧ (0 < n → ∃ ad, A = some ad ∧ ∀ i a, L[i]? = some a → ∀ j u, (actCells a)[j]? = some u → w.cell? (ad.add (i * 8 + j)) = some u) ∧ ∀ a ∈ L, ActOk w a
theorem cell_below {w w' : World} (hb : Below w.heap.size w w') {a : Addr} {u : Value} (h : w.cell? a = some u) : w'.cell? a = some u := (hb.cell (World.block_lt_of_cell? w _ h)).trans h
theorem ActsIs.below {w w' : World} {A : Option Addr} {n : Nat} {L : List ActR} (h : ActsIs w A n L) (hb : Below w.heap.size w w') : ActsIs w' A n L :=
  ⟨h.1, h.2.1, fun hn => by
    obtain ⟨ad, e, hc⟩ := h.2.2.1 hn
    exact ⟨ad, e, fun i a hi j u hj => cell_below hb (hc i a hi j u hj)⟩, fun a ha => (h.2.2.2 a ha).below hb⟩
theorem at_act {w : World} {A : Option Addr} {n : Nat} {L : List ActR} (h : ActsIs w A n L) (i : Nat) (hi : i < n) :
    ∃ ad a, A = some ad ∧ L[i]? = some a ∧ ActOk w a ∧ w.cell? (ad.add ((i : Int).toNat * 8)) = some (.int .i64 a.kind) ∧ w.cell? ⟨(ad.add ((i : Int).toNat * 8)).block, (ad.add ((i : Int).toNat * 8)).off + 1, none⟩ = some (.int .i64 a.pub) ∧ w.cell? ⟨(ad.add ((i : Int).toNat * 8)).block, (ad.add ((i : Int).toNat * 8)).off + 2, none⟩ = some (.int .i64 a.seq) ∧
      w.cell? ⟨(ad.add ((i : Int).toNat * 8)).block, (ad.add ((i : Int).toNat * 8)).off + 3, none⟩ = some (.int .i64 a.node) ∧ w.cell? ⟨(ad.add ((i : Int).toNat * 8)).block, (ad.add ((i : Int).toNat * 8)).off + 4, none⟩ = some (.int .i64 a.sub) ∧ w.cell? ⟨(ad.add ((i : Int).toNat * 8)).block, (ad.add ((i : Int).toNat * 8)).off + 5, none⟩ = some (.string a.text) ∧
      w.cell? ⟨(ad.add ((i : Int).toNat * 8)).block, (ad.add ((i : Int).toNat * 8)).off + 6, none⟩ = some (.slice a.A a.n a.c) ∧ w.cell? ⟨(ad.add ((i : Int).toNat * 8)).block, (ad.add ((i : Int).toNat * 8)).off + 7, none⟩ = some (.string a.pay) := by
  obtain ⟨ad, e, hc⟩ := h.2.2.1 (by omega)
  have hl : i < L.length := by rw [h.1]; exact hi
  have ha : L[i]? = some L[i] := List.getElem?_eq_getElem hl
  have hcs := hc i _ ha
  have e1 : (i : Int).toNat = i := rfl
  rw [e1]
  exact ⟨ad, L[i], e, ha, h.2.2.2 _ (List.getElem_mem hl), hcs 0 _ rfl, by rw [← add_field _ _ 1 (by omega)]; exact hcs 1 _ rfl, by rw [← add_field _ _ 2 (by omega)]; exact hcs 2 _ rfl, by rw [← add_field _ _ 3 (by omega)]; exact hcs 3 _ rfl, by rw [← add_field _ _ 4 (by omega)]; exact hcs 4 _ rfl, by rw [← add_field _ _ 5 (by omega)]; exact hcs 5 _ rfl, by rw [← add_field _ _ 6 (by omega)]; exact hcs 6 _ rfl, by rw [← add_field _ _ 7 (by omega)]; exact hcs 7 _ rfl⟩
set_option maxRecDepth 100000 in
theorem open_acts {H : Type} {enc : TypeId × Value → H} {W : World} {v : Value} {d : DataW H} {p : List MemPlace} {r : Reach} {b0 : Nat} (hv : Value.okWide Try.prog W r b0 53 v) (h : DataW.Trod enc Try.prog W 0 (fun _ => true) true 53 v d p) :
    ∃ (A : Option Addr) (n c : Nat) (L : List ActR), v = .slice A n c ∧ n ≤ c ∧ c ≤ maxLen ∧ ActsIs W A n L := by
  obtain ⟨A, n, c, rfl⟩ := okWide_slice Try.underlying53 hv
  obtain ⟨fuel, hf⟩ := h
  rcases open_slice Try.underlying53 hf with ⟨hcs, _⟩ | ⟨a, len, cap, m, q, D, Pl, hcs, _, hl, hm, hmm, hx, hi⟩
  · simp [Value.cells] at hcs
    obtain ⟨rfl, rfl, rfl⟩ := hcs
    exact ⟨none, 0, 0, [], rfl, Nat.le_refl _, Nat.zero_le _, rfl, Nat.zero_le _, fun h => absurd h (by omega), by simp⟩
  · simp [Value.cells] at hcs
    obtain ⟨rfl, rfl, rfl⟩ := hcs
    rw [if_pos rfl] at hmm
    subst hmm
    have hC : Try.prog.cellsOf 55 = 8 := by kernel_rfl
    have hCe : Try.prog.cellsOf 24 = 2 := by kernel_rfl
    have hC3 : Try.prog.cellsOf 3 = 1 := by kernel_rfl
    have hC9 : Try.prog.cellsOf 9 = 1 := by kernel_rfl
    have hCv : Try.prog.cellsOf 22 = 1 := by kernel_rfl
    obtain ⟨L, hL, hat⟩ := pick (fun i (x : ActR) => ActOk W x ∧ ∀ j u, (actCells x)[j]? = some u → W.cell? (a.add (i * 8 + j)) = some u) n (fun i hin => by
      obtain ⟨cs', hc, ht'⟩ := hi i (by omega)
      rw [hC] at hc
      obtain ⟨_, hcl, hcat⟩ := World.cells?_some hc
      obtain ⟨ys, n', hn', hy, hlen, hyl, hfd⟩ := DataW.trod_struct Try.underlying55 ht'
      match cs', hcl with
      | [u0, u1, u2, u3, u4, u5, u6, u7], _ =>
        have g0 : DataW.trod enc Try.prog W 0 (fun _ => true) true n' 3 (([u0, u1, u2, u3, u4, u5, u6, u7].drop 0).take (Try.prog.cellsOf 3)) = ys[0]? := hfd 0 _ rfl
        have g1 : DataW.trod enc Try.prog W 0 (fun _ => true) true n' 3 (([u0, u1, u2, u3, u4, u5, u6, u7].drop 1).take (Try.prog.cellsOf 3)) = ys[1]? := hfd 1 _ rfl
        have g2 : DataW.trod enc Try.prog W 0 (fun _ => true) true n' 3 (([u0, u1, u2, u3, u4, u5, u6, u7].drop 2).take (Try.prog.cellsOf 3)) = ys[2]? := hfd 2 _ rfl
        have g3 : DataW.trod enc Try.prog W 0 (fun _ => true) true n' 3 (([u0, u1, u2, u3, u4, u5, u6, u7].drop 3).take (Try.prog.cellsOf 3)) = ys[3]? := hfd 3 _ rfl
        have g4 : DataW.trod enc Try.prog W 0 (fun _ => true) true n' 3 (([u0, u1, u2, u3, u4, u5, u6, u7].drop 4).take (Try.prog.cellsOf 3)) = ys[4]? := hfd 4 _ rfl
        have g5 : DataW.trod enc Try.prog W 0 (fun _ => true) true n' 9 (([u0, u1, u2, u3, u4, u5, u6, u7].drop 5).take (Try.prog.cellsOf 9)) = ys[5]? := hfd 5 _ rfl
        have g6 : DataW.trod enc Try.prog W 0 (fun _ => true) true n' 24 (([u0, u1, u2, u3, u4, u5, u6, u7].drop 6).take (Try.prog.cellsOf 24)) = ys[6]? := hfd 6 _ rfl
        rw [hC3, List.getElem?_eq_getElem (by rw [hyl]; decide)] at g0 g1 g2 g3 g4
        rw [hC9, List.getElem?_eq_getElem (by rw [hyl]; decide)] at g5
        rw [hCe, List.getElem?_eq_getElem (by rw [hyl]; decide)] at g6
        obtain ⟨s0, q0, _, z0⟩ := DataW.trod_int Try.underlying3 g0
        obtain ⟨s1, q1, _, z1⟩ := DataW.trod_int Try.underlying3 g1
        obtain ⟨s2, q2, _, z2⟩ := DataW.trod_int Try.underlying3 g2
        obtain ⟨s3, q3, _, z3⟩ := DataW.trod_int Try.underlying3 g3
        obtain ⟨s4, q4, _, z4⟩ := DataW.trod_int Try.underlying3 g4
        obtain ⟨s5, q5, _, z5⟩ := DataW.trod_string Try.underlying9 g5
        obtain ⟨ys6, n6, _, _, _, hyl6, hfd6⟩ := DataW.trod_struct Try.underlying24 g6
        have g60 : DataW.trod enc Try.prog W 0 (fun _ => true) true n6 22 (([u6, u7].drop 0).take (Try.prog.cellsOf 22)) = ys6[0]? := hfd6 0 _ rfl
        have g61 : DataW.trod enc Try.prog W 0 (fun _ => true) true n6 9 (([u6, u7].drop 1).take (Try.prog.cellsOf 9)) = ys6[1]? := hfd6 1 _ rfl
        rw [hCv] at g60
        rw [List.getElem?_eq_getElem (by rw [hyl6]; decide)] at g60
        rw [hC9, List.getElem?_eq_getElem (by rw [hyl6]; decide)] at g61
        obtain ⟨A6, n7, c6, L6, q6, h1, h2, h3, h4, h5⟩ := open_vals g60
        obtain ⟨s7, q7, _, z7⟩ := DataW.trod_string Try.underlying9 g61
        obtain rfl := List.singleton_inj.1 q0
        obtain rfl := List.singleton_inj.1 q1
        obtain rfl := List.singleton_inj.1 q2
        obtain rfl := List.singleton_inj.1 q3
        obtain rfl := List.singleton_inj.1 q4
        obtain rfl := List.singleton_inj.1 q5
        obtain rfl := q6
        obtain rfl := List.singleton_inj.1 q7
        refine ⟨⟨s0, s1, s2, s3, s4, s5, A6, n7, c6, L6, s7⟩, ⟨z0, z1, z2, z3, z4, z5, h1, h2, h3, h4, h5, z7⟩, fun j u hj => ?_⟩
        have hj8 : j < 8 := (List.getElem?_eq_some_iff.1 hj).1
        have := hcat j hj8
        rw [Go.Deep.add_add] at this
        exact this.trans hj)
    refine ⟨some a, n, m, L, rfl, hl, hm, hL, by omega, fun _ => ⟨a, rfl, fun i x hx => (hat i x hx).2⟩, fun x hx => ?_⟩
    obtain ⟨j, hj, rfl⟩ := List.getElem_of_mem hx
    exact (hat j _ (List.getElem?_eq_getElem hj)).1
end Go.Proofs.Ytlokmijoaocofaa.Mine
end
section
/-
  A map whose entries are struck where a test on the key says so; how many they are. Conditions: the keys are all of one make.
-/
namespace Go.Proofs.Ytlokmijoaocofaa.Mine
open Go.Maps Go.ChangeMaps Go.MapKept Go.RowKit
open Go.WideElems (Fit rd rg pl rd_val elemAt rg_of rd_key)
theorem filt_split {β : Type} (t : β → Bool) (l : List β) : l.length = (l.filter t).length + (l.filter fun x => !t x).length := by
  induction l with
  | nil => rfl
  | cons a r ih => cases h : t a <;> simp [h] <;> omega
section
variable {α : Type} {P : Program} {k : TypeId} {kv : α → Value} {p : α → Bool} {es0 : List (Lit × DataW Value)} {f : α → Option Value}
open Classical in
noncomputable def keyPd (P : Program) (k : TypeId) (kv : α → Value) (p : α → Bool) : Lit → DataW Value → Bool := fun l _ => decide (∃ x, keyOf P k (kv x) = some l ∧ p x = true)
open Classical in
theorem keyPd_at (K : Keyed P k) (hinj : ∀ x y, kv x = kv y → x = y) {x : α} {l : Lit} (hk : keyOf P k (kv x) = some l) (d : DataW Value) : keyPd P k kv p l d = p x := by
  unfold keyPd
  cases hp : p x with
  | true => exact decide_eq_true ⟨x, hk, hp⟩
  | false =>
    refine decide_eq_false ?_
    rintro ⟨y, hy, hpy⟩
    rw [hinj _ _ (K.inj hy hk), hp] at hpy
    cases hpy
theorem Holds.gone (K : Keyed P k) (hinj : ∀ x y, kv x = kv y → x = y) (h : Holds P k kv (.map es0) f) (hap : es0.Pairwise (fun p q => p.1 ≠ q.1)) (hkeys : ∀ q ∈ es0, WideAt.IsKeyLit q.1) :
    Holds P k kv (Lib.deleteFuncD (keyPd P k kv p) (.map es0)) (fun x => if p x then none else f x) := by
  intro x l hk
  obtain ⟨h1, h2⟩ := h x l hk
  have hkl := K.key hk
  show Maps.has (Lib.deleteFuncD (keyPd P k kv p) (.map es0)) l = (if p x = true then none else f x).isSome ∧ ∀ v, (if p x = true then none else f x) = some v → ∀ zd, (Lib.deleteFuncD (keyPd P k kv p) (.map es0)).atKey l zd = .held v
  unfold Lib.deleteFuncD
  cases hp : p x with
  | true =>
    rw [if_pos rfl]
    refine ⟨?_, fun v hv => by cases hv⟩
    show ((es0.filter fun q => !keyPd P k kv p q.1 q.2).any (fun q => q.1.sameKey l)) = _
    rw [List.any_eq_false.2]
    · rfl
    · intro q hq hs
      have e := WideAt.sameKey_eq hs
      obtain ⟨_, h4⟩ := List.mem_filter.1 hq
      rw [e, keyPd_at K hinj hk, hp] at h4
      cases h4
  | false =>
    rw [if_neg (by decide)]
    have hh : ∀ q ∈ es0, q.1.sameKey l = true → q ∈ es0.filter fun q => !keyPd P k kv p q.1 q.2 := fun q hq hs => List.mem_filter.2 ⟨hq, by
      rw [WideAt.sameKey_eq hs, keyPd_at K hinj hk, hp]
      rfl⟩
    refine ⟨?_, fun v hv zd => ?_⟩
    · show ((es0.filter fun q => !keyPd P k kv p q.1 q.2).any (fun q => q.1.sameKey l)) = _
      rw [← h1]
      show _ = es0.any (fun q => q.1.sameKey l)
      rw [Bool.eq_iff_iff, List.any_eq_true, List.any_eq_true]
      constructor
      · rintro ⟨q, hq, hs⟩
        exact ⟨q, (List.mem_filter.1 hq).1, hs⟩
      · rintro ⟨q, hq, hs⟩
        exact ⟨q, hh q hq hs, hs⟩
    · have h5 : es0.any (fun q => q.1.sameKey l) = true := by
        have h6 : es0.any (fun q => q.1.sameKey l) = (f x).isSome := h1
        rw [h6, hv]
        rfl
      obtain ⟨q, hq, hs⟩ := List.any_eq_true.1 h5
      have e := WideAt.sameKey_eq hs
      have hq' : (l, q.2) ∈ es0 := by rw [← e]; exact hq
      have h7 : (DataW.map es0).atKey l zd = q.2 := WideAt.atKey_mem zd hkl hap hq'
      rw [h2 v hv zd] at h7
      have hq2 := hh q hq hs
      have hq2' : (l, q.2) ∈ es0.filter fun q => !keyPd P k kv p q.1 q.2 := by rw [← e]; exact hq2
      have h8 : (DataW.map (es0.filter fun q => !keyPd P k kv p q.1 q.2)).atKey l zd = q.2 := WideAt.atKey_mem zd hkl (hap.filter _) hq2'
      exact h8.trans h7.symm
theorem keys_of {w : World} {R : Value → Option (DataW Value × List MemPlace)} {b n : Nat} (h : w.ownsMap P k R b n (.map es0)) (inv : ∀ key kl, keyOf P k key = some kl → ∃ x, key = kv x) : ∀ q ∈ es0, ∃ x, keyOf P k (kv x) = some q.1 := by
  obtain ⟨es, clock, _, F, _, he⟩ := h
  intro q hq
  injection he with he
  rw [he] at hq
  obtain ⟨x, hx, rfl⟩ := List.mem_map.1 (mem_sorted.1 hq)
  obtain ⟨y, hy⟩ := F.reads x hx
  rw [rg_of hy]
  obtain ⟨z, hz⟩ := inv _ _ (rd_key hy)
  exact ⟨z, by rw [← hz]; exact rd_key hy⟩
theorem count_gone (K : Keyed P k) (hinj : ∀ x y, kv x = kv y → x = y) (h : Holds P k kv (.map es0) f) (hap : es0.Pairwise (fun p q => p.1 ≠ q.1)) (hall : ∀ q ∈ es0, ∃ x, keyOf P k (kv x) = some q.1)
    {ks : List α} (hn : ks.Nodup) (hks : ∀ x, x ∈ ks ↔ ((∃ l, keyOf P k (kv x) = some l) ∧ (f x).isSome = true ∧ p x = true)) :
    es0.length - (es0.filter fun q => !keyPd P k kv p q.1 q.2).length = ks.length := by
  have hlen : es0.length - (es0.filter fun q => !keyPd P k kv p q.1 q.2).length = (es0.filter fun q => keyPd P k kv p q.1 q.2).length := by
    have := filt_split (fun q : Lit × DataW Value => keyPd P k kv p q.1 q.2) es0
    omega
  rw [hlen]
  let kl : α → Lit := fun x => (keyOf P k (kv x)).getD (.bool false)
  have hkl : ∀ x l, keyOf P k (kv x) = some l → kl x = l := fun x l h => by show (keyOf P k (kv x)).getD _ = _; rw [h]; rfl
  have n1 : (ks.map kl).Nodup := by
    rw [List.Nodup, List.pairwise_map]
    refine List.Pairwise.imp_of_mem ?_ hn
    intro x y hx hy hne e
    obtain ⟨⟨lx, h1⟩, _⟩ := (hks x).1 hx
    obtain ⟨⟨ly, h2⟩, _⟩ := (hks y).1 hy
    rw [hkl x lx h1, hkl y ly h2] at e
    exact hne (hinj _ _ (K.inj h1 (e ▸ h2)))
  have n2 : ((es0.filter fun q => keyPd P k kv p q.1 q.2).map (·.1)).Nodup := by
    rw [List.Nodup, List.pairwise_map]
    exact hap.filter _
  have hm : ∀ l, l ∈ ks.map kl ↔ l ∈ (es0.filter fun q => keyPd P k kv p q.1 q.2).map (·.1) := by
    intro l
    rw [List.mem_map, List.mem_map]
    constructor
    · rintro ⟨x, hx, rfl⟩
      obtain ⟨⟨l, h1⟩, h2, h3⟩ := (hks x).1 hx
      rw [hkl x l h1]
      have h4 := (h x l h1).1
      rw [h2] at h4
      obtain ⟨q, hq, hs⟩ := List.any_eq_true.1 (show es0.any (fun q => q.1.sameKey l) = true from h4)
      have e := WideAt.sameKey_eq hs
      exact ⟨q, List.mem_filter.2 ⟨hq, by rw [e, keyPd_at K hinj h1]; exact h3⟩, e⟩
    · rintro ⟨q, hq, rfl⟩
      obtain ⟨hq, hp⟩ := List.mem_filter.1 hq
      obtain ⟨x, h1⟩ := hall q hq
      rw [keyPd_at K hinj h1] at hp
      refine ⟨x, (hks x).2 ⟨⟨_, h1⟩, ?_, hp⟩, hkl x _ h1⟩
      rw [← (h x _ h1).1]
      exact List.any_eq_true.2 ⟨q, hq, WideAt.sameKey_self (K.key h1)⟩
  have := ((List.perm_ext_iff_of_nodup n1 n2).2 hm).length_eq
  simpa using this.symm
end
end Go.Proofs.Ytlokmijoaocofaa.Mine
end
section
/-
  (*Board).Gone walked: all subscriptions of a node go. Conditions: the maps at most a million entries.
-/
namespace Go.Proofs.Ytlokmijoaocofaa.Mine
open Go.Maps Go.RowKit Go.Proofs.YtlokmijoaocofaaW.PrintWords Go.Proofs.YtlokmijoaocofaaW.PrintLast Go.Proofs.YtlokmijoaocofaaW.PrintMore
open Go.Proofs.Ytlokmijoaocofaa.PBoardAgain
def Bd.gone (B : Bd) (n : Int) : Bd := { B with subs := fun x => if (x.1 == n) = true then none else B.subs x }
def GonePost (base g : Nat) (S : List SA) (B : Bd) (N : Nat) (n : Int) (w : World) (e : Ending) (w' : World) : Prop :=
  Kept base w w' ∧ IsBd base w' g S (B.gone n) N ∧ ∃ r : Nat, e = .returned (.int .i64 (r : Int)) ∧ ∀ ks : List P2, ks.Nodup → (∀ x, x ∈ ks ↔ (wf2 x ∧ (B.subs x).isSome = true ∧ (x.1 == n) = true)) → r = ks.length
theorem who_wf_iff (x : P2) : (∃ l, keyOf Try.prog tW (k2 x) = some l) ↔ wf2 x := ⟨fun ⟨_, h⟩ => who_wf h, key_who⟩
set_option maxHeartbeats 8000000 in
set_option maxRecDepth 100000 in
theorem gone_calls (base g N : Nat) (n : Int) (S : List SA) (B : Bd) (w : World) (hb : IsBd base w g S B N) (hN : N ≤ 1000000) :
    Calls Try.prog 19 #[.pointer (some ⟨g, 0, none⟩), .int .i64 n] w (GonePost base g S B N n w) := by
  obtain ⟨A, m, cS, be, bs, bg, fe, fs, fg, h1, ⟨h2, h3, h4⟩, m1, m2, m3, hne, hba, e1, e2, e3⟩ := hb
  obtain ⟨es, cl, hobj⟩ := m2.obj
  obtain ⟨D, hown, hhold⟩ := m2
  obtain ⟨es0, rfl, hap, hkeys⟩ := hown.entries lawWho
  have hall := keys_of (kv := k2) hown (fun key kl h => by obtain ⟨x, h1, _⟩ := key_who_inv h; exact ⟨x, h1⟩)
  have hgne : some g ≠ some bs := by
    intro e
    injection e with e
    subst e
    rw [h1] at hobj
    cases hobj
  obtain ⟨pd, hpd⟩ : ∃ pd, pd = keyPd Try.prog tW k2 (fun x : P2 => x.1 == n) := ⟨_, rfl⟩
  have hpdat : ∀ (x : P2) l d, keyOf Try.prog tW (k2 x) = some l → pd l d = (x.1 == n) := fun x l d hk => by rw [hpd]; exact keyPd_at lawWho (fun _ _ => k2_inj) hk d
  have hle0 : es0.length ≤ N := hown.size_le
  have hg1 := hhold.gone (p := fun x : P2 => x.1 == n) lawWho (fun _ _ => k2_inj) hap hkeys
  rw [← hpd] at hg1
  have HFIN := Aside0.mk (fun (w' : World) (hgr : w.grownBy w' (some bs)) (hw : w'.ownsMap Try.prog tW rawR bs N (Lib.deleteFuncD pd (.map es0))) => show GonePost base g S B N n w (.returned (.int .i64 ((es0.length - (es0.filter fun q => !pd q.1 q.2).length : Nat) : Int))) w' from by
    refine ⟨Kept.turned hobj hgr hba.2.2.1, ⟨A, m, cS, be, bs, bg, fe, _, fg, (hgr.block g (blk_lt h1) hgne).trans h1, ⟨h2, h3, CA_turned hobj hgr h4⟩, m1.other hgr hne.1, ⟨_, hw, hg1⟩, m3.other hgr hne.2.2.symm, hne, hba, e1.turned hobj hgr, fun x => ?_, e3⟩, _, rfl, fun ks hn hks => ?_⟩
    · have h5 := (e2.turned hobj hgr) x
      by_cases hx : (x.1 == n) = true
      · have a1 : (if (x.1 == n) = true then none else fs x) = none := if_pos hx
        have a2 : (B.gone n).subs x = none := if_pos hx
        exact ⟨fun _ => a1, fun F hF => by rw [a2] at hF; cases hF⟩
      · have a1 : (if (x.1 == n) = true then none else fs x) = fs x := if_neg hx
        have a2 : (B.gone n).subs x = B.subs x := if_neg hx
        refine ⟨fun h => a1.trans (h5.1 (a2.symm.trans h)), fun F hF => ?_⟩
        obtain ⟨A6, n6, c6, h6, h7⟩ := h5.2 F (a2.symm.trans hF)
        exact ⟨A6, n6, c6, a1.trans h6, h7⟩
    · rw [hpd]
      refine count_gone lawWho (fun _ _ => k2_inj) hhold hap hall hn (fun x => ?_)
      rw [hks, who_wf_iff]
      have : (B.subs x).isSome = (fs x).isSome := by
        cases hs : B.subs x with
        | none => rw [(e2 x).1 hs]; rfl
        | some F => obtain ⟨_, _, _, h5, _⟩ := (e2 x).2 F hs; rw [h5]; rfl
      rw [this])
  have HG := Aside0.mk h1
  have HNE := Aside0.mk hgne
  have HPD := Aside0.mk hpdat
  have HAP := Aside0.mk hap
  have HKS := Aside0.mk hkeys
  have HLE := Aside0.mk hle0
  have hln : ∀ ty, (Builtin.len_ #[71] ty #[.map (some bs)]).run Try.prog w = .ok (.int .i64 (es0.length : Nat)) w := fun ty => hown.len Try.underlying71 ty
  have y2 := (blk_cell h1 2).trans (show _ = some (Value.map (some bs)) from rfl)
  clear hpd hpdat hap hkeys hle0 hg1 hall hhold h1 h2 h4 m1 m3 hne hba e1 e2 e3 hgne hobj
  generalize GonePost base g S B N n w = POST at HFIN ⊢
  go_enter Try.func19, Try.ntmps19
  go_wp2_with (first
    | (at_range; refine wpList_range_own _ rfl _ 71 rfl 43 76 lawWho Try.underlying71 _ bs N _ rfl hown ?_; intro w0 hrg0 hg0 hs0)
    | go_in)
  go_frame
  have HRG := Aside0.mk (show w0.ranges Try.prog tW rawR bs w.heap.size N (Fk pd es0 (Maps.has (.map es0))) (Maps.has (.map es0)) (Maps.size (.map es0)) by rw [Fk_start HKS.out]; exact hrg0)
  have HGR := Aside0.mk (hg0.but (some bs))
  clear hrg0 hg0 hs0 hown hln y2
  go_loopw [6] (fun _ wr => ∃ (left : Lit → Bool) (cnt : Nat), Aside0 (wr.ranges Try.prog tW rawR bs w.heap.size N (Fk pd es0 left) left cnt) ∧ Aside0 (w.grownBy wr (some bs)))
    (fun _ wr => wr.rangeLeft bs w.heap.size)
  case atStart => exact ⟨_, _, HRG, HGR⟩
  case round =>
    clear HRG HGR
    obtain ⟨left, cnt, HRG, HGR⟩ := hrel
    go_wp2_with (first
      | (at_next; refine next_who _ rfl _ rfl bs w.heap.size N _ _ _ rfl HRG.out ?_ ?_)
      | go_in)
    · intro hl0
      have hw := HRG.out.owns
      rw [Fk_end hl0.out] at hw
      have hfin := HFIN.out wr HGR.out hw
      have hln : ∀ ty, (Builtin.len_ #[71] ty #[.map (some bs)]).run Try.prog wr = .ok (.int .i64 ((es0.filter fun q => !pd q.1 q.2).length : Nat)) wr := fun ty => hw.len Try.underlying71 ty
      have hle : (es0.filter fun q => !pd q.1 q.2).length ≤ es0.length := List.length_filter_le _ _
      have hl2 := HLE.out
      clear hw
      generalize (es0.filter fun q => !pd q.1 q.2).length = k1 at hln hle hfin
      generalize es0.length = k0 at hle hl2 hfin ⊢
      have e0 : ((k0 - k1 : Nat) : Int) = (k0 : Int) - (k1 : Int) := by omega
      rw [e0] at hfin
      have hGr := (HGR.out.block g (blk_lt HG.out) HNE.out).trans HG.out
      have y2 := (blk_cell hGr 2).trans (show _ = some (Value.map (some bs)) from rfl)
      go_wp2
      try go_ret
      exact hfin
    · rintro ⟨yf, yg⟩ cv kl w1 cnt1 HC hen
      dsimp only at hen ⊢
      have hgr1 := HGR.out.andThen HC.out.grown (fun j hj => by cases hj; exact Or.inl (Nat.le_refl _))
      have hrg1 := HC.out.rg
      have HLE2 := Aside0.mk (show wr.rangeLeft bs w.heap.size = cnt ∧ cnt1 < cnt from ⟨HRG.out.left_eq, HC.out.lt⟩)
      have hpk := HPD.out (yf, yg) kl (.held cv) HC.out.key
      have HK := Aside0.mk (And.intro HC.out.key (And.intro HC.out.came HC.out.at_))
      clear HRG HGR HC
      go_upto_region 5 with (fail)
      have HGR := Aside0.mk (hgr1.andThen (World.grownBy_alloc w1 (.cells #[.int .i64 yf, .int .i64 yg] 43) none) (fun j hj => by cases hj))
      have HRG := Aside0.mk (hrg1.alloc (.cells #[.int .i64 yf, .int .i64 yg] 43))
      have kw := heap_alloc_new w1 (.cells #[.int .i64 yf, .int .i64 yg] 43)
      clear hgr1 hrg1 hen
      generalize w1.alloc (.cells #[.int .i64 yf, .int .i64 yg] 43) = w2 at kw HGR HRG ⊢
      generalize w1.heap.size = gw at kw ⊢
      have z0 := (blk_cell kw 0).trans (show _ = some (Value.int .i64 yf) from rfl)
      have z1 := (blk_cell kw 1).trans (show _ = some (Value.int .i64 yg) from rfl)
      by_cases hyn : yf = n
      · have hpk1 : pd kl (.held cv) = true := hpk.trans (by show (yf == n) = true; simpa using hyn)
        have o1 : (yf == n) = true := by simpa using hyn
        clear hyn
        have hGr := (HGR.out.block g (blk_lt HG.out) HNE.out).trans HG.out
        have y2 := (blk_cell hGr 2).trans (show _ = some (Value.map (some bs)) from rfl)
        obtain ⟨w5, cnt5, hrun, hrg5, hle, hturn⟩ := World.ranges.drop (w := w2.drew) (show w2.drew.ranges Try.prog tW rawR bs w.heap.size N (Fk pd es0 left) (fun z => left z && !z.sameKey kl) cnt1 from HRG.out) lawWho Try.underlying71 HK.out.1 0
        have hup : (Builtin.delete_ #[71, 43] 0 #[.map (some bs), .agg #[.int .i64 yf, .int .i64 yg]]).run Try.prog w2.drew = .ok (.tuple #[]) w5 := hrun
        clear hrun
        rw [strike_twice, Fk_struck HAP.out (lawWho.key HK.out.1) HK.out.2.1 hpk1 HK.out.2.2] at hrg5
        have n1 := Aside0.mk hrg5
        have n2 := Aside0.mk ((show w.grownBy w2.drew (some bs) from ⟨HGR.out.os, HGR.out.tape, HGR.out.output, HGR.out.size, HGR.out.block⟩).andThen hturn.grown (fun j hj => by cases hj; exact Or.inr rfl))
        clear hrg5 hturn hpk hpk1 kw
        go_wp2_with fail
        go_region_with (fail)
        all_goals
          go_roundw
          case rel => exact ⟨_, _, _, _, _, _, _, _, _, _, _, _, _, _, ⟨_, cnt5, n1, n2⟩, rfl⟩
          case measure => rw [n1.out.left_eq, HLE2.out.1]; have := HLE2.out.2; omega
      · have o1 : (yf == n) = false := by simpa using hyn
        have hpk1 : pd kl (.held cv) = false := hpk.trans o1
        have hst := Fk_stays HAP.out (lawWho.key HK.out.1) HK.out.2.1 hpk1 HK.out.2.2
        have n1 := HRG.out
        rw [hst] at n1
        have HRG1 := Aside0.mk n1
        clear HRG n1 hst hpk hpk1 kw
        go_wp2_with fail
        go_roundw
        case rel => exact ⟨_, cnt1, HRG1, HGR⟩
        case measure => rw [HRG1.out.left_eq, HLE2.out.1]; exact HLE2.out.2
end Go.Proofs.Ytlokmijoaocofaa.Mine
end
section
/-
  BoardAgain and its like: what the plain board answers. No condition.
-/
namespace Go.Proofs.Ytlokmijoaocofaa.Mine
open Go.Maps Go.RowKit Go.Proofs.YtlokmijoaocofaaW.PrintWords Go.Proofs.YtlokmijoaocofaaW.PrintLast Go.Proofs.YtlokmijoaocofaaW.PrintMore
open Go.Proofs.Ytlokmijoaocofaa.PBoardAgain
theorem parseR_2 {s : ByteArray} {z : Int × Int} (hs : s.size ≤ 300) (h : parseR s = .inr z) : z.2 = 2 := by
  unfold parseR at h
  rw [if_neg (by omega)] at h
  · split at h
    · cases h
    · injection h with h
      subst h
      rfl
theorem readR_23 {S : List SA} {t : ByteArray} {c : Int} (hs : t.size ≤ 300) (h : readR S t = .inr c) : c = 2 ∨ c = 3 := by
  unfold readR at h
  split at h
  · rename_i z hz
    injection h with h
    subst h
    exact Or.inl (parseR_2 hs hz)
  · split at h
    · cases h
    · injection h with h
      subst h
      exact Or.inr rfl
theorem subC_235 {S : List SA} {B : Bd} {x : P2} {t : ByteArray} (hs : t.size ≤ 300) (h : subC S B x t ≠ 0) : subC S B x t = 5 ∨ subC S B x t = 2 ∨ subC S B x t = 3 := by
  unfold subC at h ⊢
  split
  · rename_i c hc
    rcases readR_23 hs hc with rfl | rfl
    · exact Or.inr (Or.inl rfl)
    · exact Or.inr (Or.inr rfl)
  · rename_i xs hx
    simp only [hx] at h
    split
    · exact Or.inl rfl
    · rename_i hn
      rw [if_neg hn] at h
      exact absurd rfl h
theorem subC_there {S : List SA} {B : Bd} {x : P2} {t : ByteArray} {F : List SP} (hs : B.subs x = some F) : subC S B x t ≠ 0 := by
  unfold subC
  split
  · rename_i c hc
    exact readR_not0 hc
  · rw [hs, Option.isSome_some, if_pos rfl]
    decide
theorem pubC_03 {S : List SA} {B : Bd} {x : P2} {V : List SV} {p : ByteArray} (he : B.evs x = none) : pubC S B x V p = 0 ∨ pubC S B x V p = 3 := by
  unfold pubC
  rw [he]
  split
  · exact Or.inr rfl
  · exact Or.inl rfl
theorem pubC_again {S : List SA} {B : Bd} {x : P2} {V : List SV} {p : ByteArray} (h : pubC S B x V p = 0) : pubC S (B.pub x V p) x V p = 5 := by
  unfold pubC at h ⊢
  split
  · rename_i hb
    rw [if_pos hb] at h
    exact absurd h (by decide)
  · rw [if_pos]
    show (upd B.evs x (some (V, p)) x).isSome = true
    unfold upd
    rw [if_pos rfl]
    rfl
theorem evs_pub (B : Bd) (x : P2) (V : List SV) (p : ByteArray) : (B.pub x V p).evs x = some (V, p) := by
  show upd B.evs x (some (V, p)) x = _
  unfold upd
  rw [if_pos rfl]
/-- A list of those due, where one alone has subscribed. -/
theorem list_one {due : P2 → Bool} {N : Nat} {L : List SW} {x0 : P2} (h : DueList due N L) (h1 : ∀ x, due x = true → x = x0) : L.length ≤ 1 := by
  match L, h.sorted, h.mem with
  | [], _, _ => exact Nat.zero_le _
  | [_], _, _ => exact Nat.le_refl _
  | a :: b :: r, hs, hm =>
    exfalso
    have ha := h1 _ (hm a List.mem_cons_self).2
    have hb := h1 _ (hm b (List.mem_cons_of_mem _ List.mem_cons_self)).2
    have hab := (List.pairwise_cons.1 hs).1 b List.mem_cons_self
    have : a = b := pr_inj (ha.trans hb.symm)
    subst this
    unfold ltW at hab
    omega
end Go.Proofs.Ytlokmijoaocofaa.Mine
end
section
/-
  (*Board).Unsubscribe walked. Conditions: node and number are int64, the maps at most a million entries.
-/
namespace Go.Proofs.Ytlokmijoaocofaa.Mine
open Go.Maps Go.RowKit Go.Proofs.YtlokmijoaocofaaW.PrintWords Go.Proofs.YtlokmijoaocofaaW.PrintLast Go.Proofs.YtlokmijoaocofaaW.PrintMore
open Go.Proofs.Ytlokmijoaocofaa.PBoardAgain
def Bd.unsub (B : Bd) (x : P2) : Bd := { B with subs := upd B.subs x none }
def UnsubPost (base g : Nat) (S : List SA) (B : Bd) (N : Nat) (x : P2) (w : World) (e : Ending) (w' : World) : Prop :=
  Kept base w w' ∧ ((B.subs x = none ∧ ErrE w' 9 e ∧ IsBd base w' g S B N) ∨ ((B.subs x).isSome = true ∧ e = .returned .nilIface ∧ IsBd base w' g S (B.unsub x) N))
set_option maxHeartbeats 8000000 in
set_option maxRecDepth 100000 in
theorem unsub_calls (base g N : Nat) (x : P2) (S : List SA) (B : Bd) (w : World) (hb : IsBd base w g S B N) (hbase : base ≤ w.heap.size) (hx : wf2 x) :
    Calls Try.prog 17 #[.pointer (some ⟨g, 0, none⟩), k2 x] w (UnsubPost base g S B N x w) := by
  have HBD := Aside0.mk hb
  obtain ⟨l, hl⟩ := key_who hx
  have HL := Aside0.mk hl
  have HX := Aside0.mk hx
  obtain ⟨A, n, cS, be, bs, bg, fe, fs, fg, h1, ⟨h2, h3, h4⟩, m1, m2, m3, hne, hba, e1, e2, e3⟩ := hb
  have HM := Aside0.mk (And.intro m1 (And.intro m2 (And.intro m3 (And.intro hne (And.intro hba (And.intro e1 (And.intro e2 e3)))))))
  have HG := Aside0.mk h1
  have HSN := Aside0.mk (And.intro h2 (And.intro h3 h4))
  clear h1 h2 h4 m1 m2 m3 hne hba e1 e2 e3 hl hx
  obtain ⟨x1, x2⟩ := x
  unfold k2
  go_enter Try.func17, Try.ntmps17
  go_upto_region 1 with (fail)
  have hb2 := below_alloc (Below.refl w.heap.size w) (.cells #[.int .i64 x1, .int .i64 x2] 43)
  have HKE := Aside0.mk (heap_alloc_new w (.cells #[.int .i64 x1, .int .i64 x2] 43))
  have HB := Aside0.mk hb2
  clear hb2
  generalize w.alloc (.cells #[.int .i64 x1, .int .i64 x2] 43) = w3 at HKE HB ⊢
  obtain ⟨gw, hgw⟩ : ∃ g, g = w.heap.size := ⟨_, rfl⟩
  rw [← hgw] at HKE ⊢
  clear hgw
  have hG3 := (HB.out.block _ (blk_lt HG.out)).trans HG.out
  have q0 : ∀ q : BelowP w3, q.w.cell? ⟨gw, 0, none⟩ = some (.int .i64 x1) := fun q => q.cell ((blk_cell HKE.out 0).trans rfl)
  have q1 : ∀ q : BelowP w3, q.w.cell? ⟨gw, 1, none⟩ = some (.int .i64 x2) := fun q => q.cell ((blk_cell HKE.out 1).trans rfl)
  have q2 : ∀ q : BelowP w3, q.w.cell? ⟨g, 2, none⟩ = some (.map (some bs)) := fun q => q.cell ((blk_cell hG3 2).trans rfl)
  cases hev : B.subs (x1, x2) with
  | none =>
    have hfe := (HM.out.2.2.2.2.2.2.1 (x1, x2)).1 hev
    have hlk : ∀ q : BelowP w3, (Instr.lookup 71 (.map (some bs)) (.agg #[.int .i64 x1, .int .i64 x2]) true).run Try.prog q.w = .ok (.tuple #[.slice none 0 0, .bool false]) q.w := fun q => ((HM.out.2.1.below HB.out).below q.h).look_none lawWho Try.underlying71 (by rfl) HL.out hfe
    have HPC := Aside0.mk hev
    clear hev hfe hG3
    refine wp_region_quiet_below (by kernel_rfl) (by kernel_rfl) ?_
    repeat (quiet_step (fail))
    refine wpQuiet_nil ?_
    rintro _ ⟨pq, rfl⟩
    go_wp2_with fail
    refine (bfault_calls 9 _).mono ?_
    rintro e w4 ⟨b1, hbl, rfl, hf, hb⟩
    have hb4 := below_then HB.out HB.out.size (below_then pq.h pq.h.size hb)
    have hfin : UnsubPost base g S B N (x1, x2) w (.returned (.iface 103 (.pointer (some ⟨b1, 0, none⟩)))) w4 := ⟨Kept.of hb4 hbase, Or.inl ⟨HPC.out, ⟨b1, 1, rfl, IsFault.errIs hf⟩, HBD.out.below hb4⟩⟩
    clear hb hf hbl hb4 hlk q0 q1 q2
    go_wp2
    try go_ret
    exact hfin
  | some F2 =>
    obtain ⟨A2, n2, c2, hfe, _⟩ := (HM.out.2.2.2.2.2.2.1 (x1, x2)).2 F2 hev
    have hlk : ∀ q : BelowP w3, (Instr.lookup 71 (.map (some bs)) (.agg #[.int .i64 x1, .int .i64 x2]) true).run Try.prog q.w = .ok (.tuple #[.slice A2 n2 c2, .bool true]) q.w := fun q => ((HM.out.2.1.below HB.out).below q.h).look_some lawWho Try.underlying71 (by rfl) HL.out hfe
    have HPC := Aside0.mk (show (B.subs (x1, x2)).isSome = true by rw [hev]; rfl)
    clear hev hfe hG3
    refine wp_region_quiet_below (by kernel_rfl) (by kernel_rfl) ?_
    repeat (quiet_step (fail))
    refine wpQuiet_nil ?_
    rintro _ ⟨pq, rfl⟩
    go_upto_region 4 with (fail)
    obtain ⟨W5, hW5⟩ : ∃ W, W = pq.w := ⟨_, rfl⟩
    have hb5 := pq.h
    rw [← hW5] at hb5 ⊢
    have k5 := (hb5.block _ (blk_lt HKE.out)).trans HKE.out
    have n_ := Aside0.mk (below_then HB.out HB.out.size hb5)
    clear hW5 pq HB hb5 hlk q0 q1 q2 HKE
    have HB := n_
    clear n_
    have z0 := (blk_cell k5 0).trans (show _ = some (Value.int .i64 x1) from rfl)
    have z1 := (blk_cell k5 1).trans (show _ = some (Value.int .i64 x2) from rfl)
    have hG5 := (HB.out.block _ (blk_lt HG.out)).trans HG.out
    have y0 := (blk_cell hG5 2).trans (show _ = some (Value.map (some bs)) from rfl)
    have hM5 := HM.out.2.1.below HB.out
    obtain ⟨W6, hrun, hM6, hgr⟩ := MapIs.drop (w := W5.drew) (hM5.block rfl) lawWho (fun _ _ => k2_inj) Try.underlying71 HL.out 0
    have hup : (Builtin.delete_ #[71, 43] 0 #[.map (some bs), .agg #[.int .i64 x1, .int .i64 x2]]).run Try.prog W5.drew = .ok (.tuple #[]) W6 := hrun
    clear hrun
    obtain ⟨es, cl, hobj⟩ := hM5.obj
    have HBd : Below w.heap.size w W5.drew := ⟨HB.out.os, HB.out.tape, HB.out.output, HB.out.size, HB.out.block⟩
    have hobjd : W5.drew.heap[bs]? = some (.map es cl) := hobj
    have hgne : g ≠ bs := by
      rintro rfl
      rw [hG5] at hobj
      cases hobj
    have hne := HM.out.2.2.2.1
    have hkept : Kept base w W6 := (Kept.of HBd hbase).trans (Kept.turned hobjd hgr HM.out.2.2.2.2.1.2.2.1)
    have hev6 : subOk W6 (upd fs (x1, x2) none) (upd B.subs (x1, x2) none) := fun y => by
      unfold upd
      by_cases hy : y = (x1, x2)
      · rw [if_pos hy, if_pos hy]
        exact ⟨fun _ => rfl, fun F2 h => by cases h⟩
      · rw [if_neg hy, if_neg hy]
        exact ((HM.out.2.2.2.2.2.2.1.below HBd).turned hobjd hgr) y
    have hbd : IsBd base W6 g S (B.unsub (x1, x2)) N := ⟨A, n, cS, be, bs, bg, fe, _, fg, (hgr.block g (by show g < W5.heap.size; exact blk_lt hG5) (fun e => hgne (Option.some.inj e))).trans hG5, ⟨HSN.out.1, HSN.out.2.1, CA_turned hobjd hgr (Kd.C_below HSN.out.2.2 HBd)⟩, (HM.out.1.below HBd).other hgr hne.1, hM6, (HM.out.2.2.1.below HBd).other hgr hne.2.2.symm, hne, HM.out.2.2.2.2.1, (HM.out.2.2.2.2.2.1.below HBd).turned hobjd hgr, hev6, HM.out.2.2.2.2.2.2.2⟩
    have hfin : UnsubPost base g S B N (x1, x2) w (.returned .nilIface) W6 := ⟨hkept, Or.inr ⟨HPC.out, rfl, hbd⟩⟩
    clear hbd hev6 hkept hne hgne hobjd HBd hobj hgr hM6 hM5 hG5 k5
    go_region_with (fail)
    all_goals
      go_wp2
      try go_ret
      exact hfin
end Go.Proofs.Ytlokmijoaocofaa.Mine
end
section
/-
  Who is due when a node is gone: the same list without that node's. No condition.
-/
namespace Go.Proofs.Ytlokmijoaocofaa.Mine
open Go.Maps Go.RowKit Go.Proofs.YtlokmijoaocofaaW.PrintWords Go.Proofs.YtlokmijoaocofaaW.PrintLast Go.Proofs.YtlokmijoaocofaaW.PrintMore
open Go.Proofs.Ytlokmijoaocofaa.PBoardAgain
def otherB (n : Int) (y : SW) : Bool := !(y.f0 == n)
theorem dueB_gone (S : List SA) (B : Bd) (t : P2) (V : List SV) (p : ByteArray) (n : Int) (x : P2) : dueB S (B.gone n) t V p x = (!(x.1 == n) && dueB S B t V p x) := by
  unfold dueB
  show (match (if (x.1 == n) = true then none else B.subs x) with | none => false | some F => matchB S F V p && !B.got (x, t)) = _
  by_cases h : (x.1 == n) = true
  · rw [if_pos h, h]
    rfl
  · have h2 : (x.1 == n) = false := by simpa using h
    rw [if_neg h, h2]
    rfl
theorem DueList.filt {due : P2 → Bool} {N : Nat} {L : List SW} (h : DueList due N L) (n : Int) : DueList (fun x => !(x.1 == n) && due x) N (L.filter (otherB n)) :=
  ⟨h.sorted.filter _, Nat.le_trans (List.length_filter_le _ _) h.len, fun y hy => by
    obtain ⟨h1, h2⟩ := List.mem_filter.1 hy
    obtain ⟨h3, h4⟩ := h.mem y h1
    refine ⟨h3, ?_⟩
    rw [h4, Bool.and_true]
    exact h2, fun y hw hd => by
    rw [Bool.and_eq_true] at hd
    exact List.mem_filter.2 ⟨h.all y hw hd.2, hd.1⟩⟩
theorem list_gone {S : List SA} {B : Bd} {t : P2} {V : List SV} {p : ByteArray} {n : Int} {N M : Nat} {L L2 : List SW} (h : DueList (dueB S B t V p) N L) (h2 : DueList (dueB S (B.gone n) t V p) M L2) : L2 = L.filter (otherB n) :=
  h2.uniq (h.filt n) (fun x _ => dueB_gone S B t V p n x)
theorem filt_step (q : SW → Bool) (L : List SW) (i : Nat) (y : SW) (h : L[i]? = some y) : (L.take (i + 1)).filter q = if q y = true then (L.take i).filter q ++ [y] else (L.take i).filter q := by
  have hl : i < L.length := (List.getElem?_eq_some_iff.1 h).1
  have e : L[i] = y := (List.getElem?_eq_some_iff.1 h).2
  rw [List.take_succ_eq_append_getElem hl, List.filter_append, e]
  cases hq : q y <;> simp [hq]
/-- Subscribe, whatever it answers: how the board stands behind it. -/
theorem sub_any (base g N : Nat) (x : P2) (S : List SA) (B : Bd) (t : ByteArray) (w : World) (hb : IsBd base w g S B N) (hbase : base ≤ w.heap.size) (hN : N ≤ 1000000) (hx : wf2 x) (ht : t.size ≤ 1000) :
    Calls Try.prog 12 #[.pointer (some ⟨g, 0, none⟩), .agg #[.int .i64 x.1, .int .i64 x.2], .string t] w fun e w' => ∃ v B', e = .returned v ∧ Kept base w w' ∧ IsBd base w' g S B' (N + 1) ∧ B'.evs = B.evs ∧ B'.got = B.got := by
  refine (subscribe_calls base g N x S B t w hb hbase hN hx ht).mono ?_
  rintro e w' ⟨hk, ⟨_, ⟨b, n, rfl, _⟩, hbd⟩ | ⟨_, rfl, xs, _, hbd⟩⟩
  · exact ⟨_, B, rfl, hk, hbd.mono (by omega), rfl, rfl⟩
  · exact ⟨_, _, rfl, hk, hbd, rfl, rfl⟩
theorem unsub_any (base g N : Nat) (x : P2) (S : List SA) (B : Bd) (w : World) (hb : IsBd base w g S B N) (hbase : base ≤ w.heap.size) (hx : wf2 x) :
    Calls Try.prog 17 #[.pointer (some ⟨g, 0, none⟩), .agg #[.int .i64 x.1, .int .i64 x.2]] w fun e w' => ∃ v B', e = .returned v ∧ Kept base w w' ∧ IsBd base w' g S B' N ∧ B'.evs = B.evs ∧ B'.got = B.got := by
  refine (unsub_calls base g N x S B w hb hbase hx).mono ?_
  rintro e w' ⟨hk, ⟨_, ⟨b, n, rfl, _⟩, hbd⟩ | ⟨_, rfl, hbd⟩⟩
  · exact ⟨_, B, rfl, hk, hbd, rfl, rfl⟩
  · exact ⟨_, _, rfl, hk, hbd, rfl, rfl⟩
end Go.Proofs.Ytlokmijoaocofaa.Mine
end
section
/-
  What is given to all that are due leaves nobody due (the plain board). No condition.
-/
namespace Go.Proofs.Ytlokmijoaocofaa.Mine
open Go.Maps Go.RowKit Go.Proofs.YtlokmijoaocofaaW.PrintWords Go.Proofs.YtlokmijoaocofaaW.PrintLast Go.Proofs.YtlokmijoaocofaaW.PrintMore
open Go.Proofs.Ytlokmijoaocofaa.PBoardAgain
/-- The board behind as many gifts of t. -/
def Bd.gave (B : Bd) (t : P2) (l : List SW) : Bd := { B with got := fun y => (decide (y.2 = t) && decide (∃ z ∈ l, pr z = y.1)) || B.got y }
theorem gave_nil (B : Bd) (t : P2) : B.gave t [] = B := by
  unfold Bd.gave
  have : (fun y : P2 × P2 => (decide (y.2 = t) && decide (∃ z ∈ ([] : List SW), pr z = y.1)) || B.got y) = B.got := by
    funext y
    have h : (decide (∃ z ∈ ([] : List SW), pr z = y.1)) = false := decide_eq_false (by simp)
    rw [h, Bool.and_false, Bool.false_or]
  rw [this]
theorem gave_snoc (B : Bd) (t : P2) (l : List SW) (y : SW) : (B.gave t l).give (pr y) t = B.gave t (l ++ [y]) := by
  unfold Bd.gave Bd.give
  congr 1
  funext z
  obtain ⟨z1, z2⟩ := z
  by_cases h : (z1, z2) = (pr y, t)
  · rw [if_pos h]
    injection h with h1 h2
    have e1 : decide (z2 = t) = true := decide_eq_true h2
    have e2 : decide (∃ z ∈ l ++ [y], pr z = z1) = true := decide_eq_true ⟨y, by simp, h1.symm⟩
    show true = ((decide (z2 = t) && decide (∃ z ∈ l ++ [y], pr z = z1)) || _)
    rw [e1, e2]
    rfl
  · rw [if_neg h]
    show ((decide (z2 = t) && decide (∃ z ∈ l, pr z = z1)) || _) = ((decide (z2 = t) && decide (∃ z ∈ l ++ [y], pr z = z1)) || _)
    by_cases h2 : z2 = t
    · have h1 : ¬ pr y = z1 := fun e => h (by rw [e, h2])
      have e2 : decide (∃ z ∈ l ++ [y], pr z = z1) = decide (∃ z ∈ l, pr z = z1) := by
        rw [decide_eq_decide]
        constructor
        · rintro ⟨z, hz, e⟩
          rcases List.mem_append.1 hz with hz | hz
          · exact ⟨z, hz, e⟩
          · rw [List.mem_singleton.1 hz] at e
            exact absurd e h1
        · rintro ⟨z, hz, e⟩
          exact ⟨z, List.mem_append_left _ hz, e⟩
      rw [e2]
    · rw [decide_eq_false h2]
      rfl
theorem gave_in (B : Bd) (t : P2) (l : List SW) (y : SW) (h : ∃ z ∈ l, pr z = pr y) : (B.gave t l).got (pr y, t) = true := by
  show ((decide (t = t) && decide (∃ z ∈ l, pr z = pr y)) || B.got (pr y, t)) = true
  rw [decide_eq_true h, decide_eq_true rfl]
  rfl
/-- The next one may be given, and isn't given again. -/
theorem gave_next {S : List SA} {B : Bd} {t : P2} {V : List SV} {p : ByteArray} {N : Nat} {L : List SW} (h : DueList (dueB S B t V p) N L) (he : B.evs t = some (V, p)) {j : Nat} {y : SW} (hy : L[j]? = some y) (hs : sameEv V p V p = true) :
    wf2 (pr y) ∧ giveC S (B.gave t (L.take j)) (pr y) t V p = 0 ∧ giveC S (B.gave t (L.take (j + 1))) (pr y) t V p = 5 := by
  have hm := List.mem_of_getElem? hy
  obtain ⟨h1, h2⟩ := h.mem y hm
  have hl : j < L.length := (List.getElem?_eq_some_iff.1 hy).1
  have hyj : L[j] = y := (List.getElem?_eq_some_iff.1 hy).2
  unfold dueB at h2
  cases hsb : B.subs (pr y) with
  | none => rw [hsb] at h2; cases h2
  | some F =>
    rw [hsb] at h2
    obtain ⟨h3, h4⟩ := (Bool.and_eq_true _ _).mp h2
    have hni : ¬ ∃ z ∈ L.take j, pr z = pr y := by
      rintro ⟨z, hz, e⟩
      have e := pr_inj e
      subst e
      obtain ⟨i, hi, hzi⟩ := List.getElem_of_mem hz
      rw [List.getElem_take] at hzi
      have hij : i < j := by simp at hi; omega
      have := List.pairwise_iff_getElem.1 h.sorted i j (by omega) hl hij
      rw [hzi, hyj] at this
      unfold ltW at this
      omega
    have hin : ∃ z ∈ L.take (j + 1), pr z = pr y := ⟨y, by rw [List.take_succ_eq_append_getElem hl, hyj]; simp, rfl⟩
    have g0 : (B.gave t (L.take j)).got (pr y, t) = false := by
      show ((decide (t = t) && decide (∃ z ∈ L.take j, pr z = pr y)) || B.got (pr y, t)) = false
      rw [decide_eq_false hni, Bool.and_false, Bool.false_or]
      simpa using h4
    have g1 : (B.gave t (L.take (j + 1))).got (pr y, t) = true := gave_in B t _ y hin
    refine ⟨h1, ?_, ?_⟩
    · unfold giveC
      rw [show (B.gave t (L.take j)).evs t = some (V, p) from he]
      simp only [hs, if_true]
      rw [show (B.gave t (L.take j)).subs (pr y) = some F from hsb]
      simp only [h3, if_true, g0]
      rfl
    · unfold giveC
      rw [show (B.gave t (L.take (j + 1))).evs t = some (V, p) from he]
      simp only [hs, if_true]
      rw [show (B.gave t (L.take (j + 1))).subs (pr y) = some F from hsb]
      simp only [h3, if_true, g1]
theorem gave_all {S : List SA} {B : Bd} {t : P2} {V : List SV} {p : ByteArray} {N M : Nat} {L L2 : List SW} (h : DueList (dueB S B t V p) N L) (h2 : DueList (dueB S (B.gave t L) t V p) M L2) : L2 = [] := by
  cases L2 with
  | nil => rfl
  | cons y r =>
    exfalso
    obtain ⟨h3, h4⟩ := h2.mem y List.mem_cons_self
    unfold dueB at h4
    cases hsb : B.subs (pr y) with
    | none => rw [show (B.gave t L).subs (pr y) = none from hsb] at h4; cases h4
    | some F =>
      rw [show (B.gave t L).subs (pr y) = some F from hsb] at h4
      obtain ⟨h5, h6⟩ := (Bool.and_eq_true _ _).mp h4
      have h7 : (B.gave t L).got (pr y, t) = false := by simpa using h6
      have h8 : ((decide (t = t) && decide (∃ z ∈ L, pr z = pr y)) || B.got (pr y, t)) = false := h7
      rw [decide_eq_true rfl, Bool.true_and, Bool.or_eq_false_iff] at h8
      have hd : dueB S B t V p (pr y) = true := by
        unfold dueB
        rw [hsb]
        simp only [h5, h8.2]
        rfl
      have := h.all y h3 hd
      exact absurd ⟨y, this, rfl⟩ (of_decide_eq_false h8.1)
end Go.Proofs.Ytlokmijoaocofaa.Mine
end
section
/-
  BoardAgain walked: true. Conditions: what an argument is (lengths that a program can hold).
-/
namespace Go.Proofs.Ytlokmijoaocofaa.Mine
open Go.Maps Go.RowKit Go.Proofs.YtlokmijoaocofaaW.PrintWords Go.Proofs.YtlokmijoaocofaaW.PrintLast Go.Proofs.YtlokmijoaocofaaW.PrintMore
open Go.Proofs.Ytlokmijoaocofaa.PBoardAgain
theorem own_shape {w : World} {base : Nat} {e : TypeId} {size : Nat} {v : Value} {n : Nat} {xs : List Value} (h : w.ownsRow base e size v n xs) : ∃ A c, v = .slice A n c := by
  rcases h.2 with ⟨rfl, rfl⟩ | ⟨g, cap, cur, rfl, _⟩
  · exact ⟨none, 0, rfl⟩
  · exact ⟨_, _, rfl⟩
theorem R_at {α : Type} {k : Kd α} {e : Nat} {w : World} {base : Nat} {ok : Nat → Prop} {A : Option Addr} {n c : Nat} {xs : List α} (h : Kd.R k e w base ok (.slice A n c) xs) : ∃ b off, A = some ⟨b, off, none⟩ ∨ xs.length = 0 := by
  obtain ⟨_, inner, ho, _⟩ := h
  rcases ho.2 with ⟨_, h0⟩ | ⟨g, cap, cur, hv, _⟩
  · exact ⟨0, 0, Or.inr h0⟩
  · injection hv with h1 _ _
    exact ⟨g, 0, Or.inl h1⟩
set_option maxHeartbeats 8000000 in
set_option maxRecDepth 100000 in
theorem boardAgain_calls (A E : Option Addr) (n c m d : Nat) (S : List SA) (L : List SV) (t1 t2 pay : ByteArray) (w : World) (hn : S.length = n) (hr : Kd.C k65 w A n S) (hc : n ≤ c) (hnm : ∀ p ∈ S, p.f0.size ≤ 9223372036854775807) (hn2 : n ≤ 9223372036854775807)
    (ht1 : t1.size ≤ 9223372036854775807) (ht2 : t2.size ≤ 9223372036854775807)
    (hm : L.length = m) (hr2 : Kd.C k63 w E m L) (hd : m ≤ d) (hmm : ∀ p ∈ L, p.f1.size ≤ 9223372036854775807) (hpay : pay.size ≤ 9223372036854775807) (hm2 : m ≤ 9223372036854775807) :
    Calls Try.prog 4 #[.slice A n c, .string t1, .string t2, encE E m d pay] w fun e w' => e = .returned (.bool true) ∧ Below w.heap.size w w' := by
  have HE0 := Aside0.mk (fun W (hb : Below w.heap.size w W) => attrs_calls A n c S W hn (Kd.C_below hr hb) hc hnm hn2)
  have HE2 := Aside0.mk (fun W (hb : Below w.heap.size w W) => event5_calls E m d L pay W hm (Kd.C_below hr2 hb) hd hmm hpay hm2)
  have HL1 := Aside0.mk (show (attrsOf S).length ≤ 6 by unfold attrsOf; simp; omega)
  have HL2 := Aside0.mk (show (evOf L).length ≤ 6 by unfold evOf; simp; omega)
  have HCT := Aside0.mk (And.intro (fun W => show Calls Try.prog 13 #[.string t1, .int .i64 300] W (fun e w' => e = .returned (.string (cutB t1 300)) ∧ W = w') from cut_P t1 300 W ht1 (by omega)) (fun W => show Calls Try.prog 13 #[.string t2, .int .i64 300] W (fun e w' => e = .returned (.string (cutB t2 300)) ∧ W = w') from cut_P t2 300 W ht2 (by omega)))
  generalize cutB pay 210 = p1 at HE2
  generalize attrsOf S = S1 at HE0 HL1
  generalize evOf L = V1 at HE2 HL2
  clear hn hr hc hnm hn2 ht1 ht2 hm hr2 hd hmm hpay hm2
  unfold encE at HE2 ⊢
  go_enter Try.func4, Try.ntmps4
  go_wp2_with fail
  have hba := below_alloc (Below.refl w.heap.size w) (.cells #[.slice E m d, .string pay] 24)
  have ka := heap_alloc_new w (.cells #[.slice E m d, .string pay] 24)
  generalize w.alloc (.cells #[.slice E m d, .string pay] 24) = wa at hba ka ⊢
  refine (HE0.out wa hba).mono ?_
  rintro e wb ⟨v0, v1, rfl, hR0, hR1, hbb⟩
  obtain ⟨A1, c1, rfl, hc1, hC1⟩ := Kd.R_reads hR0
  have HR0 := Aside0.mk hR0
  have HB := Aside0.mk (below_then hba hba.size hbb)
  have HKA := Aside0.mk ((hbb.block _ (blk_lt ka)).trans ka)
  clear hba ka hR0 hR1 hbb
  have y0 := (blk_cell HKA.out 0).trans (show _ = some (Value.slice E m d) from rfl)
  have y1 := (blk_cell HKA.out 1).trans (show _ = some (Value.string pay) from rfl)
  go_wp2_with fail
  refine (HE2.out wb HB.out).mono ?_
  rintro e wc ⟨v2, v3, rfl, hR2, hR3, hbc⟩
  obtain ⟨E1, c2, rfl, hc2, hC2⟩ := Kd.R_reads hR2
  obtain ⟨a1, o1, hA1⟩ := R_at HR0.out
  obtain ⟨a2, o2, hE1⟩ := R_at hR2
  have n1 := Aside0.mk (below_then HB.out HB.out.size hbc)
  have HCA := Aside0.mk (And.intro hc1 (And.intro (Kd.C_below hC1 hbc) hA1))
  have HCE := Aside0.mk (And.intro hc2 (And.intro hC2 hE1))
  clear HB HKA HR0 hR2 hR3 hbc hc1 hC1 hA1 hc2 hC2 hE1 y0 y1
  have HB := n1
  clear n1
  obtain ⟨m1, hm1⟩ : ∃ n, n = S1.length := ⟨_, rfl⟩
  obtain ⟨m2, hm2⟩ : ∃ n, n = V1.length := ⟨_, rfl⟩
  rw [← hm1] at HCA HL1 ⊢
  rw [← hm2] at HCE HL2 ⊢
  have HM1 := Aside0.mk hm1
  have HM2 := Aside0.mk hm2
  clear hm1 hm2
  go_upto_region 3 with (fail)
  have hbd := below_alloc (Below.refl wc.heap.size wc) (.cells #[.slice E1 m2 c2, .string p1] 24)
  have kx := heap_alloc_new wc (.cells #[.slice E1 m2 c2, .string p1] 24)
  have n1 := Aside0.mk (below_then HB.out HB.out.size hbd)
  have n2 := Aside0.mk (And.intro HCA.out.1 (And.intro (Kd.C_below HCA.out.2.1 hbd) HCA.out.2.2))
  have n3 := Aside0.mk (And.intro HCE.out.1 (And.intro (Kd.C_below HCE.out.2.1 hbd) HCE.out.2.2))
  generalize wc.alloc (.cells #[.slice E1 m2 c2, .string p1] 24) = wd at kx n1 n2 n3 ⊢
  generalize wc.heap.size = gx at kx ⊢
  clear hbd HB HCA HCE
  have HB := n1
  have HCA := n2
  have HCE := n3
  have HKX := Aside0.mk kx
  clear n1 n2 n3 kx
  go_wp2_with fail
  refine (new_calls w.heap.size a1 o1 m1 c1 A1 S1 wd HM1.out.symm (by rcases HCA.out.2.2 with h | h; exact Or.inl h; exact Or.inr h) HCA.out.2.1 (by have := HL1.out; omega) HCA.out.1 HB.out.size).mono ?_
  rintro e we ⟨hbe, hp⟩
  have n1 := Aside0.mk (below_then HB.out HB.out.size hbe)
  have n3 := Aside0.mk (And.intro HCE.out.1 (And.intro (Kd.C_below HCE.out.2.1 hbe) HCE.out.2.2))
  have n4 := Aside0.mk ((hbe.block _ (blk_lt HKX.out)).trans HKX.out)
  clear HB HCA HCE HKX hbe
  have HB := n1
  have HCE := n3
  have HKX := n4
  clear n1 n3 n4
  rcases hp with ⟨i, hck, b1, rfl, hf⟩ | ⟨hck, g, hg, rfl, hbd⟩
  · clear hck hf
    go_wp2_with fail
    refine (awake_calls _).mono ?_
    rintro e w8 ⟨rfl, hb8⟩
    have hfin := below_then HB.out HB.out.size hb8
    clear hb8
    go_wp2
    try go_ret
    exact ⟨rfl, hfin⟩
  · have HBD := Aside0.mk hbd
    have HCK := Aside0.mk hck
    clear hbd hck
    go_upto_region 7 with (fail)
    have hbf := below_alloc (Below.refl we.heap.size we) (.cells #[.int .i64 1, .int .i64 2] 43)
    have kw := heap_alloc_new we (.cells #[.int .i64 1, .int .i64 2] 43)
    have n1 := Aside0.mk (below_then HB.out HB.out.size hbf)
    have n2 := Aside0.mk (HBD.out.below hbf)
    have n3 := Aside0.mk (And.intro HCE.out.1 (And.intro (Kd.C_below HCE.out.2.1 hbf) HCE.out.2.2))
    have n4 := Aside0.mk ((hbf.block _ (blk_lt HKX.out)).trans HKX.out)
    generalize we.alloc (.cells #[.int .i64 1, .int .i64 2] 43) = wf at kw n1 n2 n3 n4 ⊢
    generalize we.heap.size = gw at kw ⊢
    clear hbf HB HBD HCE HKX
    have HB := n1
    have HBD := n2
    have HCE := n3
    have HKX := n4
    have HKW := Aside0.mk kw
    clear n1 n2 n3 n4 kw
    have HT := Aside0.mk (And.intro (cutB_le t1 300) (cutB_le t2 300))
    generalize cutB t1 300 = s1 at HCT HT
    generalize cutB t2 300 = s2 at HCT HT
    have z0 := (blk_cell HKW.out 0).trans (show _ = some (Value.int .i64 1) from rfl)
    have z1 := (blk_cell HKW.out 1).trans (show _ = some (Value.int .i64 2) from rfl)
    have hbd7 := below_drew (Below.refl wf.heap.size wf)
    have HSC := Aside0.mk (subscribe_calls w.heap.size g 0 (1, 2) S1 Bd.empty s1 wf.drew (HBD.out.below hbd7) HB.out.size (by decide) ⟨by decide, by decide⟩ (by have := HT.out.1; omega))
    clear hbd7
    unfold k2 at HSC
    by_cases hs1 : subC S1 Bd.empty (1, 2) s1 = 0
    · have HSC1 := Aside0.mk (HSC.out.mono (fun e w' hp => show ∃ F, e = .returned .nilIface ∧ Kept w.heap.size wf.drew w' ∧ IsBd w.heap.size w' g S1 (Bd.empty.sub (1, 2) F) 1 from by
        obtain ⟨hk, hp⟩ := hp
        rcases hp with ⟨h0, _⟩ | ⟨_, h1, xs, _, h3⟩
        · exact absurd hs1 h0
        · exact ⟨_, h1, hk, h3⟩))
      clear HSC
      go_region_held3 (fun X => X.cell? ⟨gw, 0, none⟩ = some (.int .i64 1) ∧ X.cell? ⟨gw, 1, none⟩ = some (.int .i64 2)) (go_keep) (first
        | (go_at_call 13; (with_reducible refine (HCT.out.1 _).mono ?_); rintro e w9 ⟨rfl, rfl⟩)
        | (go_at_call 12; (with_reducible refine HSC1.out.mono ?_); rintro e w9 ⟨F, rfl, hk9, hbd9⟩; have z0' := hk9.cell (show wf.drew.cell? _ = _ from z0); have z1' := hk9.cell (show wf.drew.cell? _ = _ from z1)))
      all_goals
        have n1 := Aside0.mk (HB.out.trans ((below_drew (Below.refl w.heap.size _)).trans hk9.1))
        have n2 := Aside0.mk hbd9
        have n4 := Aside0.mk (hk9.2 _ _ _ _ (show (wf.drew).heap[gx]? = _ from HKX.out))
        have n5 := Aside0.mk (hk9.2 _ _ _ _ (show (wf.drew).heap[gw]? = _ from HKW.out))
        have n3 := Aside0.mk (And.intro HCE.out.1 (And.intro (CV_kept hk9 (Kd.C_drew HCE.out.2.1)) HCE.out.2.2))
        clear HB HBD HCE HKX HKW z0 z1 z0' z1' hk9 hbd9
        have HB := n1
        have HBD := n2
        have HCE := n3
        have HKX := n4
        have HKW := n5
        clear n1 n2 n3 n4 n5
        have z0 := (blk_cell HKW.out 0).trans (show _ = some (Value.int .i64 1) from rfl)
        have z1 := (blk_cell HKW.out 1).trans (show _ = some (Value.int .i64 2) from rfl)
        have HSN := Aside0.mk (show subC S1 (Bd.empty.sub (1, 2) F) (1, 2) s2 ≠ 0 from subC_there (F := F) (by show upd Bd.empty.subs (1, 2) (some F) (1, 2) = _; unfold upd; rw [if_pos rfl]))
        have HSC2 := Aside0.mk ((subscribe_calls w.heap.size g 1 (1, 2) S1 (Bd.empty.sub (1, 2) F) s2 w9.drew (HBD.out.below (below_drew (Below.refl _ _))) HB.out.size (by decide) ⟨by decide, by decide⟩ (by have := HT.out.2; omega)).mono (fun e w' hp => show ∃ b n, e = .returned (.iface 103 (.pointer (some ⟨b, 0, none⟩))) ∧ ErrIs w' (subC S1 (Bd.empty.sub (1, 2) F) (1, 2) s2) n (.iface 103 (.pointer (some ⟨b, 0, none⟩))) ∧ Kept w.heap.size w9.drew w' ∧ IsBd w.heap.size w' g S1 (Bd.empty.sub (1, 2) F) 1 from by
          obtain ⟨hk, hp⟩ := hp
          rcases hp with ⟨_, ⟨b, n, h1, h2⟩, h3⟩ | ⟨h0, _⟩
          · exact ⟨b, n, h1, h2, hk, h3⟩
          · exact absurd h0 HSN.out))
        unfold k2 at HSC2
        go_wp2_with fail
        go_region_held3 (fun X => X.cell? ⟨gw, 0, none⟩ = some (.int .i64 1) ∧ X.cell? ⟨gw, 1, none⟩ = some (.int .i64 2)) (go_keep) (first
          | (go_at_call 13; (with_reducible refine (HCT.out.2 _).mono ?_); rintro e w10 ⟨rfl, rfl⟩)
          | (go_at_call 12; (with_reducible refine HSC2.out.mono ?_); rintro e w10 ⟨bF, nF, rfl, hei, hk9, hbd9⟩; have z0' := hk9.cell (show w9.drew.cell? _ = _ from z0); have z1' := hk9.cell (show w9.drew.cell? _ = _ from z1)))
        all_goals
          have HEI := Aside0.mk hei
          clear hei HSC2
          have n1 := Aside0.mk (HB.out.trans ((below_drew (Below.refl w.heap.size _)).trans hk9.1))
          have n2 := Aside0.mk hbd9
          have n4 := Aside0.mk (hk9.2 _ _ _ _ (show (w9.drew).heap[gx]? = _ from HKX.out))
          have n5 := Aside0.mk (hk9.2 _ _ _ _ (show (w9.drew).heap[gw]? = _ from HKW.out))
          have n3 := Aside0.mk (And.intro HCE.out.1 (And.intro (CV_kept hk9 (Kd.C_drew HCE.out.2.1)) HCE.out.2.2))
          clear HB HBD HCE HKX HKW z0 z1 z0' z1' hk9 hbd9
          have HB := n1
          have HBD := n2
          have HCE := n3
          have HKX := n4
          have HKW := n5
          clear n1 n2 n3 n4 n5
          have z0 := (blk_cell HKW.out 0).trans (show _ = some (Value.int .i64 1) from rfl)
          have z1 := (blk_cell HKW.out 1).trans (show _ = some (Value.int .i64 2) from rfl)
          have h235 := subC_235 (by have := HT.out.2; omega) HSN.out
          generalize subC S1 (Bd.empty.sub (1, 2) F) (1, 2) s2 = c2' at HEI h235
          clear HSN HSC1 hs1 z0 z1
          rcases h235 with rfl | rfl | rfl
          · go_wp2_with fail
            refine (is_err 5 5 nF _ _ HEI.out).mono ?_
            rintro e w11 ⟨rfl, rfl⟩
            clear HEI
            go_upto_region 11 with (fail)
            obtain ⟨B', hB'⟩ : ∃ B', B' = Bd.empty.sub (1, 2) F := ⟨_, rfl⟩
            have HEV0 := Aside0.mk (show B'.evs (1, 1) = none by rw [hB']; rfl)
            have HONE := Aside0.mk (show ∀ x, (B'.subs x).isSome = true → x = (1, 2) from fun x hx => by
              rw [hB'] at hx
              by_cases h : x = (1, 2)
              · exact h
              · have h2 : (Bd.empty.sub (1, 2) F).subs x = none := by show upd Bd.empty.subs (1, 2) (some F) x = _; unfold upd; rw [if_neg h]; rfl
                rw [h2] at hx
                cases hx)
            rw [← hB'] at HBD
            clear hB'
            have HPB := Aside0.mk (publish_calls w.heap.size g 1 a2 o2 m2 c2 (1, 1) S1 B' E1 V1 p1 w10 HBD.out HB.out.size (by decide) ⟨by decide, by decide⟩ HM2.out.symm (by rcases HCE.out.2.2 with h | h; exact Or.inl h; exact Or.inr h) HCE.out.2.1 (checkBad_none HCK.out).1)
            unfold encE at HPB
            have y0 := (blk_cell HKX.out 0).trans (show _ = some (Value.slice E1 m2 c2) from rfl)
            have y1 := (blk_cell HKX.out 1).trans (show _ = some (Value.string p1) from rfl)
            by_cases hp1 : pubC S1 B' (1, 1) V1 p1 = 0
            · go_wp2_with fail
              refine HPB.out.mono ?_
              rintro e w12 ⟨hk5, hp⟩
              obtain ⟨rfl, hbd5⟩ : e = .returned .nilIface ∧ IsBd w.heap.size w12 g S1 (B'.pub (1, 1) V1 p1) (1 + 1) := by
                rcases hp with ⟨h0, _⟩ | ⟨_, h1, h2⟩
                · exact absurd hp1 h0
                · exact ⟨h1, h2⟩
              clear hp HPB y0 y1
              have n1 := Aside0.mk (HB.out.trans hk5.1)
              have n2 := Aside0.mk hbd5
              have n4 := Aside0.mk (hk5.2 _ _ _ _ HKX.out)
              have n3 := Aside0.mk (And.intro HCE.out.1 (And.intro (CV_kept hk5 HCE.out.2.1) HCE.out.2.2))
              clear HB HBD HCE HKX hk5 hbd5
              have HB := n1
              have HBD := n2
              have HCE := n3
              have HKX := n4
              clear n1 n2 n3 n4
              have y0 := (blk_cell HKX.out 0).trans (show _ = some (Value.slice E1 m2 c2) from rfl)
              have y1 := (blk_cell HKX.out 1).trans (show _ = some (Value.string p1) from rfl)
              have hpa := pubC_again hp1
              have HPA := Aside0.mk hpa
              have hev := evs_pub B' (1, 1) V1 p1
              have HEV := Aside0.mk hev
              have HON2 := Aside0.mk (show ∀ V p x, dueB S1 (B'.pub (1, 1) V1 p1) (1, 1) V p x = true → x = (1, 2) from fun V p x hx => by
                unfold dueB at hx
                have h1 : (B'.pub (1, 1) V1 p1).subs x = B'.subs x := rfl
                rw [h1] at hx
                cases hs : B'.subs x with
                | none => rw [hs] at hx; cases hx
                | some F0 => exact HONE.out x (by rw [hs]; rfl))
              clear hpa hev hp1 HONE HEV0
              obtain ⟨Bp, hBp⟩ : ∃ B2, B2 = B'.pub (1, 1) V1 p1 := ⟨_, rfl⟩
              rw [← hBp] at HBD HPA HEV HON2
              clear hBp
              go_wp2_with fail
              refine (due_calls w.heap.size g (1 + 1) (1, 1) S1 Bp w12 HBD.out (by decide) ⟨by decide, by decide⟩).mono ?_
              rintro e w13 ⟨hb13, hp⟩
              obtain ⟨vL1, L1, rfl, hoL1, hdL1⟩ : ∃ v L, e = .returned (.tuple #[v, .nilIface]) ∧ (w13).ownsRow (w12).heap.size tW 2 v L.length (flatW L) ∧ DueList (dueB S1 Bp (1, 1) V1 p1) (1 + 1) L := by
                rcases hp with ⟨h0, _⟩ | ⟨V9, p9, h0, v, L, h1, h2, h3⟩
                · rw [HEV.out] at h0; cases h0
                · rw [HEV.out] at h0
                  injection h0 with h0
                  injection h0 with h5 h6
                  subst h5
                  subst h6
                  exact ⟨v, L, h1, h2, h3⟩
              have HL := Aside0.mk hdL1
              obtain ⟨AL1, cL1, rfl⟩ := own_shape hoL1
              clear hoL1 hdL1 hp
              clear y0 y1
              have hk5 := Kept.of hb13 HB.out.size
              have hbd5 := HBD.out.below hb13
              clear hb13
              have n1 := Aside0.mk (HB.out.trans hk5.1)
              have n2 := Aside0.mk hbd5
              have n4 := Aside0.mk (hk5.2 _ _ _ _ HKX.out)
              have n3 := Aside0.mk (And.intro HCE.out.1 (And.intro (CV_kept hk5 HCE.out.2.1) HCE.out.2.2))
              clear HB HBD HCE HKX hk5 hbd5
              have HB := n1
              have HBD := n2
              have HCE := n3
              have HKX := n4
              clear n1 n2 n3 n4
              have y0 := (blk_cell HKX.out 0).trans (show _ = some (Value.slice E1 m2 c2) from rfl)
              have y1 := (blk_cell HKX.out 1).trans (show _ = some (Value.string p1) from rfl)
              have HPB := Aside0.mk (publish_calls w.heap.size g (1 + 1) a2 o2 m2 c2 (1, 1) S1 Bp E1 V1 p1 w13 HBD.out HB.out.size (by decide) ⟨by decide, by decide⟩ HM2.out.symm (by rcases HCE.out.2.2 with h | h; exact Or.inl h; exact Or.inr h) HCE.out.2.1 (checkBad_none HCK.out).1)
              unfold encE at HPB
              go_wp2_with fail
              refine HPB.out.mono ?_
              rintro e w14 ⟨hk5, hp⟩
              obtain ⟨bp, np, rfl, hei, hbd5⟩ : ∃ b n, e = .returned (.iface 103 (.pointer (some ⟨b, 0, none⟩))) ∧ ErrIs w14 5 n (.iface 103 (.pointer (some ⟨b, 0, none⟩))) ∧ IsBd w.heap.size w14 g S1 Bp (1 + 1) := by
                rw [HPA.out] at hp
                rcases hp with ⟨_, ⟨b, n, h1, h2⟩, h3⟩ | ⟨h0, _⟩
                · exact ⟨b, n, h1, h2, h3⟩
                · exact absurd h0 (by decide)
              have HEI := Aside0.mk hei
              clear hei hp HPB y0 y1
              have n1 := Aside0.mk (HB.out.trans hk5.1)
              have n2 := Aside0.mk hbd5
              have n4 := Aside0.mk (hk5.2 _ _ _ _ HKX.out)
              have n3 := Aside0.mk (And.intro HCE.out.1 (And.intro (CV_kept hk5 HCE.out.2.1) HCE.out.2.2))
              clear HB HBD HCE HKX hk5 hbd5
              have HB := n1
              have HBD := n2
              have HCE := n3
              have HKX := n4
              clear n1 n2 n3 n4
              have y0 := (blk_cell HKX.out 0).trans (show _ = some (Value.slice E1 m2 c2) from rfl)
              have y1 := (blk_cell HKX.out 1).trans (show _ = some (Value.string p1) from rfl)
              go_wp2_with fail
              refine (due_calls w.heap.size g (1 + 1) (1, 1) S1 Bp w14 HBD.out (by decide) ⟨by decide, by decide⟩).mono ?_
              rintro e w15 ⟨hb15, hp⟩
              obtain ⟨vL2, L2, rfl, hoL2, hdL2⟩ : ∃ v L, e = .returned (.tuple #[v, .nilIface]) ∧ (w15).ownsRow (w14).heap.size tW 2 v L.length (flatW L) ∧ DueList (dueB S1 Bp (1, 1) V1 p1) (1 + 1) L := by
                rcases hp with ⟨h0, _⟩ | ⟨V9, p9, h0, v, L, h1, h2, h3⟩
                · rw [HEV.out] at h0; cases h0
                · rw [HEV.out] at h0
                  injection h0 with h0
                  injection h0 with h5 h6
                  subst h5
                  subst h6
                  exact ⟨v, L, h1, h2, h3⟩
              have HM := Aside0.mk hdL2
              obtain ⟨AL2, cL2, rfl⟩ := own_shape hoL2
              clear hoL2 hdL2 hp
              have hLL := HL.out.uniq HM.out (fun _ _ => rfl)
              have hle := list_one HL.out (HON2.out _ _)
              subst hLL
              have HE15 := Aside0.mk (ErrIs.kept (Kept.of (base := w.heap.size) hb15 HB.out.size) HEI.out)
              have HB15 := Aside0.mk (below_then HB.out HB.out.size hb15)
              obtain ⟨nL, hnL⟩ : ∃ n, n = L1.length := ⟨_, rfl⟩
              rw [← hnL] at hle ⊢
              have e1 : decide ((nL : Int) ≤ 1) = true := decide_eq_true (by omega)
              clear hb15 hnL y0 y1 HEI
              go_wp2_with fail
              refine (awake_calls _).mono ?_
              rintro e w16 ⟨rfl, hb16⟩
              have HE16 := Aside0.mk (ErrIs.kept (Kept.of (base := w.heap.size) hb16 HB15.out.size) HE15.out)
              have HB16 := below_then HB15.out HB15.out.size hb16
              clear hb16
              go_wp2_with fail
              refine (is_err 5 5 np _ _ HE16.out).mono ?_
              rintro e w17 ⟨rfl, rfl⟩
              go_wp2
              try go_ret
              exact ⟨rfl, HB16⟩
            · obtain ⟨bq, nq, hq⟩ : True ∧ True ∧ True := ⟨trivial, trivial, trivial⟩
              go_wp2_with fail
              refine HPB.out.mono ?_
              rintro e w12 ⟨hk5, hp⟩
              obtain ⟨bp, np, rfl, _⟩ : ErrE w12 (pubC S1 B' (1, 1) V1 p1) e := by
                rcases hp with ⟨_, h1, _⟩ | ⟨h0, _⟩
                · exact h1
                · exact absurd h0 hp1
              have HBW := Aside0.mk (HB.out.trans hk5.1)
              clear hk5 hp HPB y0 y1 hp1
              go_wp2_with fail
              refine (awake_calls _).mono ?_
              rintro e w8 ⟨rfl, hb8⟩
              have hfin := below_then HBW.out HBW.out.size hb8
              clear hb8
              go_wp2
              try go_ret
              exact ⟨rfl, hfin⟩
          · go_wp2_with fail
            refine (is_err 2 5 nF _ _ HEI.out).mono ?_
            rintro e w11 ⟨rfl, rfl⟩
            go_wp2_with fail
            refine (is_err 2 2 nF _ _ HEI.out).mono ?_
            rintro e w11 ⟨rfl, rfl⟩
            clear HEI
            go_upto_region 11 with (fail)
            obtain ⟨B', hB'⟩ : ∃ B', B' = Bd.empty.sub (1, 2) F := ⟨_, rfl⟩
            have HEV0 := Aside0.mk (show B'.evs (1, 1) = none by rw [hB']; rfl)
            have HONE := Aside0.mk (show ∀ x, (B'.subs x).isSome = true → x = (1, 2) from fun x hx => by
              rw [hB'] at hx
              by_cases h : x = (1, 2)
              · exact h
              · have h2 : (Bd.empty.sub (1, 2) F).subs x = none := by show upd Bd.empty.subs (1, 2) (some F) x = _; unfold upd; rw [if_neg h]; rfl
                rw [h2] at hx
                cases hx)
            rw [← hB'] at HBD
            clear hB'
            have HPB := Aside0.mk (publish_calls w.heap.size g 1 a2 o2 m2 c2 (1, 1) S1 B' E1 V1 p1 w10 HBD.out HB.out.size (by decide) ⟨by decide, by decide⟩ HM2.out.symm (by rcases HCE.out.2.2 with h | h; exact Or.inl h; exact Or.inr h) HCE.out.2.1 (checkBad_none HCK.out).1)
            unfold encE at HPB
            have y0 := (blk_cell HKX.out 0).trans (show _ = some (Value.slice E1 m2 c2) from rfl)
            have y1 := (blk_cell HKX.out 1).trans (show _ = some (Value.string p1) from rfl)
            by_cases hp1 : pubC S1 B' (1, 1) V1 p1 = 0
            · go_wp2_with fail
              refine HPB.out.mono ?_
              rintro e w12 ⟨hk5, hp⟩
              obtain ⟨rfl, hbd5⟩ : e = .returned .nilIface ∧ IsBd w.heap.size w12 g S1 (B'.pub (1, 1) V1 p1) (1 + 1) := by
                rcases hp with ⟨h0, _⟩ | ⟨_, h1, h2⟩
                · exact absurd hp1 h0
                · exact ⟨h1, h2⟩
              clear hp HPB y0 y1
              have n1 := Aside0.mk (HB.out.trans hk5.1)
              have n2 := Aside0.mk hbd5
              have n4 := Aside0.mk (hk5.2 _ _ _ _ HKX.out)
              have n3 := Aside0.mk (And.intro HCE.out.1 (And.intro (CV_kept hk5 HCE.out.2.1) HCE.out.2.2))
              clear HB HBD HCE HKX hk5 hbd5
              have HB := n1
              have HBD := n2
              have HCE := n3
              have HKX := n4
              clear n1 n2 n3 n4
              have y0 := (blk_cell HKX.out 0).trans (show _ = some (Value.slice E1 m2 c2) from rfl)
              have y1 := (blk_cell HKX.out 1).trans (show _ = some (Value.string p1) from rfl)
              have hpa := pubC_again hp1
              have HPA := Aside0.mk hpa
              have hev := evs_pub B' (1, 1) V1 p1
              have HEV := Aside0.mk hev
              have HON2 := Aside0.mk (show ∀ V p x, dueB S1 (B'.pub (1, 1) V1 p1) (1, 1) V p x = true → x = (1, 2) from fun V p x hx => by
                unfold dueB at hx
                have h1 : (B'.pub (1, 1) V1 p1).subs x = B'.subs x := rfl
                rw [h1] at hx
                cases hs : B'.subs x with
                | none => rw [hs] at hx; cases hx
                | some F0 => exact HONE.out x (by rw [hs]; rfl))
              clear hpa hev hp1 HONE HEV0
              obtain ⟨Bp, hBp⟩ : ∃ B2, B2 = B'.pub (1, 1) V1 p1 := ⟨_, rfl⟩
              rw [← hBp] at HBD HPA HEV HON2
              clear hBp
              go_wp2_with fail
              refine (due_calls w.heap.size g (1 + 1) (1, 1) S1 Bp w12 HBD.out (by decide) ⟨by decide, by decide⟩).mono ?_
              rintro e w13 ⟨hb13, hp⟩
              obtain ⟨vL1, L1, rfl, hoL1, hdL1⟩ : ∃ v L, e = .returned (.tuple #[v, .nilIface]) ∧ (w13).ownsRow (w12).heap.size tW 2 v L.length (flatW L) ∧ DueList (dueB S1 Bp (1, 1) V1 p1) (1 + 1) L := by
                rcases hp with ⟨h0, _⟩ | ⟨V9, p9, h0, v, L, h1, h2, h3⟩
                · rw [HEV.out] at h0; cases h0
                · rw [HEV.out] at h0
                  injection h0 with h0
                  injection h0 with h5 h6
                  subst h5
                  subst h6
                  exact ⟨v, L, h1, h2, h3⟩
              have HL := Aside0.mk hdL1
              obtain ⟨AL1, cL1, rfl⟩ := own_shape hoL1
              clear hoL1 hdL1 hp
              clear y0 y1
              have hk5 := Kept.of hb13 HB.out.size
              have hbd5 := HBD.out.below hb13
              clear hb13
              have n1 := Aside0.mk (HB.out.trans hk5.1)
              have n2 := Aside0.mk hbd5
              have n4 := Aside0.mk (hk5.2 _ _ _ _ HKX.out)
              have n3 := Aside0.mk (And.intro HCE.out.1 (And.intro (CV_kept hk5 HCE.out.2.1) HCE.out.2.2))
              clear HB HBD HCE HKX hk5 hbd5
              have HB := n1
              have HBD := n2
              have HCE := n3
              have HKX := n4
              clear n1 n2 n3 n4
              have y0 := (blk_cell HKX.out 0).trans (show _ = some (Value.slice E1 m2 c2) from rfl)
              have y1 := (blk_cell HKX.out 1).trans (show _ = some (Value.string p1) from rfl)
              have HPB := Aside0.mk (publish_calls w.heap.size g (1 + 1) a2 o2 m2 c2 (1, 1) S1 Bp E1 V1 p1 w13 HBD.out HB.out.size (by decide) ⟨by decide, by decide⟩ HM2.out.symm (by rcases HCE.out.2.2 with h | h; exact Or.inl h; exact Or.inr h) HCE.out.2.1 (checkBad_none HCK.out).1)
              unfold encE at HPB
              go_wp2_with fail
              refine HPB.out.mono ?_
              rintro e w14 ⟨hk5, hp⟩
              obtain ⟨bp, np, rfl, hei, hbd5⟩ : ∃ b n, e = .returned (.iface 103 (.pointer (some ⟨b, 0, none⟩))) ∧ ErrIs w14 5 n (.iface 103 (.pointer (some ⟨b, 0, none⟩))) ∧ IsBd w.heap.size w14 g S1 Bp (1 + 1) := by
                rw [HPA.out] at hp
                rcases hp with ⟨_, ⟨b, n, h1, h2⟩, h3⟩ | ⟨h0, _⟩
                · exact ⟨b, n, h1, h2, h3⟩
                · exact absurd h0 (by decide)
              have HEI := Aside0.mk hei
              clear hei hp HPB y0 y1
              have n1 := Aside0.mk (HB.out.trans hk5.1)
              have n2 := Aside0.mk hbd5
              have n4 := Aside0.mk (hk5.2 _ _ _ _ HKX.out)
              have n3 := Aside0.mk (And.intro HCE.out.1 (And.intro (CV_kept hk5 HCE.out.2.1) HCE.out.2.2))
              clear HB HBD HCE HKX hk5 hbd5
              have HB := n1
              have HBD := n2
              have HCE := n3
              have HKX := n4
              clear n1 n2 n3 n4
              have y0 := (blk_cell HKX.out 0).trans (show _ = some (Value.slice E1 m2 c2) from rfl)
              have y1 := (blk_cell HKX.out 1).trans (show _ = some (Value.string p1) from rfl)
              go_wp2_with fail
              refine (due_calls w.heap.size g (1 + 1) (1, 1) S1 Bp w14 HBD.out (by decide) ⟨by decide, by decide⟩).mono ?_
              rintro e w15 ⟨hb15, hp⟩
              obtain ⟨vL2, L2, rfl, hoL2, hdL2⟩ : ∃ v L, e = .returned (.tuple #[v, .nilIface]) ∧ (w15).ownsRow (w14).heap.size tW 2 v L.length (flatW L) ∧ DueList (dueB S1 Bp (1, 1) V1 p1) (1 + 1) L := by
                rcases hp with ⟨h0, _⟩ | ⟨V9, p9, h0, v, L, h1, h2, h3⟩
                · rw [HEV.out] at h0; cases h0
                · rw [HEV.out] at h0
                  injection h0 with h0
                  injection h0 with h5 h6
                  subst h5
                  subst h6
                  exact ⟨v, L, h1, h2, h3⟩
              have HM := Aside0.mk hdL2
              obtain ⟨AL2, cL2, rfl⟩ := own_shape hoL2
              clear hoL2 hdL2 hp
              have hLL := HL.out.uniq HM.out (fun _ _ => rfl)
              have hle := list_one HL.out (HON2.out _ _)
              subst hLL
              have HE15 := Aside0.mk (ErrIs.kept (Kept.of (base := w.heap.size) hb15 HB.out.size) HEI.out)
              have HB15 := Aside0.mk (below_then HB.out HB.out.size hb15)
              obtain ⟨nL, hnL⟩ : ∃ n, n = L1.length := ⟨_, rfl⟩
              rw [← hnL] at hle ⊢
              have e1 : decide ((nL : Int) ≤ 1) = true := decide_eq_true (by omega)
              clear hb15 hnL y0 y1 HEI
              go_wp2_with fail
              refine (awake_calls _).mono ?_
              rintro e w16 ⟨rfl, hb16⟩
              have HE16 := Aside0.mk (ErrIs.kept (Kept.of (base := w.heap.size) hb16 HB15.out.size) HE15.out)
              have HB16 := below_then HB15.out HB15.out.size hb16
              clear hb16
              go_wp2_with fail
              refine (is_err 5 5 np _ _ HE16.out).mono ?_
              rintro e w17 ⟨rfl, rfl⟩
              go_wp2
              try go_ret
              exact ⟨rfl, HB16⟩
            · obtain ⟨bq, nq, hq⟩ : True ∧ True ∧ True := ⟨trivial, trivial, trivial⟩
              go_wp2_with fail
              refine HPB.out.mono ?_
              rintro e w12 ⟨hk5, hp⟩
              obtain ⟨bp, np, rfl, _⟩ : ErrE w12 (pubC S1 B' (1, 1) V1 p1) e := by
                rcases hp with ⟨_, h1, _⟩ | ⟨h0, _⟩
                · exact h1
                · exact absurd h0 hp1
              have HBW := Aside0.mk (HB.out.trans hk5.1)
              clear hk5 hp HPB y0 y1 hp1
              go_wp2_with fail
              refine (awake_calls _).mono ?_
              rintro e w8 ⟨rfl, hb8⟩
              have hfin := below_then HBW.out HBW.out.size hb8
              clear hb8
              go_wp2
              try go_ret
              exact ⟨rfl, hfin⟩
          · go_wp2_with fail
            refine (is_err 3 5 nF _ _ HEI.out).mono ?_
            rintro e w11 ⟨rfl, rfl⟩
            go_wp2_with fail
            refine (is_err 3 2 nF _ _ HEI.out).mono ?_
            rintro e w11 ⟨rfl, rfl⟩
            go_wp2_with fail
            refine (is_err 3 3 nF _ _ HEI.out).mono ?_
            rintro e w11 ⟨rfl, rfl⟩
            clear HEI
            go_upto_region 11 with (fail)
            obtain ⟨B', hB'⟩ : ∃ B', B' = Bd.empty.sub (1, 2) F := ⟨_, rfl⟩
            have HEV0 := Aside0.mk (show B'.evs (1, 1) = none by rw [hB']; rfl)
            have HONE := Aside0.mk (show ∀ x, (B'.subs x).isSome = true → x = (1, 2) from fun x hx => by
              rw [hB'] at hx
              by_cases h : x = (1, 2)
              · exact h
              · have h2 : (Bd.empty.sub (1, 2) F).subs x = none := by show upd Bd.empty.subs (1, 2) (some F) x = _; unfold upd; rw [if_neg h]; rfl
                rw [h2] at hx
                cases hx)
            rw [← hB'] at HBD
            clear hB'
            have HPB := Aside0.mk (publish_calls w.heap.size g 1 a2 o2 m2 c2 (1, 1) S1 B' E1 V1 p1 w10 HBD.out HB.out.size (by decide) ⟨by decide, by decide⟩ HM2.out.symm (by rcases HCE.out.2.2 with h | h; exact Or.inl h; exact Or.inr h) HCE.out.2.1 (checkBad_none HCK.out).1)
            unfold encE at HPB
            have y0 := (blk_cell HKX.out 0).trans (show _ = some (Value.slice E1 m2 c2) from rfl)
            have y1 := (blk_cell HKX.out 1).trans (show _ = some (Value.string p1) from rfl)
            by_cases hp1 : pubC S1 B' (1, 1) V1 p1 = 0
            · go_wp2_with fail
              refine HPB.out.mono ?_
              rintro e w12 ⟨hk5, hp⟩
              obtain ⟨rfl, hbd5⟩ : e = .returned .nilIface ∧ IsBd w.heap.size w12 g S1 (B'.pub (1, 1) V1 p1) (1 + 1) := by
                rcases hp with ⟨h0, _⟩ | ⟨_, h1, h2⟩
                · exact absurd hp1 h0
                · exact ⟨h1, h2⟩
              clear hp HPB y0 y1
              have n1 := Aside0.mk (HB.out.trans hk5.1)
              have n2 := Aside0.mk hbd5
              have n4 := Aside0.mk (hk5.2 _ _ _ _ HKX.out)
              have n3 := Aside0.mk (And.intro HCE.out.1 (And.intro (CV_kept hk5 HCE.out.2.1) HCE.out.2.2))
              clear HB HBD HCE HKX hk5 hbd5
              have HB := n1
              have HBD := n2
              have HCE := n3
              have HKX := n4
              clear n1 n2 n3 n4
              have y0 := (blk_cell HKX.out 0).trans (show _ = some (Value.slice E1 m2 c2) from rfl)
              have y1 := (blk_cell HKX.out 1).trans (show _ = some (Value.string p1) from rfl)
              have hpa := pubC_again hp1
              have HPA := Aside0.mk hpa
              have hev := evs_pub B' (1, 1) V1 p1
              have HEV := Aside0.mk hev
              have HON2 := Aside0.mk (show ∀ V p x, dueB S1 (B'.pub (1, 1) V1 p1) (1, 1) V p x = true → x = (1, 2) from fun V p x hx => by
                unfold dueB at hx
                have h1 : (B'.pub (1, 1) V1 p1).subs x = B'.subs x := rfl
                rw [h1] at hx
                cases hs : B'.subs x with
                | none => rw [hs] at hx; cases hx
                | some F0 => exact HONE.out x (by rw [hs]; rfl))
              clear hpa hev hp1 HONE HEV0
              obtain ⟨Bp, hBp⟩ : ∃ B2, B2 = B'.pub (1, 1) V1 p1 := ⟨_, rfl⟩
              rw [← hBp] at HBD HPA HEV HON2
              clear hBp
              go_wp2_with fail
              refine (due_calls w.heap.size g (1 + 1) (1, 1) S1 Bp w12 HBD.out (by decide) ⟨by decide, by decide⟩).mono ?_
              rintro e w13 ⟨hb13, hp⟩
              obtain ⟨vL1, L1, rfl, hoL1, hdL1⟩ : ∃ v L, e = .returned (.tuple #[v, .nilIface]) ∧ (w13).ownsRow (w12).heap.size tW 2 v L.length (flatW L) ∧ DueList (dueB S1 Bp (1, 1) V1 p1) (1 + 1) L := by
                rcases hp with ⟨h0, _⟩ | ⟨V9, p9, h0, v, L, h1, h2, h3⟩
                · rw [HEV.out] at h0; cases h0
                · rw [HEV.out] at h0
                  injection h0 with h0
                  injection h0 with h5 h6
                  subst h5
                  subst h6
                  exact ⟨v, L, h1, h2, h3⟩
              have HL := Aside0.mk hdL1
              obtain ⟨AL1, cL1, rfl⟩ := own_shape hoL1
              clear hoL1 hdL1 hp
              clear y0 y1
              have hk5 := Kept.of hb13 HB.out.size
              have hbd5 := HBD.out.below hb13
              clear hb13
              have n1 := Aside0.mk (HB.out.trans hk5.1)
              have n2 := Aside0.mk hbd5
              have n4 := Aside0.mk (hk5.2 _ _ _ _ HKX.out)
              have n3 := Aside0.mk (And.intro HCE.out.1 (And.intro (CV_kept hk5 HCE.out.2.1) HCE.out.2.2))
              clear HB HBD HCE HKX hk5 hbd5
              have HB := n1
              have HBD := n2
              have HCE := n3
              have HKX := n4
              clear n1 n2 n3 n4
              have y0 := (blk_cell HKX.out 0).trans (show _ = some (Value.slice E1 m2 c2) from rfl)
              have y1 := (blk_cell HKX.out 1).trans (show _ = some (Value.string p1) from rfl)
              have HPB := Aside0.mk (publish_calls w.heap.size g (1 + 1) a2 o2 m2 c2 (1, 1) S1 Bp E1 V1 p1 w13 HBD.out HB.out.size (by decide) ⟨by decide, by decide⟩ HM2.out.symm (by rcases HCE.out.2.2 with h | h; exact Or.inl h; exact Or.inr h) HCE.out.2.1 (checkBad_none HCK.out).1)
              unfold encE at HPB
              go_wp2_with fail
              refine HPB.out.mono ?_
              rintro e w14 ⟨hk5, hp⟩
              obtain ⟨bp, np, rfl, hei, hbd5⟩ : ∃ b n, e = .returned (.iface 103 (.pointer (some ⟨b, 0, none⟩))) ∧ ErrIs w14 5 n (.iface 103 (.pointer (some ⟨b, 0, none⟩))) ∧ IsBd w.heap.size w14 g S1 Bp (1 + 1) := by
                rw [HPA.out] at hp
                rcases hp with ⟨_, ⟨b, n, h1, h2⟩, h3⟩ | ⟨h0, _⟩
                · exact ⟨b, n, h1, h2, h3⟩
                · exact absurd h0 (by decide)
              have HEI := Aside0.mk hei
              clear hei hp HPB y0 y1
              have n1 := Aside0.mk (HB.out.trans hk5.1)
              have n2 := Aside0.mk hbd5
              have n4 := Aside0.mk (hk5.2 _ _ _ _ HKX.out)
              have n3 := Aside0.mk (And.intro HCE.out.1 (And.intro (CV_kept hk5 HCE.out.2.1) HCE.out.2.2))
              clear HB HBD HCE HKX hk5 hbd5
              have HB := n1
              have HBD := n2
              have HCE := n3
              have HKX := n4
              clear n1 n2 n3 n4
              have y0 := (blk_cell HKX.out 0).trans (show _ = some (Value.slice E1 m2 c2) from rfl)
              have y1 := (blk_cell HKX.out 1).trans (show _ = some (Value.string p1) from rfl)
              go_wp2_with fail
              refine (due_calls w.heap.size g (1 + 1) (1, 1) S1 Bp w14 HBD.out (by decide) ⟨by decide, by decide⟩).mono ?_
              rintro e w15 ⟨hb15, hp⟩
              obtain ⟨vL2, L2, rfl, hoL2, hdL2⟩ : ∃ v L, e = .returned (.tuple #[v, .nilIface]) ∧ (w15).ownsRow (w14).heap.size tW 2 v L.length (flatW L) ∧ DueList (dueB S1 Bp (1, 1) V1 p1) (1 + 1) L := by
                rcases hp with ⟨h0, _⟩ | ⟨V9, p9, h0, v, L, h1, h2, h3⟩
                · rw [HEV.out] at h0; cases h0
                · rw [HEV.out] at h0
                  injection h0 with h0
                  injection h0 with h5 h6
                  subst h5
                  subst h6
                  exact ⟨v, L, h1, h2, h3⟩
              have HM := Aside0.mk hdL2
              obtain ⟨AL2, cL2, rfl⟩ := own_shape hoL2
              clear hoL2 hdL2 hp
              have hLL := HL.out.uniq HM.out (fun _ _ => rfl)
              have hle := list_one HL.out (HON2.out _ _)
              subst hLL
              have HE15 := Aside0.mk (ErrIs.kept (Kept.of (base := w.heap.size) hb15 HB.out.size) HEI.out)
              have HB15 := Aside0.mk (below_then HB.out HB.out.size hb15)
              obtain ⟨nL, hnL⟩ : ∃ n, n = L1.length := ⟨_, rfl⟩
              rw [← hnL] at hle ⊢
              have e1 : decide ((nL : Int) ≤ 1) = true := decide_eq_true (by omega)
              clear hb15 hnL y0 y1 HEI
              go_wp2_with fail
              refine (awake_calls _).mono ?_
              rintro e w16 ⟨rfl, hb16⟩
              have HE16 := Aside0.mk (ErrIs.kept (Kept.of (base := w.heap.size) hb16 HB15.out.size) HE15.out)
              have HB16 := below_then HB15.out HB15.out.size hb16
              clear hb16
              go_wp2_with fail
              refine (is_err 5 5 np _ _ HE16.out).mono ?_
              rintro e w17 ⟨rfl, rfl⟩
              go_wp2
              try go_ret
              exact ⟨rfl, HB16⟩
            · obtain ⟨bq, nq, hq⟩ : True ∧ True ∧ True := ⟨trivial, trivial, trivial⟩
              go_wp2_with fail
              refine HPB.out.mono ?_
              rintro e w12 ⟨hk5, hp⟩
              obtain ⟨bp, np, rfl, _⟩ : ErrE w12 (pubC S1 B' (1, 1) V1 p1) e := by
                rcases hp with ⟨_, h1, _⟩ | ⟨h0, _⟩
                · exact h1
                · exact absurd h0 hp1
              have HBW := Aside0.mk (HB.out.trans hk5.1)
              clear hk5 hp HPB y0 y1 hp1
              go_wp2_with fail
              refine (awake_calls _).mono ?_
              rintro e w8 ⟨rfl, hb8⟩
              have hfin := below_then HBW.out HBW.out.size hb8
              clear hb8
              go_wp2
              try go_ret
              exact ⟨rfl, hfin⟩
    · have HSC1 := Aside0.mk (HSC.out.mono (fun e w' hp => show ∃ b, e = .returned (.iface 103 (.pointer (some ⟨b, 0, none⟩))) ∧ Kept w.heap.size wf.drew w' ∧ IsBd w.heap.size w' g S1 Bd.empty 0 from by
        obtain ⟨hk, hp⟩ := hp
        rcases hp with ⟨_, ⟨b, n, h1, h2⟩, h3⟩ | ⟨h0, _⟩
        · exact ⟨b, h1, hk, h3⟩
        · exact absurd h0 hs1))
      clear HSC
      go_region_held3 (fun X => X.cell? ⟨gw, 0, none⟩ = some (.int .i64 1) ∧ X.cell? ⟨gw, 1, none⟩ = some (.int .i64 2)) (go_keep) (first
        | (go_at_call 13; (with_reducible refine (HCT.out.1 _).mono ?_); rintro e w9 ⟨rfl, rfl⟩)
        | (go_at_call 12; (with_reducible refine HSC1.out.mono ?_); rintro e w9 ⟨bE, rfl, hk9, hbd9⟩; have z0' := hk9.cell (show wf.drew.cell? _ = _ from z0); have z1' := hk9.cell (show wf.drew.cell? _ = _ from z1)))
      all_goals
        have n1 := Aside0.mk (HB.out.trans ((below_drew (Below.refl w.heap.size _)).trans hk9.1))
        have n2 := Aside0.mk hbd9
        have n4 := Aside0.mk (hk9.2 _ _ _ _ (show (wf.drew).heap[gx]? = _ from HKX.out))
        have n5 := Aside0.mk (hk9.2 _ _ _ _ (show (wf.drew).heap[gw]? = _ from HKW.out))
        have n3 := Aside0.mk (And.intro HCE.out.1 (And.intro (CV_kept hk9 (Kd.C_drew HCE.out.2.1)) HCE.out.2.2))
        clear HB HBD HCE HKX HKW z0 z1 z0' z1' hk9 hbd9
        have HB := n1
        have HBD := n2
        have HCE := n3
        have HKX := n4
        have HKW := n5
        clear n1 n2 n3 n4 n5
        have z0 := (blk_cell HKW.out 0).trans (show _ = some (Value.int .i64 1) from rfl)
        have z1 := (blk_cell HKW.out 1).trans (show _ = some (Value.int .i64 2) from rfl)
        have HSC2 := Aside0.mk (subscribe_calls w.heap.size g 0 (1, 2) S1 Bd.empty s2 w9.drew (HBD.out.below (below_drew (Below.refl _ _))) HB.out.size (by decide) ⟨by decide, by decide⟩ (by have := HT.out.2; omega))
        unfold k2 at HSC2
        by_cases hs2 : subC S1 Bd.empty (1, 2) s2 = 0
        · have HSC3 := Aside0.mk (HSC2.out.mono (fun e w' hp => show ∃ F, e = .returned .nilIface ∧ Kept w.heap.size w9.drew w' ∧ IsBd w.heap.size w' g S1 (Bd.empty.sub (1, 2) F) 1 from by
            obtain ⟨hk, hp⟩ := hp
            rcases hp with ⟨h0, _⟩ | ⟨_, h1, xs, _, h3⟩
            · exact absurd hs2 h0
            · exact ⟨_, h1, hk, h3⟩))
          clear HSC2
          go_wp2_with fail
          go_region_held3 (fun X => X.cell? ⟨gw, 0, none⟩ = some (.int .i64 1) ∧ X.cell? ⟨gw, 1, none⟩ = some (.int .i64 2)) (go_keep) (first
            | (go_at_call 13; (with_reducible refine (HCT.out.2 _).mono ?_); rintro e w10 ⟨rfl, rfl⟩)
            | (go_at_call 12; (with_reducible refine HSC3.out.mono ?_); rintro e w10 ⟨F, rfl, hk9, hbd9⟩; have z0' := hk9.cell (show w9.drew.cell? _ = _ from z0); have z1' := hk9.cell (show w9.drew.cell? _ = _ from z1)))
          all_goals
            clear HSC3 HSC1 hs1 hs2
            have n1 := Aside0.mk (HB.out.trans ((below_drew (Below.refl w.heap.size _)).trans hk9.1))
            have n2 := Aside0.mk hbd9
            have n4 := Aside0.mk (hk9.2 _ _ _ _ (show (w9.drew).heap[gx]? = _ from HKX.out))
            have n5 := Aside0.mk (hk9.2 _ _ _ _ (show (w9.drew).heap[gw]? = _ from HKW.out))
            have n3 := Aside0.mk (And.intro HCE.out.1 (And.intro (CV_kept hk9 (Kd.C_drew HCE.out.2.1)) HCE.out.2.2))
            clear HB HBD HCE HKX HKW z0 z1 z0' z1' hk9 hbd9
            have HB := n1
            have HBD := n2
            have HCE := n3
            have HKX := n4
            have HKW := n5
            clear n1 n2 n3 n4 n5
            have z0 := (blk_cell HKW.out 0).trans (show _ = some (Value.int .i64 1) from rfl)
            have z1 := (blk_cell HKW.out 1).trans (show _ = some (Value.int .i64 2) from rfl)
            clear z0 z1
            go_upto_region 11 with (fail)
            obtain ⟨B', hB'⟩ : ∃ B', B' = Bd.empty.sub (1, 2) F := ⟨_, rfl⟩
            have HEV0 := Aside0.mk (show B'.evs (1, 1) = none by rw [hB']; rfl)
            have HONE := Aside0.mk (show ∀ x, (B'.subs x).isSome = true → x = (1, 2) from fun x hx => by
              rw [hB'] at hx
              by_cases h : x = (1, 2)
              · exact h
              · have h2 : (Bd.empty.sub (1, 2) F).subs x = none := by show upd Bd.empty.subs (1, 2) (some F) x = _; unfold upd; rw [if_neg h]; rfl
                rw [h2] at hx
                cases hx)
            rw [← hB'] at HBD
            clear hB'
            have HPB := Aside0.mk (publish_calls w.heap.size g 1 a2 o2 m2 c2 (1, 1) S1 B' E1 V1 p1 w10 HBD.out HB.out.size (by decide) ⟨by decide, by decide⟩ HM2.out.symm (by rcases HCE.out.2.2 with h | h; exact Or.inl h; exact Or.inr h) HCE.out.2.1 (checkBad_none HCK.out).1)
            unfold encE at HPB
            have y0 := (blk_cell HKX.out 0).trans (show _ = some (Value.slice E1 m2 c2) from rfl)
            have y1 := (blk_cell HKX.out 1).trans (show _ = some (Value.string p1) from rfl)
            by_cases hp1 : pubC S1 B' (1, 1) V1 p1 = 0
            · go_wp2_with fail
              refine HPB.out.mono ?_
              rintro e w12 ⟨hk5, hp⟩
              obtain ⟨rfl, hbd5⟩ : e = .returned .nilIface ∧ IsBd w.heap.size w12 g S1 (B'.pub (1, 1) V1 p1) (1 + 1) := by
                rcases hp with ⟨h0, _⟩ | ⟨_, h1, h2⟩
                · exact absurd hp1 h0
                · exact ⟨h1, h2⟩
              clear hp HPB y0 y1
              have n1 := Aside0.mk (HB.out.trans hk5.1)
              have n2 := Aside0.mk hbd5
              have n4 := Aside0.mk (hk5.2 _ _ _ _ HKX.out)
              have n3 := Aside0.mk (And.intro HCE.out.1 (And.intro (CV_kept hk5 HCE.out.2.1) HCE.out.2.2))
              clear HB HBD HCE HKX hk5 hbd5
              have HB := n1
              have HBD := n2
              have HCE := n3
              have HKX := n4
              clear n1 n2 n3 n4
              have y0 := (blk_cell HKX.out 0).trans (show _ = some (Value.slice E1 m2 c2) from rfl)
              have y1 := (blk_cell HKX.out 1).trans (show _ = some (Value.string p1) from rfl)
              have hpa := pubC_again hp1
              have HPA := Aside0.mk hpa
              have hev := evs_pub B' (1, 1) V1 p1
              have HEV := Aside0.mk hev
              have HON2 := Aside0.mk (show ∀ V p x, dueB S1 (B'.pub (1, 1) V1 p1) (1, 1) V p x = true → x = (1, 2) from fun V p x hx => by
                unfold dueB at hx
                have h1 : (B'.pub (1, 1) V1 p1).subs x = B'.subs x := rfl
                rw [h1] at hx
                cases hs : B'.subs x with
                | none => rw [hs] at hx; cases hx
                | some F0 => exact HONE.out x (by rw [hs]; rfl))
              clear hpa hev hp1 HONE HEV0
              obtain ⟨Bp, hBp⟩ : ∃ B2, B2 = B'.pub (1, 1) V1 p1 := ⟨_, rfl⟩
              rw [← hBp] at HBD HPA HEV HON2
              clear hBp
              go_wp2_with fail
              refine (due_calls w.heap.size g (1 + 1) (1, 1) S1 Bp w12 HBD.out (by decide) ⟨by decide, by decide⟩).mono ?_
              rintro e w13 ⟨hb13, hp⟩
              obtain ⟨vL1, L1, rfl, hoL1, hdL1⟩ : ∃ v L, e = .returned (.tuple #[v, .nilIface]) ∧ (w13).ownsRow (w12).heap.size tW 2 v L.length (flatW L) ∧ DueList (dueB S1 Bp (1, 1) V1 p1) (1 + 1) L := by
                rcases hp with ⟨h0, _⟩ | ⟨V9, p9, h0, v, L, h1, h2, h3⟩
                · rw [HEV.out] at h0; cases h0
                · rw [HEV.out] at h0
                  injection h0 with h0
                  injection h0 with h5 h6
                  subst h5
                  subst h6
                  exact ⟨v, L, h1, h2, h3⟩
              have HL := Aside0.mk hdL1
              obtain ⟨AL1, cL1, rfl⟩ := own_shape hoL1
              clear hoL1 hdL1 hp
              clear y0 y1
              have hk5 := Kept.of hb13 HB.out.size
              have hbd5 := HBD.out.below hb13
              clear hb13
              have n1 := Aside0.mk (HB.out.trans hk5.1)
              have n2 := Aside0.mk hbd5
              have n4 := Aside0.mk (hk5.2 _ _ _ _ HKX.out)
              have n3 := Aside0.mk (And.intro HCE.out.1 (And.intro (CV_kept hk5 HCE.out.2.1) HCE.out.2.2))
              clear HB HBD HCE HKX hk5 hbd5
              have HB := n1
              have HBD := n2
              have HCE := n3
              have HKX := n4
              clear n1 n2 n3 n4
              have y0 := (blk_cell HKX.out 0).trans (show _ = some (Value.slice E1 m2 c2) from rfl)
              have y1 := (blk_cell HKX.out 1).trans (show _ = some (Value.string p1) from rfl)
              have HPB := Aside0.mk (publish_calls w.heap.size g (1 + 1) a2 o2 m2 c2 (1, 1) S1 Bp E1 V1 p1 w13 HBD.out HB.out.size (by decide) ⟨by decide, by decide⟩ HM2.out.symm (by rcases HCE.out.2.2 with h | h; exact Or.inl h; exact Or.inr h) HCE.out.2.1 (checkBad_none HCK.out).1)
              unfold encE at HPB
              go_wp2_with fail
              refine HPB.out.mono ?_
              rintro e w14 ⟨hk5, hp⟩
              obtain ⟨bp, np, rfl, hei, hbd5⟩ : ∃ b n, e = .returned (.iface 103 (.pointer (some ⟨b, 0, none⟩))) ∧ ErrIs w14 5 n (.iface 103 (.pointer (some ⟨b, 0, none⟩))) ∧ IsBd w.heap.size w14 g S1 Bp (1 + 1) := by
                rw [HPA.out] at hp
                rcases hp with ⟨_, ⟨b, n, h1, h2⟩, h3⟩ | ⟨h0, _⟩
                · exact ⟨b, n, h1, h2, h3⟩
                · exact absurd h0 (by decide)
              have HEI := Aside0.mk hei
              clear hei hp HPB y0 y1
              have n1 := Aside0.mk (HB.out.trans hk5.1)
              have n2 := Aside0.mk hbd5
              have n4 := Aside0.mk (hk5.2 _ _ _ _ HKX.out)
              have n3 := Aside0.mk (And.intro HCE.out.1 (And.intro (CV_kept hk5 HCE.out.2.1) HCE.out.2.2))
              clear HB HBD HCE HKX hk5 hbd5
              have HB := n1
              have HBD := n2
              have HCE := n3
              have HKX := n4
              clear n1 n2 n3 n4
              have y0 := (blk_cell HKX.out 0).trans (show _ = some (Value.slice E1 m2 c2) from rfl)
              have y1 := (blk_cell HKX.out 1).trans (show _ = some (Value.string p1) from rfl)
              go_wp2_with fail
              refine (due_calls w.heap.size g (1 + 1) (1, 1) S1 Bp w14 HBD.out (by decide) ⟨by decide, by decide⟩).mono ?_
              rintro e w15 ⟨hb15, hp⟩
              obtain ⟨vL2, L2, rfl, hoL2, hdL2⟩ : ∃ v L, e = .returned (.tuple #[v, .nilIface]) ∧ (w15).ownsRow (w14).heap.size tW 2 v L.length (flatW L) ∧ DueList (dueB S1 Bp (1, 1) V1 p1) (1 + 1) L := by
                rcases hp with ⟨h0, _⟩ | ⟨V9, p9, h0, v, L, h1, h2, h3⟩
                · rw [HEV.out] at h0; cases h0
                · rw [HEV.out] at h0
                  injection h0 with h0
                  injection h0 with h5 h6
                  subst h5
                  subst h6
                  exact ⟨v, L, h1, h2, h3⟩
              have HM := Aside0.mk hdL2
              obtain ⟨AL2, cL2, rfl⟩ := own_shape hoL2
              clear hoL2 hdL2 hp
              have hLL := HL.out.uniq HM.out (fun _ _ => rfl)
              have hle := list_one HL.out (HON2.out _ _)
              subst hLL
              have HE15 := Aside0.mk (ErrIs.kept (Kept.of (base := w.heap.size) hb15 HB.out.size) HEI.out)
              have HB15 := Aside0.mk (below_then HB.out HB.out.size hb15)
              obtain ⟨nL, hnL⟩ : ∃ n, n = L1.length := ⟨_, rfl⟩
              rw [← hnL] at hle ⊢
              have e1 : decide ((nL : Int) ≤ 1) = true := decide_eq_true (by omega)
              clear hb15 hnL y0 y1 HEI
              go_wp2_with fail
              refine (awake_calls _).mono ?_
              rintro e w16 ⟨rfl, hb16⟩
              have HE16 := Aside0.mk (ErrIs.kept (Kept.of (base := w.heap.size) hb16 HB15.out.size) HE15.out)
              have HB16 := below_then HB15.out HB15.out.size hb16
              clear hb16
              go_wp2_with fail
              refine (is_err 5 5 np _ _ HE16.out).mono ?_
              rintro e w17 ⟨rfl, rfl⟩
              go_wp2
              try go_ret
              exact ⟨rfl, HB16⟩
            · obtain ⟨bq, nq, hq⟩ : True ∧ True ∧ True := ⟨trivial, trivial, trivial⟩
              go_wp2_with fail
              refine HPB.out.mono ?_
              rintro e w12 ⟨hk5, hp⟩
              obtain ⟨bp, np, rfl, _⟩ : ErrE w12 (pubC S1 B' (1, 1) V1 p1) e := by
                rcases hp with ⟨_, h1, _⟩ | ⟨h0, _⟩
                · exact h1
                · exact absurd h0 hp1
              have HBW := Aside0.mk (HB.out.trans hk5.1)
              clear hk5 hp HPB y0 y1 hp1
              go_wp2_with fail
              refine (awake_calls _).mono ?_
              rintro e w8 ⟨rfl, hb8⟩
              have hfin := below_then HBW.out HBW.out.size hb8
              clear hb8
              go_wp2
              try go_ret
              exact ⟨rfl, hfin⟩
        · have HSC3 := Aside0.mk (HSC2.out.mono (fun e w' hp => show ∃ b, e = .returned (.iface 103 (.pointer (some ⟨b, 0, none⟩))) ∧ Kept w.heap.size w9.drew w' ∧ IsBd w.heap.size w' g S1 Bd.empty 0 from by
            obtain ⟨hk, hp⟩ := hp
            rcases hp with ⟨_, ⟨b, n, h1, h2⟩, h3⟩ | ⟨h0, _⟩
            · exact ⟨b, h1, hk, h3⟩
            · exact absurd h0 hs2))
          clear HSC2
          go_wp2_with fail
          go_region_held3 (fun X => X.cell? ⟨gw, 0, none⟩ = some (.int .i64 1) ∧ X.cell? ⟨gw, 1, none⟩ = some (.int .i64 2)) (go_keep) (first
            | (go_at_call 13; (with_reducible refine (HCT.out.2 _).mono ?_); rintro e w10 ⟨rfl, rfl⟩)
            | (go_at_call 12; (with_reducible refine HSC3.out.mono ?_); rintro e w10 ⟨bF, rfl, hk9, hbd9⟩; have z0' := hk9.cell (show w9.drew.cell? _ = _ from z0); have z1' := hk9.cell (show w9.drew.cell? _ = _ from z1)))
          all_goals
            clear HSC3 HSC1 hs1 hs2
            have n1 := Aside0.mk (HB.out.trans ((below_drew (Below.refl w.heap.size _)).trans hk9.1))
            have n2 := Aside0.mk hbd9
            have n4 := Aside0.mk (hk9.2 _ _ _ _ (show (w9.drew).heap[gx]? = _ from HKX.out))
            have n5 := Aside0.mk (hk9.2 _ _ _ _ (show (w9.drew).heap[gw]? = _ from HKW.out))
            have n3 := Aside0.mk (And.intro HCE.out.1 (And.intro (CV_kept hk9 (Kd.C_drew HCE.out.2.1)) HCE.out.2.2))
            clear HB HBD HCE HKX HKW z0 z1 z0' z1' hk9 hbd9
            have HB := n1
            have HBD := n2
            have HCE := n3
            have HKX := n4
            have HKW := n5
            clear n1 n2 n3 n4 n5
            have z0 := (blk_cell HKW.out 0).trans (show _ = some (Value.int .i64 1) from rfl)
            have z1 := (blk_cell HKW.out 1).trans (show _ = some (Value.int .i64 2) from rfl)
            clear z0 z1
            go_upto_region 11 with (fail)
            obtain ⟨B', hB'⟩ : ∃ B', B' = Bd.empty := ⟨_, rfl⟩
            have HEV0 := Aside0.mk (show B'.evs (1, 1) = none by rw [hB']; rfl)
            have HONE := Aside0.mk (show ∀ x, (B'.subs x).isSome = true → x = (1, 2) from fun x hx => by rw [hB'] at hx; cases hx)
            rw [← hB'] at HBD
            clear hB'
            have HPB := Aside0.mk (publish_calls w.heap.size g 0 a2 o2 m2 c2 (1, 1) S1 B' E1 V1 p1 w10 HBD.out HB.out.size (by decide) ⟨by decide, by decide⟩ HM2.out.symm (by rcases HCE.out.2.2 with h | h; exact Or.inl h; exact Or.inr h) HCE.out.2.1 (checkBad_none HCK.out).1)
            unfold encE at HPB
            have y0 := (blk_cell HKX.out 0).trans (show _ = some (Value.slice E1 m2 c2) from rfl)
            have y1 := (blk_cell HKX.out 1).trans (show _ = some (Value.string p1) from rfl)
            by_cases hp1 : pubC S1 B' (1, 1) V1 p1 = 0
            · go_wp2_with fail
              refine HPB.out.mono ?_
              rintro e w12 ⟨hk5, hp⟩
              obtain ⟨rfl, hbd5⟩ : e = .returned .nilIface ∧ IsBd w.heap.size w12 g S1 (B'.pub (1, 1) V1 p1) (0 + 1) := by
                rcases hp with ⟨h0, _⟩ | ⟨_, h1, h2⟩
                · exact absurd hp1 h0
                · exact ⟨h1, h2⟩
              clear hp HPB y0 y1
              have n1 := Aside0.mk (HB.out.trans hk5.1)
              have n2 := Aside0.mk hbd5
              have n4 := Aside0.mk (hk5.2 _ _ _ _ HKX.out)
              have n3 := Aside0.mk (And.intro HCE.out.1 (And.intro (CV_kept hk5 HCE.out.2.1) HCE.out.2.2))
              clear HB HBD HCE HKX hk5 hbd5
              have HB := n1
              have HBD := n2
              have HCE := n3
              have HKX := n4
              clear n1 n2 n3 n4
              have y0 := (blk_cell HKX.out 0).trans (show _ = some (Value.slice E1 m2 c2) from rfl)
              have y1 := (blk_cell HKX.out 1).trans (show _ = some (Value.string p1) from rfl)
              have hpa := pubC_again hp1
              have HPA := Aside0.mk hpa
              have hev := evs_pub B' (1, 1) V1 p1
              have HEV := Aside0.mk hev
              have HON2 := Aside0.mk (show ∀ V p x, dueB S1 (B'.pub (1, 1) V1 p1) (1, 1) V p x = true → x = (1, 2) from fun V p x hx => by
                unfold dueB at hx
                have h1 : (B'.pub (1, 1) V1 p1).subs x = B'.subs x := rfl
                rw [h1] at hx
                cases hs : B'.subs x with
                | none => rw [hs] at hx; cases hx
                | some F0 => exact HONE.out x (by rw [hs]; rfl))
              clear hpa hev hp1 HONE HEV0
              obtain ⟨Bp, hBp⟩ : ∃ B2, B2 = B'.pub (1, 1) V1 p1 := ⟨_, rfl⟩
              rw [← hBp] at HBD HPA HEV HON2
              clear hBp
              go_wp2_with fail
              refine (due_calls w.heap.size g (0 + 1) (1, 1) S1 Bp w12 HBD.out (by decide) ⟨by decide, by decide⟩).mono ?_
              rintro e w13 ⟨hb13, hp⟩
              obtain ⟨vL1, L1, rfl, hoL1, hdL1⟩ : ∃ v L, e = .returned (.tuple #[v, .nilIface]) ∧ (w13).ownsRow (w12).heap.size tW 2 v L.length (flatW L) ∧ DueList (dueB S1 Bp (1, 1) V1 p1) (0 + 1) L := by
                rcases hp with ⟨h0, _⟩ | ⟨V9, p9, h0, v, L, h1, h2, h3⟩
                · rw [HEV.out] at h0; cases h0
                · rw [HEV.out] at h0
                  injection h0 with h0
                  injection h0 with h5 h6
                  subst h5
                  subst h6
                  exact ⟨v, L, h1, h2, h3⟩
              have HL := Aside0.mk hdL1
              obtain ⟨AL1, cL1, rfl⟩ := own_shape hoL1
              clear hoL1 hdL1 hp
              clear y0 y1
              have hk5 := Kept.of hb13 HB.out.size
              have hbd5 := HBD.out.below hb13
              clear hb13
              have n1 := Aside0.mk (HB.out.trans hk5.1)
              have n2 := Aside0.mk hbd5
              have n4 := Aside0.mk (hk5.2 _ _ _ _ HKX.out)
              have n3 := Aside0.mk (And.intro HCE.out.1 (And.intro (CV_kept hk5 HCE.out.2.1) HCE.out.2.2))
              clear HB HBD HCE HKX hk5 hbd5
              have HB := n1
              have HBD := n2
              have HCE := n3
              have HKX := n4
              clear n1 n2 n3 n4
              have y0 := (blk_cell HKX.out 0).trans (show _ = some (Value.slice E1 m2 c2) from rfl)
              have y1 := (blk_cell HKX.out 1).trans (show _ = some (Value.string p1) from rfl)
              have HPB := Aside0.mk (publish_calls w.heap.size g (0 + 1) a2 o2 m2 c2 (1, 1) S1 Bp E1 V1 p1 w13 HBD.out HB.out.size (by decide) ⟨by decide, by decide⟩ HM2.out.symm (by rcases HCE.out.2.2 with h | h; exact Or.inl h; exact Or.inr h) HCE.out.2.1 (checkBad_none HCK.out).1)
              unfold encE at HPB
              go_wp2_with fail
              refine HPB.out.mono ?_
              rintro e w14 ⟨hk5, hp⟩
              obtain ⟨bp, np, rfl, hei, hbd5⟩ : ∃ b n, e = .returned (.iface 103 (.pointer (some ⟨b, 0, none⟩))) ∧ ErrIs w14 5 n (.iface 103 (.pointer (some ⟨b, 0, none⟩))) ∧ IsBd w.heap.size w14 g S1 Bp (0 + 1) := by
                rw [HPA.out] at hp
                rcases hp with ⟨_, ⟨b, n, h1, h2⟩, h3⟩ | ⟨h0, _⟩
                · exact ⟨b, n, h1, h2, h3⟩
                · exact absurd h0 (by decide)
              have HEI := Aside0.mk hei
              clear hei hp HPB y0 y1
              have n1 := Aside0.mk (HB.out.trans hk5.1)
              have n2 := Aside0.mk hbd5
              have n4 := Aside0.mk (hk5.2 _ _ _ _ HKX.out)
              have n3 := Aside0.mk (And.intro HCE.out.1 (And.intro (CV_kept hk5 HCE.out.2.1) HCE.out.2.2))
              clear HB HBD HCE HKX hk5 hbd5
              have HB := n1
              have HBD := n2
              have HCE := n3
              have HKX := n4
              clear n1 n2 n3 n4
              have y0 := (blk_cell HKX.out 0).trans (show _ = some (Value.slice E1 m2 c2) from rfl)
              have y1 := (blk_cell HKX.out 1).trans (show _ = some (Value.string p1) from rfl)
              go_wp2_with fail
              refine (due_calls w.heap.size g (0 + 1) (1, 1) S1 Bp w14 HBD.out (by decide) ⟨by decide, by decide⟩).mono ?_
              rintro e w15 ⟨hb15, hp⟩
              obtain ⟨vL2, L2, rfl, hoL2, hdL2⟩ : ∃ v L, e = .returned (.tuple #[v, .nilIface]) ∧ (w15).ownsRow (w14).heap.size tW 2 v L.length (flatW L) ∧ DueList (dueB S1 Bp (1, 1) V1 p1) (0 + 1) L := by
                rcases hp with ⟨h0, _⟩ | ⟨V9, p9, h0, v, L, h1, h2, h3⟩
                · rw [HEV.out] at h0; cases h0
                · rw [HEV.out] at h0
                  injection h0 with h0
                  injection h0 with h5 h6
                  subst h5
                  subst h6
                  exact ⟨v, L, h1, h2, h3⟩
              have HM := Aside0.mk hdL2
              obtain ⟨AL2, cL2, rfl⟩ := own_shape hoL2
              clear hoL2 hdL2 hp
              have hLL := HL.out.uniq HM.out (fun _ _ => rfl)
              have hle := list_one HL.out (HON2.out _ _)
              subst hLL
              have HE15 := Aside0.mk (ErrIs.kept (Kept.of (base := w.heap.size) hb15 HB.out.size) HEI.out)
              have HB15 := Aside0.mk (below_then HB.out HB.out.size hb15)
              obtain ⟨nL, hnL⟩ : ∃ n, n = L1.length := ⟨_, rfl⟩
              rw [← hnL] at hle ⊢
              have e1 : decide ((nL : Int) ≤ 1) = true := decide_eq_true (by omega)
              clear hb15 hnL y0 y1 HEI
              go_wp2_with fail
              refine (awake_calls _).mono ?_
              rintro e w16 ⟨rfl, hb16⟩
              have HE16 := Aside0.mk (ErrIs.kept (Kept.of (base := w.heap.size) hb16 HB15.out.size) HE15.out)
              have HB16 := below_then HB15.out HB15.out.size hb16
              clear hb16
              go_wp2_with fail
              refine (is_err 5 5 np _ _ HE16.out).mono ?_
              rintro e w17 ⟨rfl, rfl⟩
              go_wp2
              try go_ret
              exact ⟨rfl, HB16⟩
            · obtain ⟨bq, nq, hq⟩ : True ∧ True ∧ True := ⟨trivial, trivial, trivial⟩
              go_wp2_with fail
              refine HPB.out.mono ?_
              rintro e w12 ⟨hk5, hp⟩
              obtain ⟨bp, np, rfl, _⟩ : ErrE w12 (pubC S1 B' (1, 1) V1 p1) e := by
                rcases hp with ⟨_, h1, _⟩ | ⟨h0, _⟩
                · exact h1
                · exact absurd h0 hp1
              have HBW := Aside0.mk (HB.out.trans hk5.1)
              clear hk5 hp HPB y0 y1 hp1
              go_wp2_with fail
              refine (awake_calls _).mono ?_
              rintro e w8 ⟨rfl, hb8⟩
              have hfin := below_then HBW.out HBW.out.size hb8
              clear hb8
              go_wp2
              try go_ret
              exact ⟨rfl, hfin⟩
end Go.Proofs.Ytlokmijoaocofaa.Mine
end
