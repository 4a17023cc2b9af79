/- Texts of one claim, one behind the other, made short by a program. -/
import Derived.Test.YtnmpijbcajclgaaGreatDoorMN17
set_option linter.unusedSimpArgs false
set_option linter.unusedVariables false
set_option maxRecDepth 100000
section
namespace Go.Proofs.YtnmpijbcajclgaaGreatDoor.Mine
open Go.Maps Go.RowKit YtnmpijbcajclgaaGreatDoorW.PrintWords YtnmpijbcajclgaaGreatDoorW.PrintLast YtnmpijbcajclgaaGreatDoorW.PrintMore
open PNodeAlone
open Value renaming slice → Vs
theorem ranges_cnt {H : Type} {w : World} {P : Program} {k : TypeId} {R : Value → Option (DataW H × List MemPlace)} {b r n : Nat} {D : DataW H} {left : Lit → Bool} {cnt : Nat} (h : w.ranges P k R b r n D left cnt) : cnt ≤ n := by
 obtain ⟨es, clock, since, seen, c0, _, _, hs, _, _, _, hc, _⟩ := h
 rw [← hc]
 refine Nat.le_trans ?_ hs
 unfold leftOf
 exact Array.size_filter_le
set_option maxHeartbeats 8000000 in
theorem tick_calls (base g : Nat) (h : Hd) (N : NdM) (a now : Int) (w : World) (hI : IsNd base w g h N) (hbase : base ≤ w.heap.size) (hF : NdFit N) (hG : NdGo N) (hlo : N.lost ≤ 900000) :
 Calls Tryz.prog 13 #[.pointer (some ⟨g, 0, none⟩), .int .i64 now, .iface tOwn (.int .i64 a)] w fun e w' => e = .returned (.tuple #[]) ∧ ∃ h' N', Ticked N N' ∧ IsNd base w' g h' N' ∧ Fr base g w h w' h' := by
 have HGO := mk0 (And.intro hG hlo)
 have HS := mk0 hbase
 have HF := mk0 hF
 have i1 : IsNd base (w.setCell ⟨g, 13, none⟩ (.int .i64 now)) g h { N with tick := now } := IsNd.of (blk_set hI.blk 13 (.int .i64 now)) rfl hI.gb (let r := hI.rows.set hI.blk (by decide) 13 (.int .i64 now); ⟨r.sch, r.sub, r.seen, r.box, r.opn, r.lnk, r.sent⟩)
 have f1 := Fr.set (w := w) (h := h) hI.gb 13 (.int .i64 now)
 have y13 := hI.cell 13
 have y13 := y13.trans (show _ = some (Value.int .i64 N.tick) from rfl)
 have z13 := blk_frozen hI.blk 13
 clear hI hbase hF hG hlo
 go_enter Tryz.func13, Tryz.ntmps13
 go_upto_region 1 with (fail)
 generalize w.setCell ⟨g, 13, none⟩ (.int .i64 now) = W1 at i1 f1 ⊢
 clear y13 z13
 have HI := mk0 i1
 have HFR := mk0 f1
 obtain ⟨D, hown, hhold⟩ := i1.rows.lnk.1
 have y10 := (i1.cell 10).trans (show _ = some (Value.map (some h.bl)) from rfl)
 clear i1 f1 hhold
 go_wp2_with (first
  | (at_range; refine wpList_range_own _ rfl _ 105 rfl 3 170 lawInt Tryz.underlying105 _ h.bl 0 _ rfl hown ?_; intro w0 hrg0 hg0 hs0)
  | fail)
 go_frame
 have hb0 : Below W1.heap.size W1 w0 := ⟨hg0.os, hg0.tape, hg0.output, hg0.size, fun i hi => hg0.block i hi (by simp)⟩
 have HI0 := mk0 (HI.out.below hb0)
 have HF0 := mk0 (HFR.out.then hb0 HS.out)
 have hcnt := ranges_cnt hrg0
 have HRG := mk0 (And.intro hcnt hrg0)
 generalize Maps.size D = cnt0 at HRG
 generalize W1.heap.size = r at HRG ⊢
 clear hrg0 hg0 hs0 hb0 hcnt hown y10 HI HFR
 have HIK : Aside0 (∀ key kl, keyOf Tryz.prog 3 key = some kl → ∃ x, key = kI x) := ⟨fun key kl hkey => by obtain ⟨x, rfl, _⟩ := Maps.keyOf_int_inv Tryz.underlying3 hkey; exact ⟨x, rfl⟩⟩
 go_loopg [6] 1 (fun kk v6 W => W = w0)
 case atStart => exact rfl
 case round =>
  subst hrel
  go_wp2_with (first
   | (at_next; go_loud (refine wpList_next_ranges _ rfl _ rfl 3 lawInt rawR kI (fun c : Value => c) HIK.out (fun v y hv => ⟨v, rfl⟩) h.bl r 0 D _ _ rfl HRG.out.2 ?_ ?_))
   | fail)
  ·
   intro _ _
   go_wp2_with fail
   refine (expire_nd base g h { N with tick := now } now _ HI0.out (Nat.le_trans HS.out HF0.out.below.size)).mono ?_
   rintro e w2 ⟨rfl, hI2, hF2⟩
   have HI2 := mk0 hI2
   have HF2 := mk0 (HF0.out.trans hF2)
   have y5 := (hI2.cell 5).trans (show _ = some (Vs none 0 0) from rfl)
   clear hI2 hF2
   go_wp2_with fail
   refine (groups_nd g w2 y5).mono ?_
   rintro e w3 ⟨rfl, rfl⟩
   go_wp2_with fail
   have HFT : Aside0 (NdFit { N with tick := now }) := ⟨⟨HF.out.chk, HF.out.lev, HF.out.seq, HF.out.last, HF.out.nSub, HF.out.flt, HF.out.grp, HF.out.nOpn, HF.out.evs, HF.out.nBox, HF.out.nSent⟩⟩
   clear y5
   go_loopg [8, 53] 1 (fun kk v8 v53 W => v53 = .int .i64 0 ∧ Aside0 (Below w3.heap.size w3 W))
   case atStart => exact ⟨rfl, ⟨Below.refl _ _⟩⟩
   case round =>
    obtain ⟨rfl, HB3⟩ := hrel
    go_wp2_with fail
    refine (wanted_nd base g h { N with tick := now } _ (HI2.out.below HB3.out) HFT.out).mono ?_
    rintro e w4 ⟨A4, n4, c4, ys, rfl, hn4, hsm, hC4, hb4⟩
    have HW4 := mk0 (And.intro hn4 (And.intro hsm hC4))
    have HI4 := mk0 ((HI2.out.below HB3.out).below hb4)
    have HF4 := mk0 ((HF2.out.then HB3.out HS.out).then hb4 HS.out)
    clear hn4 hsm hC4 hb4 HB3 HI2 HF2
    go_wp2_with fail
    have HB4 := mk0 (Below.refl w4.heap.size w4)
    go_loopg [12, 13, 14, 83] (n4 + 1) (fun kk v12 v13 v14 v83 W => ∃ i : Nat, Aside0 (i ≤ n4 ∧ kk + i = n4 + 1) ∧ v83 = .int .i64 (i : Int) ∧ Aside0 (Below w4.heap.size w4 W))
    case atStart => exact ⟨0, ⟨by omega, by omega⟩, rfl, HB4⟩
    case round =>
     clear HB4
     obtain ⟨i, HM, rfl, HB⟩ := hrel
     by_cases hi : i < n4
     ·
      have b1 : decide ((i : Int) < (n4 : Int)) = true := decide_eq_true (by omega)
      have b2 : decide (i < n4) = true := decide_eq_true (by omega)
      have p1 : (0 : Int) ≤ (i : Int) := by omega
      have p2 : (i : Int) < (n4 : Int) := by omega
      obtain ⟨ad, x, hA, hx, h0⟩ := at_Str (Kd.C_below HW4.out.2.2 HB.out) i hi
      subst hA
      have HX := mk0 (HW4.out.2.1 x (List.mem_of_getElem? hx))
      have y0 := ((HI4.out.below HB.out).cell 0).trans (show _ = some (Value.int .i64 N.addr) from rfl)
      clear hx
      go_upto_region 20 with (fail)
      have na := nextAhead a
      have nm := nextMeth a
      have HKY := mk0 (fun (W : World) => key_calls x W HX.out)
      go_cut [13, 14] (fun s13 s14 wx => s13 = .int .i64 N.addr ∧ s14 = .nilIface ∧ Aside0 (Below w4.heap.size w4 wx))
      case first =>
       go_region_law (first
        | (go_simp; go_at_call 51; (with_reducible refine (HKY.out _).mono ?_); rintro e wx ⟨⟨kk, rfl⟩, hbx⟩; have n0_ := mk0 (below_then (below_drew HB.out) (below_drew HB.out).size hbx); have z0 := pw_cell_below hbx y0; clear HB hbx; have HB := n0_; clear n0_)
        | (go_simp; go_at_call 275; (with_reducible refine (next_own _ _ _ _).mono ?_); rintro e wy ⟨rfl, rfl⟩))
       all_goals
        go_wp2_with fail
        go_meet
        exact ⟨rfl, rfl, HB⟩
      case rest =>
       clear HB y0
       obtain ⟨rfl, rfl, HB⟩ := hcut
       have y0 := ((HI4.out.below HB.out).cell 0).trans (show _ = some (Value.int .i64 N.addr) from rfl)
       go_wp2_with fail
       go_roundg (gk - 1)
       case measure => have := HM.out; omega
       case rel => exact ⟨i + 1, ⟨by omega, by have := HM.out; omega⟩, by rw [w64 (by omega) (by have := HW4.out.1; omega)]; rfl, HB⟩
     ·
      have b1 : decide ((i : Int) < (n4 : Int)) = false := decide_eq_false (by omega)
      have b2 : decide (i < n4) = false := decide_eq_false (by omega)
      have i5 := HI4.out.below HB.out
      have f5 := HF4.out.then HB.out HS.out
      have hsz5 := f5.below.size
      clear HM HB HI4 HF4 HW4
      obtain ⟨A8, c8, hv8, hc8, _⟩ := Kd.R_reads i5.rows.opn
      obtain ⟨n8, hn8⟩ : ∃ n, n = N.opn.length := ⟨_, rfl⟩
      have y8 := (i5.cell 8).trans (show _ = some (Vs A8 n8 c8) from by rw [hn8, ← hv8]; rfl)
      have hR8 : Kd.R kEv tEv wr base (fun _ => True) (.slice A8 n8 c8) N.opn := by have h := i5.rows.opn; rw [hv8] at h; rw [hn8]; exact h
      have HL8 := mk0 (show n8 ≤ 8 from by rw [hn8]; exact HF.out.nOpn)
      have HCL := mk0 (clEv.row (base := base) (Nat.le_trans HS.out hsz5) hR8 (by have := HL8.out; omega) (by decide))
      have HI5 := mk0 i5
      have HF5 := mk0 f5
      have HN8 := mk0 hn8
      clear hv8 hc8 hR8 i5 f5 hsz5 hn8
      go_wp2_with fail
      refine HCL.out.mono ?_
      rintro e w5 ⟨A5, c5, rfl, hR5, hge5, hb5⟩
      have hG0 : NdGo { N with tick := now } := ⟨HGO.out.1.seqs, HGO.out.1.high, HGO.out.1.seenO, HGO.out.1.sentO, HGO.out.1.addr, HGO.out.1.lost⟩
      have HG0 := mk0 (And.intro hG0 (show ({ N with tick := now } : NdM).lost ≤ 900000 from HGO.out.2))
      have HI6 := mk0 (HI5.out.below hb5)
      have HF6 := mk0 (HF5.out.then hb5 HS.out)
      have HR6 := mk0 (Fr.offR HI6.out hR5 (fun k hk => Off.new HI5.out (hge5 k hk) (Kd.R_lt hR5 k hk)) (by decide +kernel))
      have HT6 := mk0 (Todo.start hG0 HFT.out)
      clear hG0 hR5 hge5 hb5 HCL HI5 HF5 y8 HGO
      go_wp2_with fail
      go_loopg [18, 20, 136] (n8 + 1) (fun kk v18 v20 v136 W => ∃ (i : Nat) (hh : Hd) (M : NdM), Aside0 (i ≤ n8 ∧ kk + i = n8 + 1) ∧ v136 = .int .i64 (i : Int) ∧ Aside0 (Todo { N with tick := now } i M) ∧ Aside0 (IsNd base W g hh M) ∧ Aside0 (Fr base g w h W hh) ∧ Aside0 (Kd.R kEv tEv W base (fun k => ¬ hh.own g k ∧ k < W.heap.size) (.slice A5 n8 c5) N.opn))
      case atStart => exact ⟨0, h, _, ⟨by omega, by omega⟩, rfl, HT6, HI6, HF6, HR6⟩
      case round =>
       clear HT6 HI6 HF6 HR6
       obtain ⟨i, hh, M, HM, rfl, HT, HI, HFR, HR⟩ := hrel
       by_cases hi : i < n8
       ·
        have b1 : decide ((i : Int) < (n8 : Int)) = true := decide_eq_true (by omega)
        have b2 : decide (i < n8) = true := decide_eq_true (by omega)
        have p1 : (0 : Int) ≤ (i : Int) := by omega
        have p2 : (i : Int) < (n8 : Int) := by omega
        obtain ⟨ko, hko⟩ : ∃ z, z + 1 = gk := ⟨gk - 1, by have := HM.out; omega⟩
        have HKO := mk0 hko
        clear hko
        obtain ⟨ad, x, B, k, b, D, l, e, hA, hx, c0, c1, c2, c3, hV, hW⟩ := at_EvM HR.out i hi
        cases hA
        have HX := mk0 hx
        have HV := mk0 hV
        have HW := mk0 hW
        clear hx hV hW
        go_upto_region 28 with (fail)
        have hb7 := below_alloc (Below.refl wr.heap.size wr) (.cells #[.int .i64 x.seq, .slice B k b, .string x.pay, .slice D l e] tEv)
        have hk7 := heap_alloc_new wr (.cells #[.int .i64 x.seq, .slice B k b, .string x.pay, .slice D l e] tEv)
        clear c0 c1 c2 c3
        generalize wr.alloc (.cells #[.int .i64 x.seq, .slice B k b, .string x.pay, .slice D l e] tEv) = W7 at hb7 hk7 ⊢
        have n0_ := mk0 (HI.out.below hb7)
        have n1_ := mk0 (HFR.out.then hb7 HS.out)
        have n2_ := mk0 (Fr.Rn (Fr.of_below (g := g) (h := hh) hb7 (Nat.le_trans HS.out HFR.out.below.size)) HR.out)
        have n3_ := mk0 (Fr.Rn (Fr.of_below (g := g) (h := hh) hb7 (Nat.le_trans HS.out HFR.out.below.size)) HV.out)
        have n4_ := mk0 (Fr.Rn (Fr.of_below (g := g) (h := hh) hb7 (Nat.le_trans HS.out HFR.out.below.size)) HW.out)
        have n5_ := mk0 (Off.new HI.out (Nat.le_refl _) (blk_lt hk7))
        clear HI HFR HR HV HW hb7
        have HI := n0_
        have HFR := n1_
        have HR := n2_
        have HV := n3_
        have HW := n4_
        have HO := n5_
        clear n0_ n1_ n2_ n3_ n4_ n5_
        generalize wr.heap.size = gb at hk7 HO ⊢
        have HK := mk0 hk7
        have HS3 := mk0 (show TkAt { N with tick := now } i 0 x M from .inl ⟨rfl, HT.out⟩)
        have e3 := (blk_cell hk7 3).trans (show _ = some (Vs D l e) from rfl)
        have HLW := mk0 (And.intro (Kd.R_reads' HW.out).1 ((HFT.out.evs x (List.mem_of_getElem? HX.out)).2.2.1))
        clear hk7 HT
        go_wp2_with fail
        clear e3
        go_loopg [20, 143] (l + 1) (fun kk v20 v143 W => ∃ (j : Nat) (hh : Hd) (M : NdM), Aside0 (j ≤ l ∧ kk + j = l + 1) ∧ v143 = .int .i64 (j : Int) ∧ Aside0 (TkAt { N with tick := now } i j x M) ∧ Aside0 (IsNd base W g hh M) ∧ Aside0 (Fr base g w h W hh) ∧ Aside0 (Kd.R kEv tEv W base (fun k => ¬ hh.own g k ∧ k < W.heap.size) (.slice (some ad) n8 c5) N.opn) ∧ Aside0 (Kd.R kVa tV W base (fun k => ¬ hh.own g k ∧ k < W.heap.size) (.slice B k b) x.V) ∧ Aside0 (Kd.R Kd.string tS W base (fun k => ¬ hh.own g k ∧ k < W.heap.size) (.slice D l e) x.want) ∧ Aside0 (Off W hh g gb) ∧ Aside0 (W.heap[gb]? = some (.cells #[.int .i64 x.seq, .slice B k b, .string x.pay, .slice D l e] tEv (0, 0))))
        case atStart => exact ⟨0, hh, M, ⟨by omega, by omega⟩, rfl, HS3, HI, HFR, HR, HV, HW, HO, HK⟩
        case round =>
         clear HS3 HI HFR HR HV HW HO HK
         obtain ⟨j, hj0, M, HMJ, rfl, HS3, HI, HFR, HR, HV, HW, HO, HK⟩ := hrel
         by_cases hj : j < l
         ·
          have b1 : decide ((j : Int) < (l : Int)) = true := decide_eq_true (by omega)
          have b2 : decide (j < l) = true := decide_eq_true (by omega)
          have p1 : (0 : Int) ≤ (j : Int) := by omega
          have p2 : (j : Int) < (l : Int) := by omega
          have hCW := (Kd.R_reads' HW.out).2.2
          rw [← (Kd.R_reads' HW.out).1] at hCW
          obtain ⟨ad2, grp, hA2, hgx, g0⟩ := at_Str hCW j hj
          subst hA2
          have HRT := mk0 (fun (W : World) (hb : Below wr.heap.size wr W) => tick_route base g k b hj0 { N with tick := now } M a i j x grp B W HG0.out.1 HFT.out HG0.out.2 (HI.out.below hb) (Nat.le_trans HS.out (Nat.le_trans HFR.out.below.size hb.size)) HX.out hgx (Kd.R_mono (Kd.R_below HV.out hb) (fun _ _ => trivial)) HS3.out)
          unfold msgC at HRT
          have y0 := (HI.out.cell 0).trans (show _ = some (Value.int .i64 M.addr) from rfl)
          have e0 := (blk_cell HK.out 0).trans (show _ = some (Value.int .i64 x.seq) from rfl)
          have e1 := (blk_cell HK.out 1).trans (show _ = some (Vs B k b) from rfl)
          have e2 := (blk_cell HK.out 2).trans (show _ = some (Value.string x.pay) from rfl)
          clear hCW hgx
          go_upto_region 31 with (fail)
          go_still_tail 12, (by kernel_rfl)
          change wpList _ _ _ _ _ wr.drew
          go_wp2_with fail
          refine (HRT.out _ (below_drew (Below.refl _ _))).mono ?_
          rintro r w8 ⟨rfl, h8, M8, hS8, hI8, hF8⟩
          have hd8 := below_drew (Below.refl wr.heap.size wr)
          have hfw := Nat.le_trans HS.out HFR.out.below.size
          have fd := (Fr.of_below (g := g) (h := hj0) hd8 hfw).trans hF8
          have n0_ := mk0 (show TkAt { N with tick := now } i (j + 1) x M8 from .inr ⟨Nat.succ_pos j, hS8⟩)
          have n1_ := mk0 hI8
          have n2_ := mk0 (HFR.out.trans fd)
          have n3_ := mk0 (Fr.Rn fd HR.out)
          have n4_ := mk0 (Fr.Rn fd HV.out)
          have n5_ := mk0 (Fr.Rn fd HW.out)
          have n6_ := mk0 (Off.keep HO.out fd)
          have n7_ := mk0 (Off.blk HO.out fd HK.out)
          clear HS3 HI HFR HR HV HW HO HK hS8 hI8 hF8 hd8 hfw fd y0 e0 e1 e2 g0 HRT
          go_wp2_with fail
          go_roundg (gk - 1)
          case measure => have := HMJ.out; omega
          case rel => exact ⟨j + 1, h8, M8, ⟨by omega, by have := HMJ.out; omega⟩, by rw [w64 (by omega) (by have := HLW.out; omega)]; rfl, n0_, n1_, n2_, n3_, n4_, n5_, n6_, n7_⟩
         ·
          have b1 : decide ((j : Int) < (l : Int)) = false := decide_eq_false (by omega)
          have b2 : decide (j < l) = false := decide_eq_false (by omega)
          have hjl : j = x.want.length := by have := HMJ.out; have := HLW.out.1; omega
          have HT := mk0 (show Todo { N with tick := now } (i + 1) M from by
           rcases HS3.out with ⟨h0, _⟩ | ⟨_, hM⟩
           ·
            have := (HFT.out.evs x (List.mem_of_getElem? HX.out)).2.1
            omega
           ·
            rw [hjl] at hM
            exact hM.done HG0.out.1 HX.out)
          clear HS3 HV HW HO HK hjl
          go_wp2_with fail
          go_roundg ko
          case measure => have := HKO.out; omega
          case rel => exact ⟨i + 1, hj0, M, ⟨by omega, by have := HM.out; have := HKO.out; omega⟩, by rw [w64 (by omega) (by have := HL8.out; omega)]; rfl, HT, HI, HFR, HR⟩
       ·
        have b1 : decide ((i : Int) < (n8 : Int)) = false := decide_eq_false (by omega)
        have b2 : decide (i < n8) = false := decide_eq_false (by omega)
        have hin : i = N.opn.length := by have := HM.out; have := HN8.out; omega
        subst hin
        have hT := HT.out.end_ HG0.out.1 HFT.out
        have HE := mk0 (show Ticked N M from ⟨hT.pl, hT.S, hT.lev, hT.fit, hT.go, hT.lost⟩)
        clear HT hT HR
        go_wp2
        first | go_end0 | ((try simp only [Exit.inBlock, Exit.then]); refine bodyPost_ret (results_none rfl _ _ _) rfl ?_)
        exact ⟨rfl, hh, M, HE.out, HI.out, HFR.out⟩
  ·
   intro x c kl y w' cnt' _ _ _ _ _ hlt
   have := HRG.out.1
   omega
theorem infoEv : (Tryz.prog.info? 127).map (fun i => (i.zero, i.size, i.bytes)) = some (some (.agg #[(.int .i64 0), (.slice none 0 0), (.string ⟨#[]⟩), (.slice none 0 0)]), 4, 72) := by kernel_rfl
def PubOk (base g : Nat) (w : World) (h : Hd) (N : NdM) (V : List SV) (pay : ByteArray) (e : Ending) (w' : World) : Prop :=
 e = .returned (.tuple #[.int .i64 (N.seq + 1), .nilIface]) ∧ ∃ h' G, 0 < G.length ∧ G.length ≤ 36 ∧ Sm G ∧ IsNd base w' g h' (N.pub V pay G) ∧ Fr base g w h w' h'
set_option maxHeartbeats 8000000 in
theorem publish_ok (base g k c b : Nat) (ok : Nat → Prop) (h : Hd) (N : NdM) (E : Option Addr) (V : List SV) (pay : ByteArray) (w : World) (hI : IsNd base w g h N) (hbase : base ≤ w.heap.size) (hF : NdFit N) (hrR : Kd.R kVa tV w b ok (.slice E k c) V) (hT : TabI w) (heb : evBad N.S V pay = none) (h8 : N.opn.length < 8) (hsq : N.seq < 1073741824) :
 Calls Tryz.prog 12 #[.pointer (some ⟨g, 0, none⟩), encE E k c pay] w (PubOk base g w h N V pay) := by
 obtain ⟨hk0, hkc, hr⟩ := Kd.R_reads' hrR
 have hk := hk0.symm
 rw [← hk0] at hr
 clear hk0 hkc
 obtain ⟨A8, c8, hv8, hc8, _⟩ := Kd.R_reads hI.rows.opn
 have HV8 := mk0 hv8
 have HRR := mk0 hrR
 have HBS := mk0 hbase
 clear hv8 hc8 hrR hbase
 have HI := mk0 hI
 have HF := mk0 hF
 have HR := mk0 hr
 have HT := mk0 hT
 obtain ⟨A, c0, hvS, hcS, hCS⟩ := Kd.R_reads hI.rows.sch
 have HS := mk0 (And.intro hcS hCS)
 have HVS := mk0 hvS
 have HK := mk0 hk
 clear hI hF hr hT hvS hcS hCS hk
 unfold encE
 go_enter Tryz.func12, Tryz.ntmps12
 go_upto_region 1 with (fail)
 have ha := below_alloc (Below.refl w.heap.size w) (.cells #[.slice E k c, .string pay] 40)
 have HKE := mk0 (heap_alloc_new w (.cells #[.slice E k c, .string pay] 40))
 have hs1 : (w.alloc (.cells #[.slice E k c, .string pay] 40)).heap.size = w.heap.size + 1 := by show (w.heap.push _).size = _; exact Array.size_push _
 have HB := mk0 ha
 generalize w.alloc (.cells #[.slice E k c, .string pay] 40) = wa at HKE HB hs1 ⊢
 obtain ⟨ge, hge⟩ : ∃ x, x = w.heap.size := ⟨_, rfl⟩
 rw [← hge] at HKE hs1 ⊢
 have HGE := mk0 (And.intro hge hs1)
 clear ha hge hs1
 have HI1 := HI.out.below HB.out
 have y1 := (HI1.cell 1).trans (show _ = some (Value.int .i64 N.levels) from rfl)
 have y2 := (HI1.cell 2).trans (show _ = some (Vs A N.S.length c0) from by rw [← HVS.out]; rfl)
 have e0 := (blk_cell HKE.out 0).trans (show _ = some (Vs E k c) from rfl)
 have e1 := (blk_cell HKE.out 1).trans (show _ = some (Value.string pay) from rfl)
 have HRC := mk0 (fun W (hb : Below w.heap.size w W) => reach_grp A E N.S.length k c0 c N.S V pay N.levels W HF.out.lev.1 HF.out.lev.2 rfl HK.out (Kd.C_below HS.out.2 hb) (Kd.C_below HR.out hb) HF.out.chk HS.out.1 (TabI.below HT.out hb))
 unfold encE at HRC
 clear HI1
 have HEB := mk0 heb
 have HF8 := mk0 (And.intro h8 hsq)
 clear heb h8 hsq
 go_region_held3 (fun X => X.cell? ⟨g, 1, none⟩ = some (.int .i64 N.levels) ∧ X.cell? ⟨g, 2, none⟩ = some (.slice A N.S.length c0) ∧ X.cell? ⟨ge, 0, none⟩ = some (.slice E k c) ∧ X.cell? ⟨ge, 1, none⟩ = some (.string pay)) (go_keep) (first
  | (go_at_call 44; (with_reducible refine (HRC.out _ ?tb).mono ?_); (case tb => (with_reducible repeat (first | exact HB.out | apply pw_below_drewN | apply below_drew1 | apply below_drew | apply below_alloc))); rintro e wx ⟨hbx, hq⟩; obtain ⟨v, G, rfl, hG1, hG2, hG3, hGR⟩ : ∃ v G, e = .returned (.tuple #[v, .nilIface]) ∧ 0 < G.length ∧ G.length ≤ 36 ∧ Sm G ∧ Kd.R Kd.string tS wx base (fun _ => True) v G := (by rcases hq with ⟨_, v, G, h2, h3, h4, h6, h5⟩ | ⟨h1, _⟩; exact ⟨v, G, h2, h3, h4, h6, Kd.R_lower h5 (Nat.le_trans HBS.out (Below.size (by (with_reducible repeat (first | exact HB.out | apply pw_below_drewN | apply below_drew1 | apply below_drew | apply below_alloc)))))⟩; (rw [HEB.out] at h1; cases h1)); have n0_ := mk0 (below_then (by (with_reducible repeat (first | exact HB.out | apply pw_below_drewN | apply below_drew1 | apply below_drew | apply below_alloc))) (Below.size (by (with_reducible repeat (first | exact HB.out | apply pw_below_drewN | apply below_drew1 | apply below_drew | apply below_alloc)))) hbx); have n1_ := mk0 ((hbx.block _ (blk_lt HKE.out)).trans HKE.out); have z0 := pw_cell_below hbx y1; have z1 := pw_cell_below hbx y2; have z2 := pw_cell_below hbx e0; have z3 := pw_cell_below hbx e1; clear HB HKE hq hbx; have HB := n0_; have HKE := n1_; clear n0_ n1_))
 obtain ⟨A3, c3, rfl, hc3, _⟩ := Kd.R_reads hGR
 have HG := mk0 (And.intro hG1 (And.intro hG2 hGR))
 have HG3 := mk0 hG3
 clear hG1 hG2 hG3 hGR hc3 y1 y2 e0 e1 z0 z1 z2 z3 HRC
 have HI5 := HI.out.below HB.out
 have HFr5 : Fr base g w h wx h := Fr.of_below HB.out HBS.out
 have HLN := mk0 (And.intro (blk_lt HI.out.blk) HI.out.gb)
 have hgne : ge ≠ g := by have := HLN.out.1; have := HGE.out.1; omega
 have y8 := (HI5.cell 8).trans (show _ = some (Vs A8 N.opn.length c8) from by rw [← HV8.out]; rfl)
 have y9 := (HI5.cell 9).trans (show _ = some (Value.int .i64 N.seq) from rfl)
 have f9 := blk_frozen HI5.blk 9
 have d1 : decide (8 ≤ N.opn.length) = false := decide_eq_false (by have := HF8.out.1; omega)
 have d2 : decide ((8 : Int) ≤ (N.opn.length : Int)) = false := decide_eq_false (by have := HF8.out.1; omega)
 have d3 : decide (1073741824 ≤ N.seq) = false := decide_eq_false (by have := HF8.out.2; omega)
 have hsw : wrap64 (N.seq + 1) = N.seq + 1 := w64 (by have := HF.out.seq; omega) (by have := HF.out.seq; omega)
 go_upto_region 7 with (fail)
 rw [hsw]
 have k6 := blk_set HI5.blk 9 (.int .i64 (N.seq + 1))
 have r6 := HI5.rows.set HI5.blk (by decide) 9 (.int .i64 (N.seq + 1))
 have HFr6 := HFr5.trans (Fr.set (h := h) (w := wx) HI.out.gb 9 (.int .i64 (N.seq + 1)))
 have ke6 := (Below.heap_setCell wx ⟨g, 9, none⟩ (.int .i64 (N.seq + 1)) ge hgne).trans HKE.out
 have v6 := Kd.R_lower (Kd.R_set (Kd.R_below HRR.out HB.out) HI5.blk (by decide +kernel) 9 (.int .i64 (N.seq + 1))) (Nat.zero_le _)
 have g6 := Kd.R_set HG.out.2.2 HI5.blk (by decide +kernel) 9 (.int .i64 (N.seq + 1))
 have HK6 := mk0 k6
 have HR6 := mk0 r6
 have HFR6 := mk0 HFr6
 have HKE6 := mk0 ke6
 have HV6 := mk0 v6
 have HG6 := mk0 g6
 have HSZ := mk0 (show base ≤ (wx.setCell ⟨g, 9, none⟩ (.int .i64 (N.seq + 1))).heap.size ∧ ge < (wx.setCell ⟨g, 9, none⟩ (.int .i64 (N.seq + 1))).heap.size from ⟨Nat.le_trans HBS.out HFr6.below.size, blk_lt ke6⟩)
 have HNG := mk0 (And.intro HG.out.1 HG.out.2.1)
 clear y8 y9 f9 d1 d2 d3 HI5 HFr5 k6 r6 HFr6 ke6 v6 g6 HKE HB HG HRR hsw
 generalize wx.setCell ⟨g, 9, none⟩ (.int .i64 (N.seq + 1)) = W6 at HK6 HR6 HFR6 HKE6 HV6 HG6 HSZ ⊢
 have e0 := (blk_cell HKE6.out 0).trans (show _ = some (Vs E k c) from rfl)
 go_wp2_with fail
 have hk4 : k ≤ 1000000 := by have := evBad_len HEB.out; have := (checkBad_none HF.out.chk).2.1; have := HK.out; omega
 refine (clV.row (base := 0) (Nat.zero_le _) HV6.out hk4 (by decide)).mono ?_
 rintro e w7 ⟨A4, c4, rfl, hR7, hge7, hb7⟩
 have v7 := R_raiseV hR7 (b' := base) (fun k hk => Nat.le_trans HSZ.out.1 (hge7 k hk))
 have HV7 := mk0 v7
 have HK7 := mk0 ((hb7.block _ (blk_lt HK6.out)).trans HK6.out)
 have HR7 := mk0 (HR6.out.below hb7)
 have HFR7 := mk0 (HFR6.out.then hb7 HBS.out)
 have HKE7 := mk0 ((hb7.block _ (blk_lt HKE6.out)).trans HKE6.out)
 have HG7 := mk0 (Kd.R_below HG6.out hb7)
 clear HK6 HR6 HFR6 HKE6 HV6 HG6 hR7 hge7 hb7 v7 e0 HSZ
 have e0 := (blk_cell HKE7.out 0).trans (show _ = some (Vs E k c) from rfl)
 have f0 := blk_frozen HKE7.out 0
 go_upto_region 8 with (fail)
 have k8 := (Below.heap_setCell w7 ⟨ge, 0, none⟩ (.slice A4 k c4) g (Ne.symm hgne)).trans HK7.out
 have r8 := HR7.out.set HKE7.out (by decide) 0 (.slice A4 k c4)
 have fr8 := HFR7.out.setNew HBS.out (p := ⟨ge, 0, none⟩) (Nat.le_of_eq HGE.out.1.symm) (.slice A4 k c4)
 have ke8 : (w7.setCell ⟨ge, 0, none⟩ (.slice A4 k c4)).heap[ge]? = some (.cells #[.slice A4 k c4, .string pay] 40 (0, 0)) := by simpa using blk_set HKE7.out 0 (.slice A4 k c4)
 have HK8 := mk0 k8
 have HR8 := mk0 r8
 have HFR8 := mk0 fr8
 have HV8' := mk0 (Kd.R_apartR (Kd.R_set HV7.out HKE7.out (by decide +kernel) 0 (.slice A4 k c4)) r8.opn (by decide +kernel))
 have HG8 := mk0 (Kd.R_apartR (Kd.R_set HG7.out HKE7.out (by decide +kernel) 0 (.slice A4 k c4)) r8.opn (by decide +kernel))
 clear HK7 HR7 HFR7 HKE7 HV7 HG7 k8 r8 fr8 e0 f0
 generalize w7.setCell ⟨ge, 0, none⟩ (.slice A4 k c4) = W8 at HK8 HR8 HFR8 HV8' HG8 ke8 ⊢
 have e0 := (blk_cell ke8 0).trans (show _ = some (Vs A4 k c4) from rfl)
 have e1 := (blk_cell ke8 1).trans (show _ = some (Value.string pay) from rfl)
 have y8 := (blk_cell HK8.out 8).trans (show _ = some (Vs A8 N.opn.length c8) from by rw [← HV8.out]; rfl)
 have y9 := (blk_cell HK8.out 9).trans (show _ = some (Value.int .i64 (N.seq + 1)) from rfl)
 clear ke8
 have HP8 := mk0 (kEv_mkM (x := ⟨N.seq + 1, V, pay, G⟩) (Kd.R_drew HV8'.out) (Kd.R_drew HG8.out))
 have y8a : (W8.alloc (Obj.cells #[.int .i64 (N.seq + 1), .slice A4 k c4, .string pay, .slice A3 G.length c3] 127)).cell? ⟨g, 8, none⟩ = some (.slice A8 N.opn.length c8) := pw_cell_below (below_alloc (Below.refl _ _) _) y8
 go_region_law (refine Kd.R_append_step kEv (w0 := w) (W := W8.drew) base ?hw (.tmp 53) (.tmp 61) 111 tEv (.agg #[(.int .i64 0), (.slice none 0 0), (.string ⟨#[]⟩), (.slice none 0 0)]) 72 ?ho Tryz.underlying111 infoEv rfl (by decide) (by omega) h.vopn N.opn ⟨N.seq + 1, V, pay, G⟩ [.int .i64 (N.seq + 1), .slice A4 k c4, .string pay, .slice A3 G.length c3] (fun _ => True) (fun k => True ∧ some k ≠ h.vopn.ownBlock) ?aV ?aX HP8.out (fun _ hk => hk) ?aF (Kd.R_drew HR8.out.opn) (below_drew HFR8.out.below) (Nat.le_trans HBS.out HFR8.out.below.size) ?aL ?_; (case ho => rfl); (case hw => first | rfl | (simp [Region.wanted])); (case aV => exact HV8.out.symm); (case aX => first | rfl | (go_simp; done) | (go_simp; rfl)); (case aF => exact (fun _ _ => trivial)); (case aL => have := HF8.out.1; omega); intro v9 w9 ho hb hg hat; have k9 := blk_grown (w := W8.drew) HK8.out hg (Kd.R_ne (w := W8.drew) (Kd.R_drew HR8.out.opn) HK8.out (by decide)); obtain ⟨A9, c9, rfl, hc9, hC9⟩ := Kd.R_reads ho; have y8' := (blk_cell k9 8).trans (show _ = some (Vs A8 N.opn.length c8) from by rw [← HV8.out]; rfl); have f8' := blk_frozen k9 8)
 all_goals
  have k10 := blk_set k9 8 (.slice A9 (N.opn ++ [(⟨N.seq + 1, V, pay, G⟩ : MEv)]).length c9)
  have rd := HR8.out.below (below_drew (Below.refl W8.heap.size W8))
  have r10 := (rd.gopn hg ho).set k9 (by decide) 8 (.slice A9 (N.opn ++ [(⟨N.seq + 1, V, pay, G⟩ : MEv)]).length c9)
  have f10 := ((HFR8.out.trans ((Fr.of_below (below_drew (Below.refl W8.heap.size W8)) (Nat.le_trans HBS.out HFR8.out.below.size)).trans (Fr.gopn rd hg (Nat.le_trans HBS.out HFR8.out.below.size)))).nopn (NewAt.from HFR8.out.below.size hat)).trans (Fr.set HLN.out.2 8 (.slice A9 (N.opn ++ [(⟨N.seq + 1, V, pay, G⟩ : MEv)]).length c9))
  have hlen : (N.opn ++ [(⟨N.seq + 1, V, pay, G⟩ : MEv)]).length = N.opn.length + 1 := by simp
  rw [hlen] at k10 r10 f10
  have y9' := (blk_cell k10 9).trans (show _ = some (Value.int .i64 (N.seq + 1)) from rfl)
  have hfin : PubOk base g w h N V pay (.returned (.tuple #[.int .i64 (N.seq + 1), .nilIface])) (w9.setCell ⟨g, 8, none⟩ (.slice A9 (N.opn.length + 1) c9)) := ⟨rfl, _, G, HNG.out.1, HNG.out.2, HG3.out, IsNd.of k10 rfl HLN.out.2 ⟨r10.sch, r10.sub, r10.seen, r10.box, r10.opn, r10.lnk, r10.sent⟩, f10⟩
  clear k9 ho hb hg hat hc9 hC9 y8' f8' rd r10 f10 k10 hlen y8a
  go_wp2
  go_ret2
  exact hfin
set_option maxHeartbeats 8000000 in
theorem publish_full (base g k c : Nat) (h : Hd) (N : NdM) (E : Option Addr) (V : List SV) (pay : ByteArray) (w : World) (hI : IsNd base w g h N) (hF : NdFit N) (hk : V.length = k) (hr : Kd.C kVa w E k V) (hT : TabI w) (heb : evBad N.S V pay = none) (h8 : 8 ≤ N.opn.length) :
 Calls Tryz.prog 12 #[.pointer (some ⟨g, 0, none⟩), encE E k c pay] w fun e w' => Below w.heap.size w w' ∧ ∃ b n, e = .returned (.tuple #[.int .i64 0, faultV b]) ∧ ErrIs w' 5 n (faultV b) := by
 obtain ⟨A8, c8, hv8, hc8, _⟩ := Kd.R_reads hI.rows.opn
 have HV8 := mk0 hv8
 clear hv8 hc8
 have HI := mk0 hI
 have HF := mk0 hF
 have HR := mk0 hr
 have HT := mk0 hT
 obtain ⟨A, c0, hvS, hcS, hCS⟩ := Kd.R_reads hI.rows.sch
 have HS := mk0 (And.intro hcS hCS)
 have HVS := mk0 hvS
 have HK := mk0 hk
 clear hI hF hr hT hvS hcS hCS hk
 unfold encE
 go_enter Tryz.func12, Tryz.ntmps12
 go_upto_region 1 with (fail)
 have ha := below_alloc (Below.refl w.heap.size w) (.cells #[.slice E k c, .string pay] 40)
 have HKE := mk0 (heap_alloc_new w (.cells #[.slice E k c, .string pay] 40))
 have hs1 : (w.alloc (.cells #[.slice E k c, .string pay] 40)).heap.size = w.heap.size + 1 := by show (w.heap.push _).size = _; exact Array.size_push _
 have HB := mk0 ha
 generalize w.alloc (.cells #[.slice E k c, .string pay] 40) = wa at HKE HB hs1 ⊢
 obtain ⟨ge, hge⟩ : ∃ x, x = w.heap.size := ⟨_, rfl⟩
 rw [← hge] at HKE hs1 ⊢
 have HGE := mk0 (And.intro hge hs1)
 clear ha hge hs1
 have HI1 := HI.out.below HB.out
 have y1 := (HI1.cell 1).trans (show _ = some (Value.int .i64 N.levels) from rfl)
 have y2 := (HI1.cell 2).trans (show _ = some (Vs A N.S.length c0) from by rw [← HVS.out]; rfl)
 have e0 := (blk_cell HKE.out 0).trans (show _ = some (Vs E k c) from rfl)
 have e1 := (blk_cell HKE.out 1).trans (show _ = some (Value.string pay) from rfl)
 have HRC := mk0 (fun W (hb : Below w.heap.size w W) => reach_grp A E N.S.length k c0 c N.S V pay N.levels W HF.out.lev.1 HF.out.lev.2 rfl HK.out (Kd.C_below HS.out.2 hb) (Kd.C_below HR.out hb) HF.out.chk HS.out.1 (TabI.below HT.out hb))
 unfold encE at HRC
 clear HI1
 have HEB := mk0 heb
 have HF8 := mk0 h8
 clear heb h8
 go_region_held3 (fun X => X.cell? ⟨g, 1, none⟩ = some (.int .i64 N.levels) ∧ X.cell? ⟨g, 2, none⟩ = some (.slice A N.S.length c0) ∧ X.cell? ⟨ge, 0, none⟩ = some (.slice E k c) ∧ X.cell? ⟨ge, 1, none⟩ = some (.string pay)) (go_keep) (first
  | (go_at_call 44; (with_reducible refine (HRC.out _ ?tb).mono ?_); (case tb => (with_reducible repeat (first | exact HB.out | apply pw_below_drewN | apply below_drew1 | apply below_drew | apply below_alloc))); rintro e wx ⟨hbx, hq⟩; obtain ⟨v, rfl⟩ : ∃ v, e = .returned (.tuple #[v, .nilIface]) := (by rcases hq with ⟨_, v, G, h2, h3, h4, h6, h5⟩ | ⟨h1, _⟩; exact ⟨v, h2⟩; (rw [HEB.out] at h1; cases h1)); have n0_ := mk0 (below_then (by (with_reducible repeat (first | exact HB.out | apply pw_below_drewN | apply below_drew1 | apply below_drew | apply below_alloc))) (Below.size (by (with_reducible repeat (first | exact HB.out | apply pw_below_drewN | apply below_drew1 | apply below_drew | apply below_alloc)))) hbx); have z0 := pw_cell_below hbx y1; have z1 := pw_cell_below hbx y2; have z2 := pw_cell_below hbx e0; have z3 := pw_cell_below hbx e1; clear HB hq hbx; have HB := n0_; clear n0_))
 have y8 := ((HI.out.below HB.out).cell 8).trans (show _ = some (Vs A8 N.opn.length c8) from by rw [← HV8.out]; rfl)
 have d1 : decide (8 ≤ N.opn.length) = true := decide_eq_true HF8.out
 have d2 : decide ((8 : Int) ≤ (N.opn.length : Int)) = true := decide_eq_true (by have := HF8.out; omega)
 clear y1 y2 e0 e1 z0 z1 z2 z3 HRC
 go_wp2_with fail
 refine (nfault_calls 5 _).mono ?_
 rintro e w9 ⟨b, hbl, rfl, hf, hb⟩
 have hfin := And.intro (below_then HB.out HB.out.size hb) (IsFault.errIs hf)
 clear hf hb hbl
 go_wp2
 go_ret2
 exact ⟨hfin.1, b, 1, rfl, hfin.2⟩
attribute [local go_sem] max2_int min2_int max_two min_two
theorem infoDl' : (Tryz.prog.info? 46).map (fun i => (i.zero, i.size, i.bytes)) = some (some (.agg #[(.int .i64 0), (.int .i64 0), (.int .i64 0), (.slice none 0 0), (.string ⟨#[]⟩)]), 5, 64) := by kernel_rfl
def PollPost (base g : Nat) (h : Hd) (N : NdM) (most : Int) (w : World) (e : Ending) (w' : World) : Prop :=
 ∃ A c, e = .returned (.slice A (min most.toNat N.inbox.length) c) ∧ Kd.R kDl tDl w' base (fun _ => True) (.slice A (min most.toNat N.inbox.length) c) (N.inbox.take (min most.toNat N.inbox.length)) ∧ ∃ h', IsNd base w' g h' { N with inbox := N.inbox.drop (min most.toNat N.inbox.length) } ∧ Fr base g w h w' h'
set_option maxHeartbeats 8000000 in
theorem poll_calls (base g : Nat) (h : Hd) (N : NdM) (most : Int) (w : World) (hI : IsNd base w g h N) (hbase : base ≤ w.heap.size) (hl : N.inbox.length ≤ 64) :
 Calls Tryz.prog 14 #[.pointer (some ⟨g, 0, none⟩), .int .i64 most] w (PollPost base g h N most w) := by
 obtain ⟨A7, c7, hv7, hc7, _⟩ := Kd.R_reads hI.rows.box
 have HV7 := mk0 hv7
 obtain ⟨n, hn⟩ : ∃ n, n = N.inbox.length := ⟨_, rfl⟩
 obtain ⟨k, hk⟩ : ∃ k, k = min most.toNat n := ⟨_, rfl⟩
 rw [← hn] at hc7
 have HN := mk0 (And.intro hn (And.intro hk hl))
 have y7 := (hI.cell 7).trans (show _ = some (Vs A7 n c7) from by rw [hn, ← hv7]; rfl)
 have hkn : k ≤ n := by omega
 have hRB : Kd.R kDl tDl w base (fun _ => True) (.slice A7 n c7) N.inbox := by have h := hI.rows.box; rw [hv7, ← hn] at h; exact h
 obtain ⟨tI, htI, hts, _⟩ := zero_info infoDl'
 obtain ⟨AA, hAA⟩ : ∃ AA, AA = (if c7 = k then A7 else A7.map (·.add (k * kDl.sz))) := ⟨_, rfl⟩
 have hS1 : ∀ W : World, (Instr.slice 43 (.slice A7 n c7) none (some (.int .i64 (k : Int))) none).run Tryz.prog W = .ok (.slice A7 k c7) W := by
  intro W
  rw [cut_to (P := Tryz.prog) 43 tDl .i64 Tryz.underlying43 htI A7 n c7 (k : Int) (by omega) (by omega) hc7 W, Int.toNat_natCast]
 have hS2 : ∀ W : World, (Instr.slice 43 (.slice A7 n c7) (some (.int .i64 (k : Int))) none none).run Tryz.prog W = .ok (.slice AA (n - k) (c7 - k)) W := by
  intro W
  rw [hAA, cut_from (P := Tryz.prog) 43 tDl .i64 Tryz.underlying43 htI 5 hts A7 n c7 (k : Int) (by omega) (by omega) W, Int.toNat_natCast]
  rfl
 have HC1 := mk0 (clDl.row (base := base) hbase (Kd.R_take hRB (m := k) (by rw [← hn]; exact hkn)) (by omega) (by decide))
 have HC2 := mk0 (fun (W : World) (hb : Below w.heap.size w W) => (show Calls Tryz.prog 56 #[.slice AA (n - k) (c7 - k)] W fun e' w' => ∃ A' c', e' = .returned (.slice A' (n - k) c') ∧ Kd.R kDl tDl w' base (fun _ => True) (.slice A' (n - k) c') (N.inbox.drop k) ∧ (∀ k', (Vs A' (n - k) c').ownBlock = some k' → W.heap.size ≤ k') ∧ Below W.heap.size W w' from by
  rw [hAA]
  exact clDl.drop (Nat.le_trans hbase hb.size) (Kd.R_below hRB hb) hkn (by omega) (by decide)))
 have hmm : (if (n : Int) < (if most < 0 then 0 else most) then (n : Int) else (if most < 0 then 0 else most)) = (k : Int) := by split <;> split <;> omega
 have HMM := mk0 hmm
 have HI := mk0 hI
 have HB := mk0 hbase
 clear hI hbase hl hv7 hn hk hkn hRB htI hts hAA hmm hc7
 go_enter Tryz.func14, Tryz.ntmps14
 go_upto_region 2 with (fail)
 rw [HMM.out]
 generalize (if most < 0 then (0 : Int) else most) = mx
 clear HMM
 go_wp2_with fail
 refine HC1.out.mono ?_
 rintro e w2 ⟨A1, c1, rfl, hR1, hge1, hb1⟩
 have y7' := pw_cell_below hb1 y7
 have H1 := mk0 (And.intro hR1 (And.intro hge1 hb1))
 clear hR1 hge1 hb1 y7
 go_wp2_with fail
 refine (HC2.out w2 H1.out.2.2).mono ?_
 rintro e w3 ⟨A2, c2, rfl, hR2, hge2, hb2⟩
 have hb3 := below_then H1.out.2.2 H1.out.2.2.size hb2
 have rx := HI.out.below hb3
 have y7'' := pw_cell_below hb2 y7'
 have f7 := blk_frozen rx.blk 7
 have r2 : RowsOf base w3 { h with vbox := .slice A2 (n - k) c2 } { N with inbox := N.inbox.drop k } := ⟨rx.rows.sch, rx.rows.sub, rx.rows.seen, hR2, rx.rows.opn, rx.rows.lnk, rx.rows.sent⟩
 have r10 := r2.set rx.blk (by decide) 7 (.slice A2 (n - k) c2)
 have fy := ((Fr.of_below (g := g) (h := h) hb3 HB.out).nbox (v1 := .slice A2 (n - k) c2) (.inr (fun b hb => Nat.le_trans H1.out.2.2.size (hge2 b hb)))).trans (Fr.set rx.gb 7 (.slice A2 (n - k) c2))
 have hlen : (N.inbox.drop k).length = n - k := by rw [List.length_drop, HN.out.1]
 have hfin := And.intro (Kd.R_set (Kd.R_below H1.out.1 hb2) rx.blk (by decide +kernel) 7 (.slice A2 (n - k) c2)) (And.intro (IsNd.of (h := { h with vbox := .slice A2 (n - k) c2 }) (N := { N with inbox := N.inbox.drop k }) (blk_set rx.blk 7 (.slice A2 (n - k) c2)) rfl rx.gb r10) fy)
 have HFIN := mk0 hfin
 clear hb3 rx y7' r2 r10 fy hlen hfin H1 hR2 hge2 hb2 HC1 HC2
 go_wp2
 go_ret
 have hkk := HN.out.2.1
 rw [HN.out.1] at hkk
 unfold PollPost
 rw [← hkk]
 exact ⟨A1, c1, rfl, HFIN.out.1, _, HFIN.out.2.1, HFIN.out.2.2⟩
theorem waits_calls (base g : Nat) (h : Hd) (N : NdM) (w : World) (hI : IsNd base w g h N) : Calls Tryz.prog 15 #[.pointer (some ⟨g, 0, none⟩)] w fun e w' => e = .returned (.int .i64 (N.inbox.length : Int)) ∧ w' = w := by
 obtain ⟨A7, c7, hv7, _, _⟩ := Kd.R_reads hI.rows.box
 obtain ⟨n, hn⟩ : ∃ n, n = N.inbox.length := ⟨_, rfl⟩
 have y7 := (blk_cell hI.blk 7).trans (show _ = some (Vs A7 n c7) from by rw [hn, ← hv7]; rfl)
 rw [← hn]
 clear hI hv7 hn
 go_enter Tryz.func15, Tryz.ntmps15
 go_wp2
 go_ret
 exact ⟨rfl, rfl⟩
theorem lost_calls (base g : Nat) (h : Hd) (N : NdM) (w : World) (hI : IsNd base w g h N) : Calls Tryz.prog 17 #[.pointer (some ⟨g, 0, none⟩)] w fun e w' => e = .returned (.int .i64 N.lost) ∧ w' = w := by
 have y12 := (blk_cell hI.blk 12).trans (show _ = some (Value.int .i64 N.lost) from rfl)
 clear hI
 go_enter Tryz.func17, Tryz.ntmps17
 go_wp2
 go_ret
 exact ⟨rfl, rfl⟩
theorem infoSub : (Tryz.prog.info? 123).map (fun i => (i.zero, i.size, i.bytes)) = some (some (.agg #[(.int .i64 0), (.string ⟨#[]⟩), (.slice none 0 0), (.slice none 0 0)]), 4, 72) := by kernel_rfl
def NdM.sub (N : NdM) (t : ByteArray) (F : List SP) (G : List ByteArray) : NdM := { N with subs := N.subs ++ [⟨N.last + 1, t, F, G⟩], last := N.last + 1 }
theorem NdM.sub_pl (N : NdM) (t : ByteArray) (F : List SP) (G : List ByteArray) : (N.sub t F G).pl = N.pl.sub F := by
 unfold NdM.sub NdM.pl Nd.sub
 simp [MSub.pl]
def SubOk (base g : Nat) (w : World) (h : Hd) (N : NdM) (F : List SP) (e : Ending) (w' : World) : Prop :=
 e = .returned (.tuple #[.int .i64 (N.last + 1), .nilIface]) ∧ ∃ h' t G, G.length ≤ 256 ∧ Sm G ∧ IsNd base w' g h' (N.sub t F G) ∧ Fr base g w h w' h'
theorem readR_fb {S : List SA} {t : ByteArray} {xs : List Pr} (h : readR S t = .inl xs) : filterBad S (xs.map toP) = none := by
 unfold readR at h
 split at h
 ·
  cases h
 ·
  split at h
  ·
   injection h with h
   subst h
   assumption
  ·
   cases h
set_option maxHeartbeats 8000000 in
theorem subscribe_ok (base g : Nat) (h : Hd) (N : NdM) (t : ByteArray) (xs : List Pr) (w : World) (hI : IsNd base w g h N) (hbase : base ≤ w.heap.size) (hF : NdFit N) (hT : TabB base w) (ht : t.size ≤ 1000) (hx : readR N.S t = .inl xs) (h16 : N.subs.length < 16) :
 Calls Tryz.prog 11 #[.pointer (some ⟨g, 0, none⟩), .string t] w (SubOk base g w h N (xs.map toP)) := by
 have hfb := readR_fb hx
 obtain ⟨hF4, hPO⟩ := fok hF.chk hfb
 obtain ⟨A3, c3, hv3, hc3, _⟩ := Kd.R_reads hI.rows.sub
 have HV3 := mk0 hv3
 obtain ⟨A, c0, hvS, hcS, hCS⟩ := Kd.R_reads hI.rows.sch
 have HS := mk0 (And.intro hcS hCS)
 have HVS := mk0 hvS
 have HI := mk0 hI
 have HF := mk0 hF
 have HT := mk0 hT
 have HBS := mk0 hbase
 have HPO := mk0 (And.intro hF4 hPO)
 have HRD := mk0 ((read_calls A N.S.length c0 N.S t w rfl hCS (by have := (checkBad_none hF.chk).2.1; omega) ht).mono (fun e w' hq => (show ∃ v, e = .returned (.tuple #[v, .nilIface]) ∧ Kd.R kPr tP w' w.heap.size (fun _ => True) v (xs.map toP) ∧ Below w.heap.size w w' from ReadPost.ok hq hx)))
 have HOF := mk0 (fun B d W (hb : Below w.heap.size w W) (hr2 : Kd.C kPr W B (xs.map toP).length (xs.map toP)) (hd : (xs.map toP).length ≤ d) => of_grp A B N.S.length (xs.map toP).length c0 d N.S (xs.map toP) N.levels W hF.lev.1 hF.lev.2 rfl rfl (Kd.C_below hCS hb) hr2 hF.chk hfb hcS hd (TabI.below hT.tab hb))
 have H16 := mk0 h16
 have HLN := mk0 (And.intro (blk_lt hI.blk) hI.gb)
 have y2 := (hI.cell 2).trans (show _ = some (Vs A N.S.length c0) from by rw [← hvS]; rfl)
 generalize xs.map toP = F at HPO HRD HOF ⊢
 clear hI hF hT hbase hv3 hc3 hvS hcS hCS hF4 hPO hx hfb h16
 go_enter Tryz.func11, Tryz.ntmps11
 go_wp2_with fail
 refine HRD.out.mono ?_
 rintro e w1 ⟨vF, rfl, hRF, hb1⟩
 obtain ⟨AF, cF, rfl, hcF, hCF⟩ := Kd.R_reads hRF
 have HB := mk0 hb1
 have HRF := mk0 (Kd.R_lower hRF HBS.out)
 clear hRF hb1 HRD y2 hcF hCF
 have y3 := ((HI.out.below HB.out).cell 3).trans (show _ = some (Vs A3 N.subs.length c3) from by rw [← HV3.out]; rfl)
 have y1 := ((HI.out.below HB.out).cell 1).trans (show _ = some (Value.int .i64 N.levels) from rfl)
 have y2 := ((HI.out.below HB.out).cell 2).trans (show _ = some (Vs A N.S.length c0) from by rw [← HVS.out]; rfl)
 have d1 : decide (16 ≤ N.subs.length) = false := decide_eq_false (by have := H16.out; omega)
 have d2 : decide ((16 : Int) ≤ (N.subs.length : Int)) = false := decide_eq_false (by have := H16.out; omega)
 go_upto_region 6 with (fail)
 go_region_held3 (fun X => X.cell? ⟨g, 1, none⟩ = some (.int .i64 N.levels) ∧ X.cell? ⟨g, 2, none⟩ = some (.slice A N.S.length c0)) (go_keep) (first
  | (go_at_call 42; (with_reducible refine (HOF.out AF cF _ ?tb ?tc ?td).mono ?_); (case tb => (with_reducible repeat (first | exact HB.out | apply pw_below_drewN | apply below_drew1 | apply below_drew | apply below_alloc))); (case tc => exact (Kd.R_reads' (w := w1) HRF.out).2.2); (case td => exact (Kd.R_reads' HRF.out).2.1); rintro e wx ⟨vG, G, rfl, hG1, hG3, hG2, hbx⟩; have n0_ := mk0 (below_then (by (with_reducible repeat (first | exact HB.out | apply pw_below_drewN | apply below_drew1 | apply below_drew | apply below_alloc))) (Below.size (by (with_reducible repeat (first | exact HB.out | apply pw_below_drewN | apply below_drew1 | apply below_drew | apply below_alloc)))) hbx); have n1_ := mk0 (Kd.R_below (w := w1.drew) (Kd.R_drew HRF.out) hbx); have HG3 := mk0 hG3; have n2_ := mk0 (And.intro hG1 (Kd.R_lower hG2 (Nat.le_trans HBS.out (Below.size (by (with_reducible repeat (first | exact HB.out | apply pw_below_drewN | apply below_drew1 | apply below_drew | apply below_alloc))))))); have z0 := pw_cell_below hbx y1; have z1 := pw_cell_below hbx y2; clear HB HRF hbx hG1 hG2 hG3; have HB := n0_; have HRF := n1_; have HRG := n2_; clear n0_ n1_ n2_))
 obtain ⟨AG, cG, rfl, hcG, hCG⟩ := Kd.R_reads HRG.out.2
 clear hcG hCG y1 y2 y3 z0 z1 HOF d1 d2
 have HI2 := HI.out.below HB.out
 have y4 := (HI2.cell 4).trans (show _ = some (Value.int .i64 N.last) from rfl)
 have f4 := blk_frozen HI2.blk 4
 have hsw : wrap64 (N.last + 1) = N.last + 1 := w64 (by have := HF.out.last; omega) (by have := HF.out.last; omega)
 go_upto_region 10 with (fail)
 rw [hsw]
 have fr3 := (Fr.of_below (g := g) (h := h) HB.out HBS.out).trans (Fr.set (h := h) (w := wx) HLN.out.2 4 (.int .i64 (N.last + 1)))
 have HK3 := mk0 (blk_set HI2.blk 4 (.int .i64 (N.last + 1)))
 have HR3 := mk0 (HI2.rows.set HI2.blk (by decide) 4 (.int .i64 (N.last + 1)))
 have HFR3 := mk0 fr3
 have HT3 := mk0 (HT.out.below fr3.below)
 have vF := Kd.R_set HRF.out HI2.blk (by decide +kernel) 4 (.int .i64 (N.last + 1))
 have vG := Kd.R_set HRG.out.2 HI2.blk (by decide +kernel) 4 (.int .i64 (N.last + 1))
 have HVF := mk0 vF
 have HVG := mk0 (And.intro HRG.out.1 vG)
 clear HI2 y4 f4 hsw fr3 vF vG HRF HRG HB
 generalize wx.setCell ⟨g, 4, none⟩ (.int .i64 (N.last + 1)) = W3 at HK3 HR3 HFR3 HT3 HVF HVG ⊢
 obtain ⟨s, hs⟩ := print_ok AF F.length cF N.S F W3 rfl (Kd.R_reads' HVF.out).2.2 HT3.out.tab HPO.out.2 HPO.out.1.2
 have HPR := mk0 hs
 clear hs
 have y3 := (blk_cell HK3.out 3).trans (show _ = some (Vs A3 N.subs.length c3) from by rw [← HV3.out]; rfl)
 have y4 := (blk_cell HK3.out 4).trans (show _ = some (Value.int .i64 (N.last + 1)) from rfl)
 go_region_law (first
  | (go_simp; go_at_call 43; (with_reducible refine (HPR.out _ (below_drew (Below.refl _ _))).mono ?_); rintro e wp ⟨rfl, hbp⟩; have n_ := below_then (below_drew (Below.refl W3.heap.size W3)) (Nat.le_refl _) hbp; have y3p := pw_cell_below n_ y3; have y4p := pw_cell_below n_ y4; have HKP := mk0 ((n_.block _ (blk_lt HK3.out)).trans HK3.out); have HRP := mk0 (HR3.out.below n_); have HFP := mk0 (HFR3.out.then n_ HBS.out); have HPP := mk0 (kSub_mkM (x := ⟨N.last + 1, s, F, G⟩) (Kd.R_apartR (Kd.R_below HVF.out n_) HRP.out.sub (by decide +kernel)) (Kd.R_apartR (Kd.R_below HVG.out.2 n_) HRP.out.sub (by decide +kernel))); have y3a : (wp.alloc (Obj.cells #[.int .i64 (N.last + 1), .string s, .slice AF F.length cF, .slice AG G.length cG] 123)).cell? ⟨g, 3, none⟩ = some (.slice A3 N.subs.length c3) := pw_cell_below (below_alloc (Below.refl _ _) _) y3p; clear n_ hbp)
  | (refine Kd.R_append_step kSub (w0 := w) (W := wp) base ?hw (.tmp 55) (.tmp 65) 94 tSub (.agg #[(.int .i64 0), (.string ⟨#[]⟩), (.slice none 0 0), (.slice none 0 0)]) 72 ?ho Tryz.underlying94 infoSub rfl (by decide) (by omega) h.vsub N.subs ⟨N.last + 1, s, F, G⟩ [.int .i64 (N.last + 1), .string s, .slice AF F.length cF, .slice AG G.length cG] (fun _ => True) (fun k => True ∧ some k ≠ h.vsub.ownBlock) ?aV ?aX HPP.out (fun _ hk => hk) ?aF HRP.out.sub HFP.out.below (Nat.le_trans HBS.out HFP.out.below.size) ?aL ?_; (case ho => rfl); (case hw => first | rfl | (simp [Region.wanted])); (case aV => exact HV3.out.symm); (case aX => first | rfl | (go_simp; done) | (go_simp; rfl)); (case aF => exact (fun _ _ => trivial)); (case aL => have := H16.out; omega); intro v9 w9 ho hb hg hat; have k9 := blk_grown HKP.out hg (Kd.R_ne HRP.out.sub HKP.out (by decide)); obtain ⟨A9, c9, rfl, hc9, hC9⟩ := Kd.R_reads ho; have y3' := (blk_cell k9 3).trans (show _ = some (Vs A3 N.subs.length c3) from by rw [← HV3.out]; rfl); have f3' := blk_frozen k9 3))
 all_goals
  have k10 := blk_set k9 3 (.slice A9 (N.subs ++ [(⟨N.last + 1, s, F, G⟩ : MSub)]).length c9)
  have r10 := (HRP.out.gsub hg ho).set k9 (by decide) 3 (.slice A9 (N.subs ++ [(⟨N.last + 1, s, F, G⟩ : MSub)]).length c9)
  have f10 := ((HFP.out.trans (Fr.gsub HRP.out hg (Nat.le_trans HBS.out HFP.out.below.size))).nsub (NewAt.from HFP.out.below.size hat)).trans (Fr.set HLN.out.2 3 (.slice A9 (N.subs ++ [(⟨N.last + 1, s, F, G⟩ : MSub)]).length c9))
  have hlen : (N.subs ++ [(⟨N.last + 1, s, F, G⟩ : MSub)]).length = N.subs.length + 1 := by simp
  rw [hlen] at k10 r10 f10
  have y4' := (blk_cell k10 4).trans (show _ = some (Value.int .i64 (N.last + 1)) from rfl)
  have hfin : SubOk base g w h N F (.returned (.tuple #[.int .i64 (N.last + 1), .nilIface])) (w9.setCell ⟨g, 3, none⟩ (.slice A9 (N.subs.length + 1) c9)) := ⟨rfl, _, s, G, HVG.out.1, HG3.out, IsNd.of k10 rfl HLN.out.2 ⟨r10.sch, r10.sub, r10.seen, r10.box, r10.opn, r10.lnk, r10.sent⟩, f10⟩
  clear k9 ho hb hg hat hc9 hC9 y3' f3' r10 f10 k10 hlen y3a
  go_wp2
  go_ret2
  exact hfin
set_option maxHeartbeats 8000000 in
theorem subscribe_full (base g : Nat) (h : Hd) (N : NdM) (t : ByteArray) (xs : List Pr) (w : World) (hI : IsNd base w g h N) (hF : NdFit N) (ht : t.size ≤ 1000) (hx : readR N.S t = .inl xs) (h16 : 16 ≤ N.subs.length) :
 Calls Tryz.prog 11 #[.pointer (some ⟨g, 0, none⟩), .string t] w fun e w' => Below w.heap.size w w' ∧ ∃ b n, e = .returned (.tuple #[.int .i64 0, faultV b]) ∧ ErrIs w' 4 n (faultV b) := by
 obtain ⟨A3, c3, hv3, hc3, _⟩ := Kd.R_reads hI.rows.sub
 have HV3 := mk0 hv3
 have HI := mk0 hI
 obtain ⟨A, c0, hvS, hcS, hCS⟩ := Kd.R_reads hI.rows.sch
 have HRD := mk0 ((read_calls A N.S.length c0 N.S t w rfl hCS (by have := (checkBad_none hF.chk).2.1; omega) ht).mono (fun e w' hq => (show ∃ v, e = .returned (.tuple #[v, .nilIface]) ∧ Kd.R kPr tP w' w.heap.size (fun _ => True) v (xs.map toP) ∧ Below w.heap.size w w' from ReadPost.ok hq hx)))
 have y2 := (hI.cell 2).trans (show _ = some (Vs A N.S.length c0) from by rw [← hvS]; rfl)
 have d1 : decide (16 ≤ N.subs.length) = true := decide_eq_true h16
 have d2 : decide ((16 : Int) ≤ (N.subs.length : Int)) = true := decide_eq_true (by omega)
 clear hI hF hvS hcS hCS hx hv3 hc3 h16
 go_enter Tryz.func11, Tryz.ntmps11
 go_wp2_with fail
 refine HRD.out.mono ?_
 rintro e w1 ⟨v, rfl, _, hb1⟩
 have HB := mk0 hb1
 have y3 := ((HI.out.below hb1).cell 3).trans (show _ = some (Vs A3 N.subs.length c3) from by rw [← HV3.out]; rfl)
 clear hb1 HRD y2
 go_wp2_with fail
 refine (nfault_calls 4 _).mono ?_
 rintro e w9 ⟨b, hbl, rfl, hf, hb⟩
 have hfin := And.intro (below_then HB.out HB.out.size hb) (IsFault.errIs hf)
 clear hf hb hbl
 go_wp2
 go_ret2
 exact ⟨hfin.1, b, 1, rfl, hfin.2⟩
structure Al (base g : Nat) (w0 w : World) (S : List SA) (lev : Int) (P : Nd) : Prop where
 nd : ∃ h N, IsNd base w g h N ∧ N.pl = P ∧ N.S = S ∧ N.levels = lev ∧ NdFit N ∧ NdGo N
 below : Below w0.heap.size w0 w
 le : w0.heap.size ≤ base
 size : base ≤ w.heap.size
 tab : TabB base w
def KeptN (w w' : World) : Prop := ∀ (k : Nat) (cs : Array Value) (t : TypeId) (fr : Nat × Nat), w.heap[k]? = some (.cells cs t fr) → (t ≠ tN ∧ t ≠ tSub ∧ t ≠ tDl ∧ t ≠ tEv ∧ t ≠ tSp) → w'.heap[k]? = w.heap[k]?
theorem Fr.keptN {base g : Nat} {w w1 : World} {h h1 : Hd} {N : NdM} (f : Fr base g w h w1 h1) (r : IsNd base w g h N) : KeptN w w1 := fun k cs t fr hc ht => f.keep k (Array.getElem?_eq_some_iff.1 hc).1 (r.other hc ht)
theorem KeptN.of_below {w w' : World} (hb : Below w.heap.size w w') : KeptN w w' := fun k cs t fr hc _ => hb.block k (Array.getElem?_eq_some_iff.1 hc).1
theorem KeptN.trans {w w1 w2 : World} (h1 : KeptN w w1) (h2 : KeptN w1 w2) : KeptN w w2 := fun k cs t fr hc ht => by
 have e := h1 k cs t fr hc ht
 exact (h2 k cs t fr (e.trans hc) ht).trans e
theorem KeptN.R {w w1 : World} {α : Type} {d : Kd α} {e b : Nat} {ok : Nat → Prop} {v : Value} {xs : List α} (f : KeptN w w1) (hr : Kd.R d e w b ok v xs) (ht : ∀ q, q ∈ e :: d.E → q ≠ tN ∧ q ≠ tSub ∧ q ≠ tDl ∧ q ≠ tEv ∧ q ≠ tSp) : Kd.R d e w1 b ok v xs :=
 Kd.R_mono (Kd.R_move (Kd.R_bound hr) (fun k hk => by
  obtain ⟨_, _, _, q, hq, cells, hc⟩ := hk
  exact f k _ _ _ hc (ht q hq))) (fun _ hk => hk.1)
def ptr (g : Nat) : Value := .pointer (some ⟨g, 0, none⟩)
section
variable {base g : Nat} {w0 w w' : World} {S : List SA} {lev : Int} {P P' : Nd}
theorem Al.keep (al : Al base g w0 w S lev P) (hb : Below w.heap.size w w') : Al base g w0 w' S lev P := by
 obtain ⟨h, N, h1, h2⟩ := al.nd
 exact ⟨⟨h, N, h1.below hb, h2⟩, al.below.trans (hb.mono (Nat.le_trans al.le al.size)), al.le, Nat.le_trans al.size hb.size, al.tab.below (hb.mono al.size)⟩
theorem Al.step (al : Al base g w0 w S lev P) {h h' : Hd} {N' : NdM} (f : Fr base g w h w' h') (hI : IsNd base w' g h' N') (hp : N'.pl = P') (hS : N'.S = S) (hL : N'.levels = lev) (hF : NdFit N') (hG : NdGo N') : Al base g w0 w' S lev P' :=
 ⟨⟨h', N', hI, hp, hS, hL, hF, hG⟩, al.below.trans (f.below.mono al.le), al.le, Nat.le_trans al.size f.below.size, al.tab.below f.below⟩
theorem NdM.pl_len {N : NdM} (h : N.pl = P) : N.subs.length = P.subs.length ∧ N.opn.length = P.opn.length ∧ N.inbox.length = P.inbox.length := by
 subst h
 exact ⟨(List.length_map _).symm, (List.length_map _).symm, (List.length_map _).symm⟩
theorem Al.fits (al : Al base g w0 w S lev P) : P.subs.length ≤ 16 ∧ P.opn.length ≤ 8 ∧ P.inbox.length ≤ 64 ∧ 0 ≤ P.seq ∧ P.seq ≤ 1073741824 ∧ 0 ≤ P.last ∧ 0 ≤ P.lost := by
 obtain ⟨h, N, h1, h2, h3, h4, h5, h6⟩ := al.nd
 obtain ⟨l1, l2, l3⟩ := NdM.pl_len h2
 have e1 := h5.nSub
 have e2 := h5.nOpn
 have e3 := h5.nBox
 subst h2
 exact ⟨by omega, by omega, by omega, h5.seq.1, h5.seq.2, h5.last.1, h6.lost⟩
theorem NdGo.sub {N : NdM} (h : NdGo N) (t : ByteArray) (F : List SP) (G : List ByteArray) : NdGo (N.sub t F G) := ⟨h.seqs, h.high, h.seenO, h.sentO, h.addr, h.lost⟩
theorem NdGo.pub {N : NdM} (h : NdGo N) (V : List SV) (pay : ByteArray) (G : List ByteArray) (h0 : 0 ≤ N.seq) : NdGo (N.pub V pay G) := by
 refine ⟨?_, ?_, ?_, ?_, h.addr, h.lost⟩
 ·
  show (N.opn ++ [_]).Pairwise _
  rw [List.pairwise_append]
  refine ⟨h.seqs, List.pairwise_singleton _ _, fun a ha b hb => ?_⟩
  rw [List.mem_singleton.1 hb]
  have := (h.high a ha).2
  show a.seq < N.seq + 1
  omega
 ·
  intro e he
  rcases List.mem_append.1 he with he | he
  ·
   have := h.high e he
   show 1 ≤ e.seq ∧ e.seq ≤ N.seq + 1
   omega
  ·
   rw [List.mem_singleton.1 he]
   show 1 ≤ N.seq + 1 ∧ N.seq + 1 ≤ N.seq + 1
   omega
 ·
  intro l hl
  have h1 := h.seenO l hl
  refine ⟨⟨h1.1.1, by show l ≤ N.seq + 1; omega⟩, fun e he => ?_⟩
  rcases List.mem_append.1 he with he | he
  ·
   exact h1.2 e he
  ·
   rw [List.mem_singleton.1 he]
   show l < N.seq + 1
   omega
 ·
  intro s hs
  have h1 := h.sentO s hs
  refine ⟨by show s.seq ≤ N.seq + 1; omega, fun e he => ?_⟩
  rcases List.mem_append.1 he with he | he
  ·
   exact h1.2 e he
  ·
   rw [List.mem_singleton.1 he]
   show s.seq < N.seq + 1
   omega
theorem al_new (A : Option Addr) (n c : Nat) (S : List SA) (a l : Int) (b : Nat) (ok : Nat → Prop) (w0 w : World) (ha : 0 ≤ a ∧ a < 32) (h0 : 0 ≤ l ∧ l ≤ 8) (hr : Kd.R kAt tA w b ok (.slice A n c) S) (hb : b ≤ w.heap.size) (hck : checkBad S = none) (hT : TabI w) (hb0 : Below w0.heap.size w0 w) :
 Calls Tryz.prog 10 #[.int .i64 a, .slice A n c, .int .i64 l] w fun e w' => ∃ g, e = .returned (.tuple #[ptr g, .nilIface]) ∧ Al w.heap.size g w0 w' S l (Nd.new a) := by
 refine (new_nd A n c S a l b ok w ha h0 hr hb hck).mono ?_
 rintro e w' ⟨g, h, h1, h2, h3, h4⟩
 refine ⟨g, h1, ⟨⟨h, _, h3, rfl, rfl, rfl, ⟨hck, h0, ⟨Int.le_refl _, (by show (0 : Int) ≤ 1073741824; decide)⟩, ⟨Int.le_refl _, (by show (0 : Int) ≤ 1000000; decide)⟩, Nat.zero_le _, fun s hs => (by cases hs), fun s hs => (by cases hs), Nat.zero_le _, fun s hs => (by cases hs), Nat.zero_le _, Nat.zero_le _⟩, ⟨List.Pairwise.nil, fun s hs => (by cases hs), fun l hl => (by cases hl), fun s hs => (by cases hs), ha, Int.le_refl _⟩⟩, hb0.trans (h4.mono hb0.size), hb0.size, h4.size, ⟨w, hT, Nat.le_refl _, h4⟩⟩⟩
theorem al_sub_ok_k (al : Al base g w0 w S lev P) (t : ByteArray) (xs : List Pr) (ht : t.size ≤ 1000) (hx : readR S t = .inl xs) (h16 : P.subs.length < 16) (hl : P.last < 1000000) :
 Calls Tryz.prog 11 #[ptr g, .string t] w fun e w' => e = .returned (.tuple #[.int .i64 (P.last + 1), .nilIface]) ∧ Al base g w0 w' S lev (P.sub (xs.map toP)) ∧ KeptN w w' := by
 obtain ⟨h, N, h1, h2, rfl, rfl, hF, hG⟩ := al.nd
 have hlen := NdM.pl_len h2
 subst h2
 refine (subscribe_ok base g h N t xs w h1 al.size hF al.tab ht hx (by omega)).mono ?_
 rintro e w' ⟨he, h', t', G, hg1, hg2, hI, hf⟩
 refine ⟨he, al.step hf hI (NdM.sub_pl N t' _ G) rfl rfl ?_ (hG.sub _ _ _), hf.keptN h1⟩
 have hfb := readR_fb hx
 have hl : N.last < 1000000 := hl
 have hla := hF.last
 refine ⟨hF.chk, hF.lev, hF.seq, ?_, ?_, ?_, ?_, hF.nOpn, hF.evs, hF.nBox, hF.nSent⟩
 ·
  show 0 ≤ N.last + 1 ∧ N.last + 1 ≤ 1000000
  omega
 ·
  show (N.subs ++ [_]).length ≤ 16
  rw [List.length_append]
  show N.subs.length + 1 ≤ 16
  omega
 ·
  intro s hs
  rcases List.mem_append.1 hs with hs | hs
  ·
   exact hF.flt s hs
  ·
   rw [List.mem_singleton.1 hs]
   exact hfb
 ·
  intro s hs
  rcases List.mem_append.1 hs with hs | hs
  ·
   exact hF.grp s hs
  ·
   rw [List.mem_singleton.1 hs]
   exact ⟨hg1, hg2⟩
theorem al_sub_ok (al : Al base g w0 w S lev P) (t : ByteArray) (xs : List Pr) (ht : t.size ≤ 1000) (hx : readR S t = .inl xs) (h16 : P.subs.length < 16) (hl : P.last < 1000000) :
 Calls Tryz.prog 11 #[ptr g, .string t] w fun e w' => e = .returned (.tuple #[.int .i64 (P.last + 1), .nilIface]) ∧ Al base g w0 w' S lev (P.sub (xs.map toP)) := by
 exact (al_sub_ok_k al t xs ht hx h16 hl).mono (fun e w' h => ⟨h.1, h.2.1⟩)
theorem al_sub_full (al : Al base g w0 w S lev P) (t : ByteArray) (xs : List Pr) (ht : t.size ≤ 1000) (hx : readR S t = .inl xs) (h16 : 16 ≤ P.subs.length) :
 Calls Tryz.prog 11 #[ptr g, .string t] w fun e w' => Below w.heap.size w w' ∧ Al base g w0 w' S lev P ∧ ∃ b n, e = .returned (.tuple #[.int .i64 0, faultV b]) ∧ ErrIs w' 4 n (faultV b) := by
 obtain ⟨h, N, h1, h2, rfl, rfl, hF, hG⟩ := al.nd
 have hlen := NdM.pl_len h2
 refine (subscribe_full base g h N t xs w h1 hF ht hx (by omega)).mono ?_
 rintro e w' ⟨hb, he⟩
 exact ⟨hb, al.keep hb, he⟩
theorem al_pub_ok_k (al : Al base g w0 w S lev P) (k c b : Nat) (ok : Nat → Prop) (E : Option Addr) (V : List SV) (pay : ByteArray) (hrR : Kd.R kVa tV w b ok (.slice E k c) V) (heb : evBad S V pay = none) (h8 : P.opn.length < 8) (hsq : P.seq < 1073741824) :
 Calls Tryz.prog 12 #[ptr g, encE E k c pay] w fun e w' => e = .returned (.tuple #[.int .i64 (P.seq + 1), .nilIface]) ∧ Al base g w0 w' S lev (P.pub V pay) ∧ KeptN w w' := by
 obtain ⟨h, N, h1, h2, rfl, rfl, hF, hG⟩ := al.nd
 have hlen := NdM.pl_len h2
 subst h2
 refine (publish_ok base g k c b ok h N E V pay w h1 al.size hF hrR al.tab.tab heb (by omega) hsq).mono ?_
 rintro e w' ⟨he, h', G, hg0, hg1, hg2, hI, hf⟩
 have hsq : N.seq < 1073741824 := hsq
 have hs0 := hF.seq
 refine ⟨he, al.step hf hI (NdM.pub_pl N V pay G) rfl rfl ⟨hF.chk, hF.lev, ?_, hF.last, hF.nSub, hF.flt, hF.grp, ?_, ?_, hF.nBox, hF.nSent⟩ (hG.pub _ _ _ hs0.1), hf.keptN h1⟩
 ·
  show 0 ≤ N.seq + 1 ∧ N.seq + 1 ≤ 1073741824
  omega
 ·
  show (N.opn ++ [_]).length ≤ 8
  rw [List.length_append]
  show N.opn.length + 1 ≤ 8
  omega
 ·
  intro s hs
  rcases List.mem_append.1 hs with hs | hs
  ·
   exact hF.evs s hs
  ·
   rw [List.mem_singleton.1 hs]
   exact ⟨heb, hg0, hg1, hg2⟩
theorem al_pub_ok (al : Al base g w0 w S lev P) (k c b : Nat) (ok : Nat → Prop) (E : Option Addr) (V : List SV) (pay : ByteArray) (hrR : Kd.R kVa tV w b ok (.slice E k c) V) (heb : evBad S V pay = none) (h8 : P.opn.length < 8) (hsq : P.seq < 1073741824) :
 Calls Tryz.prog 12 #[ptr g, encE E k c pay] w fun e w' => e = .returned (.tuple #[.int .i64 (P.seq + 1), .nilIface]) ∧ Al base g w0 w' S lev (P.pub V pay) := by
 exact (al_pub_ok_k al k c b ok E V pay hrR heb h8 hsq).mono (fun e w' h => ⟨h.1, h.2.1⟩)
theorem al_pub_full (al : Al base g w0 w S lev P) (k c : Nat) (E : Option Addr) (V : List SV) (pay : ByteArray) (hk : V.length = k) (hr : Kd.C kVa w E k V) (heb : evBad S V pay = none) (h8 : 8 ≤ P.opn.length) :
 Calls Tryz.prog 12 #[ptr g, encE E k c pay] w fun e w' => Below w.heap.size w w' ∧ Al base g w0 w' S lev P ∧ ∃ b n, e = .returned (.tuple #[.int .i64 0, faultV b]) ∧ ErrIs w' 5 n (faultV b) := by
 obtain ⟨h, N, h1, h2, rfl, rfl, hF, hG⟩ := al.nd
 have hlen := NdM.pl_len h2
 refine (publish_full base g k c h N E V pay w h1 hF hk hr al.tab.tab heb (by omega)).mono ?_
 rintro e w' ⟨hb, he⟩
 exact ⟨hb, al.keep hb, he⟩
theorem al_tick_k (al : Al base g w0 w S lev P) (now a : Int) (hlo : P.lost ≤ 900000) :
 Calls Tryz.prog 13 #[ptr g, .int .i64 now, .iface tOwn (.int .i64 a)] w fun e w' => e = .returned (.tuple #[]) ∧ Al base g w0 w' S lev (P.tick S) ∧ KeptN w w' := by
 obtain ⟨h, N, h1, h2, rfl, rfl, hF, hG⟩ := al.nd
 subst h2
 refine (tick_calls base g h N a now w h1 al.size hF hG hlo).mono ?_
 rintro e w' ⟨he, h', N', hT, hI, hf⟩
 exact ⟨he, al.step hf hI hT.pl hT.S hT.lev hT.fit hT.go, hf.keptN h1⟩
theorem al_tick (al : Al base g w0 w S lev P) (now a : Int) (hlo : P.lost ≤ 900000) :
 Calls Tryz.prog 13 #[ptr g, .int .i64 now, .iface tOwn (.int .i64 a)] w fun e w' => e = .returned (.tuple #[]) ∧ Al base g w0 w' S lev (P.tick S) := by
 exact (al_tick_k al now a hlo).mono (fun e w' h => ⟨h.1, h.2.1⟩)
theorem al_poll_k (al : Al base g w0 w S lev P) (most : Int) :
 Calls Tryz.prog 14 #[ptr g, .int .i64 most] w fun e w' => ∃ A c L, e = .returned (.slice A (P.polled most) c) ∧ Kd.R kDl tDl w' base (fun _ => True) (.slice A (P.polled most) c) L ∧ L.map MDl.pl = P.inbox.take (P.polled most) ∧ Al base g w0 w' S lev (P.poll most) ∧ KeptN w w' := by
 obtain ⟨h, N, h1, h2, rfl, rfl, hF, hG⟩ := al.nd
 subst h2
 have e1 : N.pl.polled most = min most.toNat N.inbox.length := by show min most.toNat (N.inbox.map MDl.pl).length = _; rw [List.length_map]
 refine (poll_calls base g h N most w h1 al.size hF.nBox).mono ?_
 rintro e w' ⟨A, c, he, hR, h', hI, hf⟩
 rw [e1]
 refine ⟨A, c, _, he, hR, by rw [List.map_take]; rfl, al.step hf hI ?_ rfl rfl ⟨hF.chk, hF.lev, hF.seq, hF.last, hF.nSub, hF.flt, hF.grp, hF.nOpn, hF.evs, ?_, hF.nSent⟩ ⟨hG.seqs, hG.high, hG.seenO, hG.sentO, hG.addr, hG.lost⟩, hf.keptN h1⟩
 ·
  unfold Nd.poll
  rw [e1]
  unfold NdM.pl
  rw [List.map_drop]
 ·
  show (N.inbox.drop _).length ≤ 64
  rw [List.length_drop]
  have := hF.nBox
  omega
theorem al_poll (al : Al base g w0 w S lev P) (most : Int) :
 Calls Tryz.prog 14 #[ptr g, .int .i64 most] w fun e w' => ∃ A c L, e = .returned (.slice A (P.polled most) c) ∧ Kd.R kDl tDl w' base (fun _ => True) (.slice A (P.polled most) c) L ∧ L.map MDl.pl = P.inbox.take (P.polled most) ∧ Al base g w0 w' S lev (P.poll most) := by
 exact (al_poll_k al most).mono (fun e w' ⟨A, c, L, h1, h2, h3, h4, _⟩ => ⟨A, c, L, h1, h2, h3, h4⟩)
theorem al_waits (al : Al base g w0 w S lev P) : Calls Tryz.prog 15 #[ptr g] w fun e w' => e = .returned (.int .i64 (P.inbox.length : Int)) ∧ w' = w := by
 obtain ⟨h, N, h1, h2, rfl, rfl, hF, hG⟩ := al.nd
 have hlen := NdM.pl_len h2
 have := waits_calls base g h N w h1
 rw [hlen.2.2] at this
 exact this
theorem al_lost (al : Al base g w0 w S lev P) : Calls Tryz.prog 17 #[ptr g] w fun e w' => e = .returned (.int .i64 P.lost) ∧ w' = w := by
 obtain ⟨h, N, h1, h2, rfl, rfl, hF, hG⟩ := al.nd
 subst h2
 exact lost_calls base g h N w h1
end
theorem infoI : (Tryz.prog.info? 3).map (fun i => (i.zero, i.size, i.bytes)) = some (some (.int .i64 0), 1, 8) := by kernel_rfl
set_option maxHeartbeats 8000000 in
theorem open_calls (base g : Nat) (h : Hd) (N : NdM) (w : World) (hI : IsNd base w g h N) (hl : N.opn.length ≤ 8) :
 Calls Tryz.prog 33 #[.pointer (some ⟨g, 0, none⟩)] w fun e w' => (∃ A c, e = .returned (.slice A N.opn.length c)) ∧ Below w.heap.size w w' := by
 obtain ⟨A8, c8, hv8, hc8, hC8⟩ := Kd.R_reads hI.rows.opn
 obtain ⟨n, hn⟩ : ∃ n, n = N.opn.length := ⟨_, rfl⟩
 rw [← hn] at hC8 hl ⊢
 have y8 := (hI.cell 8).trans (show _ = some (Vs A8 n c8) from by rw [hn, ← hv8]; rfl)
 have HC := mk0 hC8
 have HL := mk0 hl
 clear hI hv8 hc8 hC8 hl hn
 go_enter Tryz.func33, Tryz.ntmps33
 have HB0 := mk0 (Below.refl w.heap.size w)
 go_wp2_with fail
 go_loopg [3, 5, 11] (n + 1) (fun kk v3 v5 v11 W => ∃ (i : Nat) (acc : List Int), Aside0 (i ≤ n ∧ kk + i = n + 1 ∧ acc.length = i) ∧ v11 = .int .i64 (i : Int) ∧ Aside0 (Below w.heap.size w W) ∧ Aside0 (Kd.R (Kd.int .i64) 3 W w.heap.size (fun _ => True) v3 acc))
 case atStart => exact ⟨0, [], ⟨by omega, by omega, rfl⟩, rfl, HB0, ⟨Kd.R_nil _ _ _ _ _⟩⟩
 case round =>
  obtain ⟨i, acc, HM, rfl, HB, HO⟩ := hrel
  by_cases hi : i < n
  ·
   have b1 : decide ((i : Int) < (n : Int)) = true := decide_eq_true (by omega)
   have b2 : decide (i < n) = true := decide_eq_true (by omega)
   have p1 : (0 : Int) ≤ (i : Int) := by omega
   have p2 : (i : Int) < (n : Int) := by omega
   obtain ⟨ad, x, B, b, D, e, hA, hx, c0, c1, c2, c3, _, _⟩ := at_Ev (Kd.C_below HC.out HB.out) i hi
   cases hA
   clear hx
   go_upto_region 5 with (fail)
   have hb7 := below_alloc (Below.refl wr.heap.size wr) (.cells #[.int .i64 x.seq, .slice B x.V.length b, .string x.pay, .slice D x.want.length e] tEv)
   have hk7 := heap_alloc_new wr (.cells #[.int .i64 x.seq, .slice B x.V.length b, .string x.pay, .slice D x.want.length e] tEv)
   clear c0 c1 c2 c3
   generalize wr.alloc (.cells #[.int .i64 x.seq, .slice B x.V.length b, .string x.pay, .slice D x.want.length e] tEv) = W7 at hb7 hk7 ⊢
   have n0_ := mk0 (below_then HB.out HB.out.size hb7)
   have n1_ := mk0 (Kd.R_below HO.out hb7)
   have e0 := (blk_cell hk7 0).trans (show _ = some (Value.int .i64 x.seq) from rfl)
   clear HB HO hb7 hk7
   have HB := n0_
   have HO := n1_
   clear n0_ n1_
   generalize wr.heap.size = gb at e0 ⊢
   obtain ⟨A3, c3, rfl, _, _⟩ := Kd.R_reads HO.out
   go_wp2_with ((with_reducible refine gate_builtin (b := .append) (xs := #[.tmp 15, .tmp 18]) rfl ?_); at_builtin; go_loud (refine Kd.R_append (Kd.int .i64) (w0 := w) w.heap.size rfl (.tmp 15) (.tmp 18) 22 3 (.int .i64 0) 8 rfl Tryz.underlying22 infoI rfl (by decide) (by omega) _ acc x.seq [.int .i64 x.seq] (fun _ => True) (fun _ => False) rfl ?aX ?aP (fun _ hk => hk.elim) ?aF HO.out HB.out HB.out.size ?aL ?_; (case aX => first | rfl | (go_simp; done) | (go_simp; rfl)); (case aP => exact rfl); (case aF => exact (fun _ _ => trivial)); (case aL => have := HM.out; have := HL.out; omega); intro v9 w9 ho hb hg hat; have n0_ := mk0 ho; have n1_ := mk0 hb; clear HB HO ho hb hg hat; have HO := n0_; have HB := n1_; clear n0_ n1_))
   obtain ⟨A9, c9, rfl, _, _⟩ := Kd.R_reads HO.out
   go_wp2_with fail
   go_roundg (gk - 1)
   case measure => have := HM.out; omega
   case rel => exact ⟨i + 1, acc ++ [x.seq], ⟨by omega, by have := HM.out; omega, by have := HM.out; simp; omega⟩, by rw [w64 (by omega) (by have := HL.out; omega)]; rfl, HB, HO⟩
  ·
   have b1 : decide ((i : Int) < (n : Int)) = false := decide_eq_false (by omega)
   have b2 : decide (i < n) = false := decide_eq_false (by omega)
   obtain ⟨A9, c9, rfl, _, _⟩ := Kd.R_reads HO.out
   have hal : acc.length = n := by have := HM.out; omega
   have HAL := mk0 hal
   clear hal
   go_wp2
   go_ret
   exact ⟨⟨A9, c9, by (try rw [HAL.out]); rfl⟩, HB.out⟩
end Go.Proofs.YtnmpijbcajclgaaGreatDoor.Mine
end
section
namespace Go.Proofs.YtnmpijbcajclgaaGreatDoor.Mine
open Go.RowKit YtnmpijbcajclgaaGreatDoorW.PrintWords YtnmpijbcajclgaaGreatDoorW.PrintLast YtnmpijbcajclgaaGreatDoorW.PrintMore
open PNodeAlone
def S1p : List SA := [⟨⟨#[97]⟩, 1, 0, 9⟩]
def T09 : ByteArray := ⟨#[97, 32, 105, 110, 32, 48, 46, 46, 57]⟩
def T25 : ByteArray := ⟨#[97, 32, 105, 110, 32, 50, 46, 46, 53]⟩
def F09 : List SP := match readR S1p T09 with | .inl xs => xs.map toP | .inr _ => []
def F25 : List SP := match readR S1p T25 with | .inl xs => xs.map toP | .inr _ => []
theorem rd09 : ∃ xs, readR S1p T09 = .inl xs ∧ xs.map toP = F09 := by
 have h : (match readR S1p T09 with | .inl _ => true | .inr _ => false) = true := by decide +kernel
 unfold F09
 cases hr : readR S1p T09 with
 | inl xs => exact ⟨xs, rfl, rfl⟩
 | inr c => rw [hr] at h; cases h
theorem rd25 : ∃ xs, readR S1p T25 = .inl xs ∧ xs.map toP = F25 := by
 have h : (match readR S1p T25 with | .inl _ => true | .inr _ => false) = true := by decide +kernel
 unfold F25
 cases hr : readR S1p T25 with
 | inl xs => exact ⟨xs, rfl, rfl⟩
 | inr c => rw [hr] at h; cases h
theorem ck1 : checkBad S1p = none := by decide +kernel
theorem evok1 : ∀ i : Fin 21, i.val ≤ 9 → evBad S1p [⟨(i.val : Int), ⟨#[]⟩⟩] ⟨#[]⟩ = none := by decide +kernel
def evsP (n : Nat) : List NEv := (List.range n).map fun (i : Nat) => ⟨(i : Int) + 1, [⟨(i : Int), ⟨#[]⟩⟩], ⟨#[]⟩⟩
def ndP (n : Nat) : Nd := ⟨0, [⟨1, F09⟩, ⟨2, F25⟩], 2, [], evsP n, n, 0⟩
theorem ndP_step (n : Nat) : (ndP n).pub [⟨(n : Int), ⟨#[]⟩⟩] ⟨#[]⟩ = ndP (n + 1) := by
 unfold ndP Nd.pub evsP
 rw [List.range_succ, List.map_append]
 rfl
def wantP (n : Nat) : Nat := ((List.range n).map fun (i : Nat) => if 2 ≤ i ∧ i ≤ 5 then 2 else 1).sum
def boxP (n : Nat) : List NDl := ((ndP n).tick S1p).inbox
theorem boxP_all : ∀ n : Fin 9, (boxP n.val).length = wantP n.val ∧ (boxP n.val).Pairwise (fun a b => a.seq ≤ b.seq) ∧ ∀ d ∈ boxP n.val, 0 ≤ d.seq := by
 have h : ∀ n : Fin 9, (boxP n.val).map (·.seq) = ((List.range n.val).map fun (i : Nat) => if 2 ≤ i ∧ i ≤ 5 then [(i : Int) + 1, (i : Int) + 1] else [(i : Int) + 1]).flatten := by decide +kernel
 have h2 : ∀ n : Fin 9, (((List.range n.val).map fun (i : Nat) => if 2 ≤ i ∧ i ≤ 5 then [(i : Int) + 1, (i : Int) + 1] else [(i : Int) + 1]).flatten).length = wantP n.val ∧ (((List.range n.val).map fun (i : Nat) => if 2 ≤ i ∧ i ≤ 5 then [(i : Int) + 1, (i : Int) + 1] else [(i : Int) + 1]).flatten).Pairwise (fun a b => a ≤ b) ∧ ∀ d ∈ (((List.range n.val).map fun (i : Nat) => if 2 ≤ i ∧ i ≤ 5 then [(i : Int) + 1, (i : Int) + 1] else [(i : Int) + 1]).flatten), 0 ≤ d := by decide +kernel
 intro n
 obtain ⟨h3, h4, h5⟩ := h2 n
 rw [← h n] at h3 h4 h5
 rw [List.length_map] at h3
 rw [List.pairwise_map] at h4
 exact ⟨h3, h4, fun d hd => h5 d.seq (List.mem_map.2 ⟨d, hd, rfl⟩)⟩
def subsF (n : Nat) : List NSub := (List.range n).map fun (i : Nat) => ⟨(i : Int) + 1, F09⟩
def evsF (v : Int) (n : Nat) : List NEv := (List.range n).map fun (i : Nat) => ⟨(i : Int) + 1, [⟨v, ⟨#[]⟩⟩], ⟨#[]⟩⟩
def ndF (s o : Nat) : Nd := ⟨3, subsF s, s, [], evsF 1 o, o, 0⟩
theorem ndF_sub (s o : Nat) : (ndF s o).sub F09 = ndF (s + 1) o := by
 unfold ndF Nd.sub subsF
 rw [List.range_succ, List.map_append]
 rfl
theorem ndF_pub (s o : Nat) : (ndF s o).pub [⟨1, ⟨#[]⟩⟩] ⟨#[]⟩ = ndF s (o + 1) := by
 unfold ndF Nd.pub evsF
 rw [List.range_succ, List.map_append]
 rfl
theorem m1 : matchB S1p F09 [⟨1, ⟨#[]⟩⟩] ⟨#[]⟩ = true := by decide +kernel
theorem m3 : matchB S1p F09 [⟨3, ⟨#[]⟩⟩] ⟨#[]⟩ = true := by decide +kernel
theorem ev1 : evBad S1p [⟨1, ⟨#[]⟩⟩] ⟨#[]⟩ = none := by decide +kernel
theorem ev3 : evBad S1p [⟨3, ⟨#[]⟩⟩] ⟨#[]⟩ = none := by decide +kernel
theorem arrS_all {S : List SA} {pub : Int} {e : NEv} : ∀ (r : List NSub), (∀ s ∈ r, matchB S s.F e.V e.pay = true) → ∀ (b : List NDl) (l : Int), b.length ≤ 64 → (arrS S pub e r (b, l)).1.length = min (b.length + r.length) 64 ∧ (arrS S pub e r (b, l)).2 = l + ((b.length + r.length - min (b.length + r.length) 64 : Nat) : Int) := by
 intro r
 induction r with
 | nil =>
  intro _ b l hb
  show b.length = _ ∧ l = _
  simp only [List.length_nil]
  omega
 | cons s r ih =>
  intro h b l hb
  have hm := h s List.mem_cons_self
  have hr := fun x hx => h x (List.mem_cons_of_mem s hx)
  have e1 : arrS S pub e (s :: r) (b, l) = arrS S pub e r (if b.length < 64 then (b ++ [⟨s.id, pub, e.seq, e.V, e.pay⟩], l) else (b, l + 1)) := by
   show arrS S pub e r (if matchB S s.F e.V e.pay = true then _ else _) = _
   rw [if_pos hm]
  rw [e1]
  by_cases h64 : b.length < 64
  ·
   rw [if_pos h64]
   obtain ⟨h1, h2⟩ := ih hr (b ++ [⟨s.id, pub, e.seq, e.V, e.pay⟩]) l (by simp; omega)
   rw [h1, h2]
   simp only [List.length_append, List.length_cons, List.length_nil]
   omega
  ·
   rw [if_neg h64]
   obtain ⟨h1, h2⟩ := ih hr b (l + 1) hb
   rw [h1, h2]
   simp only [List.length_cons]
   omega
theorem come_all {S : List SA} : ∀ (r : List NEv) (N : Nd), (∀ e ∈ r, ∀ s ∈ N.subs, matchB S s.F e.V e.pay = true) → N.inbox.length ≤ 64 → (N.come S r).inbox.length = min (N.inbox.length + r.length * N.subs.length) 64 ∧ (N.come S r).lost = N.lost + ((N.inbox.length + r.length * N.subs.length - min (N.inbox.length + r.length * N.subs.length) 64 : Nat) : Int) := by
 intro r
 induction r with
 | nil =>
  intro N _ hb
  show N.inbox.length = _ ∧ N.lost = _
  simp only [List.length_nil, Nat.zero_mul]
  omega
 | cons e r ih =>
  intro N h hb
  obtain ⟨h1, h2⟩ := arrS_all (S := S) (pub := N.addr) N.subs (h e List.mem_cons_self) N.inbox N.lost hb
  have hlen := arrS_len S N.addr e N.subs (N.inbox, N.lost) hb
  obtain ⟨h3, h4⟩ := ih (N.arrive S e) (fun x hx s hs => h x (List.mem_cons_of_mem _ hx) s hs) hlen
  have e1 : (N.arrive S e).inbox.length = min (N.inbox.length + N.subs.length) 64 := h1
  have e2 : (N.arrive S e).lost = N.lost + ((N.inbox.length + N.subs.length - min (N.inbox.length + N.subs.length) 64 : Nat) : Int) := h2
  have e3 : (N.arrive S e).subs = N.subs := rfl
  rw [e1, e3] at h3 h4
  show ((N.arrive S e).come S r).inbox.length = _ ∧ ((N.arrive S e).come S r).lost = _
  rw [h3, h4, e2]
  simp only [List.length_cons, Nat.succ_mul]
  generalize r.length * N.subs.length = k
  omega
theorem ndF_tick (s o : Nat) : ((ndF s o).tick S1p).inbox.length = min (o * s) 64 ∧ ((ndF s o).tick S1p).lost = ((o * s - min (o * s) 64 : Nat) : Int) := by
 obtain ⟨h1, h2⟩ := come_all (S := S1p) (evsF 1 o) (ndF s o) (fun e he x hx => by
  obtain ⟨i, _, rfl⟩ := List.mem_map.1 he
  obtain ⟨j, _, rfl⟩ := List.mem_map.1 hx
  exact m1) (Nat.zero_le _)
 have e1 : (ndF s o).inbox.length = 0 := rfl
 have e2 : (evsF 1 o).length = o := by unfold evsF; simp
 have e3 : (ndF s o).subs.length = s := by show (subsF s).length = s; unfold subsF; simp
 have e4 : (ndF s o).lost = 0 := rfl
 rw [e1, e2, e3] at h1 h2
 rw [e4] at h2
 refine ⟨?_, ?_⟩
 ·
  show ((ndF s o).come S1p (evsF 1 o)).inbox.length = _
  rw [h1]
  omega
 ·
  show ((ndF s o).come S1p (evsF 1 o)).lost = _
  rw [h2]
  omega
theorem arrS_list {S : List SA} {pub : Int} {e : NEv} : ∀ (r : List NSub), (∀ s ∈ r, matchB S s.F e.V e.pay = true) → ∀ (b : List NDl) (l : Int), b.length + r.length ≤ 64 → arrS S pub e r (b, l) = (b ++ r.map (fun s => ⟨s.id, pub, e.seq, e.V, e.pay⟩), l) := by
 intro r
 induction r with
 | nil => intro _ b l _; show (b, l) = _; simp
 | cons s r ih =>
  intro h b l hb
  simp only [List.length_cons] at hb
  have e1 : arrS S pub e (s :: r) (b, l) = arrS S pub e r (if b.length < 64 then (b ++ [⟨s.id, pub, e.seq, e.V, e.pay⟩], l) else (b, l + 1)) := by
   show arrS S pub e r (if matchB S s.F e.V e.pay = true then _ else _) = _
   rw [if_pos (h s List.mem_cons_self)]
  rw [e1, if_pos (by omega), ih (fun x hx => h x (List.mem_cons_of_mem s hx)) _ _ (by simp; omega)]
  simp
def evG (q : Int) : NEv := ⟨q, [⟨3, ⟨#[]⟩⟩], ⟨#[]⟩⟩
def dlG (q : Int) (s : NSub) : NDl := ⟨s.id, 2, q, [⟨3, ⟨#[]⟩⟩], ⟨#[]⟩⟩
def ndG (n : Nat) : Nd := ⟨2, subsF n, n, [], [evG 1], 1, 0⟩
def ndG0 (n : Nat) : Nd := ⟨2, subsF n, n, [], [], 0, 0⟩
theorem ndG0_sub (n : Nat) : (ndG0 n).sub F09 = ndG0 (n + 1) := by
 unfold ndG0 Nd.sub subsF
 rw [List.range_succ, List.map_append]
 rfl
theorem ndG0_pub (n : Nat) : (ndG0 n).pub [⟨3, ⟨#[]⟩⟩] ⟨#[]⟩ = ndG n := rfl
theorem subsF_F (n : Nat) : ∀ s ∈ subsF n, s.F = F09 := fun s hs => by
 unfold subsF at hs
 obtain ⟨i, _, rfl⟩ := List.mem_map.1 hs
 rfl
theorem subsF_len (n : Nat) : (subsF n).length = n := by unfold subsF; simp
theorem tickOne {N : Nd} {q : Int} (ha : N.addr = 2) (ho : N.opn = [evG q]) (hF : ∀ s ∈ N.subs, s.F = F09) (hl : N.inbox.length + N.subs.length ≤ 64) : (N.tick S1p).inbox = N.inbox ++ N.subs.map (dlG q) ∧ (N.tick S1p).subs = N.subs ∧ (N.tick S1p).last = N.last ∧ (N.tick S1p).seq = N.seq := by
 have h := arrS_list (S := S1p) (pub := N.addr) (e := evG q) N.subs (fun s hs => by rw [hF s hs]; exact m3) N.inbox N.lost hl
 have e1 : N.tick S1p = { N.arrive S1p (evG q) with opn := [] } := by unfold Nd.tick; rw [ho]; rfl
 rw [e1]
 refine ⟨?_, rfl, rfl, rfl⟩
 show (arrS S1p N.addr (evG q) N.subs (N.inbox, N.lost)).1 = _
 rw [h, ha]
 rfl
theorem ndG_tick (n : Nat) (h : n ≤ 8) : ((ndG n).tick S1p).inbox = (subsF n).map (dlG 1) := by
 have := (tickOne (N := ndG n) rfl rfl (subsF_F n) (by show 0 + (subsF n).length ≤ 64; rw [subsF_len]; omega)).1
 rw [this]
 rfl
theorem filt_ne (n : Nat) (at_ : Nat) (h1 : 1 ≤ at_) (h2 : at_ ≤ n) : ((subsF n).filter (fun s => !(s.id == (at_ : Int)))).length = n - 1 := by
 have key : ∀ n : Nat, ((subsF n).filter (fun s => !(s.id == (at_ : Int)))).length = if at_ ≤ n then n - 1 else n := by
  intro n
  induction n with
  | zero =>
   show 0 = _
   rw [if_neg (by omega)]
  | succ n ih =>
   have e : subsF (n + 1) = subsF n ++ [⟨(n : Int) + 1, F09⟩] := by unfold subsF; rw [List.range_succ, List.map_append]; rfl
   rw [e, List.filter_append, List.length_append, ih]
   by_cases hq : at_ = n + 1
   ·
    have : (!((n : Int) + 1 == (at_ : Int))) = false := by rw [hq]; simp
    rw [List.filter_cons_of_neg (by simp [this])]
    rw [if_neg (by omega), if_pos (by omega)]
    simp
   ·
    have : (!((n : Int) + 1 == (at_ : Int))) = true := by simp; omega
    rw [List.filter_cons_of_pos (by simp [this])]
    simp only [List.filter_nil, List.length_singleton]
    by_cases hl : at_ ≤ n
    ·
     rw [if_pos hl, if_pos (by omega)]; omega
    ·
     rw [if_neg hl, if_neg (by omega)]
 rw [key n, if_pos h2]
theorem box_filt (n at_ : Nat) : (((subsF n).map (dlG 1)).filter (fun d => !(d.sub == (at_ : Int)))).length = ((subsF n).filter (fun s => !(s.id == (at_ : Int)))).length := by
 rw [List.filter_map, List.length_map]
 rfl
end Go.Proofs.YtnmpijbcajclgaaGreatDoor.Mine
end
