/- Texts of one claim, one behind the other, made short by a program. -/
import Derived.Test.YtnmpijbcajclgaaGreatDoorMN16
set_option linter.unusedSimpArgs false
set_option linter.unusedVariables false
set_option maxRecDepth 100000
section
namespace Go.Proofs.YtnmpijbcajclgaaGreatDoor.Mine
open Go.Maps Go.RowKit YtnmpijbcajclgaaGreatDoorW.PrintWords YtnmpijbcajclgaaGreatDoorW.PrintLast YtnmpijbcajclgaaGreatDoorW.PrintMore
open PNodeAlone
open Value renaming slice → Vs
theorem infoSp : (Tryz.prog.info? 272).map (fun i => (i.zero, i.size, i.bytes)) = some (some (.agg #[(.string ⟨#[]⟩), (.int .i64 0), (.int .i64 0)]), 3, 32) := by kernel_rfl
def sprL (l : List MSp) (s : MSp) : List MSp := if 512 < l.length + 1 then (l ++ [s]).drop 1 else l ++ [s]
def NdM.spr (N : NdM) (s : MSp) : NdM := { N with sent := sprL N.sent s }
def msgA (kind : Int) (grp : ByteArray) (pub q hops : Int) (E : Option Addr) (k c : Nat) (pay : ByteArray) : Array Value := #[.int .i64 kind, .string grp, .bool false, .slice none 0 0, .int .i64 pub, .int .i64 q, .int .i64 hops, .slice E k c, .string pay]
structure DAt (base g gb gm sz : Nat) (w : World) (h : Hd) (M : Array Value) (vE : Value) (V : List SV) (N : NdM) (wx : World) (h1 : Hd) : Prop where
 nd : IsNd base wx g h1 N
 fr : Fr base g w h wx h1
 row : Kd.R kVa tV wx base (fun _ => True) vE V
 box : wx.heap[gb]? = some (.cells #[.pointer (some ⟨g, 0, none⟩)] 24 (0, 0)) ∧ Off wx h1 g gb
 msg : wx.heap[gm]? = some (.cells M tM (0, 0)) ∧ Off wx h1 g gm
 size : sz ≤ wx.heap.size
theorem down_clone {base g gb gm sz : Nat} {w wc wx : World} {h h1 : Hd} {M : Array Value} {vE : Value} {V : List SV} {N : NdM} {s : MSp} {A' : Option Addr} {m c' : Nat} (D : DAt base g gb gm sz w h M vE V { N with sent := N.sent ++ [s] } wc h1) (hb : Below wc.heap.size wc wx) (hs : base ≤ wc.heap.size) (h5 : N.sent.length + 1 > 512)
 (hR : Kd.R kSp tSp wx base (fun _ => True) (.slice A' m c') ((N.sent ++ [s]).drop 1)) (hge : ∀ k', (Vs A' m c').ownBlock = some k' → wc.heap.size ≤ k') :
 DAt base g gb gm sz w h M vE V (N.spr s) (wx.setCell ⟨g, 11, none⟩ (.slice A' m c')) { h1 with vsent := .slice A' m c' } := by
 have hz : N.spr s = { N with sent := (N.sent ++ [s]).drop 1 } := by unfold NdM.spr sprL; rw [if_pos (by omega)]
 rw [hz]
 have rx := D.nd.below hb
 have r2 : RowsOf base wx { h1 with vsent := .slice A' m c' } { N with sent := (N.sent ++ [s]).drop 1 } := ⟨rx.rows.sch, rx.rows.sub, rx.rows.seen, rx.rows.box, rx.rows.opn, rx.rows.lnk, hR⟩
 have r10 := r2.set rx.blk (by decide) 11 (.slice A' m c')
 have fy := ((Fr.of_below (g := g) (h := h1) hb hs).nsent (v1 := .slice A' m c') (.inr hge)).trans (Fr.set rx.gb 11 (.slice A' m c'))
 exact ⟨IsNd.of (blk_set rx.blk 11 (.slice A' m c')) rfl rx.gb r10, D.fr.trans fy, fy.R D.nd D.row (by decide +kernel), ⟨D.box.2.blk fy D.box.1, D.box.2.keep fy⟩, ⟨D.msg.2.blk fy D.msg.1, D.msg.2.keep fy⟩, Nat.le_trans D.size fy.below.size⟩
def ArrC (base g : Nat) (M : Array Value) (E : Option Addr) (k c : Nat) (V : List SV) (N : NdM) (P : NdM → Prop) (s : Nat) : Prop :=
 ∀ (W : World) (h1 : Hd), s ≤ W.heap.size → IsNd base W g h1 N → Kd.R kVa tV W base (fun _ => True) (.slice E k c) V → Calls Tryz.prog 165 #[.pointer (some ⟨g, 0, none⟩), .agg M] W fun e w' => e = .returned (.tuple #[]) ∧ ∃ h' N', P N' ∧ IsNd base w' g h' N' ∧ Fr base g W h1 w' h'
set_option maxHeartbeats 8000000 in
theorem down_calls (base g k c : Nat) (h : Hd) (N : NdM) (kind q hops : Int) (grp pay : ByteArray) (E : Option Addr) (V : List SV) (env : Value) (w : World) (P : NdM → Prop) (hI : IsNd base w g h N) (hbase : base ≤ w.heap.size) (hS : N.S.length ≤ 100000) (heb : evBad N.S V pay = none) (hV : Kd.R kVa tV w base (fun _ => True) (.slice E k c) V)
 (hno : ∀ s ∈ N.sent, ¬ (grp = s.grp ∧ N.addr = s.pub ∧ q = s.seq)) (hl : N.sent.length ≤ 512) (hA : ArrC base g (msgC kind grp N.addr q hops E k c pay) E k c V (N.spr ⟨grp, N.addr, q⟩) P w.heap.size) :
 Calls Tryz.prog 108 #[.pointer (some ⟨g, 0, none⟩), .agg (msgC kind grp N.addr q hops E k c pay), env] w fun e w' => e = .returned (.tuple #[]) ∧ ∃ h' N', P N' ∧ IsNd base w' g h' N' ∧ Fr base g w h w' h' := by
 have HBS := mk0 hbase
 have HS := mk0 hS
 have HEB := mk0 heb
 have HNO := mk0 (And.intro hno hl)
 have HA := mk0 hA
 have HI := mk0 hI
 have HV := mk0 hV
 clear hI hbase hS heb hV hno hl hA
 unfold msgC
 go_enter Tryz.func108, Tryz.ntmps108
 go_upto_region 2 with (fail)
 have ha1 := below_alloc (Below.refl w.heap.size w) (.cells #[.pointer (some ⟨g, 0, none⟩)] 24)
 have hk1 := heap_alloc_new w (.cells #[.pointer (some ⟨g, 0, none⟩)] 24)
 have hz1 : (w.alloc (.cells #[.pointer (some ⟨g, 0, none⟩)] 24)).heap.size = w.heap.size + 1 := by show (w.heap.push _).size = _; exact Array.size_push _
 generalize w.alloc (.cells #[.pointer (some ⟨g, 0, none⟩)] 24) = Wa at ha1 hk1 hz1 ⊢
 have ha2 := below_alloc (Below.refl Wa.heap.size Wa) (.cells (msgC kind grp N.addr q hops E k c pay) tM)
 have hk2 := heap_alloc_new Wa (.cells (msgC kind grp N.addr q hops E k c pay) tM)
 have hz2 : (Wa.alloc (.cells (msgC kind grp N.addr q hops E k c pay) tM)).heap.size = Wa.heap.size + 1 := by show (Wa.heap.push _).size = _; exact Array.size_push _
 unfold msgC at ha2 hk2 hz2
 generalize Wa.alloc (.cells #[.int .i64 kind, .string grp, .bool false, .slice none 0 0, .int .i64 N.addr, .int .i64 q, .int .i64 hops, .slice E k c, .string pay] tM) = Wb at ha2 hk2 hz2 ⊢
 have ha3 := below_alloc (Below.refl Wb.heap.size Wb) (.cells #[.string grp, .int .i64 N.addr, .int .i64 q] tSp)
 have hk3 := heap_alloc_new Wb (.cells #[.string grp, .int .i64 N.addr, .int .i64 q] tSp)
 generalize Wb.alloc (.cells #[.string grp, .int .i64 N.addr, .int .i64 q] tSp) = W1 at ha3 hk3 ⊢
 have hb1 : Below w.heap.size w W1 := below_then (below_then ha1 ha1.size ha2) (Nat.le_trans ha1.size ha2.size) ha3
 have hl3 := blk_lt hk3
 have HKB := mk0 ((ha3.block _ (by have := ha2.size; have := blk_lt hk1; omega)).trans ((ha2.block _ (blk_lt hk1)).trans hk1))
 have hkm := (ha3.block _ (blk_lt hk2)).trans hk2
 rw [hz2, hz1] at hk3
 rw [hz1] at hkm
 rw [hz2, hz1] at hl3
 have HG : Aside0 (w.heap.size + 1 + 1 < W1.heap.size) := ⟨hl3⟩
 have HKM := mk0 hkm
 have HKX := mk0 hk3
 clear ha1 hk1 hz1 ha2 hk2 hz2 ha3 hk3 hkm hl3
 have HF1 := mk0 (Fr.of_below (g := g) (h := h) hb1 HBS.out)
 have HI1 := mk0 (HI.out.below hb1)
 have HV1 := mk0 (Kd.R_below HV.out hb1)
 have ob : Off W1 h g w.heap.size := Off.new HI.out (Nat.le_refl _) (by have := HG.out; omega)
 have om : Off W1 h g (w.heap.size + 1) := Off.new HI.out (by omega) (by have := HG.out; omega)
 have ox : Off W1 h g (w.heap.size + 1 + 1) := Off.new HI.out (by omega) HG.out
 have HOF := mk0 (And.intro ob (And.intro om ox))
 have HSZ := mk0 hb1.size
 clear ob om ox hb1
 generalize w.heap.size + 1 + 1 = gx at HKX HOF ⊢
 generalize w.heap.size + 1 = gm at HKM HOF ⊢
 generalize hgb : w.heap.size = gb at HKB HOF ⊢
 have HGB := mk0 hgb
 clear hgb
 have b0 := (blk_cell HKB.out 0).trans (show _ = some (Value.pointer (some ⟨g, 0, none⟩)) from rfl)
 have m7 := (blk_cell HKM.out 7).trans (show _ = some (Vs E k c) from rfl)
 have m8 := (blk_cell HKM.out 8).trans (show _ = some (Value.string pay) from rfl)
 have x0 := (blk_cell HKX.out 0).trans (show _ = some (Value.string grp) from rfl)
 have x1 := (blk_cell HKX.out 1).trans (show _ = some (Value.int .i64 N.addr) from rfl)
 have x2 := (blk_cell HKX.out 2).trans (show _ = some (Value.int .i64 q) from rfl)
 obtain ⟨A2, c2, hv2, _, hC2⟩ := Kd.R_reads HI1.out.rows.sch
 obtain ⟨A11, c11, hv11, hc11, hC11⟩ := Kd.R_reads HI1.out.rows.sent
 have y2 := (HI1.out.cell 2).trans (show _ = some (Vs A2 N.S.length c2) from by rw [← hv2]; rfl)
 have y11 := (HI1.out.cell 11).trans (show _ = some (Vs A11 N.sent.length c11) from by rw [← hv11]; rfl)
 have HV11 := mk0 hv11
 obtain ⟨hkV, _, hCV⟩ := Kd.R_reads' HV1.out
 have HEV := mk0 (fun (W : World) (hb : Below W1.heap.size W1 W) => event_calls A2 E N.S.length k c2 c N.S V pay W rfl hkV.symm (Kd.C_below hC2 hb) (Kd.C_below (hkV ▸ hCV) hb) HS.out)
 unfold encE at HEV
 have HCO := mk0 (fun (W : World) (hb : Below W1.heap.size W1 W) => spread_no A11 c11 N.sent grp N.addr q W (Kd.C_below hC11 hb) hc11 (by have := HNO.out.2; omega) HNO.out.1)
 have HB := mk0 (Below.refl W1.heap.size W1)
 clear hv2 hC2 hv11 hc11 hC11 hkV hCV
 go_region_held3 (fun X => X.cell? ⟨gb, 0, none⟩ = some (.pointer (some ⟨g, 0, none⟩)) ∧ X.cell? ⟨g, 2, none⟩ = some (.slice A2 N.S.length c2) ∧ X.cell? ⟨g, 11, none⟩ = some (.slice A11 N.sent.length c11) ∧ X.cell? ⟨gm, 7, none⟩ = some (.slice E k c) ∧ X.cell? ⟨gm, 8, none⟩ = some (.string pay) ∧ X.cell? ⟨gx, 0, none⟩ = some (.string grp) ∧ X.cell? ⟨gx, 1, none⟩ = some (.int .i64 N.addr) ∧ X.cell? ⟨gx, 2, none⟩ = some (.int .i64 q)) (go_keep) (first
  | (go_at_call 94; (with_reducible refine (HEV.out _ ?tb).mono ?_); (case tb => (with_reducible repeat (first | exact HB.out | apply pw_below_drewN | apply below_drew1 | apply below_drew | apply below_alloc))); rintro e wx hq; obtain ⟨rfl, hbx⟩ := EvPost.ok hq HEB.out; have n0_ := mk0 (below_then (by (with_reducible repeat (first | exact HB.out | apply pw_below_drewN | apply below_drew1 | apply below_drew | apply below_alloc))) (Below.size (by (with_reducible repeat (first | exact HB.out | apply pw_below_drewN | apply below_drew1 | apply below_drew | apply below_alloc)))) hbx); (have z0 := pw_cell_below hbx b0; have z1 := pw_cell_below hbx y2; have z2 := pw_cell_below hbx y11; have z3 := pw_cell_below hbx m7; have z4 := pw_cell_below hbx m8; have z5 := pw_cell_below hbx x0; have z6 := pw_cell_below hbx x1; have z7 := pw_cell_below hbx x2; clear HB hbx; have HB := n0_; clear n0_))
  | (go_at_call 163; (with_reducible refine (HCO.out _ ?tb).mono ?_); (case tb => (with_reducible repeat (first | exact HB.out | apply pw_below_drewN | apply below_drew1 | apply below_drew | apply below_alloc))); rintro e wy ⟨rfl, hbx⟩; have n0_ := mk0 (below_then (by (with_reducible repeat (first | exact HB.out | apply pw_below_drewN | apply below_drew1 | apply below_drew | apply below_alloc))) (Below.size (by (with_reducible repeat (first | exact HB.out | apply pw_below_drewN | apply below_drew1 | apply below_drew | apply below_alloc)))) hbx); (have u0 := pw_cell_below hbx z0; have u1 := pw_cell_below hbx z1; have u2 := pw_cell_below hbx z2; have u3 := pw_cell_below hbx z3; have u4 := pw_cell_below hbx z4; have u5 := pw_cell_below hbx z5; have u6 := pw_cell_below hbx z6; have u7 := pw_cell_below hbx z7; clear HB hbx; have HB := n0_; clear n0_)))
 go_wp2_with fail
 have HI2 := mk0 (HI1.out.below HB.out)
 have HF2 := mk0 (HF1.out.then HB.out HBS.out)
 have HV2 := mk0 (Kd.R_below HV1.out HB.out)
 have HKB2 := mk0 ((HB.out.block _ (blk_lt HKB.out)).trans HKB.out)
 have HKM2 := mk0 ((HB.out.block _ (blk_lt HKM.out)).trans HKM.out)
 have HKX2 := mk0 ((HB.out.block _ (blk_lt HKX.out)).trans HKX.out)
 have HOF2 := mk0 (And.intro (HOF.out.1.below HB.out) (And.intro (HOF.out.2.1.below HB.out) (HOF.out.2.2.below HB.out)))
 have HSZ2 := mk0 (Nat.le_trans HSZ.out HB.out.size)
 clear HB HI1 HF1 HV1 HKB HKM HKX HOF HSZ HEV HCO b0 m7 m8 x0 x1 x2 y2 y11 z0 z1 z2 z3 z4 z5 z6 z7 u0 u1 u2 u3 u4 u5 u6 u7 HG
 have b0 := (blk_cell HKB2.out 0).trans (show _ = some (Value.pointer (some ⟨g, 0, none⟩)) from rfl)
 have x0 := (blk_cell HKX2.out 0).trans (show _ = some (Value.string grp) from rfl)
 have x1 := (blk_cell HKX2.out 1).trans (show _ = some (Value.int .i64 N.addr) from rfl)
 have x2 := (blk_cell HKX2.out 2).trans (show _ = some (Value.int .i64 q) from rfl)
 have y11 := (HI2.out.cell 11).trans (show _ = some (Vs A11 N.sent.length c11) from by rw [← HV11.out]; rfl)
 have y11a : (wy.alloc (Obj.cells #[.string grp, .int .i64 N.addr, .int .i64 q] 272)).cell? ⟨g, 11, none⟩ = some (.slice A11 N.sent.length c11) := pw_cell_below (below_alloc (Below.refl _ _) _) y11
 have b0a : (wy.alloc (Obj.cells #[.string grp, .int .i64 N.addr, .int .i64 q] 272)).cell? ⟨gb, 0, none⟩ = some (.pointer (some ⟨g, 0, none⟩)) := pw_cell_below (below_alloc (Below.refl _ _) _) b0
 have HP8 := mk0 (kSp_mkM (w := wy.drew) (base := base) (ok := fun k => True ∧ some k ≠ h.vsent.ownBlock) ⟨grp, N.addr, q⟩)
 go_cut [] (fun wx => ∃ h1 : Hd, Aside0 (DAt base g gb gm w.heap.size w h (msgA kind grp N.addr q hops E k c pay) (.slice E k c) V { N with sent := N.sent ++ [⟨grp, N.addr, q⟩] } wx h1))
 case first =>
  go_region_law (refine Kd.R_append_step kSp (w0 := wy) (W := wy.drew) base ?hw (.tmp 36) (.tmp 38) 112 tSp (.agg #[(.string ⟨#[]⟩), (.int .i64 0), (.int .i64 0)]) 32 ?ho Tryz.underlying112 infoSp rfl (by decide) (by omega) h.vsent N.sent ⟨grp, N.addr, q⟩ [.string grp, .int .i64 N.addr, .int .i64 q] (fun _ => True) (fun k => True ∧ some k ≠ h.vsent.ownBlock) ?aV ?aX HP8.out (fun _ hk => hk) ?aF (Kd.R_drew HI2.out.rows.sent) (below_drew (Below.refl base wy)) (Nat.le_trans HBS.out HSZ2.out) ?aL ?_; (case ho => rfl); (case hw => first | rfl | (simp [Region.wanted])); (case aV => exact HV11.out.symm); (case aX => first | rfl | (go_simp; done) | (go_simp; rfl)); (case aF => exact (fun _ _ => trivial)); (case aL => have := HNO.out.2; omega); intro v9 w9 ho hb hg hat; have k9 := blk_grown (w := wy.drew) HI2.out.blk hg (Kd.R_ne (w := wy.drew) (Kd.R_drew HI2.out.rows.sent) HI2.out.blk (by decide)); obtain ⟨A9, c9, rfl, hc9, hC9⟩ := Kd.R_reads ho; have y11' := (blk_cell k9 11).trans (show _ = some (Vs A11 N.sent.length c11) from by rw [← HV11.out]; rfl); have f11' := blk_frozen k9 11; have kb9 := blk_grown (w := wy.drew) HKB2.out hg (Kd.R_ne (w := wy.drew) (Kd.R_drew HI2.out.rows.sent) HKB2.out (by decide)); have b0' := (blk_cell kb9 0).trans (show _ = some (Value.pointer (some ⟨g, 0, none⟩)) from rfl))
  all_goals
   have k10 := blk_set k9 11 (.slice A9 (N.sent ++ [(⟨grp, N.addr, q⟩ : MSp)]).length c9)
   have rd := HI2.out.rows.below (below_drew (Below.refl wy.heap.size wy))
   have r10 := (rd.gsent hg ho).set k9 (by decide) 11 (.slice A9 (N.sent ++ [(⟨grp, N.addr, q⟩ : MSp)]).length c9)
   have hbw := Nat.le_trans HBS.out HSZ2.out
   have fy := (((Fr.of_below (g := g) (h := h) (below_drew (Below.refl wy.heap.size wy)) hbw).trans (Fr.gsent rd hg hbw)).nsent (NewAt.from (Nat.le_refl _) hat)).trans (Fr.set HI2.out.gb 11 (.slice A9 (N.sent ++ [(⟨grp, N.addr, q⟩ : MSp)]).length c9))
   have hlen : (N.sent ++ [(⟨grp, N.addr, q⟩ : MSp)]).length = N.sent.length + 1 := by simp
   rw [hlen] at k10 r10 fy
   have hi9 := IsNd.of (base := base) (g := g) (h := { h with vsent := .slice A9 (N.sent.length + 1) c9 }) (N := { N with sent := N.sent ++ [⟨grp, N.addr, q⟩] }) k10 rfl HI2.out.gb ⟨r10.sch, r10.sub, r10.seen, r10.box, r10.opn, r10.lnk, r10.sent⟩
   have hfin := And.intro (And.intro hi9 (HF2.out.trans fy)) (And.intro (fy.R HI2.out HV2.out (by decide +kernel)) (And.intro (And.intro (HOF2.out.1.blk fy HKB2.out) (HOF2.out.1.keep fy)) (And.intro (And.intro (HOF2.out.2.1.blk fy HKM2.out) (HOF2.out.2.1.keep fy)) (Nat.le_trans HSZ2.out fy.below.size))))
   clear k9 ho hb hg hat hc9 hC9 y11' f11' kb9 b0' rd r10 k10 hlen y11a b0a fy hi9 hbw
   go_wp2_with fail
   go_meet
   exact ⟨_, ⟨hfin.1.1, hfin.1.2, hfin.2.1, hfin.2.2.1, hfin.2.2.2.1, hfin.2.2.2.2⟩⟩
 case rest =>
  clear HI2 HF2 HV2 HKB2 HKM2 HKX2 HOF2 HSZ2 b0 x0 x1 x2 y11 y11a b0a HP8 HV11
  obtain ⟨h1, HD3⟩ := hcut
  obtain ⟨A3, c3, hv3, hc3, _⟩ := Kd.R_reads HD3.out.nd.rows.sent
  have hlen : (N.sent ++ [(⟨grp, N.addr, q⟩ : MSp)]).length = N.sent.length + 1 := by simp
  have hv3 : h1.vsent = .slice A3 (N.sent.length + 1) c3 := by rw [hv3]; exact congrArg (fun z => Vs A3 z c3) hlen
  have HV3 := mk0 hv3
  have b0 := (blk_cell HD3.out.box.1 0).trans (show _ = some (Value.pointer (some ⟨g, 0, none⟩)) from rfl)
  have y11 := (HD3.out.nd.cell 11).trans (show _ = some (Vs A3 (N.sent.length + 1) c3) from by rw [← hv3]; rfl)
  clear hv3 hlen hc3
  go_upto_if 47 with (fail)
  go_cut [] (fun wx => ∃ h2 : Hd, Aside0 (DAt base g gb gm w.heap.size w h (msgA kind grp N.addr q hops E k c pay) (.slice E k c) V (N.spr ⟨grp, N.addr, q⟩) wx h2))
  case first =>
   by_cases h5 : N.sent.length + 1 > 512
   ·
    have d1 : decide ((512 : Int) < ((N.sent.length + 1 : Nat) : Int)) = true := decide_eq_true (by omega)
    have d2 : decide (512 < N.sent.length + 1) = true := decide_eq_true (by omega)
    obtain ⟨tI, htI, hts, htz⟩ := zero_info infoSp
    obtain ⟨AA, hAA⟩ : ∃ AA, AA = (if c3 = 1 then A3 else A3.map (·.add (1 * kSp.sz))) := ⟨_, rfl⟩
    have hRS : Kd.R kSp tSp wc base (fun _ => True) (.slice A3 (N.sent.length + 1) c3) (N.sent ++ [⟨grp, N.addr, q⟩]) := by have h := HD3.out.nd.rows.sent; rw [HV3.out] at h; exact h
    have hS1 : ∀ W : World, (Instr.slice 112 (.slice A3 (N.sent.length + 1) c3) (some (.int .i64 1)) none none).run Tryz.prog W = .ok (.slice AA N.sent.length (c3 - 1)) W := by
     intro W
     rw [hAA]
     exact cut_from (P := Tryz.prog) 112 tSp .i64 Tryz.underlying112 htI 3 hts A3 (N.sent.length + 1) c3 1 (by decide) (by omega) W
    have HCL := mk0 (fun (W : World) (hb : Below wc.heap.size wc W) => (show Calls Tryz.prog 164 #[.slice AA N.sent.length (c3 - 1)] W fun e' w' => ∃ A' c', e' = .returned (.slice A' N.sent.length c') ∧ Kd.R kSp tSp w' base (fun _ => True) (.slice A' N.sent.length c') ((N.sent ++ [(⟨grp, N.addr, q⟩ : MSp)]).drop 1) ∧ (∀ k', (Vs A' N.sent.length c').ownBlock = some k' → W.heap.size ≤ k') ∧ Below W.heap.size W w' from by
     rw [hAA]
     exact clSp.drop (Nat.le_trans HBS.out (Nat.le_trans HD3.out.size hb.size)) (Kd.R_below hRS hb) (k := 1) (by omega) (by have := HNO.out.2; omega) (by decide)))
    clear hAA hRS htI hts htz
    go_wp2_with fail
    go_region_law (first
     | (go_simp; go_at_call 164; (with_reducible refine (HCL.out _ (below_drew (Below.refl _ _))).mono ?_); rintro e' wx ⟨A', c', rfl, hRx, hge, hbx⟩; have n_ := below_then (below_drew (Below.refl wc.heap.size wc)) (Nat.le_refl _) hbx; have b0x := pw_cell_below n_ b0; have y11x := pw_cell_below n_ y11; have HFN := mk0 (down_clone HD3.out n_ (Nat.le_trans HBS.out HD3.out.size) h5 hRx hge); have f11x := blk_frozen (HD3.out.nd.below n_).blk 11; clear hRx hge hbx n_))
    all_goals
     have hfin := HFN.out
     clear HFN b0x y11x f11x HCL hS1
     go_wp2_with fail
     go_meet
     exact ⟨_, ⟨hfin⟩⟩
   ·
    have d1 : decide ((512 : Int) < ((N.sent.length + 1 : Nat) : Int)) = false := decide_eq_false (by omega)
    have d2 : decide (512 < N.sent.length + 1) = false := decide_eq_false (by omega)
    go_wp2_with fail
    go_meet
    refine ⟨h1, ⟨?_⟩⟩
    have hz : N.spr ⟨grp, N.addr, q⟩ = { N with sent := N.sent ++ [⟨grp, N.addr, q⟩] } := by unfold NdM.spr sprL; rw [if_neg (by omega)]
    rw [hz]
    exact HD3.out
  case rest =>
   clear HD3 HV3 b0 y11
   obtain ⟨h2, HD4⟩ := hcut
   have b0 := (blk_cell HD4.out.box.1 0).trans (show _ = some (Value.pointer (some ⟨g, 0, none⟩)) from rfl)
   have m0 := (blk_cell HD4.out.msg.1 0).trans (show _ = some (Value.int .i64 kind) from rfl)
   have m1 := (blk_cell HD4.out.msg.1 1).trans (show _ = some (Value.string grp) from rfl)
   have m2 := (blk_cell HD4.out.msg.1 2).trans (show _ = some (Value.bool false) from rfl)
   have m3 := (blk_cell HD4.out.msg.1 3).trans (show _ = some (Vs none 0 0) from rfl)
   have m4 := (blk_cell HD4.out.msg.1 4).trans (show _ = some (Value.int .i64 N.addr) from rfl)
   have m5 := (blk_cell HD4.out.msg.1 5).trans (show _ = some (Value.int .i64 q) from rfl)
   have m6 := (blk_cell HD4.out.msg.1 6).trans (show _ = some (Value.int .i64 hops) from rfl)
   have m7 := (blk_cell HD4.out.msg.1 7).trans (show _ = some (Vs E k c) from rfl)
   have m8 := (blk_cell HD4.out.msg.1 8).trans (show _ = some (Value.string pay) from rfl)
   go_wp2_with fail
   refine (HA.out _ h2 HD4.out.size HD4.out.nd HD4.out.row).mono ?_
   rintro r w5 ⟨rfl, h3, N', hP, hI5, hF5⟩
   have hbx5 := HD4.out.box.2.blk hF5 HD4.out.box.1
   have hmg5 := HD4.out.msg.2.blk hF5 HD4.out.msg.1
   have HFIN := mk0 (And.intro hP (And.intro hI5 (HD4.out.fr.trans hF5)))
   have HSZ5 := mk0 (Nat.le_trans HD4.out.size hF5.below.size)
   have HCH := mk0 (fun (W : World) (hb : Below w5.heap.size w5 W) => children_nd g grp W (((hI5.below hb).cell 5).trans (show _ = some (Vs none 0 0) from rfl)))
   clear hP hI5 hF5 b0 m0 m1 m2 m3 m4 m5 m6 m7 m8 HD4 HA
   have b0 := (blk_cell hbx5 0).trans (show _ = some (Value.pointer (some ⟨g, 0, none⟩)) from rfl)
   have m1 := (blk_cell hmg5 1).trans (show _ = some (Value.string grp) from rfl)
   clear hbx5 hmg5
   go_wp2_with fail
   go_cut [65, 66, 67] (fun s65 s66 s67 wx => s66 = .int .i64 0 ∧ s67 = .int .i64 0 ∧ Aside0 (Below w5.heap.size w5 wx))
   case first =>
    go_region_law (first
     | (go_simp; go_at_call 48; (with_reducible refine (HCH.out _ (below_drew (Below.refl _ _))).mono ?_); rintro e' wx ⟨rfl, rfl⟩))
    all_goals
     go_wp2_with fail
     go_meet
     exact ⟨rfl, rfl, ⟨below_drew (Below.refl _ _)⟩⟩
   case rest =>
    obtain ⟨rfl, rfl, HB5⟩ := hcut
    go_wp2_with fail
    go_loopg [8, 67] 1 (fun kk v8 v67 W => v67 = .int .i64 0 ∧ Aside0 (Below w5.heap.size w5 W))
    case atStart => exact ⟨rfl, HB5⟩
    case round =>
     clear HB5
     obtain ⟨rfl, HBR⟩ := hrel
     go_wp2
     first | go_end0 | ((try simp only [Exit.inBlock, Exit.then]); refine bodyPost_ret (results_none rfl _ _ _) rfl ?_)
     exact ⟨rfl, h3, N', HFIN.out.1, HFIN.out.2.1.below HBR.out, HFIN.out.2.2.then HBR.out HBS.out⟩
theorem isQ_iff {q y : ByteArray} : isQ q y = true ↔ y = q := by
 unfold isQ
 rw [beq_iff_eq, Go.Lib.toList_data, Go.Lib.toList_data]
 exact ⟨fun h => ByteArray.ext (Array.toList_inj.1 h), fun h => by rw [h]⟩
theorem cf_other {q : Int} {g : ByteArray} {r : List MEv} (h : ∀ x ∈ r, x.seq ≠ q ∧ 0 < x.want.length) : confL q g r = r := by
 unfold confL
 have hm : r.map (MEv.cf q g) = r := by
  conv => rhs; rw [← List.map_id r]
  exact List.map_congr_left (fun x hx => by rw [MEv.cf, if_neg (h x hx).1]; rfl)
 rw [hm]
 unfold keepL
 rw [List.filter_eq_self]
 intro x hx
 have := (h x hx).2
 have h2 : noWant x = false := decide_eq_false (by omega)
 simp [h2]
theorem spr_mem {l : List MSp} {s x : MSp} (h : x ∈ sprL l s) : x ∈ l ∨ x = s := by
 unfold sprL at h
 have h2 : x ∈ l ++ [s] := by
  split at h
  ·
   exact List.mem_of_mem_drop h
  ·
   exact h
 simpa using h2
theorem spr_len {l : List MSp} {s : MSp} (h : l.length ≤ 512) : (sprL l s).length ≤ 512 := by
 unfold sprL
 split
 ·
  rw [List.length_drop, List.length_append]
  simp
  omega
 ·
  rw [List.length_append]
  simp
  omega
def hasN (done : List ByteArray) (x : ByteArray) : Bool := done.any (fun g => isQ g x)
def headL (e : MEv) (done : List ByteArray) : List MEv :=
 if e.want.filter (fun g => !hasN done g) = [] then [] else [{ e with want := e.want.filter (fun g => !hasN done g) }]
theorem keep_done (e : List ByteArray) (done : List ByteArray) (g : ByteArray) : keepL (isQ g) (e.filter (fun x => !hasN done x)) = e.filter (fun x => !hasN (done ++ [g]) x) := by
 unfold keepL
 rw [List.filter_filter]
 refine List.filter_congr (fun x _ => ?_)
 unfold hasN
 rw [List.any_append]
 simp [Bool.not_or, Bool.and_comm]
theorem conf_done {e : MEv} {done : List ByteArray} {g : ByteArray} {r : List MEv} (hr : ∀ x ∈ r, x.seq ≠ e.seq ∧ 0 < x.want.length) :
 confL e.seq g (headL e done ++ r) = headL e (done ++ [g]) ++ r := by
 have h1 := cf_other (g := g) hr
 have hk := keep_done e.want done g
 unfold headL
 by_cases h : e.want.filter (fun g => !hasN done g) = []
 ·
  rw [if_pos h]
  rw [h] at hk
  rw [← hk, if_pos (show keepL (isQ g) [] = [] from rfl)]
  exact h1
 ·
  rw [if_neg h]
  have hc : MEv.cf e.seq g { e with want := e.want.filter (fun g => !hasN done g) } = { e with want := e.want.filter (fun x => !hasN (done ++ [g]) x) } := by rw [MEv.cf, if_pos rfl, ← hk]
  unfold confL keepL at h1 ⊢
  rw [List.singleton_append, List.map_cons, hc, List.filter_cons]
  by_cases h2 : e.want.filter (fun x => !hasN (done ++ [g]) x) = []
  ·
   rw [if_pos h2]
   have h3 : noWant { e with want := e.want.filter (fun x => !hasN (done ++ [g]) x) } = true := decide_eq_true (by rw [h2]; rfl)
   rw [if_neg (by rw [h3]; decide), h1]
   rfl
  ·
   rw [if_neg h2]
   have h3 : noWant { e with want := e.want.filter (fun x => !hasN (done ++ [g]) x) } = false := decide_eq_false (by
    have := List.length_pos_iff.2 h2
    show ¬ ((((e.want.filter (fun x => !hasN (done ++ [g]) x)).length : Nat) : Int) = 0)
    omega)
   rw [if_pos (by rw [h3]; rfl), h1]
   rfl
theorem head_none (e : MEv) (h : 0 < e.want.length) : headL e [] = [e] := by
 unfold headL
 have h1 : e.want.filter (fun g => !hasN [] g) = e.want := by
  rw [List.filter_eq_self]
  intro x _
  rfl
 rw [h1, if_neg (fun e1 => by rw [e1] at h; exact absurd h (Nat.lt_irrefl 0))]
theorem head_all (e : MEv) : headL e e.want = [] := by
 unfold headL
 rw [if_pos]
 rw [List.filter_eq_nil_iff]
 intro x hx
 have : hasN e.want x = true := List.any_eq_true.2 ⟨x, hx, isQ_iff.2 rfl⟩
 rw [this]
 decide
def ConfPost (base g : Nat) (h : Hd) (N : NdM) (q : Int) (grp : ByteArray) (w : World) (e : Ending) (w' : World) : Prop :=
 e = .returned (.tuple #[]) ∧ ∃ h', IsNd base w' g h' { N with opn := confL q grp N.opn } ∧ Fr base g w h w' h'
set_option maxHeartbeats 8000000 in
theorem handle_conf (base g k c : Nat) (h : Hd) (N : NdM) (from_ q hops : Int) (grp pay : ByteArray) (E : Option Addr) (env : Value) (w : World) (hI : IsNd base w g h N) (hs : base ≤ w.heap.size) (hl : N.opn.length ≤ 8) (hw : ∀ e ∈ N.opn, e.want.length ≤ 36) :
 Calls Tryz.prog 78 #[.pointer (some ⟨g, 0, none⟩), .int .i64 from_, .agg (msgC 5 grp N.addr q hops E k c pay), env] w (ConfPost base g h N q grp w) := by
 have hb1 := below_alloc (Below.refl w.heap.size w) (.cells (msgC 5 grp N.addr q hops E k c pay) tM)
 have hk1 := heap_alloc_new w (.cells (msgC 5 grp N.addr q hops E k c pay) tM)
 have HS := mk0 hs
 have HB := mk0 hb1
 have HC := mk0 (fun (W : World) (hb : Below w.heap.size w W) => confirm_calls base g k c h N 5 q hops grp pay E W (hI.below hb) (Nat.le_trans hs hb.size) hl hw)
 clear hI hl hw hb1 hs
 unfold msgC at hk1 HB HC
 unfold msgC
 go_enter Tryz.func78, Tryz.ntmps78
 go_upto_region 1 with (fail)
 generalize w.alloc (.cells #[.int .i64 5, .string grp, .bool false, .slice none 0 0, .int .i64 N.addr, .int .i64 q, .int .i64 hops, .slice E k c, .string pay] tM) = W1 at hk1 HB ⊢
 generalize hgm : w.heap.size = gm at hk1 ⊢
 have HGM := mk0 hgm
 clear hgm
 have m0 := (blk_cell hk1 0).trans (show _ = some (Value.int .i64 5) from rfl)
 have m1 := (blk_cell hk1 1).trans (show _ = some (Value.string grp) from rfl)
 have m2 := (blk_cell hk1 2).trans (show _ = some (Value.bool false) from rfl)
 have m3 := (blk_cell hk1 3).trans (show _ = some (Vs none 0 0) from rfl)
 have m4 := (blk_cell hk1 4).trans (show _ = some (Value.int .i64 N.addr) from rfl)
 have m5 := (blk_cell hk1 5).trans (show _ = some (Value.int .i64 q) from rfl)
 have m6 := (blk_cell hk1 6).trans (show _ = some (Value.int .i64 hops) from rfl)
 have m7 := (blk_cell hk1 7).trans (show _ = some (Vs E k c) from rfl)
 have m8 := (blk_cell hk1 8).trans (show _ = some (Value.string pay) from rfl)
 clear hk1
 go_wp2_with fail
 refine (HC.out _ HB.out).mono ?_
 rintro r w2 ⟨rfl, h', hI2, hF2⟩
 have hfin := And.intro hI2 ((Fr.of_below (g := g) (h := h) HB.out HS.out).trans hF2)
 clear hI2 hF2 m0 m1 m2 m3 m4 m5 m6 m7 m8
 go_wp2
 first | go_end0 | ((try simp only [Exit.inBlock, Exit.then]); refine bodyPost_ret (results_none rfl _ _ _) rfl ?_)
 exact ⟨rfl, h', hfin⟩
set_option maxHeartbeats 8000000 in
theorem send_conf (base g k c : Nat) (h : Hd) (N : NdM) (q hops : Int) (grp pay : ByteArray) (E : Option Addr) (env : Value) (w : World) (hI : IsNd base w g h N) (hs : base ≤ w.heap.size) (hl : N.opn.length ≤ 8) (hw : ∀ e ∈ N.opn, e.want.length ≤ 36) :
 Calls Tryz.prog 53 #[.pointer (some ⟨g, 0, none⟩), .int .i64 N.addr, .agg (msgC 5 grp N.addr q hops E k c pay), env] w (ConfPost base g h N q grp w) := by
 have hb1 := below_alloc (Below.refl w.heap.size w) (.cells (msgC 5 grp N.addr q hops E k c pay) tM)
 have hk1 := heap_alloc_new w (.cells (msgC 5 grp N.addr q hops E k c pay) tM)
 have HS := mk0 hs
 have HB := mk0 hb1
 have HC := mk0 (fun (W : World) (hb : Below w.heap.size w W) => handle_conf base g k c h N N.addr q hops grp pay E env W (hI.below hb) (Nat.le_trans hs hb.size) hl hw)
 have hI1 := (hI.below hb1).cell 0
 clear hI hl hw hs
 unfold msgC at hk1 HB HC hI1
 have y0 := hI1.trans (show _ = some (Value.int .i64 N.addr) from rfl)
 clear hI1 hb1
 unfold msgC
 go_enter Tryz.func53, Tryz.ntmps53
 go_upto_region 1 with (fail)
 generalize w.alloc (.cells #[.int .i64 5, .string grp, .bool false, .slice none 0 0, .int .i64 N.addr, .int .i64 q, .int .i64 hops, .slice E k c, .string pay] tM) = W1 at hk1 HB y0 ⊢
 generalize hgm : w.heap.size = gm at hk1 ⊢
 have HGM := mk0 hgm
 clear hgm
 have m0 := (blk_cell hk1 0).trans (show _ = some (Value.int .i64 5) from rfl)
 have m1 := (blk_cell hk1 1).trans (show _ = some (Value.string grp) from rfl)
 have m2 := (blk_cell hk1 2).trans (show _ = some (Value.bool false) from rfl)
 have m3 := (blk_cell hk1 3).trans (show _ = some (Vs none 0 0) from rfl)
 have m4 := (blk_cell hk1 4).trans (show _ = some (Value.int .i64 N.addr) from rfl)
 have m5 := (blk_cell hk1 5).trans (show _ = some (Value.int .i64 q) from rfl)
 have m6 := (blk_cell hk1 6).trans (show _ = some (Value.int .i64 hops) from rfl)
 have m7 := (blk_cell hk1 7).trans (show _ = some (Vs E k c) from rfl)
 have m8 := (blk_cell hk1 8).trans (show _ = some (Value.string pay) from rfl)
 clear hk1
 go_wp2_with fail
 refine (HC.out _ HB.out).mono ?_
 rintro r w2 ⟨rfl, h', hI2, hF2⟩
 have hfin := And.intro hI2 ((Fr.of_below (g := g) (h := h) HB.out HS.out).trans hF2)
 clear hI2 hF2 m0 m1 m2 m3 m4 m5 m6 m7 m8
 go_wp2
 first | go_end0 | ((try simp only [Exit.inBlock, Exit.then]); refine bodyPost_ret (results_none rfl _ _ _) rfl ?_)
 exact ⟨rfl, h', hfin⟩
set_option maxHeartbeats 4000000 in
theorem hash_calls (s : ByteArray) (w : World) (hs : s.size ≤ 1000000) : Calls Tryz.prog 103 #[.string s] w fun e w' => (∃ n, e = .returned (.int .u64 n)) ∧ Below w.heap.size w w' := by
 have hcv := fun W : World => Lib.run_convert_string_bytes (P := Tryz.prog) W 9 263 5 s Tryz.underlying9 Tryz.underlying263 Tryz.underlying5
 go_enter Tryz.func103, Tryz.ntmps103
 go_wp2_with fail
 have HB := mk0 (bytes_below (Below.refl w.heap.size w) (Nat.le_refl _) 5 s)
 have HC : Aside0 (∀ j, j < s.size → (Lib.bytesWorld w 5 s).cell? ⟨w.heap.size, j, none⟩ = some (.int .u8 (s.data.toList.getD j 0).toNat)) := ⟨fun j hj => Lib.bytesWorld_cell w 5 s j hj⟩
 generalize grownCap w s.size 0 5 = cp
 generalize Lib.bytesWorld w 5 s = w1 at HB HC ⊢
 generalize hgB : w.heap.size = gB at HC ⊢
 clear hgB
 go_loopg [3, 5, 13] (s.size + 1) (fun k v3 v5 v13 W => ∃ (i : Nat) (n : Int), Aside0 (i ≤ s.size ∧ k + i = s.size + 1) ∧ v3 = .int .u64 n ∧ v13 = .int .i64 i ∧ Aside0 (Below w.heap.size w W) ∧ Aside0 (∀ j, j < s.size → W.cell? ⟨gB, j, none⟩ = some (.int .u8 (s.data.toList.getD j 0).toNat)))
 case atStart => exact ⟨0, _, ⟨by omega, by omega⟩, rfl, rfl, HB, HC⟩
 case round =>
  clear HB HC
  obtain ⟨i, n, HN, rfl, rfl, HB, HC⟩ := hrel
  by_cases hi : i < s.size
  ·
   have b1 : decide ((i : Int) < (s.size : Int)) = true := decide_eq_true (by omega)
   have b2 : decide (i < s.size) = true := decide_eq_true (by omega)
   have hc := HC.out i hi
   generalize (s.data.toList.getD i 0).toNat = x at hc
   go_wp2
   go_roundg (gk - 1)
   case measure => have := HN.out; omega
   case rel => exact ⟨i + 1, _, ⟨by omega, by have := HN.out; omega⟩, rfl, rfl, HB, HC⟩
  ·
   have b1 : decide ((i : Int) < (s.size : Int)) = false := decide_eq_false (by omega)
   have b2 : decide (i < s.size) = false := decide_eq_false (by omega)
   go_wp2
   go_ret
   exact ⟨⟨_, rfl⟩, HB.out⟩
theorem key_calls (s : ByteArray) (w : World) (hs : s.size ≤ 2000) : Calls Tryz.prog 51 #[.string s] w fun e w' => (∃ n, e = .returned (.int .u64 n)) ∧ Below w.heap.size w w' := by
 have z1 : (9223372036854775807 < 6 + s.size) = False := eq_false (by omega)
 have HC := mk0 (fun W => hash_calls (⟨#[103, 114, 111, 117, 112, 32]⟩ ++ s) W (by rw [ByteArray.size_append]; show 6 + s.size ≤ _; omega))
 clear hs
 go_enter Tryz.func51, Tryz.ntmps51
 go_wp2_with fail
 refine (HC.out _).mono ?_
 rintro e w1 ⟨⟨n, rfl⟩, hb⟩
 go_wp2
 go_ret
 exact ⟨⟨n, rfl⟩, hb⟩
abbrev tOwn : Nat := 42
theorem next_own (a n x : Int) (w : World) : Calls Tryz.prog 275 #[.int .i64 a, .int .i64 n, .int .u64 x] w fun e w' => e = .returned (.tuple #[.int .i64 n, .nilIface]) ∧ w = w' := by
 go_enter Tryz.func275, Tryz.ntmps275
 go_wp2
 go_ret2
 exact ⟨rfl, rfl⟩
theorem nextAhead (a : Int) (w : World) : (nilAhead 489 tOwn (.int .i64 a) "Next").run Tryz.prog w = .ok (some false) w := by kernel_rfl
theorem nextMeth (a : Int) (w : World) : (Go.method 489 tOwn (.int .i64 a) "Next").run Tryz.prog w = .ok (275, .int .i64 a) w := by kernel_rfl
theorem IsNd.setM {base g gm : Nat} {w : World} {h : Hd} {N : NdM} {cs : Array Value} (r : IsNd base w g h N) (hc : w.heap[gm]? = some (.cells cs tM (0, 0))) (j : Nat) (u : Value) : IsNd base (w.setCell ⟨gm, j, none⟩ u) g h N :=
 ⟨(Below.heap_setCell w ⟨gm, j, none⟩ u g (fun e => by
  have hz := r.blk
  rw [e, hc] at hz
  injection hz with hz
  injection hz with _ hz
  revert hz
  decide +kernel)).trans r.blk, r.gb, r.rows.set hc (by decide) j u⟩
def NdM.conf (N : NdM) (q : Int) (grp : ByteArray) : NdM := { N with opn := confL q grp N.opn }
def DownC (base g : Nat) (M : Array Value) (env : Value) (E : Option Addr) (k c : Nat) (V : List SV) (N : NdM) (P : NdM → Prop) (s : Nat) : Prop :=
 ∀ (W : World) (h1 : Hd), IsNd base W g h1 N → s ≤ W.heap.size → Kd.R kVa tV W base (fun _ => True) (.slice E k c) V → Calls Tryz.prog 108 #[.pointer (some ⟨g, 0, none⟩), .agg M, env] W fun e w' => e = .returned (.tuple #[]) ∧ ∃ h' N', P N' ∧ IsNd base w' g h' N' ∧ Fr base g W h1 w' h'
set_option maxHeartbeats 8000000 in
theorem route_gen (base g k c : Nat) (h : Hd) (N : NdM) (a q : Int) (grp pay : ByteArray) (E : Option Addr) (V : List SV) (w : World) (P : NdM → Prop) (hI : IsNd base w g h N) (hbase : base ≤ w.heap.size) (hV : Kd.R kVa tV w base (fun _ => True) (.slice E k c) V) (hg : grp.size ≤ 2000)
 (hl8 : N.opn.length ≤ 8) (hw : ∀ e ∈ N.opn, e.want.length ≤ 36) (hD : DownC base g (msgC 4 grp N.addr q 0 E k c pay) (.iface tOwn (.int .i64 a)) E k c V (N.conf q grp) P w.heap.size) :
 Calls Tryz.prog 55 #[.pointer (some ⟨g, 0, none⟩), .agg (msgC 3 grp N.addr q 0 E k c pay), .iface tOwn (.int .i64 a)] w fun e w' => e = .returned (.tuple #[]) ∧ ∃ h' N', P N' ∧ IsNd base w' g h' N' ∧ Fr base g w h w' h' := by
 have hb1 := below_alloc (Below.refl w.heap.size w) (.cells (msgC 3 grp N.addr q 0 E k c pay) tM)
 have hk1 := heap_alloc_new w (.cells (msgC 3 grp N.addr q 0 E k c pay) tM)
 have hz1 : (w.alloc (.cells (msgC 3 grp N.addr q 0 E k c pay) tM)).heap.size = w.heap.size + 1 := by show (w.heap.push _).size = _; exact Array.size_push _
 have HS := mk0 hbase
 have HB := mk0 hb1
 have HI := mk0 hI
 have HV := mk0 hV
 have HD := mk0 (show DownC base g (msgC 4 grp N.addr q 0 E k c pay) (.iface tOwn (.int .i64 a)) E k c V (N.conf q grp) P w.heap.size from hD)
 unfold DownC at HD
 have HSC := mk0 (fun (W : World) (hb : Below w.heap.size w W) => send_conf base g 0 0 h N q 0 grp ⟨#[]⟩ none (.iface tOwn (.int .i64 a)) W (hI.below hb) (Nat.le_trans hbase hb.size) hl8 hw)
 have HKY := mk0 (fun (W : World) => key_calls grp W hg)
 have hI1 := (hI.below hb1).cell 0
 clear hI hw hbase hV hl8 hD hg
 unfold msgC at hk1 HB HD HSC hI1 hz1
 have y0 := hI1.trans (show _ = some (Value.int .i64 N.addr) from rfl)
 clear hI1 hb1
 unfold msgC
 go_enter Tryz.func55, Tryz.ntmps55
 go_upto_region 1 with (fail)
 generalize w.alloc (.cells #[.int .i64 3, .string grp, .bool false, .slice none 0 0, .int .i64 N.addr, .int .i64 q, .int .i64 0, .slice E k c, .string pay] tM) = W1 at hk1 HB y0 hz1 ⊢
 generalize hgm : w.heap.size = gm at hk1 hz1 ⊢
 have HGM := mk0 (And.intro hgm hz1)
 clear hgm hz1
 have HK := mk0 hk1
 have m1 := (blk_cell hk1 1).trans (show _ = some (Value.string grp) from rfl)
 clear hk1
 have na := nextAhead a
 have nm := nextMeth a
 go_cut [6, 7] (fun s6 s7 wx => s6 = .int .i64 N.addr ∧ s7 = .nilIface ∧ Aside0 (Below w.heap.size w wx) ∧ Aside0 (wx.heap[gm]? = some (.cells #[.int .i64 3, .string grp, .bool false, .slice none 0 0, .int .i64 N.addr, .int .i64 q, .int .i64 0, .slice E k c, .string pay] tM (0, 0))))
 case first =>
  go_region_law (first
   | (go_simp; go_at_call 51; (with_reducible refine (HKY.out _).mono ?_); rintro e wx ⟨⟨kk, rfl⟩, hbx⟩; have n0_ := mk0 (below_then (below_drew HB.out) (below_drew HB.out).size hbx); have z0 := pw_cell_below hbx y0; have z1 := pw_cell_below hbx m1; have HKx := mk0 ((hbx.block _ (blk_lt HK.out)).trans HK.out); clear HB hbx; have HB := n0_; clear n0_)
   | (go_simp; go_at_call 275; (with_reducible refine (next_own _ _ _ _).mono ?_); rintro e wy ⟨rfl, rfl⟩))
  all_goals
   go_wp2_with fail
   go_meet
   exact ⟨rfl, rfl, HB, HKx⟩
 case rest =>
  obtain ⟨rfl, rfl, HB, HK⟩ := hcut
  clear y0 m1 na nm HKY
  have y0 := ((HI.out.below HB.out).cell 0).trans (show _ = some (Value.int .i64 N.addr) from rfl)
  have m1 := (blk_cell HK.out 1).trans (show _ = some (Value.string grp) from rfl)
  have m4 := (blk_cell HK.out 4).trans (show _ = some (Value.int .i64 N.addr) from rfl)
  have m5 := (blk_cell HK.out 5).trans (show _ = some (Value.int .i64 q) from rfl)
  go_wp2_with fail
  have om : Off wc h g gm := Off.new HI.out (Nat.le_of_eq HGM.out.1) (blk_lt HK.out)
  refine (HSC.out _ HB.out).mono ?_
  rintro r w2 ⟨rfl, h2, hI2, hF2⟩
  have k2 := om.blk hF2 HK.out
  have V2 := hF2.R (HI.out.below HB.out) (Kd.R_below HV.out HB.out) (by decide +kernel)
  have i3 := hI2.setM k2 0 (.int .i64 4)
  have k3 := blk_set k2 0 (.int .i64 4)
  have V3 := Kd.R_set V2 k2 (by decide +kernel) 0 (.int .i64 4)
  have i4 := i3.setM k3 6 (.int .i64 0)
  have k4 := blk_set k3 6 (.int .i64 0)
  have V4 := Kd.R_set V3 k3 (by decide +kernel) 6 (.int .i64 0)
  have fr := (((Fr.of_below (g := g) (h := h) HB.out HS.out).trans hF2).setNew HS.out (p := ⟨gm, 0, none⟩) (Nat.le_of_eq HGM.out.1) (.int .i64 4)).setNew HS.out (p := ⟨gm, 6, none⟩) (Nat.le_of_eq HGM.out.1) (.int .i64 0)
  have m0 := (blk_cell k2 0).trans (show _ = some (Value.int .i64 3) from rfl)
  have z0 := blk_frozen k2 0
  have m6 := (blk_cell k3 6).trans (show _ = some (Value.int .i64 0) from rfl)
  have z6 := blk_frozen k3 6
  have HN4 := mk0 (And.intro i4 (And.intro V4 (And.intro fr (Nat.le_trans HB.out.size (Nat.le_trans hF2.below.size (show w2.heap.size ≤ ((w2.setCell ⟨gm, 0, none⟩ (.int .i64 4)).setCell ⟨gm, 6, none⟩ (.int .i64 0)).heap.size from by simp [World.setCell]))))))
  have HK4 := mk0 k4
  clear k2 V2 i3 k3 V3 i4 k4 V4 fr hI2 hF2 om HB HK m1 m4 m5 y0 HSC HV
  go_upto_region 9 with (fail)
  generalize (w2.setCell ⟨gm, 0, none⟩ (.int .i64 4)).setCell ⟨gm, 6, none⟩ (.int .i64 0) = W4 at HN4 HK4 ⊢
  clear m0 z0 m6 z6
  have m0 := (blk_cell HK4.out 0).trans (show _ = some (Value.int .i64 4) from rfl)
  have m1 := (blk_cell HK4.out 1).trans (show _ = some (Value.string grp) from rfl)
  have m2 := (blk_cell HK4.out 2).trans (show _ = some (Value.bool false) from rfl)
  have m3 := (blk_cell HK4.out 3).trans (show _ = some (Vs none 0 0) from rfl)
  have m4 := (blk_cell HK4.out 4).trans (show _ = some (Value.int .i64 N.addr) from rfl)
  have m5 := (blk_cell HK4.out 5).trans (show _ = some (Value.int .i64 q) from rfl)
  have m6 := (blk_cell HK4.out 6).trans (show _ = some (Value.int .i64 0) from rfl)
  have m7 := (blk_cell HK4.out 7).trans (show _ = some (Vs E k c) from rfl)
  have m8 := (blk_cell HK4.out 8).trans (show _ = some (Value.string pay) from rfl)
  go_wp2_with fail
  refine (HD.out W4 h2 HN4.out.1 HN4.out.2.2.2 HN4.out.2.1).mono ?_
  rintro r w5 ⟨rfl, h', N', hP, hI5, hF5⟩
  have hfin := And.intro hP (And.intro hI5 (HN4.out.2.2.1.trans hF5))
  clear hP hI5 hF5 m0 m1 m2 m3 m4 m5 m6 m7 m8 HN4 HK4 HD
  go_wp2
  first | go_end0 | ((try simp only [Exit.inBlock, Exit.then]); refine bodyPost_ret (results_none rfl _ _ _) rfl ?_)
  exact ⟨rfl, h', N', hfin⟩
theorem route_own (base g k c : Nat) (h : Hd) (N : NdM) (a q : Int) (grp pay : ByteArray) (E : Option Addr) (V : List SV) (w : World) (P : NdM → Prop) (hI : IsNd base w g h N) (hbase : base ≤ w.heap.size) (hS : N.S.length ≤ 100000) (heb : evBad N.S V pay = none) (hV : Kd.R kVa tV w base (fun _ => True) (.slice E k c) V) (hg : grp.size ≤ 2000)
 (hl8 : N.opn.length ≤ 8) (hw : ∀ e ∈ N.opn, e.want.length ≤ 36)
 (hno : ∀ s ∈ N.sent, ¬ (grp = s.grp ∧ N.addr = s.pub ∧ q = s.seq)) (hl : N.sent.length ≤ 512) (hA : ArrC base g (msgC 4 grp N.addr q 0 E k c pay) E k c V ((N.conf q grp).spr ⟨grp, N.addr, q⟩) P w.heap.size) :
 Calls Tryz.prog 55 #[.pointer (some ⟨g, 0, none⟩), .agg (msgC 3 grp N.addr q 0 E k c pay), .iface tOwn (.int .i64 a)] w fun e w' => e = .returned (.tuple #[]) ∧ ∃ h' N', P N' ∧ IsNd base w' g h' N' ∧ Fr base g w h w' h' :=
 route_gen base g k c h N a q grp pay E V w P hI hbase hV hg hl8 hw (fun W h1 hI1 hsz hV1 => down_calls base g k c h1 (N.conf q grp) 4 q 0 grp pay E V (.iface tOwn (.int .i64 a)) W P hI1 (Nat.le_trans hbase hsz) hS heb hV1 hno hl (fun W2 h2 hs2 => hA W2 h2 (Nat.le_trans hsz hs2)))
set_option maxHeartbeats 8000000 in
theorem down_seen (base g k c : Nat) (h : Hd) (N : NdM) (kind q hops : Int) (grp pay : ByteArray) (E : Option Addr) (V : List SV) (env : Value) (w : World) (hI : IsNd base w g h N) (hbase : base ≤ w.heap.size) (hS : N.S.length ≤ 100000) (heb : evBad N.S V pay = none) (hV : Kd.R kVa tV w base (fun _ => True) (.slice E k c) V)
 (hno : ∃ s ∈ N.sent, grp = s.grp ∧ N.addr = s.pub ∧ q = s.seq) (hl : N.sent.length ≤ 512) :
 Calls Tryz.prog 108 #[.pointer (some ⟨g, 0, none⟩), .agg (msgC kind grp N.addr q hops E k c pay), env] w fun e w' => e = .returned (.tuple #[]) ∧ Below w.heap.size w w' := by
 have HBS := mk0 hbase
 have HS := mk0 hS
 have HEB := mk0 heb
 have HNO := mk0 (And.intro hno hl)
 have HI := mk0 hI
 have HV := mk0 hV
 clear hI hbase hS heb hV hno hl
 unfold msgC
 go_enter Tryz.func108, Tryz.ntmps108
 go_upto_region 2 with (fail)
 have ha1 := below_alloc (Below.refl w.heap.size w) (.cells #[.pointer (some ⟨g, 0, none⟩)] 24)
 have hk1 := heap_alloc_new w (.cells #[.pointer (some ⟨g, 0, none⟩)] 24)
 have hz1 : (w.alloc (.cells #[.pointer (some ⟨g, 0, none⟩)] 24)).heap.size = w.heap.size + 1 := by show (w.heap.push _).size = _; exact Array.size_push _
 generalize w.alloc (.cells #[.pointer (some ⟨g, 0, none⟩)] 24) = Wa at ha1 hk1 hz1 ⊢
 have ha2 := below_alloc (Below.refl Wa.heap.size Wa) (.cells (msgC kind grp N.addr q hops E k c pay) tM)
 have hk2 := heap_alloc_new Wa (.cells (msgC kind grp N.addr q hops E k c pay) tM)
 have hz2 : (Wa.alloc (.cells (msgC kind grp N.addr q hops E k c pay) tM)).heap.size = Wa.heap.size + 1 := by show (Wa.heap.push _).size = _; exact Array.size_push _
 unfold msgC at ha2 hk2 hz2
 generalize Wa.alloc (.cells #[.int .i64 kind, .string grp, .bool false, .slice none 0 0, .int .i64 N.addr, .int .i64 q, .int .i64 hops, .slice E k c, .string pay] tM) = Wb at ha2 hk2 hz2 ⊢
 have ha3 := below_alloc (Below.refl Wb.heap.size Wb) (.cells #[.string grp, .int .i64 N.addr, .int .i64 q] tSp)
 have hk3 := heap_alloc_new Wb (.cells #[.string grp, .int .i64 N.addr, .int .i64 q] tSp)
 generalize Wb.alloc (.cells #[.string grp, .int .i64 N.addr, .int .i64 q] tSp) = W1 at ha3 hk3 ⊢
 have hb1 : Below w.heap.size w W1 := below_then (below_then ha1 ha1.size ha2) (Nat.le_trans ha1.size ha2.size) ha3
 have hl3 := blk_lt hk3
 have HKB := mk0 ((ha3.block _ (by have := ha2.size; have := blk_lt hk1; omega)).trans ((ha2.block _ (blk_lt hk1)).trans hk1))
 have hkm := (ha3.block _ (blk_lt hk2)).trans hk2
 rw [hz2, hz1] at hk3
 rw [hz1] at hkm
 rw [hz2, hz1] at hl3
 have HG : Aside0 (w.heap.size + 1 + 1 < W1.heap.size) := ⟨hl3⟩
 have HKM := mk0 hkm
 have HKX := mk0 hk3
 clear ha1 hk1 hz1 ha2 hk2 hz2 ha3 hk3 hkm hl3
 have HI1 := mk0 (HI.out.below hb1)
 have HV1 := mk0 (Kd.R_below HV.out hb1)
 have ob : Off W1 h g w.heap.size := Off.new HI.out (Nat.le_refl _) (by have := HG.out; omega)
 have om : Off W1 h g (w.heap.size + 1) := Off.new HI.out (by omega) (by have := HG.out; omega)
 have ox : Off W1 h g (w.heap.size + 1 + 1) := Off.new HI.out (by omega) HG.out
 have HOF := mk0 (And.intro ob (And.intro om ox))
 have HSZ := mk0 hb1.size
 have HB1 := mk0 hb1
 clear ob om ox hb1
 generalize w.heap.size + 1 + 1 = gx at HKX HOF ⊢
 generalize w.heap.size + 1 = gm at HKM HOF ⊢
 generalize hgb : w.heap.size = gb at HKB HOF ⊢
 have HGB := mk0 hgb
 clear hgb
 have b0 := (blk_cell HKB.out 0).trans (show _ = some (Value.pointer (some ⟨g, 0, none⟩)) from rfl)
 have m7 := (blk_cell HKM.out 7).trans (show _ = some (Vs E k c) from rfl)
 have m8 := (blk_cell HKM.out 8).trans (show _ = some (Value.string pay) from rfl)
 have x0 := (blk_cell HKX.out 0).trans (show _ = some (Value.string grp) from rfl)
 have x1 := (blk_cell HKX.out 1).trans (show _ = some (Value.int .i64 N.addr) from rfl)
 have x2 := (blk_cell HKX.out 2).trans (show _ = some (Value.int .i64 q) from rfl)
 obtain ⟨A2, c2, hv2, _, hC2⟩ := Kd.R_reads HI1.out.rows.sch
 obtain ⟨A11, c11, hv11, hc11, hC11⟩ := Kd.R_reads HI1.out.rows.sent
 have y2 := (HI1.out.cell 2).trans (show _ = some (Vs A2 N.S.length c2) from by rw [← hv2]; rfl)
 have y11 := (HI1.out.cell 11).trans (show _ = some (Vs A11 N.sent.length c11) from by rw [← hv11]; rfl)
 have HV11 := mk0 hv11
 obtain ⟨hkV, _, hCV⟩ := Kd.R_reads' HV1.out
 have HEV := mk0 (fun (W : World) (hb : Below W1.heap.size W1 W) => event_calls A2 E N.S.length k c2 c N.S V pay W rfl hkV.symm (Kd.C_below hC2 hb) (Kd.C_below (hkV ▸ hCV) hb) HS.out)
 unfold encE at HEV
 have HCO := mk0 (fun (W : World) (hb : Below W1.heap.size W1 W) => spread_yes A11 c11 N.sent grp N.addr q W (Kd.C_below hC11 hb) hc11 (by have := HNO.out.2; omega) HNO.out.1)
 have HB := mk0 (Below.refl W1.heap.size W1)
 clear hv2 hC2 hv11 hc11 hC11 hkV hCV
 go_region_held3 (fun X => X.cell? ⟨gb, 0, none⟩ = some (.pointer (some ⟨g, 0, none⟩)) ∧ X.cell? ⟨g, 2, none⟩ = some (.slice A2 N.S.length c2) ∧ X.cell? ⟨g, 11, none⟩ = some (.slice A11 N.sent.length c11) ∧ X.cell? ⟨gm, 7, none⟩ = some (.slice E k c) ∧ X.cell? ⟨gm, 8, none⟩ = some (.string pay) ∧ X.cell? ⟨gx, 0, none⟩ = some (.string grp) ∧ X.cell? ⟨gx, 1, none⟩ = some (.int .i64 N.addr) ∧ X.cell? ⟨gx, 2, none⟩ = some (.int .i64 q)) (go_keep) (first
  | (go_at_call 94; (with_reducible refine (HEV.out _ ?tb).mono ?_); (case tb => (with_reducible repeat (first | exact HB.out | apply pw_below_drewN | apply below_drew1 | apply below_drew | apply below_alloc))); rintro e wx hq; obtain ⟨rfl, hbx⟩ := EvPost.ok hq HEB.out; have n0_ := mk0 (below_then (by (with_reducible repeat (first | exact HB.out | apply pw_below_drewN | apply below_drew1 | apply below_drew | apply below_alloc))) (Below.size (by (with_reducible repeat (first | exact HB.out | apply pw_below_drewN | apply below_drew1 | apply below_drew | apply below_alloc)))) hbx); (have z0 := pw_cell_below hbx b0; have z1 := pw_cell_below hbx y2; have z2 := pw_cell_below hbx y11; have z3 := pw_cell_below hbx m7; have z4 := pw_cell_below hbx m8; have z5 := pw_cell_below hbx x0; have z6 := pw_cell_below hbx x1; have z7 := pw_cell_below hbx x2; clear HB hbx; have HB := n0_; clear n0_))
  | (go_at_call 163; (with_reducible refine (HCO.out _ ?tb).mono ?_); (case tb => (with_reducible repeat (first | exact HB.out | apply pw_below_drewN | apply below_drew1 | apply below_drew | apply below_alloc))); rintro e wy ⟨rfl, hbx⟩; have n0_ := mk0 (below_then (by (with_reducible repeat (first | exact HB.out | apply pw_below_drewN | apply below_drew1 | apply below_drew | apply below_alloc))) (Below.size (by (with_reducible repeat (first | exact HB.out | apply pw_below_drewN | apply below_drew1 | apply below_drew | apply below_alloc)))) hbx); (have u0 := pw_cell_below hbx z0; have u1 := pw_cell_below hbx z1; have u2 := pw_cell_below hbx z2; have u3 := pw_cell_below hbx z3; have u4 := pw_cell_below hbx z4; have u5 := pw_cell_below hbx z5; have u6 := pw_cell_below hbx z6; have u7 := pw_cell_below hbx z7; clear HB hbx; have HB := n0_; clear n0_)))
 have hfin := below_then HB1.out HB1.out.size HB.out
 clear HB HEV HCO b0 m7 m8 x0 x1 x2 y2 y11 z0 z1 z2 z3 z4 z5 z6 z7 u0 u1 u2 u3 u4 u5 u6 u7
 go_wp2
 first | go_end0 | ((try simp only [Exit.inBlock, Exit.then]); refine bodyPost_ret (results_none rfl _ _ _) rfl ?_)
 exact ⟨rfl, hfin⟩
theorem confL_mem {q : Int} {g : ByteArray} {L : List MEv} {x : MEv} (h : x ∈ confL q g L) : 0 < x.want.length ∧ ∃ y ∈ L, x = y ∨ x = { y with want := keepL (isQ g) y.want } := by
 unfold confL keepL at h
 obtain ⟨h1, h2⟩ := List.mem_filter.1 h
 obtain ⟨y, hy, rfl⟩ := List.mem_map.1 h1
 refine ⟨?_, y, hy, ?_⟩
 ·
  simp only [noWant, Bool.not_eq_true', decide_eq_false_iff_not] at h2
  omega
 ·
  unfold MEv.cf
  split
  ·
   exact .inr rfl
  ·
   exact .inl rfl
theorem confL_len (q : Int) (g : ByteArray) (L : List MEv) : (confL q g L).length ≤ L.length := by
 unfold confL keepL
 exact Nat.le_trans (List.length_filter_le _ _) (by simp)
theorem NdFit.conf {N : NdM} (h : NdFit N) (q : Int) (g : ByteArray) : NdFit (N.conf q g) :=
 { h with
  nOpn := Nat.le_trans (confL_len q g N.opn) h.nOpn
  evs := fun e he => by
   obtain ⟨h1, y, hy, rfl | rfl⟩ := confL_mem he
   ·
    exact h.evs _ hy
   ·
    have h2 := h.evs y hy
    exact ⟨h2.1, h1, Nat.le_trans (List.length_filter_le _ _) h2.2.2.1, fun x hx => h2.2.2.2 x (List.mem_filter.1 hx).1⟩ }
theorem NdFit.spr {N : NdM} (h : NdFit N) (s : MSp) : NdFit (N.spr s) := { h with nSent := spr_len h.nSent }
theorem NdFit.arr {N : NdM} (h : NdFit N) (q : Int) (B : List MDl) (L : Int) (hB : B.length ≤ 64) : NdFit (N.arr q B L) := { h with nBox := hB }
theorem route_first (base g k c : Nat) (h : Hd) (N : NdM) (a q : Int) (grp pay : ByteArray) (E : Option Addr) (V : List SV) (w : World) (hI : IsNd base w g h N) (hbase : base ≤ w.heap.size) (hF : NdFit N) (ha : 0 ≤ N.addr ∧ N.addr < 32) (hq : 1 ≤ q ∧ q ≤ 1073741824) (hs : ∀ l, N.seen = some l → 0 ≤ l ∧ l < q) (heb : evBad N.S V pay = none) (hV : Kd.R kVa tV w base (fun _ => True) (.slice E k c) V) (hg : grp.size ≤ 2000) (hno : ∀ s ∈ N.sent, s.seq < q) (hlo : 0 ≤ N.lost ∧ N.lost ≤ 1000000) :
 Calls Tryz.prog 55 #[.pointer (some ⟨g, 0, none⟩), .agg (msgC 3 grp N.addr q 0 E k c pay), .iface tOwn (.int .i64 a)] w fun e w' => e = .returned (.tuple #[]) ∧ ∃ h' N', (∃ B L, N' = ((N.conf q grp).spr ⟨grp, N.addr, q⟩).arr q B L ∧ ArrTo N q V pay [] B L ∧ B.length ≤ 64) ∧ IsNd base w' g h' N' ∧ Fr base g w h w' h' :=
 route_own base g k c h N a q grp pay E V w _ hI hbase (by have := (checkBad_none hF.chk).2.1; omega) heb hV hg hF.nOpn (fun e he => (hF.evs e he).2.2.1) (fun s hs2 hc => by have := hno s hs2; omega) hF.nSent
  (fun W h1 hsz hI1 hV1 => (arrive_new base g k c h1 ((N.conf q grp).spr ⟨grp, N.addr, q⟩) 4 q 0 grp pay E V W hI1 (Nat.le_trans hbase hsz) ((hF.conf q grp).spr _) ha hq hs hV1 heb hlo).mono (fun e w' hx => by
   obtain ⟨h1, h', B, L, h2, h3, h4, h5⟩ := hx
   exact ⟨h1, h', _, ⟨B, L, rfl, h4, h5⟩, h2, h3⟩))
theorem route_more (base g k c : Nat) (h : Hd) (N : NdM) (a q : Int) (grp pay : ByteArray) (E : Option Addr) (V : List SV) (w : World) (hI : IsNd base w g h N) (hbase : base ≤ w.heap.size) (hF : NdFit N) (ha : 0 ≤ N.addr ∧ N.addr < 32) (hq : 1 ≤ q ∧ q ≤ 1073741824) (hs : N.seen = some q) (heb : evBad N.S V pay = none) (hV : Kd.R kVa tV w base (fun _ => True) (.slice E k c) V) (hg : grp.size ≤ 2000) :
 Calls Tryz.prog 55 #[.pointer (some ⟨g, 0, none⟩), .agg (msgC 3 grp N.addr q 0 E k c pay), .iface tOwn (.int .i64 a)] w fun e w' => e = .returned (.tuple #[]) ∧ ∃ h' N', (N' = N.conf q grp ∨ N' = (N.conf q grp).spr ⟨grp, N.addr, q⟩) ∧ IsNd base w' g h' N' ∧ Fr base g w h w' h' := by
 by_cases hy : ∃ s ∈ N.sent, grp = s.grp ∧ N.addr = s.pub ∧ q = s.seq
 ·
  exact route_gen base g k c h N a q grp pay E V w _ hI hbase hV hg hF.nOpn (fun e he => (hF.evs e he).2.2.1) (fun W h1 hI1 hsz hV1 => (down_seen base g k c h1 (N.conf q grp) 4 q 0 grp pay E V (.iface tOwn (.int .i64 a)) W hI1 (Nat.le_trans hbase hsz) (by have := (checkBad_none hF.chk).2.1; show N.S.length ≤ 100000; omega) heb hV1 hy hF.nSent).mono (fun e w' hx => ⟨hx.1, h1, _, .inl rfl, hI1.below hx.2, Fr.of_below hx.2 (Nat.le_trans hbase hsz)⟩))
 ·
  exact route_own base g k c h N a q grp pay E V w _ hI hbase (by have := (checkBad_none hF.chk).2.1; omega) heb hV hg hF.nOpn (fun e he => (hF.evs e he).2.2.1) (fun s hs2 hc => hy ⟨s, hs2, hc⟩) hF.nSent
   (fun W h1 hsz hI1 hV1 => (arrive_twice base g k c h1 ((N.conf q grp).spr ⟨grp, N.addr, q⟩) 4 q 0 grp pay E W hI1 ha hq hs).mono (fun e w' hx => ⟨hx.1, h1, _, .inr rfl, hI1.below hx.2, Fr.of_below hx.2 (Nat.le_trans hbase hsz)⟩))
theorem come_app (S : List SA) : ∀ (r s : List NEv) (N : Nd), N.come S (r ++ s) = (N.come S r).come S s := by
 intro r
 induction r with
 | nil => intro s N; rfl
 | cons e r ih => intro s N; exact ih s (N.arrive S e)
theorem arrS_lost (S : List SA) (pub : Int) (e : NEv) : ∀ (r : List NSub) (b : List NDl) (l : Int), l ≤ (arrS S pub e r (b, l)).2 ∧ (arrS S pub e r (b, l)).2 ≤ l + r.length := by
 intro r
 induction r with
 | nil => intro b l; show l ≤ l ∧ l ≤ l + ((0 : Nat) : Int); omega
 | cons s r ih =>
  intro b l
  have e1 : arrS S pub e (s :: r) (b, l) = arrS S pub e r (if matchB S s.F e.V e.pay = true then (if b.length < 64 then (b ++ [⟨s.id, pub, e.seq, e.V, e.pay⟩], l) else (b, l + 1)) else (b, l)) := rfl
  rw [e1, List.length_cons]
  split
  ·
   split
   ·
    have := ih (b ++ [⟨s.id, pub, e.seq, e.V, e.pay⟩]) l
    omega
   ·
    have := ih b (l + 1)
    omega
  ·
   have := ih b l
   omega
structure NdGo (N : NdM) : Prop where
 seqs : N.opn.Pairwise (fun a b => a.seq < b.seq)
 high : ∀ e ∈ N.opn, 1 ≤ e.seq ∧ e.seq ≤ N.seq
 seenO : ∀ l, N.seen = some l → (0 ≤ l ∧ l ≤ N.seq) ∧ ∀ e ∈ N.opn, l < e.seq
 sentO : ∀ s ∈ N.sent, s.seq ≤ N.seq ∧ ∀ e ∈ N.opn, s.seq < e.seq
 addr : 0 ≤ N.addr ∧ N.addr < 32
 lost : 0 ≤ N.lost
structure Todo (N0 : NdM) (i : Nat) (N : NdM) : Prop where
 same : N.addr = N0.addr ∧ N.levels = N0.levels ∧ N.S = N0.S ∧ N.subs = N0.subs ∧ N.last = N0.last ∧ N.seq = N0.seq ∧ N.tick = N0.tick
 opn : N.opn = N0.opn.drop i
 box : N.inbox.map MDl.pl = (N0.pl.come N0.S ((N0.opn.take i).map MEv.pl)).inbox ∧ N.lost = (N0.pl.come N0.S ((N0.opn.take i).map MEv.pl)).lost
 seenO : ∀ l, N.seen = some l → (0 ≤ l ∧ l ≤ N.seq) ∧ ∀ e ∈ N0.opn.drop i, l < e.seq
 sentO : ∀ s ∈ N.sent, s.seq ≤ N.seq ∧ ∀ e ∈ N0.opn.drop i, s.seq < e.seq
 lost : 0 ≤ N.lost ∧ N.lost ≤ N0.lost + 16 * (i : Int)
 fit : NdFit N
structure Mid (N0 : NdM) (i j : Nat) (e : MEv) (N : NdM) : Prop where
 same : N.addr = N0.addr ∧ N.levels = N0.levels ∧ N.S = N0.S ∧ N.subs = N0.subs ∧ N.last = N0.last ∧ N.seq = N0.seq ∧ N.tick = N0.tick
 opn : N.opn = headL e (e.want.take j) ++ N0.opn.drop (i + 1)
 box : N.inbox.map MDl.pl = (N0.pl.come N0.S ((N0.opn.take (i + 1)).map MEv.pl)).inbox ∧ N.lost = (N0.pl.come N0.S ((N0.opn.take (i + 1)).map MEv.pl)).lost
 seen : N.seen = some e.seq
 sentO : ∀ s ∈ N.sent, s.seq ≤ e.seq
 lost : 0 ≤ N.lost ∧ N.lost ≤ N0.lost + 16 * ((i + 1 : Nat) : Int)
 fit : NdFit N
theorem Todo.start {N0 : NdM} (h : NdGo N0) (hF : NdFit N0) : Todo N0 0 N0 :=
 ⟨⟨rfl, rfl, rfl, rfl, rfl, rfl, rfl⟩, rfl, ⟨rfl, rfl⟩, h.seenO, h.sentO, ⟨h.lost, by omega⟩, hF⟩
section
variable {N0 N N' : NdM} {i j : Nat} {e : MEv}
theorem drop_at (he : N0.opn[i]? = some e) : N0.opn.drop i = e :: N0.opn.drop (i + 1) := by
 have hl : i < N0.opn.length := (List.getElem?_eq_some_iff.1 he).1
 rw [List.drop_eq_getElem_cons hl]
 rw [List.getElem?_eq_getElem hl] at he
 injection he with he
 rw [he]
theorem take_at (he : N0.opn[i]? = some e) : N0.opn.take (i + 1) = N0.opn.take i ++ [e] := by
 rw [List.take_add_one, he]
 rfl
theorem rest_up (h : NdGo N0) (he : N0.opn[i]? = some e) : ∀ x ∈ N0.opn.drop (i + 1), e.seq < x.seq := by
 have hp : (N0.opn.drop i).Pairwise (fun a b => a.seq < b.seq) := h.seqs.sublist (List.drop_sublist _ _)
 rw [drop_at he] at hp
 exact (List.pairwise_cons.1 hp).1
theorem rest_ne (h : NdGo N0) (hF : NdFit N0) (he : N0.opn[i]? = some e) : ∀ x ∈ N0.opn.drop (i + 1), x.seq ≠ e.seq ∧ 0 < x.want.length := fun x hx => by
 have h1 := rest_up h he x hx
 have h2 := (hF.evs x (List.mem_of_mem_drop hx)).2.1
 exact ⟨by omega, h2⟩
theorem Todo.first (h0 : NdGo N0) (hF : NdFit N0) (h : Todo N0 i N) (he : N0.opn[i]? = some e) {grp : ByteArray} (hg : e.want[0]? = some grp) {B : List MDl} {L : Int} (hN : N' = ((N.conf e.seq grp).spr ⟨grp, N.addr, e.seq⟩).arr e.seq B L) (hA : ArrTo N e.seq e.V e.pay [] B L) (hB : B.length ≤ 64) : Mid N0 i 1 e N' := by
 have hin : e ∈ N0.opn := List.mem_of_getElem? he
 have hA' : (B.map MDl.pl, L) = arrS N.S N.addr ⟨e.seq, e.V, e.pay⟩ (N.subs.map MSub.pl) (N.inbox.map MDl.pl, N.lost) := hA
 obtain ⟨s1, s2, s3, s4, s5, s6, s7⟩ := h.same
 have hk := come_kept N0.S ((N0.opn.take i).map MEv.pl) N0.pl
 have hc : N0.pl.come N0.S ((N0.opn.take (i + 1)).map MEv.pl) = (N0.pl.come N0.S ((N0.opn.take i).map MEv.pl)).arrive N0.S e.pl := by
  rw [take_at he, List.map_append, come_app]
  rfl
 have hbox : (B.map MDl.pl, L) = ((N0.pl.come N0.S ((N0.opn.take (i + 1)).map MEv.pl)).inbox, (N0.pl.come N0.S ((N0.opn.take (i + 1)).map MEv.pl)).lost) := by
  rw [hA', hc, h.box.1, h.box.2, s1, s3, s4]
  show _ = ((arrS N0.S _ e.pl _ _).1, (arrS N0.S _ e.pl _ _).2)
  rw [hk.1, hk.2.2.2.1]
  rfl
 have hb2 := Prod.mk.inj hbox
 have hl := arrS_lost N.S N.addr ⟨e.seq, e.V, e.pay⟩ (N.subs.map MSub.pl) (N.inbox.map MDl.pl) N.lost
 rw [← hA', List.length_map] at hl
 have hn := h.fit.nSub
 have hlo := h.lost
 subst hN
 have hd := drop_at he
 have hone : e.want.take 1 = [grp] := by
  cases hw : e.want with
  | nil => rw [hw] at hg; cases hg
  | cons a l => rw [hw] at hg; injection hg with hg; rw [hg]; rfl
 refine ⟨⟨s1, s2, s3, s4, s5, s6, s7⟩, ?_, hb2, rfl, ?_, ⟨by show 0 ≤ L; have : N.lost ≤ L := hl.1; omega, by show L ≤ _; have : L ≤ N.lost + (N.subs.length : Int) := hl.2; omega⟩, (((h.fit.conf e.seq grp).spr _).arr e.seq B L hB)⟩
 ·
  show confL e.seq grp N.opn = _
  have h1 := head_none e (hF.evs e hin).2.1
  have h2 := conf_done (e := e) (done := []) (g := grp) (rest_ne h0 hF he)
  rw [h1] at h2
  rw [h.opn, hd, hone]
  exact h2
 ·
  intro s hs
  have hs : s ∈ sprL N.sent ⟨grp, N.addr, e.seq⟩ := hs
  rcases spr_mem hs with hs | rfl
  ·
   have := (h.sentO s hs).2 e (by rw [hd]; exact List.mem_cons_self)
   omega
  ·
   exact Int.le_refl _
theorem Mid.more (h0 : NdGo N0) (hF : NdFit N0) (h : Mid N0 i j e N) (he : N0.opn[i]? = some e) {grp : ByteArray} (hg : e.want[j]? = some grp) (hN : N' = N.conf e.seq grp ∨ N' = (N.conf e.seq grp).spr ⟨grp, N.addr, e.seq⟩) : Mid N0 i (j + 1) e N' := by
 have hin : e ∈ N0.opn := List.mem_of_getElem? he
 have hj : e.want.take (j + 1) = e.want.take j ++ [grp] := by rw [List.take_add_one, hg]; rfl
 have ho : confL e.seq grp N.opn = headL e (e.want.take (j + 1)) ++ N0.opn.drop (i + 1) := by
  rw [h.opn, hj]
  exact conf_done (rest_ne h0 hF he)
 rcases hN with rfl | rfl
 ·
  exact ⟨h.same, ho, h.box, h.seen, h.sentO, h.lost, h.fit.conf _ _⟩
 ·
  refine ⟨h.same, ho, h.box, h.seen, ?_, h.lost, (h.fit.conf _ _).spr _⟩
  intro s hs
  have hs : s ∈ sprL N.sent ⟨grp, N.addr, e.seq⟩ := hs
  rcases spr_mem hs with hs | rfl
  ·
   exact h.sentO s hs
  ·
   exact Int.le_refl _
theorem Mid.done (h0 : NdGo N0) (h : Mid N0 i e.want.length e N) (he : N0.opn[i]? = some e) : Todo N0 (i + 1) N := by
 have hup := rest_up h0 he
 have hin : e ∈ N0.opn := List.mem_of_getElem? he
 have hh := h0.high e hin
 have hs := h.same.2.2.2.2.2.1
 refine ⟨h.same, ?_, h.box, ?_, ?_, h.lost, h.fit⟩
 ·
  rw [h.opn, List.take_length, head_all]
  rfl
 ·
  intro l hl
  rw [h.seen] at hl
  injection hl with hl
  subst hl
  exact ⟨by omega, hup⟩
 ·
  intro s hs2
  have := h.sentO s hs2
  exact ⟨by omega, fun x hx => by have := hup x hx; omega⟩
structure Ticked (N N' : NdM) : Prop where
 pl : N'.pl = N.pl.tick N.S
 S : N'.S = N.S
 lev : N'.levels = N.levels
 fit : NdFit N'
 go : NdGo N'
 lost : N'.lost ≤ N.lost + 128
theorem Todo.end_ (h0 : NdGo N0) (hF : NdFit N0) (h : Todo N0 N0.opn.length N) : Ticked N0 N := by
 have hk := come_kept N0.S (N0.opn.map MEv.pl) N0.pl
 obtain ⟨s1, s2, s3, s4, s5, s6, s7⟩ := h.same
 have hb := h.box
 have hl := h.lost
 have ho := h.opn
 have hs := h.seenO
 have ht := h.sentO
 rw [List.take_length] at hb
 rw [List.drop_length] at ho hs ht
 have hn := hF.nOpn
 refine ⟨?_, s3, s2, h.fit, ⟨by rw [ho]; exact List.Pairwise.nil, by rw [ho]; exact fun _ hx => (by cases hx), by rw [ho]; exact hs, by rw [ho]; exact ht, by rw [s1]; exact h0.addr, hl.1⟩, by omega⟩
 have e1 : N.pl = ⟨N.addr, N.subs.map MSub.pl, N.last, N.inbox.map MDl.pl, N.opn.map MEv.pl, N.seq, N.lost⟩ := rfl
 rw [e1, s1, s4, s5, s6, ho, hb.1, hb.2]
 show _ = (⟨(N0.pl.come N0.S (N0.opn.map MEv.pl)).addr, (N0.pl.come N0.S (N0.opn.map MEv.pl)).subs, (N0.pl.come N0.S (N0.opn.map MEv.pl)).last, (N0.pl.come N0.S (N0.opn.map MEv.pl)).inbox, [], (N0.pl.come N0.S (N0.opn.map MEv.pl)).seq, (N0.pl.come N0.S (N0.opn.map MEv.pl)).lost⟩ : Nd)
 rw [hk.1, hk.2.1, hk.2.2.1, hk.2.2.2.1]
 rfl
end
def TkAt (N0 : NdM) (i j : Nat) (x : MEv) (M : NdM) : Prop := (j = 0 ∧ Todo N0 i M) ∨ (0 < j ∧ Mid N0 i j x M)
theorem tick_route (base g k c : Nat) (hh : Hd) (N0 M : NdM) (a : Int) (i j : Nat) (x : MEv) (grp : ByteArray) (E : Option Addr) (w : World) (h0 : NdGo N0) (hF0 : NdFit N0) (hlo : N0.lost ≤ 900000) (hI : IsNd base w g hh M) (hbase : base ≤ w.heap.size) (hx : N0.opn[i]? = some x) (hgx : x.want[j]? = some grp) (hV : Kd.R kVa tV w base (fun _ => True) (.slice E k c) x.V) (hS : TkAt N0 i j x M) :
 Calls Tryz.prog 55 #[.pointer (some ⟨g, 0, none⟩), .agg (msgC 3 grp M.addr x.seq 0 E k c x.pay), .iface tOwn (.int .i64 a)] w fun e w' => e = .returned (.tuple #[]) ∧ ∃ h' N', Mid N0 i (j + 1) x N' ∧ IsNd base w' g h' N' ∧ Fr base g w hh w' h' := by
 have hin : x ∈ N0.opn := List.mem_of_getElem? hx
 have hi := (List.getElem?_eq_some_iff.1 hx).1
 have hq := h0.high x hin
 have hsq := hF0.seq
 have hev := hF0.evs x hin
 have hgs : grp.size ≤ 2000 := hev.2.2.2 grp (List.mem_of_getElem? hgx)
 have hn8 := hF0.nOpn
 rcases hS with ⟨rfl, hT⟩ | ⟨hj, hM⟩
 ·
  obtain ⟨s1, s2, s3, s4, s5, s6, s7⟩ := hT.same
  have hd := drop_at hx
  have hl := hT.lost
  refine (route_first base g k c hh M a x.seq grp x.pay E x.V w hI hbase hT.fit (by rw [s1]; exact h0.addr) (by omega) (fun l hl => ?_) (by rw [s3]; exact hev.1) hV hgs (fun s hs => (hT.sentO s hs).2 x (by rw [hd]; exact List.mem_cons_self)) (by omega)).mono ?_
  ·
   have h1 := hT.seenO l hl
   exact ⟨h1.1.1, h1.2 x (by rw [hd]; exact List.mem_cons_self)⟩
  ·
   rintro e w' ⟨h1, h', N', ⟨B, L, hN, hA, hB⟩, h2, h3⟩
   exact ⟨h1, h', N', hT.first h0 hF0 hx hgx hN hA hB, h2, h3⟩
 ·
  obtain ⟨s1, s2, s3, s4, s5, s6, s7⟩ := hM.same
  refine (route_more base g k c hh M a x.seq grp x.pay E x.V w hI hbase hM.fit (by rw [s1]; exact h0.addr) (by omega) hM.seen (by rw [s3]; exact hev.1) hV hgs).mono ?_
  rintro e w' ⟨h1, h', N', hN, h2, h3⟩
  exact ⟨h1, h', N', hM.more h0 hF0 hx hgx hN, h2, h3⟩
theorem Fr.offR {α : Type} {d : Kd α} {base g : Nat} {w : World} {h : Hd} {N : NdM} {e b : Nat} {ok : Nat → Prop} {v : Value} {xs : List α} (r : IsNd base w g h N) (hr : Kd.R d e w b ok v xs) (ho : ∀ k, v.ownBlock = some k → ¬ h.own g k ∧ k < w.heap.size) (ht : ∀ q, q ∈ d.E → q ≠ tN ∧ q ≠ tSub ∧ q ≠ tDl ∧ q ≠ tEv ∧ q ≠ tSp) : Kd.R d e w b (fun k => ¬ h.own g k ∧ k < w.heap.size) v xs :=
 ⟨ho, hr.2.imp_ (fun _ _ hp => d.M_mono (fun k hk => by
  obtain ⟨⟨_, hne⟩, _, hlt, q, hq, cells, hc⟩ := hk
  exact ⟨⟨r.other hc (ht q hq), hlt⟩, hne⟩) (d.M_bound hp))⟩
theorem at_EvM {w : World} {base : Nat} {ok : Nat → Prop} {A : Option Addr} {n c : Nat} {xs : List MEv} (h : Kd.R kEv tEv w base ok (.slice A n c) xs) (i : Nat) (hi : i < n) : ∃ ad x B k b D l e, A = some ad ∧ xs[i]? = some x ∧ w.cell? (ad.add (i * 4)) = some (.int .i64 x.seq) ∧ w.cell? ⟨(ad.add (i * 4)).block, (ad.add (i * 4)).off + 1, none⟩ = some (.slice B k b) ∧ w.cell? ⟨(ad.add (i * 4)).block, (ad.add (i * 4)).off + 2, none⟩ = some (.string x.pay) ∧ w.cell? ⟨(ad.add (i * 4)).block, (ad.add (i * 4)).off + 3, none⟩ = some (.slice D l e) ∧ Kd.R kVa tV w base ok (.slice B k b) x.V ∧ Kd.R Kd.string tS w base ok (.slice D l e) x.want := by
 obtain ⟨h0, inner, hown, hr⟩ := h
 rcases hown.2 with ⟨hv, hx⟩ | ⟨g, cap, cur, hv, hg, hh, hnc, hcm, hcs, ht⟩
 ·
  injection hv with _ hv _
  omega
 ·
  injection hv with h1 h2 h3
  subst h1 h2 h3
  have hxi : xs[i]? = some xs[i] := List.getElem?_eq_getElem hi
  have hM := hr.2 i xs[i] hxi
  obtain ⟨v, u, hcs4, hV, hW⟩ := kEv_openM hM
  obtain ⟨B, b, rfl⟩ := Kd.R_slice hV
  obtain ⟨D, e, rfl⟩ := Kd.R_slice hW
  have hcell : ∀ j y, [Value.int .i64 xs[i].seq, .slice B xs[i].V.length b, .string xs[i].pay, .slice D xs[i].want.length e][j]? = some y → w.cell? ((⟨g, 0, none⟩ : Addr).add (i * 4 + j)) = some y := fun j y hj => by
   rw [← hcs4, List.getElem?_take] at hj
   split at hj
   ·
    rw [List.getElem?_drop] at hj
    exact hown.cells (g := g) rfl _ y hj
   ·
    cases hj
  refine ⟨⟨g, 0, none⟩, xs[i], B, _, b, D, _, e, rfl, hxi, hcell 0 _ rfl, ?_, ?_, ?_, Kd.R_mono hV (fun _ hk => hk.1), Kd.R_mono hW (fun _ hk => hk.1)⟩
  ·
   rw [← add_field _ _ 1 (by omega)]; exact hcell 1 _ rfl
  ·
   rw [← add_field _ _ 2 (by omega)]; exact hcell 2 _ rfl
  ·
   rw [← add_field _ _ 3 (by omega)]; exact hcell 3 _ rfl
end Go.Proofs.YtnmpijbcajclgaaGreatDoor.Mine
end
