/- Texts of one claim, one behind the other, made short by a program. -/
import Derived.Test.YtlokmijoaocofaaGreatDoorMP15
set_option linter.unusedSimpArgs false
set_option linter.unusedVariables false
section
namespace Go.Proofs.YtlokmijoaocofaaGreatDoor.Mine
open Go.Maps Go.RowKit YtlokmijoaocofaaGreatDoorW.PrintWords YtlokmijoaocofaaGreatDoorW.PrintLast YtlokmijoaocofaaGreatDoorW.PrintMore
open PBoardPlays
open Value renaming slice → Vs
set_option maxHeartbeats 8000000 in
set_option maxRecDepth 100000 in
theorem rgive_calls (n : Nat) (h : RH) (S : List SA) (B : RB) (g : RGiv) (A : Option Addr) (m c : Nat) (V : List SV) (p : ByteArray) (w : World) (hb : IsRB w S n h B) (hl1 : B.E.length ≤ 100000) (hl2 : B.U.length ≤ 100000) (hl : B.G.length ≤ 100000) (hn9 : n ≤ 100000) (hm : V.length = m) (hmc : m ≤ c) (hm9 : m ≤ 100000) (hV : Kd.C k135 w A m (V.map toV)) (hes : ∀ e ∈ B.E, ∀ v ∈ e.V, v.f1.size ≤ 1000000000) :
 Calls Tryz.prog 28 #[rbV n h B, .agg #[.int .i64 g.node, .int .i64 g.id, .int .i64 g.pub, .int .i64 g.seq], .slice A m c, .string p] w (RBPost w S n (if rgiveC S B g V p = 0 then B.give g else B) (rgiveC S B g V p)) := by
 have HBD := mk0 hb
 have HES := mk0 hes
 obtain ⟨g0, g1, g2, g3⟩ := g
 obtain ⟨a1, c1, a2, c2, a3, c3, a4, c4⟩ := h
 obtain ⟨nE, hnE⟩ : ∃ k, k = B.E.length := ⟨_, rfl⟩
 obtain ⟨nU, hnU⟩ : ∃ k, k = B.U.length := ⟨_, rfl⟩
 obtain ⟨nG, hnG⟩ : ∃ k, k = B.G.length := ⟨_, rfl⟩
 have HFC := mk0 (fun W (hW : Below w.heap.size w W) => rfind18_calls n ⟨a1, c1, a2, c2, a3, c3, a4, c4⟩ S B (g2, g3) W (HBD.out.below hW) hl1)
 have HAC := mk0 (fun W (hW : Below w.heap.size w W) => rasked_calls n ⟨a1, c1, a2, c2, a3, c3, a4, c4⟩ S B (g0, g1) W (HBD.out.below hW) hl2)
 have HHC := mk0 (fun W (hW : Below w.heap.size w W) => rhas_calls n ⟨a1, c1, a2, c2, a3, c3, a4, c4⟩ S B ⟨g0, g1, g2, g3⟩ W (HBD.out.below hW) hl)
 have HSV := mk0 (fun (x : REv) (hx : EvRd w x) W (hW : Below w.heap.size w W) => rsame_calls x.A A x.n m x.c c x.V V W hx.1 hm (Kd.C_below hx.2.2.2 hW) (Kd.C_below hV hW) hx.2.2.1)
 have HMC := mk0 (fun (x : REv) (hx : EvRd w x) (hxs : ∀ v ∈ x.V, v.f1.size ≤ 1000000000) (s : RSub) (hs : SubRd w s) W (hW : Below w.heap.size w W) => rmatch_calls a1 s.A x.A n s.n x.n c1 s.c x.c S s.F x.V x.pay W HBD.out.len hs.1 hx.1 (Kd.C_below HBD.out.sch hW) (Kd.C_below hs.2.2.2.2 hW) (Kd.C_below hx.2.2.2 hW) hn9 hs.2.2.1 hs.2.1 hs.2.2.2.1 hxs)
 have HLE := mk0 (And.intro hl hnG)
 unfold rbV at HFC HAC HHC ⊢
 dsimp only at HFC HAC HHC ⊢
 rw [← hnE, ← hnU, ← hnG] at HFC HAC HHC ⊢
 have HLN := mk0 (And.intro hnE hnU)
 clear hb hnE hnU hnG hl hes hV hm hmc hm9
 have HSAME := mk0 (fun (cd : Int) (hc0 : rgiveC S B ⟨g0, g1, g2, g3⟩ V p = cd) (hc1 : cd ≠ 0) e w' (he : e = .returned (.tuple #[.agg #[.slice a1 n c1, .slice a2 nE c2, .slice a3 nU c3, .slice a4 nG c4], .int .i64 cd])) (hbf : Below w.heap.size w w') => show RBPost w S n (if rgiveC S B ⟨g0, g1, g2, g3⟩ V p = 0 then B.give ⟨g0, g1, g2, g3⟩ else B) (rgiveC S B ⟨g0, g1, g2, g3⟩ V p) e w' from by
  rw [hc0, if_neg hc1]
  refine ⟨⟨a1, c1, a2, c2, a3, c3, a4, c4⟩, ?_, hbf, HBD.out.below hbf⟩
  unfold rbV
  dsimp only
  rw [← HLE.out.2, ← HLN.out.1, ← HLN.out.2]
  exact he)
 have HDONE := mk0 (fun (hc0 : rgiveC S B ⟨g0, g1, g2, g3⟩ V p = 0) e w' (A9 : Option Addr) (c9 : Nat) (he : e = .returned (.tuple #[.agg #[.slice a1 n c1, .slice a2 nE c2, .slice a3 nU c3, .slice A9 (nG + 1) c9], .int .i64 0])) (hbf : Below w.heap.size w w') (hc9 : nG + 1 ≤ c9) (hC : Kd.C kRG w' A9 (nG + 1) (B.G ++ [⟨g0, g1, g2, g3⟩])) => show RBPost w S n (if rgiveC S B ⟨g0, g1, g2, g3⟩ V p = 0 then B.give ⟨g0, g1, g2, g3⟩ else B) (rgiveC S B ⟨g0, g1, g2, g3⟩ V p) e w' from by
  rw [hc0, if_pos rfl]
  have hlen : (B.give ⟨g0, g1, g2, g3⟩).G.length = nG + 1 := by show (B.G ++ [_]).length = _; rw [List.length_append, ← HLE.out.2]; rfl
  refine ⟨⟨a1, c1, a2, c2, a3, c3, A9, c9⟩, ?_, hbf, ?_⟩
  ·
   unfold rbV
   dsimp only
   rw [hlen, show (B.give ⟨g0, g1, g2, g3⟩).E.length = nE from HLN.out.1.symm, show (B.give ⟨g0, g1, g2, g3⟩).U.length = nU from HLN.out.2.symm]
   exact he
  ·
   have hk := HBD.out.below hbf
   exact ⟨hk.len, hk.cs, hk.sch, hk.ce, hk.ev, hk.evs, hk.cu, hk.sub, hk.subs, by rw [hlen]; exact hc9, by rw [hlen]; exact hC⟩)
 have HCR := mk0 (show rgiveC S B ⟨g0, g1, g2, g3⟩ V p = (match B.E.find? (evIs (g2, g3)) with | none => 9 | some e => if sameEv e.V e.pay V p = true then (match B.U.find? (subIs (g0, g1)) with | none => 12 | some s => if matchB S s.F e.V e.pay = true then (if B.G.any (fun y => decide (y = ⟨g0, g1, g2, g3⟩)) = true then 5 else 0) else 3) else 11) from rfl)
 generalize RBPost w S n (if rgiveC S B ⟨g0, g1, g2, g3⟩ V p = 0 then B.give ⟨g0, g1, g2, g3⟩ else B) (rgiveC S B ⟨g0, g1, g2, g3⟩ V p) = POST at HSAME HDONE ⊢
 go_enter Tryz.func28, Tryz.ntmps28
 go_upto_region 1 with (fail)
 have hb3 := below_alloc (below_alloc (below_alloc (Below.refl w.heap.size w) (.cells #[.slice a1 n c1, .slice a2 nE c2, .slice a3 nU c3, .slice a4 nG c4] 41)) (.cells #[.int .i64 g0, .int .i64 g1, .int .i64 g2, .int .i64 g3] 58)) (.cells #[.slice none 0 0, .slice none 0 0, .slice none 0 0, .slice none 0 0] 41)
 obtain ⟨kb, ke, kr⟩ := push3_new w.heap (.cells #[.slice a1 n c1, .slice a2 nE c2, .slice a3 nU c3, .slice a4 nG c4] 41 (0, 0)) (.cells #[.int .i64 g0, .int .i64 g1, .int .i64 g2, .int .i64 g3] 58 (0, 0)) (.cells #[.slice none 0 0, .slice none 0 0, .slice none 0 0, .slice none 0 0] 41 (0, 0))
 have HB := mk0 hb3
 have HKB := mk0 (show (((w.alloc (.cells #[.slice a1 n c1, .slice a2 nE c2, .slice a3 nU c3, .slice a4 nG c4] 41)).alloc (.cells #[.int .i64 g0, .int .i64 g1, .int .i64 g2, .int .i64 g3] 58)).alloc (.cells #[.slice none 0 0, .slice none 0 0, .slice none 0 0, .slice none 0 0] 41)).heap[w.heap.size]? = _ from kb)
 have HKE := mk0 (show (((w.alloc (.cells #[.slice a1 n c1, .slice a2 nE c2, .slice a3 nU c3, .slice a4 nG c4] 41)).alloc (.cells #[.int .i64 g0, .int .i64 g1, .int .i64 g2, .int .i64 g3] 58)).alloc (.cells #[.slice none 0 0, .slice none 0 0, .slice none 0 0, .slice none 0 0] 41)).heap[w.heap.size + 1]? = _ from ke)
 have HKR := mk0 (show (((w.alloc (.cells #[.slice a1 n c1, .slice a2 nE c2, .slice a3 nU c3, .slice a4 nG c4] 41)).alloc (.cells #[.int .i64 g0, .int .i64 g1, .int .i64 g2, .int .i64 g3] 58)).alloc (.cells #[.slice none 0 0, .slice none 0 0, .slice none 0 0, .slice none 0 0] 41)).heap[w.heap.size + 1 + 1]? = _ from kr)
 clear kb ke kr hb3
 generalize ((w.alloc (.cells #[.slice a1 n c1, .slice a2 nE c2, .slice a3 nU c3, .slice a4 nG c4] 41)).alloc (.cells #[.int .i64 g0, .int .i64 g1, .int .i64 g2, .int .i64 g3] 58)).alloc (.cells #[.slice none 0 0, .slice none 0 0, .slice none 0 0, .slice none 0 0] 41) = w0 at HB HKB HKE HKR ⊢
 obtain ⟨ge, hge⟩ : ∃ g, g = w.heap.size + 1 := ⟨_, rfl⟩
 obtain ⟨gr, hgr⟩ : ∃ g, g = w.heap.size + 1 + 1 := ⟨_, rfl⟩
 obtain ⟨gb, hgb⟩ : ∃ g, g = w.heap.size := ⟨_, rfl⟩
 rw [← hgr] at HKR
 rw [← hge] at HKE
 rw [← hgb] at HKB
 rw [← hgr, ← hge, ← hgb]
 have HGR := mk0 (show w.heap.size ≤ gr by omega)
 have HGN := mk0 (show gb = w.heap.size ∧ gb ≠ gr ∧ gb ≠ ge ∧ ge ≠ gr by omega)
 clear hge hgr hgb
 have x0 := (blk_cell HKB.out 0).trans (show _ = some (Vs a1 n c1) from rfl)
 have x1 := (blk_cell HKB.out 1).trans (show _ = some (Vs a2 nE c2) from rfl)
 have x2 := (blk_cell HKB.out 2).trans (show _ = some (Vs a3 nU c3) from rfl)
 have x3 := (blk_cell HKB.out 3).trans (show _ = some (Vs a4 nG c4) from rfl)
 have e2 := (blk_cell HKE.out 2).trans (show _ = some (Value.int .i64 g2) from rfl)
 have e3 := (blk_cell HKE.out 3).trans (show _ = some (Value.int .i64 g3) from rfl)
 go_wp2_with fail
 refine (HFC.out _ HB.out).mono ?_
 rintro e w1 ⟨y, b, rfl, hb, hf⟩
 clear HFC x0 x1 x2 x3 e2 e3
 have n1 := mk0 ((hb.block _ (blk_lt HKB.out)).trans HKB.out)
 have n2 := mk0 ((hb.block _ (blk_lt HKE.out)).trans HKE.out)
 have n3 := mk0 ((hb.block _ (blk_lt HKR.out)).trans HKR.out)
 have n4 := mk0 (below_then HB.out HB.out.size hb)
 clear HKB HKE HKR HB
 have HKB := n1
 have HKE := n2
 have HKR := n3
 have HB := n4
 clear n1 n2 n3 n4
 clear hb
 have HYM := mk0 (show b = true → EvRd w y ∧ ∀ v ∈ y.V, v.f1.size ≤ 1000000000 from fun hb => by
  rcases hf with ⟨_, hf⟩ | ⟨h0, _⟩
  ·
   have hm := List.mem_of_find?_eq_some hf
   exact ⟨HBD.out.evs y hm, HES.out y hm⟩
  ·
   rw [hb] at h0; cases h0)
 obtain ⟨yp, ys, yA, yn, yc, yV, ypay⟩ := y
 dsimp only
 go_upto_region 2 with (fail)
 have hb5 := below_alloc (Below.refl w1.heap.size w1) (.cells #[.int .i64 yp, .int .i64 ys, .slice yA yn yc, .string ypay] 88)
 have kv := heap_alloc_new w1 (.cells #[.int .i64 yp, .int .i64 ys, .slice yA yn yc, .string ypay] 88)
 have n1 := mk0 ((hb5.block _ (blk_lt HKB.out)).trans HKB.out)
 have n2 := mk0 ((hb5.block _ (blk_lt HKE.out)).trans HKE.out)
 have n3 := mk0 ((hb5.block _ (blk_lt HKR.out)).trans HKR.out)
 have n4 := mk0 (below_then HB.out HB.out.size hb5)
 clear HKB HKE HKR HB
 have HKB := n1
 have HKE := n2
 have HKR := n3
 have HB := n4
 clear n1 n2 n3 n4
 clear hb5
 have HKV := mk0 kv
 clear kv
 generalize w1.alloc (.cells #[.int .i64 yp, .int .i64 ys, .slice yA yn yc, .string ypay] 88) = w2 at HKB HKE HKR HB HKV ⊢
 generalize w1.heap.size = gv at HKV ⊢
 rcases hf with ⟨rfl, hf⟩ | ⟨rfl, hf⟩
 ·
  obtain ⟨hye, hys⟩ := HYM.out rfl
  have HYE := mk0 hye
  have HYS := mk0 hys
  have HC1 := mk0 (show rgiveC S B ⟨g0, g1, g2, g3⟩ V p = if sameEv yV ypay V p = true then (match B.U.find? (subIs (g0, g1)) with | none => 12 | some s => if matchB S s.F yV ypay = true then (if B.G.any (fun y => decide (y = ⟨g0, g1, g2, g3⟩)) = true then 5 else 0) else 3) else 11 by rw [HCR.out, hf])
  clear hf HCR HYM hye hys
  have v2 := (blk_cell HKV.out 2).trans (show _ = some (Vs yA yn yc) from rfl)
  have v3 := (blk_cell HKV.out 3).trans (show _ = some (Value.string ypay) from rfl)
  cases hpp : (ypay.toList == p.toList) with
  | false =>
   have HC2 := mk0 (show rgiveC S B ⟨g0, g1, g2, g3⟩ V p = 11 by rw [HC1.out]; unfold sameEv; rw [hpp]; rfl)
   go_upto_region 5 with (fail)
   have y0 := (blk_cell HKR.out 0).trans (show _ = some (Vs none 0 0) from rfl)
   have y1 := (blk_cell HKR.out 1).trans (show _ = some (Vs none 0 0) from rfl)
   have y2 := (blk_cell HKR.out 2).trans (show _ = some (Vs none 0 0) from rfl)
   have y3 := (blk_cell HKR.out 3).trans (show _ = some (Vs none 0 0) from rfl)
   have f0 := blk_frozen HKR.out 0
   have f1 := blk_frozen HKR.out 1
   have f2 := blk_frozen HKR.out 2
   have f3 := blk_frozen HKR.out 3
   have x0 := (blk_cell HKB.out 0).trans (show _ = some (Vs a1 n c1) from rfl)
   have x1 := (blk_cell HKB.out 1).trans (show _ = some (Vs a2 nE c2) from rfl)
   have x2 := (blk_cell HKB.out 2).trans (show _ = some (Vs a3 nU c3) from rfl)
   have x3 := (blk_cell HKB.out 3).trans (show _ = some (Vs a4 nG c4) from rfl)
   go_wp2
   have k0 : ((w2).setCell ⟨gr, 0, none⟩ (Vs a1 n c1)).heap[gr]? = some (.cells #[(Vs a1 n c1), (Vs none 0 0), (Vs none 0 0), (Vs none 0 0)] 41 (0, 0)) := by simpa using blk_set HKR.out 0 (Vs a1 n c1)
   have k1 : (((w2).setCell ⟨gr, 0, none⟩ (Vs a1 n c1)).setCell ⟨gr, 1, none⟩ (Vs a2 nE c2)).heap[gr]? = some (.cells #[(Vs a1 n c1), (Vs a2 nE c2), (Vs none 0 0), (Vs none 0 0)] 41 (0, 0)) := by simpa using blk_set k0 1 (Vs a2 nE c2)
   have k2 : ((((w2).setCell ⟨gr, 0, none⟩ (Vs a1 n c1)).setCell ⟨gr, 1, none⟩ (Vs a2 nE c2)).setCell ⟨gr, 2, none⟩ (Vs a3 nU c3)).heap[gr]? = some (.cells #[(Vs a1 n c1), (Vs a2 nE c2), (Vs a3 nU c3), (Vs none 0 0)] 41 (0, 0)) := by simpa using blk_set k1 2 (Vs a3 nU c3)
   have k3 : (((((w2).setCell ⟨gr, 0, none⟩ (Vs a1 n c1)).setCell ⟨gr, 1, none⟩ (Vs a2 nE c2)).setCell ⟨gr, 2, none⟩ (Vs a3 nU c3)).setCell ⟨gr, 3, none⟩ (Vs a4 nG c4)).heap[gr]? = some (.cells #[(Vs a1 n c1), (Vs a2 nE c2), (Vs a3 nU c3), (Vs a4 nG c4)] 41 (0, 0)) := by simpa using blk_set k2 3 (Vs a4 nG c4)
   have hbf := below_set (j := 3) (v := (Vs a4 nG c4)) (below_set (j := 2) (v := (Vs a3 nU c3)) (below_set (j := 1) (v := (Vs a2 nE c2)) (below_set (j := 0) (v := (Vs a1 n c1)) HB.out HGR.out) HGR.out) HGR.out) HGR.out
   generalize ((((w2).setCell ⟨gr, 0, none⟩ (Vs a1 n c1)).setCell ⟨gr, 1, none⟩ (Vs a2 nE c2)).setCell ⟨gr, 2, none⟩ (Vs a3 nU c3)).setCell ⟨gr, 3, none⟩ (Vs a4 nG c4) = w9 at k3 hbf ⊢
   clear k0 k1 k2
   have z0 := (blk_cell k3 0).trans (show _ = some (Vs a1 n c1) from rfl)
   have z1 := (blk_cell k3 1).trans (show _ = some (Vs a2 nE c2) from rfl)
   have z2 := (blk_cell k3 2).trans (show _ = some (Vs a3 nU c3) from rfl)
   have z3 := (blk_cell k3 3).trans (show _ = some (Vs a4 nG c4) from rfl)
   exact bodyPost_ret (v := .tuple #[.agg #[.slice a1 n c1, .slice a2 nE c2, .slice a3 nU c3, .slice a4 nG c4], .int .i64 11]) (by simp [results, Tryz.results28, go_sem, z0, z1, z2, z3]) rfl (HSAME.out 11 HC2.out (by decide) _ _ rfl hbf)
  | true =>
   go_wp2_with fail
   refine (HSV.out ⟨yp, ys, yA, yn, yc, yV, ypay⟩ HYE.out w2 HB.out).mono ?_
   rintro e w3 ⟨rfl, hb⟩
   have HKV2 := mk0 ((hb.block _ (blk_lt HKV.out)).trans HKV.out)
   clear v2 v3 HKV
   have HKV := HKV2
   clear HKV2
   have n1 := mk0 ((hb.block _ (blk_lt HKB.out)).trans HKB.out)
   have n2 := mk0 ((hb.block _ (blk_lt HKE.out)).trans HKE.out)
   have n3 := mk0 ((hb.block _ (blk_lt HKR.out)).trans HKR.out)
   have n4 := mk0 (below_then HB.out HB.out.size hb)
   clear HKB HKE HKR HB
   have HKB := n1
   have HKE := n2
   have HKR := n3
   have HB := n4
   clear n1 n2 n3 n4
   clear hb
   cases hsl : sameL yV V with
   | false =>
    have HC2 := mk0 (show rgiveC S B ⟨g0, g1, g2, g3⟩ V p = 11 by rw [HC1.out]; unfold sameEv; rw [hpp, hsl]; rfl)
    have y0 := (blk_cell HKR.out 0).trans (show _ = some (Vs none 0 0) from rfl)
    have y1 := (blk_cell HKR.out 1).trans (show _ = some (Vs none 0 0) from rfl)
    have y2 := (blk_cell HKR.out 2).trans (show _ = some (Vs none 0 0) from rfl)
    have y3 := (blk_cell HKR.out 3).trans (show _ = some (Vs none 0 0) from rfl)
    have f0 := blk_frozen HKR.out 0
    have f1 := blk_frozen HKR.out 1
    have f2 := blk_frozen HKR.out 2
    have f3 := blk_frozen HKR.out 3
    have x0 := (blk_cell HKB.out 0).trans (show _ = some (Vs a1 n c1) from rfl)
    have x1 := (blk_cell HKB.out 1).trans (show _ = some (Vs a2 nE c2) from rfl)
    have x2 := (blk_cell HKB.out 2).trans (show _ = some (Vs a3 nU c3) from rfl)
    have x3 := (blk_cell HKB.out 3).trans (show _ = some (Vs a4 nG c4) from rfl)
    go_wp2
    have k0 : ((w3).setCell ⟨gr, 0, none⟩ (Vs a1 n c1)).heap[gr]? = some (.cells #[(Vs a1 n c1), (Vs none 0 0), (Vs none 0 0), (Vs none 0 0)] 41 (0, 0)) := by simpa using blk_set HKR.out 0 (Vs a1 n c1)
    have k1 : (((w3).setCell ⟨gr, 0, none⟩ (Vs a1 n c1)).setCell ⟨gr, 1, none⟩ (Vs a2 nE c2)).heap[gr]? = some (.cells #[(Vs a1 n c1), (Vs a2 nE c2), (Vs none 0 0), (Vs none 0 0)] 41 (0, 0)) := by simpa using blk_set k0 1 (Vs a2 nE c2)
    have k2 : ((((w3).setCell ⟨gr, 0, none⟩ (Vs a1 n c1)).setCell ⟨gr, 1, none⟩ (Vs a2 nE c2)).setCell ⟨gr, 2, none⟩ (Vs a3 nU c3)).heap[gr]? = some (.cells #[(Vs a1 n c1), (Vs a2 nE c2), (Vs a3 nU c3), (Vs none 0 0)] 41 (0, 0)) := by simpa using blk_set k1 2 (Vs a3 nU c3)
    have k3 : (((((w3).setCell ⟨gr, 0, none⟩ (Vs a1 n c1)).setCell ⟨gr, 1, none⟩ (Vs a2 nE c2)).setCell ⟨gr, 2, none⟩ (Vs a3 nU c3)).setCell ⟨gr, 3, none⟩ (Vs a4 nG c4)).heap[gr]? = some (.cells #[(Vs a1 n c1), (Vs a2 nE c2), (Vs a3 nU c3), (Vs a4 nG c4)] 41 (0, 0)) := by simpa using blk_set k2 3 (Vs a4 nG c4)
    have hbf := below_set (j := 3) (v := (Vs a4 nG c4)) (below_set (j := 2) (v := (Vs a3 nU c3)) (below_set (j := 1) (v := (Vs a2 nE c2)) (below_set (j := 0) (v := (Vs a1 n c1)) HB.out HGR.out) HGR.out) HGR.out) HGR.out
    generalize ((((w3).setCell ⟨gr, 0, none⟩ (Vs a1 n c1)).setCell ⟨gr, 1, none⟩ (Vs a2 nE c2)).setCell ⟨gr, 2, none⟩ (Vs a3 nU c3)).setCell ⟨gr, 3, none⟩ (Vs a4 nG c4) = w9 at k3 hbf ⊢
    clear k0 k1 k2
    have z0 := (blk_cell k3 0).trans (show _ = some (Vs a1 n c1) from rfl)
    have z1 := (blk_cell k3 1).trans (show _ = some (Vs a2 nE c2) from rfl)
    have z2 := (blk_cell k3 2).trans (show _ = some (Vs a3 nU c3) from rfl)
    have z3 := (blk_cell k3 3).trans (show _ = some (Vs a4 nG c4) from rfl)
    exact bodyPost_ret (v := .tuple #[.agg #[.slice a1 n c1, .slice a2 nE c2, .slice a3 nU c3, .slice a4 nG c4], .int .i64 11]) (by simp [results, Tryz.results28, go_sem, z0, z1, z2, z3]) rfl (HSAME.out 11 HC2.out (by decide) _ _ rfl hbf)
   | true =>
    have HC2 := mk0 (show rgiveC S B ⟨g0, g1, g2, g3⟩ V p = (match B.U.find? (subIs (g0, g1)) with | none => 12 | some s => if matchB S s.F yV ypay = true then (if B.G.any (fun y => decide (y = ⟨g0, g1, g2, g3⟩)) = true then 5 else 0) else 3) by rw [HC1.out]; unfold sameEv; rw [hpp, hsl]; rfl)
    clear HC1 hpp hsl
    have x0 := (blk_cell HKB.out 0).trans (show _ = some (Vs a1 n c1) from rfl)
    have x1 := (blk_cell HKB.out 1).trans (show _ = some (Vs a2 nE c2) from rfl)
    have x2 := (blk_cell HKB.out 2).trans (show _ = some (Vs a3 nU c3) from rfl)
    have x3 := (blk_cell HKB.out 3).trans (show _ = some (Vs a4 nG c4) from rfl)
    have e0 := (blk_cell HKE.out 0).trans (show _ = some (Value.int .i64 g0) from rfl)
    have e1 := (blk_cell HKE.out 1).trans (show _ = some (Value.int .i64 g1) from rfl)
    go_wp2_with fail
    refine (HAC.out _ HB.out).mono ?_
    rintro e w4 ⟨s, b, rfl, hb, hf⟩
    clear HAC x0 x1 x2 x3 e0 e1
    have HKV2 := mk0 ((hb.block _ (blk_lt HKV.out)).trans HKV.out)
    clear HKV
    have HKV := HKV2
    clear HKV2
    have n1 := mk0 ((hb.block _ (blk_lt HKB.out)).trans HKB.out)
    have n2 := mk0 ((hb.block _ (blk_lt HKE.out)).trans HKE.out)
    have n3 := mk0 ((hb.block _ (blk_lt HKR.out)).trans HKR.out)
    have n4 := mk0 (below_then HB.out HB.out.size hb)
    clear HKB HKE HKR HB
    have HKB := n1
    have HKE := n2
    have HKR := n3
    have HB := n4
    clear n1 n2 n3 n4
    clear hb
    have HSM := mk0 (show b = true → SubRd w s from fun hb => by
     rcases hf with ⟨_, hf⟩ | ⟨h0, _⟩
     ·
      exact HBD.out.subs s (List.mem_of_find?_eq_some hf)
     ·
      rw [hb] at h0; cases h0)
    obtain ⟨sn, si, sA, sm, sc, sF⟩ := s
    dsimp only
    go_upto_region 7 with (fail)
    have hb5 := below_alloc (Below.refl w4.heap.size w4) (.cells #[.int .i64 sn, .int .i64 si, .slice sA sm sc] 111)
    have ks := heap_alloc_new w4 (.cells #[.int .i64 sn, .int .i64 si, .slice sA sm sc] 111)
    have HKV2 := mk0 ((hb5.block _ (blk_lt HKV.out)).trans HKV.out)
    clear HKV
    have HKV := HKV2
    clear HKV2
    have n1 := mk0 ((hb5.block _ (blk_lt HKB.out)).trans HKB.out)
    have n2 := mk0 ((hb5.block _ (blk_lt HKE.out)).trans HKE.out)
    have n3 := mk0 ((hb5.block _ (blk_lt HKR.out)).trans HKR.out)
    have n4 := mk0 (below_then HB.out HB.out.size hb5)
    clear HKB HKE HKR HB
    have HKB := n1
    have HKE := n2
    have HKR := n3
    have HB := n4
    clear n1 n2 n3 n4
    clear hb5
    generalize w4.alloc (.cells #[.int .i64 sn, .int .i64 si, .slice sA sm sc] 111) = w5 at HKB HKE HKR HB HKV ks ⊢
    generalize w4.heap.size = gs at ks ⊢
    rcases hf with ⟨rfl, hf⟩ | ⟨rfl, hf⟩
    ·
     have HSR := mk0 (HSM.out rfl)
     have HC3 := mk0 (show rgiveC S B ⟨g0, g1, g2, g3⟩ V p = if matchB S sF yV ypay = true then (if B.G.any (fun y => decide (y = ⟨g0, g1, g2, g3⟩)) = true then 5 else 0) else 3 by rw [HC2.out, hf])
     clear hf HC2 HSM
     have x0 := (blk_cell HKB.out 0).trans (show _ = some (Vs a1 n c1) from rfl)
     have s2 := (blk_cell ks 2).trans (show _ = some (Vs sA sm sc) from rfl)
     have v2 := (blk_cell HKV.out 2).trans (show _ = some (Vs yA yn yc) from rfl)
     have v3 := (blk_cell HKV.out 3).trans (show _ = some (Value.string ypay) from rfl)
     go_wp2_with fail
     refine (HMC.out ⟨yp, ys, yA, yn, yc, yV, ypay⟩ HYE.out HYS.out ⟨sn, si, sA, sm, sc, sF⟩ HSR.out w5 HB.out).mono ?_
     rintro e w6 ⟨rfl, hb⟩
     clear x0 s2 v2 v3 HKV ks
     have n1 := mk0 ((hb.block _ (blk_lt HKB.out)).trans HKB.out)
     have n2 := mk0 ((hb.block _ (blk_lt HKE.out)).trans HKE.out)
     have n3 := mk0 ((hb.block _ (blk_lt HKR.out)).trans HKR.out)
     have n4 := mk0 (below_then HB.out HB.out.size hb)
     clear HKB HKE HKR HB
     have HKB := n1
     have HKE := n2
     have HKR := n3
     have HB := n4
     clear n1 n2 n3 n4
     clear hb
     dsimp only
     cases hmt : matchB S sF yV ypay with
     | false =>
      have HC4 := mk0 (show rgiveC S B ⟨g0, g1, g2, g3⟩ V p = 3 by rw [HC3.out, hmt]; rfl)
      have y0 := (blk_cell HKR.out 0).trans (show _ = some (Vs none 0 0) from rfl)
      have y1 := (blk_cell HKR.out 1).trans (show _ = some (Vs none 0 0) from rfl)
      have y2 := (blk_cell HKR.out 2).trans (show _ = some (Vs none 0 0) from rfl)
      have y3 := (blk_cell HKR.out 3).trans (show _ = some (Vs none 0 0) from rfl)
      have f0 := blk_frozen HKR.out 0
      have f1 := blk_frozen HKR.out 1
      have f2 := blk_frozen HKR.out 2
      have f3 := blk_frozen HKR.out 3
      have x0 := (blk_cell HKB.out 0).trans (show _ = some (Vs a1 n c1) from rfl)
      have x1 := (blk_cell HKB.out 1).trans (show _ = some (Vs a2 nE c2) from rfl)
      have x2 := (blk_cell HKB.out 2).trans (show _ = some (Vs a3 nU c3) from rfl)
      have x3 := (blk_cell HKB.out 3).trans (show _ = some (Vs a4 nG c4) from rfl)
      go_wp2
      have k0 : ((w6).setCell ⟨gr, 0, none⟩ (Vs a1 n c1)).heap[gr]? = some (.cells #[(Vs a1 n c1), (Vs none 0 0), (Vs none 0 0), (Vs none 0 0)] 41 (0, 0)) := by simpa using blk_set HKR.out 0 (Vs a1 n c1)
      have k1 : (((w6).setCell ⟨gr, 0, none⟩ (Vs a1 n c1)).setCell ⟨gr, 1, none⟩ (Vs a2 nE c2)).heap[gr]? = some (.cells #[(Vs a1 n c1), (Vs a2 nE c2), (Vs none 0 0), (Vs none 0 0)] 41 (0, 0)) := by simpa using blk_set k0 1 (Vs a2 nE c2)
      have k2 : ((((w6).setCell ⟨gr, 0, none⟩ (Vs a1 n c1)).setCell ⟨gr, 1, none⟩ (Vs a2 nE c2)).setCell ⟨gr, 2, none⟩ (Vs a3 nU c3)).heap[gr]? = some (.cells #[(Vs a1 n c1), (Vs a2 nE c2), (Vs a3 nU c3), (Vs none 0 0)] 41 (0, 0)) := by simpa using blk_set k1 2 (Vs a3 nU c3)
      have k3 : (((((w6).setCell ⟨gr, 0, none⟩ (Vs a1 n c1)).setCell ⟨gr, 1, none⟩ (Vs a2 nE c2)).setCell ⟨gr, 2, none⟩ (Vs a3 nU c3)).setCell ⟨gr, 3, none⟩ (Vs a4 nG c4)).heap[gr]? = some (.cells #[(Vs a1 n c1), (Vs a2 nE c2), (Vs a3 nU c3), (Vs a4 nG c4)] 41 (0, 0)) := by simpa using blk_set k2 3 (Vs a4 nG c4)
      have hbf := below_set (j := 3) (v := (Vs a4 nG c4)) (below_set (j := 2) (v := (Vs a3 nU c3)) (below_set (j := 1) (v := (Vs a2 nE c2)) (below_set (j := 0) (v := (Vs a1 n c1)) HB.out HGR.out) HGR.out) HGR.out) HGR.out
      generalize ((((w6).setCell ⟨gr, 0, none⟩ (Vs a1 n c1)).setCell ⟨gr, 1, none⟩ (Vs a2 nE c2)).setCell ⟨gr, 2, none⟩ (Vs a3 nU c3)).setCell ⟨gr, 3, none⟩ (Vs a4 nG c4) = w9 at k3 hbf ⊢
      clear k0 k1 k2
      have z0 := (blk_cell k3 0).trans (show _ = some (Vs a1 n c1) from rfl)
      have z1 := (blk_cell k3 1).trans (show _ = some (Vs a2 nE c2) from rfl)
      have z2 := (blk_cell k3 2).trans (show _ = some (Vs a3 nU c3) from rfl)
      have z3 := (blk_cell k3 3).trans (show _ = some (Vs a4 nG c4) from rfl)
      exact bodyPost_ret (v := .tuple #[.agg #[.slice a1 n c1, .slice a2 nE c2, .slice a3 nU c3, .slice a4 nG c4], .int .i64 3]) (by simp [results, Tryz.results28, go_sem, z0, z1, z2, z3]) rfl (HSAME.out 3 HC4.out (by decide) _ _ rfl hbf)
     | true =>
      have HC4 := mk0 (show rgiveC S B ⟨g0, g1, g2, g3⟩ V p = if B.G.any (fun y => decide (y = ⟨g0, g1, g2, g3⟩)) = true then 5 else 0 by rw [HC3.out, hmt]; rfl)
      clear HC3 hmt
      have x0 := (blk_cell HKB.out 0).trans (show _ = some (Vs a1 n c1) from rfl)
      have x1 := (blk_cell HKB.out 1).trans (show _ = some (Vs a2 nE c2) from rfl)
      have x2 := (blk_cell HKB.out 2).trans (show _ = some (Vs a3 nU c3) from rfl)
      have x3 := (blk_cell HKB.out 3).trans (show _ = some (Vs a4 nG c4) from rfl)
      have e0 := (blk_cell HKE.out 0).trans (show _ = some (Value.int .i64 g0) from rfl)
      have e1 := (blk_cell HKE.out 1).trans (show _ = some (Value.int .i64 g1) from rfl)
      have e2 := (blk_cell HKE.out 2).trans (show _ = some (Value.int .i64 g2) from rfl)
      have e3 := (blk_cell HKE.out 3).trans (show _ = some (Value.int .i64 g3) from rfl)
      go_wp2_with fail
      refine (HHC.out _ HB.out).mono ?_
      rintro e w7 ⟨rfl, hb⟩
      clear x0 x1 x2 x3 e0 e1 e2 e3 HHC
      have n1 := mk0 ((hb.block _ (blk_lt HKB.out)).trans HKB.out)
      have n2 := mk0 ((hb.block _ (blk_lt HKE.out)).trans HKE.out)
      have n3 := mk0 ((hb.block _ (blk_lt HKR.out)).trans HKR.out)
      have n4 := mk0 (below_then HB.out HB.out.size hb)
      clear HKB HKE HKR HB
      have HKB := n1
      have HKE := n2
      have HKR := n3
      have HB := n4
      clear n1 n2 n3 n4
      clear hb
      cases hgt : B.G.any (fun y => decide (y = (⟨g0, g1, g2, g3⟩ : RGiv))) with
      | true =>
       have HC5 := mk0 (show rgiveC S B ⟨g0, g1, g2, g3⟩ V p = 5 by rw [HC4.out, hgt]; rfl)
       have y0 := (blk_cell HKR.out 0).trans (show _ = some (Vs none 0 0) from rfl)
       have y1 := (blk_cell HKR.out 1).trans (show _ = some (Vs none 0 0) from rfl)
       have y2 := (blk_cell HKR.out 2).trans (show _ = some (Vs none 0 0) from rfl)
       have y3 := (blk_cell HKR.out 3).trans (show _ = some (Vs none 0 0) from rfl)
       have f0 := blk_frozen HKR.out 0
       have f1 := blk_frozen HKR.out 1
       have f2 := blk_frozen HKR.out 2
       have f3 := blk_frozen HKR.out 3
       have x0 := (blk_cell HKB.out 0).trans (show _ = some (Vs a1 n c1) from rfl)
       have x1 := (blk_cell HKB.out 1).trans (show _ = some (Vs a2 nE c2) from rfl)
       have x2 := (blk_cell HKB.out 2).trans (show _ = some (Vs a3 nU c3) from rfl)
       have x3 := (blk_cell HKB.out 3).trans (show _ = some (Vs a4 nG c4) from rfl)
       go_wp2
       have k0 : ((w7).setCell ⟨gr, 0, none⟩ (Vs a1 n c1)).heap[gr]? = some (.cells #[(Vs a1 n c1), (Vs none 0 0), (Vs none 0 0), (Vs none 0 0)] 41 (0, 0)) := by simpa using blk_set HKR.out 0 (Vs a1 n c1)
       have k1 : (((w7).setCell ⟨gr, 0, none⟩ (Vs a1 n c1)).setCell ⟨gr, 1, none⟩ (Vs a2 nE c2)).heap[gr]? = some (.cells #[(Vs a1 n c1), (Vs a2 nE c2), (Vs none 0 0), (Vs none 0 0)] 41 (0, 0)) := by simpa using blk_set k0 1 (Vs a2 nE c2)
       have k2 : ((((w7).setCell ⟨gr, 0, none⟩ (Vs a1 n c1)).setCell ⟨gr, 1, none⟩ (Vs a2 nE c2)).setCell ⟨gr, 2, none⟩ (Vs a3 nU c3)).heap[gr]? = some (.cells #[(Vs a1 n c1), (Vs a2 nE c2), (Vs a3 nU c3), (Vs none 0 0)] 41 (0, 0)) := by simpa using blk_set k1 2 (Vs a3 nU c3)
       have k3 : (((((w7).setCell ⟨gr, 0, none⟩ (Vs a1 n c1)).setCell ⟨gr, 1, none⟩ (Vs a2 nE c2)).setCell ⟨gr, 2, none⟩ (Vs a3 nU c3)).setCell ⟨gr, 3, none⟩ (Vs a4 nG c4)).heap[gr]? = some (.cells #[(Vs a1 n c1), (Vs a2 nE c2), (Vs a3 nU c3), (Vs a4 nG c4)] 41 (0, 0)) := by simpa using blk_set k2 3 (Vs a4 nG c4)
       have hbf := below_set (j := 3) (v := (Vs a4 nG c4)) (below_set (j := 2) (v := (Vs a3 nU c3)) (below_set (j := 1) (v := (Vs a2 nE c2)) (below_set (j := 0) (v := (Vs a1 n c1)) HB.out HGR.out) HGR.out) HGR.out) HGR.out
       generalize ((((w7).setCell ⟨gr, 0, none⟩ (Vs a1 n c1)).setCell ⟨gr, 1, none⟩ (Vs a2 nE c2)).setCell ⟨gr, 2, none⟩ (Vs a3 nU c3)).setCell ⟨gr, 3, none⟩ (Vs a4 nG c4) = w9 at k3 hbf ⊢
       clear k0 k1 k2
       have z0 := (blk_cell k3 0).trans (show _ = some (Vs a1 n c1) from rfl)
       have z1 := (blk_cell k3 1).trans (show _ = some (Vs a2 nE c2) from rfl)
       have z2 := (blk_cell k3 2).trans (show _ = some (Vs a3 nU c3) from rfl)
       have z3 := (blk_cell k3 3).trans (show _ = some (Vs a4 nG c4) from rfl)
       exact bodyPost_ret (v := .tuple #[.agg #[.slice a1 n c1, .slice a2 nE c2, .slice a3 nU c3, .slice a4 nG c4], .int .i64 5]) (by simp [results, Tryz.results28, go_sem, z0, z1, z2, z3]) rfl (HSAME.out 5 HC5.out (by decide) _ _ rfl hbf)
      | false =>
       have HC1 := mk0 (show rgiveC S B ⟨g0, g1, g2, g3⟩ V p = 0 by rw [HC4.out, hgt]; rfl)
       clear HC4 hgt
       go_upto_region 13 with (fail)
       have HCE := mk0 (show Kd.C kRG w a4 nG B.G by rw [HLE.out.2]; exact HBD.out.got)
       have hl := (show nG ≤ 100000 by rw [HLE.out.2]; exact HLE.out.1)
       have HO := mk0 (show Kd.R kRG 58 ((w7).alloc (.cells #[] 58)) w.heap.size (fun k => k ≠ gb ∧ k ≠ ge ∧ k ≠ gr) (.slice (some ⟨(w7).heap.size, 0, none⟩) 0 0) [] from ⟨fun k hk => by
        have hk2 : (w7).heap.size = k := by simpa [Value.ownBlock] using hk
        have l1 := blk_lt HKB.out
        have l2 := blk_lt HKE.out
        have l3 := blk_lt HKR.out
        exact ⟨by omega, by omega, by omega⟩, [], World.ownsRow_lit (base := w.heap.size) (e := 58) (size := (kRG).sz) (w7) #[] 0 HB.out.size (by decide) rfl, Reps.none _ _⟩)
       have hba := below_alloc (Below.refl (w7).heap.size (w7)) (.cells #[] 58)
       have n1 := mk0 ((hba.block _ (blk_lt HKB.out)).trans HKB.out)
       have n2 := mk0 ((hba.block _ (blk_lt HKE.out)).trans HKE.out)
       have n3 := mk0 ((hba.block _ (blk_lt HKR.out)).trans HKR.out)
       have n4 := mk0 (below_then HB.out HB.out.size hba)
       clear HKB HKE HKR HB
       have HKB := n1
       have HKE := n2
       have HKR := n3
       have HB := n4
       clear n1 n2 n3 n4
       clear hba
       have x0 := (blk_cell HKB.out 0).trans (show _ = some (Vs a1 n c1) from rfl)
       have x1 := (blk_cell HKB.out 1).trans (show _ = some (Vs a2 nE c2) from rfl)
       have x2 := (blk_cell HKB.out 2).trans (show _ = some (Vs a3 nU c3) from rfl)
       have x3 := (blk_cell HKB.out 3).trans (show _ = some (Vs a4 nG c4) from rfl)
       go_upto_region 14 with (((with_reducible refine gate_builtin (b := .append) (xs := #[.tmp 67, .tmp 69]) rfl ?_); at_builtin; go_loud (refine Kd.R_append_rows kRG (w0 := w) w.heap.size rfl (.tmp 67) (.tmp 69) 39 58 (.agg #[.int .i64 0, .int .i64 0, .int .i64 0, .int .i64 0]) 32 rfl Tryz.underlying39 infoRG rfl (by decide) (by omega) _ [] B.G a4 nG c4 (fun k => k ≠ gb ∧ k ≠ ge ∧ k ≠ gr) (fun _ => False) rfl rfl HO.out ((Kd.C_below HCE.out HB.out)) (fun x cs hx => kRG_flat x cs hx) (fun _ hk => hk.elim) ?aF HB.out HB.out.size ?aL ?_; (case aF => exact (fun k hk => by have l1 := blk_lt HKB.out; have l2 := blk_lt HKE.out; have l3 := blk_lt HKR.out; exact ⟨by omega, by omega, by omega⟩)); (case aL => simp; omega); intro v9 w9 ho hb hg hat; go_frame)))
       clear x0 x1 x2 x3
       have m1 := mk0 ((hg.block _ (blk_lt HKB.out) (fun e => (HO.out.1 _ e.symm).1 rfl)).trans HKB.out)
       have m2 := mk0 ((hg.block _ (blk_lt HKE.out) (fun e => (HO.out.1 _ e.symm).2.1 rfl)).trans HKE.out)
       have m3 := mk0 ((hg.block _ (blk_lt HKR.out) (fun e => (HO.out.1 _ e.symm).2.2 rfl)).trans HKR.out)
       have m4 := mk0 hb
       have m5 := mk0 ho
       clear HKB HKE HKR HB HO ho hb hg hat
       have HKB := m1
       have HKE := m2
       have HKR := m3
       have HB := m4
       have HO := m5
       clear m1 m2 m3 m4 m5
       have e0 := (blk_cell HKE.out 0).trans (show _ = some (Value.int .i64 g0) from rfl)
       have e1 := (blk_cell HKE.out 1).trans (show _ = some (Value.int .i64 g1) from rfl)
       have e2 := (blk_cell HKE.out 2).trans (show _ = some (Value.int .i64 g2) from rfl)
       have e3 := (blk_cell HKE.out 3).trans (show _ = some (Value.int .i64 g3) from rfl)
       rw [List.nil_append] at HO
       have hlE : (B.G).length ≤ 100000 := by rw [← HLE.out.2]; exact hl
       have HLX := mk0 (show (B.G ++ [(⟨g0, g1, g2, g3⟩ : RGiv)]).length = nG + 1 by rw [List.length_append, HLE.out.2]; rfl)
       go_upto_region 15 with (((with_reducible refine gate_builtin (b := .append) (xs := #[.tmp 71, .tmp 73]) rfl ?_); at_builtin; go_loud (refine Kd.R_append kRG (w0 := w) w.heap.size rfl (.tmp 71) (.tmp 73) 39 58 (.agg #[.int .i64 0, .int .i64 0, .int .i64 0, .int .i64 0]) 32 rfl Tryz.underlying39 infoRG rfl (by decide) (by omega) _ B.G (⟨g0, g1, g2, g3⟩ : RGiv) [.int .i64 g0, .int .i64 g1, .int .i64 g2, .int .i64 g3] (fun k => k ≠ gb ∧ k ≠ ge ∧ k ≠ gr) (fun _ => False) rfl ?aX ?aP (fun _ hk => hk.elim) ?aF HO.out HB.out HB.out.size ?aL ?_; (case aX => first | rfl | (go_simp; done) | (go_simp; rfl)); (case aP => exact kRG_mkM _ _ _ (⟨g0, g1, g2, g3⟩ : RGiv)); (case aF => exact (fun k hk => by have l1 := blk_lt HKB.out; have l2 := blk_lt HKE.out; have l3 := blk_lt HKR.out; exact ⟨by omega, by omega, by omega⟩)); (case aL => omega); intro v9 w9 ho hb hg hat; go_frame)); clear e0 e1 e2 e3; obtain ⟨A9, c9, rfl, hc9, hC9⟩ := Kd.R_reads ho; rw [HLX.out] at ho hc9 hC9 hat ⊢; have HC9 := mk0 (And.intro hc9 hC9); clear hc9 hC9; have m1 := mk0 ((hg.block _ (blk_lt HKB.out) (fun e => (HO.out.1 _ e.symm).1 rfl)).trans HKB.out); have m2 := mk0 ((hg.block _ (blk_lt HKE.out) (fun e => (HO.out.1 _ e.symm).2.1 rfl)).trans HKE.out); have m3 := mk0 ((hg.block _ (blk_lt HKR.out) (fun e => (HO.out.1 _ e.symm).2.2 rfl)).trans HKR.out); have m4 := mk0 hb; have m5 := mk0 ho; clear HKB HKE HKR HB HO ho hb hg hat; have HKB := m1; have HKE := m2; have HKR := m3; have HB := m4; have HO := m5; clear m1 m2 m3 m4 m5; have x1 := (blk_cell HKB.out 3).trans (show _ = some (Vs a4 nG c4) from rfl); have f1 := blk_frozen HKB.out 3)
       clear x1 f1
       have m1 := mk0 (show (w9.setCell ⟨gb, 3, none⟩ (.slice A9 (nG + 1) c9)).heap[gb]? = some (.cells #[.slice a1 n c1, .slice a2 nE c2, .slice a3 nU c3, .slice A9 (nG + 1) c9] 41 (0, 0)) by simpa using blk_set HKB.out 3 (.slice A9 (nG + 1) c9))
       have m2 := mk0 ((Below.heap_setCell w9 ⟨gb, 3, none⟩ (.slice A9 (nG + 1) c9) gr (fun e => HGN.out.2.1 e.symm)).trans HKR.out)
       have m3 := mk0 (below_set (j := 3) (v := .slice A9 (nG + 1) c9) HB.out (Nat.le_of_eq HGN.out.1.symm))
       have m4 := mk0 (Kd.R_far (p := ⟨gb, 3, none⟩) HO.out (fun k hk => hk.1) (.slice A9 (nG + 1) c9))
       clear HKB HKE HKR HB HO HC9
       generalize w9.setCell ⟨gb, 3, none⟩ (.slice A9 (nG + 1) c9) = w8 at m1 m2 m3 m4 ⊢
       have HKB := m1
       have HKR := m2
       have HB := m3
       have HO8 := m4
       clear m1 m2 m3 m4
       have y0 := (blk_cell HKR.out 0).trans (show _ = some (Vs none 0 0) from rfl)
       have y1 := (blk_cell HKR.out 1).trans (show _ = some (Vs none 0 0) from rfl)
       have y2 := (blk_cell HKR.out 2).trans (show _ = some (Vs none 0 0) from rfl)
       have y3 := (blk_cell HKR.out 3).trans (show _ = some (Vs none 0 0) from rfl)
       have f0 := blk_frozen HKR.out 0
       have f1 := blk_frozen HKR.out 1
       have f2 := blk_frozen HKR.out 2
       have f3 := blk_frozen HKR.out 3
       have x0 := (blk_cell HKB.out 0).trans (show _ = some (Vs a1 n c1) from rfl)
       have x1 := (blk_cell HKB.out 1).trans (show _ = some (Vs a2 nE c2) from rfl)
       have x2 := (blk_cell HKB.out 2).trans (show _ = some (Vs a3 nU c3) from rfl)
       have x3 := (blk_cell HKB.out 3).trans (show _ = some (Vs A9 (nG + 1) c9) from rfl)
       go_wp2
       have k0 : ((w8).setCell ⟨gr, 0, none⟩ (Vs a1 n c1)).heap[gr]? = some (.cells #[(Vs a1 n c1), (Vs none 0 0), (Vs none 0 0), (Vs none 0 0)] 41 (0, 0)) := by simpa using blk_set HKR.out 0 (Vs a1 n c1)
       have k1 : (((w8).setCell ⟨gr, 0, none⟩ (Vs a1 n c1)).setCell ⟨gr, 1, none⟩ (Vs a2 nE c2)).heap[gr]? = some (.cells #[(Vs a1 n c1), (Vs a2 nE c2), (Vs none 0 0), (Vs none 0 0)] 41 (0, 0)) := by simpa using blk_set k0 1 (Vs a2 nE c2)
       have k2 : ((((w8).setCell ⟨gr, 0, none⟩ (Vs a1 n c1)).setCell ⟨gr, 1, none⟩ (Vs a2 nE c2)).setCell ⟨gr, 2, none⟩ (Vs a3 nU c3)).heap[gr]? = some (.cells #[(Vs a1 n c1), (Vs a2 nE c2), (Vs a3 nU c3), (Vs none 0 0)] 41 (0, 0)) := by simpa using blk_set k1 2 (Vs a3 nU c3)
       have k3 : (((((w8).setCell ⟨gr, 0, none⟩ (Vs a1 n c1)).setCell ⟨gr, 1, none⟩ (Vs a2 nE c2)).setCell ⟨gr, 2, none⟩ (Vs a3 nU c3)).setCell ⟨gr, 3, none⟩ (Vs A9 (nG + 1) c9)).heap[gr]? = some (.cells #[(Vs a1 n c1), (Vs a2 nE c2), (Vs a3 nU c3), (Vs A9 (nG + 1) c9)] 41 (0, 0)) := by simpa using blk_set k2 3 (Vs A9 (nG + 1) c9)
       have hbf := below_set (j := 3) (v := (Vs A9 (nG + 1) c9)) (below_set (j := 2) (v := (Vs a3 nU c3)) (below_set (j := 1) (v := (Vs a2 nE c2)) (below_set (j := 0) (v := (Vs a1 n c1)) HB.out HGR.out) HGR.out) HGR.out) HGR.out
       have r3 := Kd.R_far (p := ⟨gr, 3, none⟩) (Kd.R_far (p := ⟨gr, 2, none⟩) (Kd.R_far (p := ⟨gr, 1, none⟩) (Kd.R_far (p := ⟨gr, 0, none⟩) HO8.out (fun k hk => hk.2.2) (Vs a1 n c1)) (fun k hk => hk.2.2) (Vs a2 nE c2)) (fun k hk => hk.2.2) (Vs a3 nU c3)) (fun k hk => hk.2.2) (Vs A9 (nG + 1) c9)
       generalize (((w8.setCell ⟨gr, 0, none⟩ (Vs a1 n c1)).setCell ⟨gr, 1, none⟩ (Vs a2 nE c2)).setCell ⟨gr, 2, none⟩ (Vs a3 nU c3)).setCell ⟨gr, 3, none⟩ (Vs A9 (nG + 1) c9) = w77 at k3 hbf r3 ⊢
       clear k0 k1 k2
       have z0 := (blk_cell k3 0).trans (show _ = some (Vs a1 n c1) from rfl)
       have z1 := (blk_cell k3 1).trans (show _ = some (Vs a2 nE c2) from rfl)
       have z2 := (blk_cell k3 2).trans (show _ = some (Vs a3 nU c3) from rfl)
       have z3 := (blk_cell k3 3).trans (show _ = some (Vs A9 (nG + 1) c9) from rfl)
       obtain ⟨A7, c7, hv7, hc7, hC7⟩ := Kd.R_reads r3
       rw [HLX.out] at hv7 hc7 hC7
       have hA7 : A9 = A7 ∧ c9 = c7 := by injection hv7 with h1 h2 h3; exact ⟨h1, h3⟩
       obtain ⟨rfl, rfl⟩ := hA7
       exact bodyPost_ret (v := .tuple #[.agg #[.slice a1 n c1, .slice a2 nE c2, .slice a3 nU c3, .slice A9 (nG + 1) c9], .int .i64 0]) (by simp [results, Tryz.results28, go_sem, z0, z1, z2, z3]) rfl (HDONE.out HC1.out _ _ A9 c9 rfl hbf hc7 hC7)
    ·
     have HC3 := mk0 (show rgiveC S B ⟨g0, g1, g2, g3⟩ V p = 12 by rw [HC2.out, hf])
     have y0 := (blk_cell HKR.out 0).trans (show _ = some (Vs none 0 0) from rfl)
     have y1 := (blk_cell HKR.out 1).trans (show _ = some (Vs none 0 0) from rfl)
     have y2 := (blk_cell HKR.out 2).trans (show _ = some (Vs none 0 0) from rfl)
     have y3 := (blk_cell HKR.out 3).trans (show _ = some (Vs none 0 0) from rfl)
     have f0 := blk_frozen HKR.out 0
     have f1 := blk_frozen HKR.out 1
     have f2 := blk_frozen HKR.out 2
     have f3 := blk_frozen HKR.out 3
     have x0 := (blk_cell HKB.out 0).trans (show _ = some (Vs a1 n c1) from rfl)
     have x1 := (blk_cell HKB.out 1).trans (show _ = some (Vs a2 nE c2) from rfl)
     have x2 := (blk_cell HKB.out 2).trans (show _ = some (Vs a3 nU c3) from rfl)
     have x3 := (blk_cell HKB.out 3).trans (show _ = some (Vs a4 nG c4) from rfl)
     go_wp2
     have k0 : ((w5).setCell ⟨gr, 0, none⟩ (Vs a1 n c1)).heap[gr]? = some (.cells #[(Vs a1 n c1), (Vs none 0 0), (Vs none 0 0), (Vs none 0 0)] 41 (0, 0)) := by simpa using blk_set HKR.out 0 (Vs a1 n c1)
     have k1 : (((w5).setCell ⟨gr, 0, none⟩ (Vs a1 n c1)).setCell ⟨gr, 1, none⟩ (Vs a2 nE c2)).heap[gr]? = some (.cells #[(Vs a1 n c1), (Vs a2 nE c2), (Vs none 0 0), (Vs none 0 0)] 41 (0, 0)) := by simpa using blk_set k0 1 (Vs a2 nE c2)
     have k2 : ((((w5).setCell ⟨gr, 0, none⟩ (Vs a1 n c1)).setCell ⟨gr, 1, none⟩ (Vs a2 nE c2)).setCell ⟨gr, 2, none⟩ (Vs a3 nU c3)).heap[gr]? = some (.cells #[(Vs a1 n c1), (Vs a2 nE c2), (Vs a3 nU c3), (Vs none 0 0)] 41 (0, 0)) := by simpa using blk_set k1 2 (Vs a3 nU c3)
     have k3 : (((((w5).setCell ⟨gr, 0, none⟩ (Vs a1 n c1)).setCell ⟨gr, 1, none⟩ (Vs a2 nE c2)).setCell ⟨gr, 2, none⟩ (Vs a3 nU c3)).setCell ⟨gr, 3, none⟩ (Vs a4 nG c4)).heap[gr]? = some (.cells #[(Vs a1 n c1), (Vs a2 nE c2), (Vs a3 nU c3), (Vs a4 nG c4)] 41 (0, 0)) := by simpa using blk_set k2 3 (Vs a4 nG c4)
     have hbf := below_set (j := 3) (v := (Vs a4 nG c4)) (below_set (j := 2) (v := (Vs a3 nU c3)) (below_set (j := 1) (v := (Vs a2 nE c2)) (below_set (j := 0) (v := (Vs a1 n c1)) HB.out HGR.out) HGR.out) HGR.out) HGR.out
     generalize ((((w5).setCell ⟨gr, 0, none⟩ (Vs a1 n c1)).setCell ⟨gr, 1, none⟩ (Vs a2 nE c2)).setCell ⟨gr, 2, none⟩ (Vs a3 nU c3)).setCell ⟨gr, 3, none⟩ (Vs a4 nG c4) = w9 at k3 hbf ⊢
     clear k0 k1 k2
     have z0 := (blk_cell k3 0).trans (show _ = some (Vs a1 n c1) from rfl)
     have z1 := (blk_cell k3 1).trans (show _ = some (Vs a2 nE c2) from rfl)
     have z2 := (blk_cell k3 2).trans (show _ = some (Vs a3 nU c3) from rfl)
     have z3 := (blk_cell k3 3).trans (show _ = some (Vs a4 nG c4) from rfl)
     exact bodyPost_ret (v := .tuple #[.agg #[.slice a1 n c1, .slice a2 nE c2, .slice a3 nU c3, .slice a4 nG c4], .int .i64 12]) (by simp [results, Tryz.results28, go_sem, z0, z1, z2, z3]) rfl (HSAME.out 12 HC3.out (by decide) _ _ rfl hbf)
 ·
  have HC2 := mk0 (show rgiveC S B ⟨g0, g1, g2, g3⟩ V p = 9 by rw [HCR.out, hf])
  have y0 := (blk_cell HKR.out 0).trans (show _ = some (Vs none 0 0) from rfl)
  have y1 := (blk_cell HKR.out 1).trans (show _ = some (Vs none 0 0) from rfl)
  have y2 := (blk_cell HKR.out 2).trans (show _ = some (Vs none 0 0) from rfl)
  have y3 := (blk_cell HKR.out 3).trans (show _ = some (Vs none 0 0) from rfl)
  have f0 := blk_frozen HKR.out 0
  have f1 := blk_frozen HKR.out 1
  have f2 := blk_frozen HKR.out 2
  have f3 := blk_frozen HKR.out 3
  have x0 := (blk_cell HKB.out 0).trans (show _ = some (Vs a1 n c1) from rfl)
  have x1 := (blk_cell HKB.out 1).trans (show _ = some (Vs a2 nE c2) from rfl)
  have x2 := (blk_cell HKB.out 2).trans (show _ = some (Vs a3 nU c3) from rfl)
  have x3 := (blk_cell HKB.out 3).trans (show _ = some (Vs a4 nG c4) from rfl)
  go_wp2
  have k0 : ((w2).setCell ⟨gr, 0, none⟩ (Vs a1 n c1)).heap[gr]? = some (.cells #[(Vs a1 n c1), (Vs none 0 0), (Vs none 0 0), (Vs none 0 0)] 41 (0, 0)) := by simpa using blk_set HKR.out 0 (Vs a1 n c1)
  have k1 : (((w2).setCell ⟨gr, 0, none⟩ (Vs a1 n c1)).setCell ⟨gr, 1, none⟩ (Vs a2 nE c2)).heap[gr]? = some (.cells #[(Vs a1 n c1), (Vs a2 nE c2), (Vs none 0 0), (Vs none 0 0)] 41 (0, 0)) := by simpa using blk_set k0 1 (Vs a2 nE c2)
  have k2 : ((((w2).setCell ⟨gr, 0, none⟩ (Vs a1 n c1)).setCell ⟨gr, 1, none⟩ (Vs a2 nE c2)).setCell ⟨gr, 2, none⟩ (Vs a3 nU c3)).heap[gr]? = some (.cells #[(Vs a1 n c1), (Vs a2 nE c2), (Vs a3 nU c3), (Vs none 0 0)] 41 (0, 0)) := by simpa using blk_set k1 2 (Vs a3 nU c3)
  have k3 : (((((w2).setCell ⟨gr, 0, none⟩ (Vs a1 n c1)).setCell ⟨gr, 1, none⟩ (Vs a2 nE c2)).setCell ⟨gr, 2, none⟩ (Vs a3 nU c3)).setCell ⟨gr, 3, none⟩ (Vs a4 nG c4)).heap[gr]? = some (.cells #[(Vs a1 n c1), (Vs a2 nE c2), (Vs a3 nU c3), (Vs a4 nG c4)] 41 (0, 0)) := by simpa using blk_set k2 3 (Vs a4 nG c4)
  have hbf := below_set (j := 3) (v := (Vs a4 nG c4)) (below_set (j := 2) (v := (Vs a3 nU c3)) (below_set (j := 1) (v := (Vs a2 nE c2)) (below_set (j := 0) (v := (Vs a1 n c1)) HB.out HGR.out) HGR.out) HGR.out) HGR.out
  generalize ((((w2).setCell ⟨gr, 0, none⟩ (Vs a1 n c1)).setCell ⟨gr, 1, none⟩ (Vs a2 nE c2)).setCell ⟨gr, 2, none⟩ (Vs a3 nU c3)).setCell ⟨gr, 3, none⟩ (Vs a4 nG c4) = w9 at k3 hbf ⊢
  clear k0 k1 k2
  have z0 := (blk_cell k3 0).trans (show _ = some (Vs a1 n c1) from rfl)
  have z1 := (blk_cell k3 1).trans (show _ = some (Vs a2 nE c2) from rfl)
  have z2 := (blk_cell k3 2).trans (show _ = some (Vs a3 nU c3) from rfl)
  have z3 := (blk_cell k3 3).trans (show _ = some (Vs a4 nG c4) from rfl)
  exact bodyPost_ret (v := .tuple #[.agg #[.slice a1 n c1, .slice a2 nE c2, .slice a3 nU c3, .slice a4 nG c4], .int .i64 9]) (by simp [results, Tryz.results28, go_sem, z0, z1, z2, z3]) rfl (HSAME.out 9 HC2.out (by decide) _ _ rfl hbf)
end Go.Proofs.YtlokmijoaocofaaGreatDoor.Mine
end
