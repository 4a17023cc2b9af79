/- Texts of one claim, one behind the other, made short by a program. -/
import Derived.Test.YtlokmijoaocofaaGreatDoorMP14
set_option linter.unusedSimpArgs false
set_option linter.unusedVariables false
set_option maxRecDepth 100000
section
namespace Go.Proofs.YtlokmijoaocofaaGreatDoor.Mine
open Go.Maps Go.RowKit YtlokmijoaocofaaGreatDoorW.PrintWords YtlokmijoaocofaaGreatDoorW.PrintLast YtlokmijoaocofaaGreatDoorW.PrintMore
open PBoardPlays
open Value renaming slice → Vs
theorem push3_new {α : Type} (h : Array α) (a b c : α) : (((h.push a).push b).push c)[h.size]? = some a ∧ (((h.push a).push b).push c)[h.size + 1]? = some b ∧ (((h.push a).push b).push c)[h.size + 1 + 1]? = some c := by
 refine ⟨?_, ?_, ?_⟩
 ·
  simp only [Array.getElem?_push, Array.size_push]; rw [if_neg (by omega), if_neg (by omega), if_pos trivial]
 ·
  simp only [Array.getElem?_push, Array.size_push]; rw [if_neg (by omega), if_pos trivial]
 ·
  simp only [Array.getElem?_push, Array.size_push]; rw [if_pos trivial]
theorem infoRE : (Tryz.prog.info? 88).map (fun i => (i.zero, i.size, i.bytes)) = some (some (.agg #[.int .i64 0, .int .i64 0, .slice none 0 0, .string ⟨#[]⟩]), 4, 56) := by kernel_rfl
theorem infoRS : (Tryz.prog.info? 111).map (fun i => (i.zero, i.size, i.bytes)) = some (some (.agg #[.int .i64 0, .int .i64 0, .slice none 0 0]), 3, 40) := by kernel_rfl
theorem infoRG : (Tryz.prog.info? 58).map (fun i => (i.zero, i.size, i.bytes)) = some (some (.agg #[.int .i64 0, .int .i64 0, .int .i64 0, .int .i64 0]), 4, 32) := by kernel_rfl
def RBPost (w : World) (S : List SA) (n : Nat) (R' : RB) (c : Int) (e : Ending) (w' : World) : Prop :=
 ∃ h', e = .returned (.tuple #[rbV n h' R', .int .i64 c]) ∧ Below w.heap.size w w' ∧ IsRB w' S n h' R'
set_option maxHeartbeats 8000000 in
theorem rpub_calls (n : Nat) (h : RH) (S : List SA) (B : RB) (x : REv) (w : World) (hb : IsRB w S n h B) (hl : B.E.length ≤ 100000) (hn9 : n ≤ 100000) (hx : EvRd w x) (hsz : ∀ v ∈ x.V, v.f1.size ≤ 1000000000) :
 Calls Tryz.prog 23 #[rbV n h B, .agg #[.int .i64 x.pub, .int .i64 x.seq, .slice x.A x.n x.c, .string x.pay]] w (RBPost w S n (if rpubC S B (x.pub, x.seq) x.V x.pay = 0 then B.pub x else B) (rpubC S B (x.pub, x.seq) x.V x.pay)) := by
 have HBD := mk0 hb
 have HX := mk0 hx
 obtain ⟨a1, c1, a2, c2, a3, c3, a4, c4⟩ := h
 obtain ⟨nE, hnE⟩ : ∃ k, k = B.E.length := ⟨_, rfl⟩
 obtain ⟨nU, hnU⟩ : ∃ k, k = B.U.length := ⟨_, rfl⟩
 obtain ⟨nG, hnG⟩ : ∃ k, k = B.G.length := ⟨_, rfl⟩
 have HFC := mk0 (fun W (hW : Below w.heap.size w W) => rfind18_calls n ⟨a1, c1, a2, c2, a3, c3, a4, c4⟩ S B (x.pub, x.seq) W (HBD.out.below hW) hl)
 have HEC := mk0 (fun W (hW : Below w.heap.size w W) => revent_calls a1 x.A n x.n c1 x.c S x.V x.pay W HBD.out.len HX.out.1 (Kd.C_below HBD.out.sch hW) (Kd.C_below HX.out.2.2.2 hW) hn9 hsz)
 have HLE := mk0 (And.intro hl hnE)
 unfold rbV at HFC ⊢
 dsimp only at HFC ⊢
 rw [← hnE, ← hnU, ← hnG] at HFC ⊢
 have HLN := mk0 (And.intro hnU hnG)
 clear hb hx hsz hnE hnU hnG hl
 obtain ⟨xp, xs, xA, xn, xc, xV, xpay⟩ := x
 dsimp only at HFC HEC ⊢
 have HSAME := mk0 (fun (c : Int) (hc0 : rpubC S B (xp, xs) xV xpay = c) (hc1 : c ≠ 0) e w' (he : e = .returned (.tuple #[.agg #[.slice a1 n c1, .slice a2 nE c2, .slice a3 nU c3, .slice a4 nG c4], .int .i64 c])) (hbf : Below w.heap.size w w') => show RBPost w S n (if rpubC S B (xp, xs) xV xpay = 0 then B.pub ⟨xp, xs, xA, xn, xc, xV, xpay⟩ else B) (rpubC S B (xp, xs) xV xpay) e w' from by
  rw [hc0, if_neg hc1]
  refine ⟨⟨a1, c1, a2, c2, a3, c3, a4, c4⟩, ?_, hbf, HBD.out.below hbf⟩
  unfold rbV
  dsimp only
  rw [← HLE.out.2, ← HLN.out.1, ← HLN.out.2]
  exact he)
 have HDONE := mk0 (fun (hc0 : rpubC S B (xp, xs) xV xpay = 0) e w' (A9 : Option Addr) (c9 : Nat) (he : e = .returned (.tuple #[.agg #[.slice a1 n c1, .slice A9 (nE + 1) c9, .slice a3 nU c3, .slice a4 nG c4], .int .i64 0])) (hbf : Below w.heap.size w w') (hc9 : nE + 1 ≤ c9) (hC : Kd.C kRE w' A9 (nE + 1) (B.E ++ [⟨xp, xs, xA, xn, xc, xV, xpay⟩])) => show RBPost w S n (if rpubC S B (xp, xs) xV xpay = 0 then B.pub ⟨xp, xs, xA, xn, xc, xV, xpay⟩ else B) (rpubC S B (xp, xs) xV xpay) e w' from by
  rw [hc0, if_pos rfl]
  have hlen : (B.pub ⟨xp, xs, xA, xn, xc, xV, xpay⟩).E.length = nE + 1 := by show (B.E ++ [_]).length = _; rw [List.length_append, ← HLE.out.2]; rfl
  refine ⟨⟨a1, c1, A9, c9, a3, c3, a4, c4⟩, ?_, hbf, ?_⟩
  ·
   unfold rbV
   dsimp only
   rw [hlen, show (B.pub ⟨xp, xs, xA, xn, xc, xV, xpay⟩).U.length = nU from HLN.out.1.symm, show (B.pub ⟨xp, xs, xA, xn, xc, xV, xpay⟩).G.length = nG from HLN.out.2.symm]
   exact he
  ·
   have hk := HBD.out.below hbf
   refine ⟨hk.len, hk.cs, hk.sch, by rw [hlen]; exact hc9, by rw [hlen]; exact hC, fun y hy => ?_, hk.cu, hk.sub, hk.subs, hk.cg, hk.got⟩
   rcases List.mem_append.1 hy with hy | hy
   ·
    exact hk.evs y hy
   ·
    rw [List.mem_singleton.1 hy]; exact HX.out.below hbf)
 have HCR := mk0 (show rpubC S B (xp, xs) xV xpay = if (evBad S xV xpay).isSome then 3 else if (B.E.find? (evIs (xp, xs))).isSome then 5 else 0 from rfl)
 generalize RBPost w S n (if rpubC S B (xp, xs) xV xpay = 0 then B.pub ⟨xp, xs, xA, xn, xc, xV, xpay⟩ else B) (rpubC S B (xp, xs) xV xpay) = POST at HSAME HDONE ⊢
 go_enter Tryz.func23, Tryz.ntmps23
 go_upto_region 1 with (fail)
 have hb3 := below_alloc (below_alloc (below_alloc (Below.refl w.heap.size w) (.cells #[.slice a1 n c1, .slice a2 nE c2, .slice a3 nU c3, .slice a4 nG c4] 41)) (.cells #[.int .i64 xp, .int .i64 xs, .slice xA xn xc, .string xpay] 88)) (.cells #[.slice none 0 0, .slice none 0 0, .slice none 0 0, .slice none 0 0] 41)
 obtain ⟨kb, ke, kr⟩ := push3_new w.heap (.cells #[.slice a1 n c1, .slice a2 nE c2, .slice a3 nU c3, .slice a4 nG c4] 41 (0, 0)) (.cells #[.int .i64 xp, .int .i64 xs, .slice xA xn xc, .string xpay] 88 (0, 0)) (.cells #[.slice none 0 0, .slice none 0 0, .slice none 0 0, .slice none 0 0] 41 (0, 0))
 have HB := mk0 hb3
 have HKB := mk0 (show (((w.alloc (.cells #[.slice a1 n c1, .slice a2 nE c2, .slice a3 nU c3, .slice a4 nG c4] 41)).alloc (.cells #[.int .i64 xp, .int .i64 xs, .slice xA xn xc, .string xpay] 88)).alloc (.cells #[.slice none 0 0, .slice none 0 0, .slice none 0 0, .slice none 0 0] 41)).heap[w.heap.size]? = _ from kb)
 have HKE := mk0 (show (((w.alloc (.cells #[.slice a1 n c1, .slice a2 nE c2, .slice a3 nU c3, .slice a4 nG c4] 41)).alloc (.cells #[.int .i64 xp, .int .i64 xs, .slice xA xn xc, .string xpay] 88)).alloc (.cells #[.slice none 0 0, .slice none 0 0, .slice none 0 0, .slice none 0 0] 41)).heap[w.heap.size + 1]? = _ from ke)
 have HKR := mk0 (show (((w.alloc (.cells #[.slice a1 n c1, .slice a2 nE c2, .slice a3 nU c3, .slice a4 nG c4] 41)).alloc (.cells #[.int .i64 xp, .int .i64 xs, .slice xA xn xc, .string xpay] 88)).alloc (.cells #[.slice none 0 0, .slice none 0 0, .slice none 0 0, .slice none 0 0] 41)).heap[w.heap.size + 1 + 1]? = _ from kr)
 clear kb ke kr hb3
 generalize ((w.alloc (.cells #[.slice a1 n c1, .slice a2 nE c2, .slice a3 nU c3, .slice a4 nG c4] 41)).alloc (.cells #[.int .i64 xp, .int .i64 xs, .slice xA xn xc, .string xpay] 88)).alloc (.cells #[.slice none 0 0, .slice none 0 0, .slice none 0 0, .slice none 0 0] 41) = w0 at HB HKB HKE HKR ⊢
 obtain ⟨ge, hge⟩ : ∃ g, g = w.heap.size + 1 := ⟨_, rfl⟩
 obtain ⟨gr, hgr⟩ : ∃ g, g = w.heap.size + 1 + 1 := ⟨_, rfl⟩
 obtain ⟨gb, hgb⟩ : ∃ g, g = w.heap.size := ⟨_, rfl⟩
 rw [← hgr] at HKR
 rw [← hge] at HKE
 rw [← hgb] at HKB
 rw [← hgr, ← hge, ← hgb]
 have HGR := mk0 (show w.heap.size ≤ gr by omega)
 have HGN := mk0 (show gb = w.heap.size ∧ w.heap.size ≤ ge ∧ gb ≠ ge ∧ gb ≠ gr ∧ ge ≠ gr by omega)
 clear hge hgr hgb
 have x0 := (blk_cell HKB.out 0).trans (show _ = some (Vs a1 n c1) from rfl)
 have e2 := (blk_cell HKE.out 2).trans (show _ = some (Vs xA xn xc) from rfl)
 have e3 := (blk_cell HKE.out 3).trans (show _ = some (Value.string xpay) from rfl)
 go_wp2_with fail
 refine (HEC.out _ HB.out).mono ?_
 rintro e w1 ⟨rfl, hb⟩
 clear HEC x0 e2 e3
 have n1 := mk0 ((hb.block _ (blk_lt HKB.out)).trans HKB.out)
 have n2 := mk0 ((hb.block _ (blk_lt HKE.out)).trans HKE.out)
 have n3 := mk0 ((hb.block _ (blk_lt HKR.out)).trans HKR.out)
 have n4 := mk0 (below_then HB.out HB.out.size hb)
 clear HKB HKE HKR HB
 have HKB := n1
 have HKE := n2
 have HKR := n3
 have HB := n4
 clear n1 n2 n3 n4
 clear hb
 cases heb : evBad S xV xpay with
 | some i =>
  have HC0 := mk0 (show rpubC S B (xp, xs) xV xpay = 3 by rw [HCR.out, heb]; rfl)
  have q1 : decide (0 ≤ badI2 (some i)) = true := decide_eq_true (by show (0 : Int) ≤ (i : Int); omega)
  clear heb
  have y0 := (blk_cell HKR.out 0).trans (show _ = some (Vs none 0 0) from rfl)
  have y1 := (blk_cell HKR.out 1).trans (show _ = some (Vs none 0 0) from rfl)
  have y2 := (blk_cell HKR.out 2).trans (show _ = some (Vs none 0 0) from rfl)
  have y3 := (blk_cell HKR.out 3).trans (show _ = some (Vs none 0 0) from rfl)
  have f0 := blk_frozen HKR.out 0
  have f1 := blk_frozen HKR.out 1
  have f2 := blk_frozen HKR.out 2
  have f3 := blk_frozen HKR.out 3
  have x0 := (blk_cell HKB.out 0).trans (show _ = some (Vs a1 n c1) from rfl)
  have x1 := (blk_cell HKB.out 1).trans (show _ = some (Vs a2 nE c2) from rfl)
  have x2 := (blk_cell HKB.out 2).trans (show _ = some (Vs a3 nU c3) from rfl)
  have x3 := (blk_cell HKB.out 3).trans (show _ = some (Vs a4 nG c4) from rfl)
  go_wp2
  have k0 : ((w1).setCell ⟨gr, 0, none⟩ (Vs a1 n c1)).heap[gr]? = some (.cells #[(Vs a1 n c1), (Vs none 0 0), (Vs none 0 0), (Vs none 0 0)] 41 (0, 0)) := by simpa using blk_set HKR.out 0 (Vs a1 n c1)
  have k1 : (((w1).setCell ⟨gr, 0, none⟩ (Vs a1 n c1)).setCell ⟨gr, 1, none⟩ (Vs a2 nE c2)).heap[gr]? = some (.cells #[(Vs a1 n c1), (Vs a2 nE c2), (Vs none 0 0), (Vs none 0 0)] 41 (0, 0)) := by simpa using blk_set k0 1 (Vs a2 nE c2)
  have k2 : ((((w1).setCell ⟨gr, 0, none⟩ (Vs a1 n c1)).setCell ⟨gr, 1, none⟩ (Vs a2 nE c2)).setCell ⟨gr, 2, none⟩ (Vs a3 nU c3)).heap[gr]? = some (.cells #[(Vs a1 n c1), (Vs a2 nE c2), (Vs a3 nU c3), (Vs none 0 0)] 41 (0, 0)) := by simpa using blk_set k1 2 (Vs a3 nU c3)
  have k3 : (((((w1).setCell ⟨gr, 0, none⟩ (Vs a1 n c1)).setCell ⟨gr, 1, none⟩ (Vs a2 nE c2)).setCell ⟨gr, 2, none⟩ (Vs a3 nU c3)).setCell ⟨gr, 3, none⟩ (Vs a4 nG c4)).heap[gr]? = some (.cells #[(Vs a1 n c1), (Vs a2 nE c2), (Vs a3 nU c3), (Vs a4 nG c4)] 41 (0, 0)) := by simpa using blk_set k2 3 (Vs a4 nG c4)
  have hbf := below_set (j := 3) (v := (Vs a4 nG c4)) (below_set (j := 2) (v := (Vs a3 nU c3)) (below_set (j := 1) (v := (Vs a2 nE c2)) (below_set (j := 0) (v := (Vs a1 n c1)) HB.out HGR.out) HGR.out) HGR.out) HGR.out
  generalize ((((w1).setCell ⟨gr, 0, none⟩ (Vs a1 n c1)).setCell ⟨gr, 1, none⟩ (Vs a2 nE c2)).setCell ⟨gr, 2, none⟩ (Vs a3 nU c3)).setCell ⟨gr, 3, none⟩ (Vs a4 nG c4) = w9 at k3 hbf ⊢
  clear k0 k1 k2
  have z0 := (blk_cell k3 0).trans (show _ = some (Vs a1 n c1) from rfl)
  have z1 := (blk_cell k3 1).trans (show _ = some (Vs a2 nE c2) from rfl)
  have z2 := (blk_cell k3 2).trans (show _ = some (Vs a3 nU c3) from rfl)
  have z3 := (blk_cell k3 3).trans (show _ = some (Vs a4 nG c4) from rfl)
  exact bodyPost_ret (v := .tuple #[.agg #[.slice a1 n c1, .slice a2 nE c2, .slice a3 nU c3, .slice a4 nG c4], .int .i64 3]) (by simp [results, Tryz.results23, go_sem, z0, z1, z2, z3]) rfl (HSAME.out 3 HC0.out (by decide) _ _ rfl hbf)
 | none =>
  have q1 : decide (0 ≤ badI2 none) = false := by decide
  have HC0 := mk0 (show rpubC S B (xp, xs) xV xpay = if (B.E.find? (evIs (xp, xs))).isSome then 5 else 0 by rw [HCR.out, heb]; rfl)
  clear heb
  have x0 := (blk_cell HKB.out 0).trans (show _ = some (Vs a1 n c1) from rfl)
  have x1 := (blk_cell HKB.out 1).trans (show _ = some (Vs a2 nE c2) from rfl)
  have x2 := (blk_cell HKB.out 2).trans (show _ = some (Vs a3 nU c3) from rfl)
  have x3 := (blk_cell HKB.out 3).trans (show _ = some (Vs a4 nG c4) from rfl)
  have e0 := (blk_cell HKE.out 0).trans (show _ = some (Value.int .i64 xp) from rfl)
  have e1 := (blk_cell HKE.out 1).trans (show _ = some (Value.int .i64 xs) from rfl)
  go_wp2_with fail
  refine (HFC.out _ HB.out).mono ?_
  rintro e w2 ⟨y, b, rfl, hb, hf⟩
  clear HFC x0 x1 x2 x3 e0 e1
  have n1 := mk0 ((hb.block _ (blk_lt HKB.out)).trans HKB.out)
  have n2 := mk0 ((hb.block _ (blk_lt HKE.out)).trans HKE.out)
  have n3 := mk0 ((hb.block _ (blk_lt HKR.out)).trans HKR.out)
  have n4 := mk0 (below_then HB.out HB.out.size hb)
  clear HKB HKE HKR HB
  have HKB := n1
  have HKE := n2
  have HKR := n3
  have HB := n4
  clear n1 n2 n3 n4
  clear hb
  obtain ⟨yp, ys, yA, yn, yc, yV, ypay⟩ := y
  dsimp only
  go_upto_region 4 with (fail)
  have hb5 := below_alloc (Below.refl w2.heap.size w2) (.cells #[.int .i64 yp, .int .i64 ys, .slice yA yn yc, .string ypay] 88)
  have n1 := mk0 ((hb5.block _ (blk_lt HKB.out)).trans HKB.out)
  have n2 := mk0 ((hb5.block _ (blk_lt HKE.out)).trans HKE.out)
  have n3 := mk0 ((hb5.block _ (blk_lt HKR.out)).trans HKR.out)
  have n4 := mk0 (below_then HB.out HB.out.size hb5)
  clear HKB HKE HKR HB
  have HKB := n1
  have HKE := n2
  have HKR := n3
  have HB := n4
  clear n1 n2 n3 n4
  clear hb5
  generalize w2.alloc (.cells #[.int .i64 yp, .int .i64 ys, .slice yA yn yc, .string ypay] 88) = w3 at HKB HKE HKR HB ⊢
  rcases hf with ⟨rfl, hf⟩ | ⟨rfl, hf⟩
  ·
   have HC1 := mk0 (show rpubC S B (xp, xs) xV xpay = 5 by rw [HC0.out, hf]; rfl)
   clear hf
   have y0 := (blk_cell HKR.out 0).trans (show _ = some (Vs none 0 0) from rfl)
   have y1 := (blk_cell HKR.out 1).trans (show _ = some (Vs none 0 0) from rfl)
   have y2 := (blk_cell HKR.out 2).trans (show _ = some (Vs none 0 0) from rfl)
   have y3 := (blk_cell HKR.out 3).trans (show _ = some (Vs none 0 0) from rfl)
   have f0 := blk_frozen HKR.out 0
   have f1 := blk_frozen HKR.out 1
   have f2 := blk_frozen HKR.out 2
   have f3 := blk_frozen HKR.out 3
   have x0 := (blk_cell HKB.out 0).trans (show _ = some (Vs a1 n c1) from rfl)
   have x1 := (blk_cell HKB.out 1).trans (show _ = some (Vs a2 nE c2) from rfl)
   have x2 := (blk_cell HKB.out 2).trans (show _ = some (Vs a3 nU c3) from rfl)
   have x3 := (blk_cell HKB.out 3).trans (show _ = some (Vs a4 nG c4) from rfl)
   go_wp2
   have k0 : ((w3).setCell ⟨gr, 0, none⟩ (Vs a1 n c1)).heap[gr]? = some (.cells #[(Vs a1 n c1), (Vs none 0 0), (Vs none 0 0), (Vs none 0 0)] 41 (0, 0)) := by simpa using blk_set HKR.out 0 (Vs a1 n c1)
   have k1 : (((w3).setCell ⟨gr, 0, none⟩ (Vs a1 n c1)).setCell ⟨gr, 1, none⟩ (Vs a2 nE c2)).heap[gr]? = some (.cells #[(Vs a1 n c1), (Vs a2 nE c2), (Vs none 0 0), (Vs none 0 0)] 41 (0, 0)) := by simpa using blk_set k0 1 (Vs a2 nE c2)
   have k2 : ((((w3).setCell ⟨gr, 0, none⟩ (Vs a1 n c1)).setCell ⟨gr, 1, none⟩ (Vs a2 nE c2)).setCell ⟨gr, 2, none⟩ (Vs a3 nU c3)).heap[gr]? = some (.cells #[(Vs a1 n c1), (Vs a2 nE c2), (Vs a3 nU c3), (Vs none 0 0)] 41 (0, 0)) := by simpa using blk_set k1 2 (Vs a3 nU c3)
   have k3 : (((((w3).setCell ⟨gr, 0, none⟩ (Vs a1 n c1)).setCell ⟨gr, 1, none⟩ (Vs a2 nE c2)).setCell ⟨gr, 2, none⟩ (Vs a3 nU c3)).setCell ⟨gr, 3, none⟩ (Vs a4 nG c4)).heap[gr]? = some (.cells #[(Vs a1 n c1), (Vs a2 nE c2), (Vs a3 nU c3), (Vs a4 nG c4)] 41 (0, 0)) := by simpa using blk_set k2 3 (Vs a4 nG c4)
   have hbf := below_set (j := 3) (v := (Vs a4 nG c4)) (below_set (j := 2) (v := (Vs a3 nU c3)) (below_set (j := 1) (v := (Vs a2 nE c2)) (below_set (j := 0) (v := (Vs a1 n c1)) HB.out HGR.out) HGR.out) HGR.out) HGR.out
   generalize ((((w3).setCell ⟨gr, 0, none⟩ (Vs a1 n c1)).setCell ⟨gr, 1, none⟩ (Vs a2 nE c2)).setCell ⟨gr, 2, none⟩ (Vs a3 nU c3)).setCell ⟨gr, 3, none⟩ (Vs a4 nG c4) = w9 at k3 hbf ⊢
   clear k0 k1 k2
   have z0 := (blk_cell k3 0).trans (show _ = some (Vs a1 n c1) from rfl)
   have z1 := (blk_cell k3 1).trans (show _ = some (Vs a2 nE c2) from rfl)
   have z2 := (blk_cell k3 2).trans (show _ = some (Vs a3 nU c3) from rfl)
   have z3 := (blk_cell k3 3).trans (show _ = some (Vs a4 nG c4) from rfl)
   exact bodyPost_ret (v := .tuple #[.agg #[.slice a1 n c1, .slice a2 nE c2, .slice a3 nU c3, .slice a4 nG c4], .int .i64 5]) (by simp [results, Tryz.results23, go_sem, z0, z1, z2, z3]) rfl (HSAME.out 5 HC1.out (by decide) _ _ rfl hbf)
  ·
   have HC1 := mk0 (show rpubC S B (xp, xs) xV xpay = 0 by rw [HC0.out, hf]; rfl)
   clear hf
   go_upto_region 6 with (fail)
   have HCE := mk0 (show Kd.C kRE w a2 nE B.E by rw [HLE.out.2]; exact HBD.out.ev)
   have hl := HLE.out.1
   rw [← HLE.out.2] at hl
   have HO := mk0 (show Kd.R kRE 88 ((w3).alloc (.cells #[] 88)) w.heap.size (fun k => k ≠ gb ∧ k ≠ ge ∧ k ≠ gr) (.slice (some ⟨(w3).heap.size, 0, none⟩) 0 0) [] from ⟨fun k hk => by
    have hk2 : (w3).heap.size = k := by simpa [Value.ownBlock] using hk
    have l1 := blk_lt HKB.out
    have l2 := blk_lt HKE.out
    have l3 := blk_lt HKR.out
    exact ⟨by omega, by omega, by omega⟩, [], World.ownsRow_lit (base := w.heap.size) (e := 88) (size := (kRE).sz) (w3) #[] 0 HB.out.size (by decide) rfl, Reps.none _ _⟩)
   have hba := below_alloc (Below.refl (w3).heap.size (w3)) (.cells #[] 88)
   have n1 := mk0 ((hba.block _ (blk_lt HKB.out)).trans HKB.out)
   have n2 := mk0 ((hba.block _ (blk_lt HKE.out)).trans HKE.out)
   have n3 := mk0 ((hba.block _ (blk_lt HKR.out)).trans HKR.out)
   have n4 := mk0 (below_then HB.out HB.out.size hba)
   clear HKB HKE HKR HB
   have HKB := n1
   have HKE := n2
   have HKR := n3
   have HB := n4
   clear n1 n2 n3 n4
   clear hba
   have x0 := (blk_cell HKB.out 0).trans (show _ = some (Vs a1 n c1) from rfl)
   have x1 := (blk_cell HKB.out 1).trans (show _ = some (Vs a2 nE c2) from rfl)
   have x2 := (blk_cell HKB.out 2).trans (show _ = some (Vs a3 nU c3) from rfl)
   have x3 := (blk_cell HKB.out 3).trans (show _ = some (Vs a4 nG c4) from rfl)
   go_upto_region 7 with (((with_reducible refine gate_builtin (b := .append) (xs := #[.tmp 30, .tmp 32]) rfl ?_); at_builtin; go_loud (refine Kd.R_append_rows kRE (w0 := w) w.heap.size rfl (.tmp 30) (.tmp 32) 37 88 (.agg #[.int .i64 0, .int .i64 0, .slice none 0 0, .string ⟨#[]⟩]) 56 rfl Tryz.underlying37 infoRE rfl (by decide) (by omega) _ [] B.E a2 nE c2 (fun k => k ≠ gb ∧ k ≠ ge ∧ k ≠ gr) (fun _ => False) rfl rfl HO.out ((Kd.C_below HCE.out HB.out)) (fun x cs hx => kRE_flat x cs hx) (fun _ hk => hk.elim) ?aF HB.out HB.out.size ?aL ?_; (case aF => exact (fun k hk => by have l1 := blk_lt HKB.out; have l2 := blk_lt HKE.out; have l3 := blk_lt HKR.out; exact ⟨by omega, by omega, by omega⟩)); (case aL => simp; omega); intro v9 w9 ho hb hg hat; go_frame)))
   clear x0 x1 x2 x3
   have m1 := mk0 ((hg.block _ (blk_lt HKB.out) (fun e => (HO.out.1 _ e.symm).1 rfl)).trans HKB.out)
   have m2 := mk0 ((hg.block _ (blk_lt HKE.out) (fun e => (HO.out.1 _ e.symm).2.1 rfl)).trans HKE.out)
   have m3 := mk0 ((hg.block _ (blk_lt HKR.out) (fun e => (HO.out.1 _ e.symm).2.2 rfl)).trans HKR.out)
   have m4 := mk0 hb
   have m5 := mk0 ho
   clear HKB HKE HKR HB HO ho hb hg hat
   have HKB := m1
   have HKE := m2
   have HKR := m3
   have HB := m4
   have HO := m5
   clear m1 m2 m3 m4 m5
   have e0 := (blk_cell HKE.out 0).trans (show _ = some (Value.int .i64 xp) from rfl)
   have e1 := (blk_cell HKE.out 1).trans (show _ = some (Value.int .i64 xs) from rfl)
   have e2 := (blk_cell HKE.out 2).trans (show _ = some (Vs xA xn xc) from rfl)
   have e3 := (blk_cell HKE.out 3).trans (show _ = some (Value.string xpay) from rfl)
   rw [List.nil_append] at HO
   have hlE : B.E.length ≤ 100000 := HLE.out.1
   have HLX := mk0 (show (B.E ++ [(⟨xp, xs, xA, xn, xc, xV, xpay⟩ : REv)]).length = nE + 1 by rw [List.length_append, HLE.out.2]; rfl)
   go_upto_region 8 with (((with_reducible refine gate_builtin (b := .append) (xs := #[.tmp 34, .tmp 36]) rfl ?_); at_builtin; go_loud (refine Kd.R_append kRE (w0 := w) w.heap.size rfl (.tmp 34) (.tmp 36) 37 88 (.agg #[.int .i64 0, .int .i64 0, .slice none 0 0, .string ⟨#[]⟩]) 56 rfl Tryz.underlying37 infoRE rfl (by decide) (by omega) _ B.E (⟨xp, xs, xA, xn, xc, xV, xpay⟩ : REv) [.int .i64 xp, .int .i64 xs, .slice xA xn xc, .string xpay] (fun k => k ≠ gb ∧ k ≠ ge ∧ k ≠ gr) (fun _ => False) rfl ?aX ?aP (fun _ hk => hk.elim) ?aF HO.out HB.out HB.out.size ?aL ?_; (case aX => first | rfl | (go_simp; done) | (go_simp; rfl)); (case aP => exact kRE_mkM _ _ _ (⟨xp, xs, xA, xn, xc, xV, xpay⟩ : REv)); (case aF => exact (fun k hk => by have l1 := blk_lt HKB.out; have l2 := blk_lt HKE.out; have l3 := blk_lt HKR.out; exact ⟨by omega, by omega, by omega⟩)); (case aL => omega); intro v9 w9 ho hb hg hat; go_frame)); clear e0 e1 e2 e3; obtain ⟨A9, c9, rfl, hc9, hC9⟩ := Kd.R_reads ho; rw [HLX.out] at ho hc9 hC9 hat ⊢; have HC9 := mk0 (And.intro hc9 hC9); clear hc9 hC9; have m1 := mk0 ((hg.block _ (blk_lt HKB.out) (fun e => (HO.out.1 _ e.symm).1 rfl)).trans HKB.out); have m2 := mk0 ((hg.block _ (blk_lt HKE.out) (fun e => (HO.out.1 _ e.symm).2.1 rfl)).trans HKE.out); have m3 := mk0 ((hg.block _ (blk_lt HKR.out) (fun e => (HO.out.1 _ e.symm).2.2 rfl)).trans HKR.out); have m4 := mk0 hb; have m5 := mk0 ho; clear HKB HKE HKR HB HO ho hb hg hat; have HKB := m1; have HKE := m2; have HKR := m3; have HB := m4; have HO := m5; clear m1 m2 m3 m4 m5; have x1 := (blk_cell HKB.out 1).trans (show _ = some (Vs a2 nE c2) from rfl); have f1 := blk_frozen HKB.out 1)
   clear x1 f1
   have m1 := mk0 (show (w9.setCell ⟨gb, 1, none⟩ (.slice A9 (nE + 1) c9)).heap[gb]? = some (.cells #[.slice a1 n c1, .slice A9 (nE + 1) c9, .slice a3 nU c3, .slice a4 nG c4] 41 (0, 0)) by simpa using blk_set HKB.out 1 (.slice A9 (nE + 1) c9))
   have m2 := mk0 ((Below.heap_setCell w9 ⟨gb, 1, none⟩ (.slice A9 (nE + 1) c9) gr (fun e => HGN.out.2.2.2.1 e.symm)).trans HKR.out)
   have m3 := mk0 (below_set (j := 1) (v := .slice A9 (nE + 1) c9) HB.out (Nat.le_of_eq HGN.out.1.symm))
   have m4 := mk0 (Kd.R_far (p := ⟨gb, 1, none⟩) HO.out (fun k hk => hk.1) (.slice A9 (nE + 1) c9))
   clear HKB HKE HKR HB HO HC9
   generalize w9.setCell ⟨gb, 1, none⟩ (.slice A9 (nE + 1) c9) = w8 at m1 m2 m3 m4 ⊢
   have HKB := m1
   have HKR := m2
   have HB := m3
   have HO8 := m4
   clear m1 m2 m3 m4
   have y0 := (blk_cell HKR.out 0).trans (show _ = some (Vs none 0 0) from rfl)
   have y1 := (blk_cell HKR.out 1).trans (show _ = some (Vs none 0 0) from rfl)
   have y2 := (blk_cell HKR.out 2).trans (show _ = some (Vs none 0 0) from rfl)
   have y3 := (blk_cell HKR.out 3).trans (show _ = some (Vs none 0 0) from rfl)
   have f0 := blk_frozen HKR.out 0
   have f1 := blk_frozen HKR.out 1
   have f2 := blk_frozen HKR.out 2
   have f3 := blk_frozen HKR.out 3
   have x0 := (blk_cell HKB.out 0).trans (show _ = some (Vs a1 n c1) from rfl)
   have x1 := (blk_cell HKB.out 1).trans (show _ = some (Vs A9 (nE + 1) c9) from rfl)
   have x2 := (blk_cell HKB.out 2).trans (show _ = some (Vs a3 nU c3) from rfl)
   have x3 := (blk_cell HKB.out 3).trans (show _ = some (Vs a4 nG c4) from rfl)
   go_wp2
   have k0 : ((w8).setCell ⟨gr, 0, none⟩ (Vs a1 n c1)).heap[gr]? = some (.cells #[(Vs a1 n c1), (Vs none 0 0), (Vs none 0 0), (Vs none 0 0)] 41 (0, 0)) := by simpa using blk_set HKR.out 0 (Vs a1 n c1)
   have k1 : (((w8).setCell ⟨gr, 0, none⟩ (Vs a1 n c1)).setCell ⟨gr, 1, none⟩ (Vs A9 (nE + 1) c9)).heap[gr]? = some (.cells #[(Vs a1 n c1), (Vs A9 (nE + 1) c9), (Vs none 0 0), (Vs none 0 0)] 41 (0, 0)) := by simpa using blk_set k0 1 (Vs A9 (nE + 1) c9)
   have k2 : ((((w8).setCell ⟨gr, 0, none⟩ (Vs a1 n c1)).setCell ⟨gr, 1, none⟩ (Vs A9 (nE + 1) c9)).setCell ⟨gr, 2, none⟩ (Vs a3 nU c3)).heap[gr]? = some (.cells #[(Vs a1 n c1), (Vs A9 (nE + 1) c9), (Vs a3 nU c3), (Vs none 0 0)] 41 (0, 0)) := by simpa using blk_set k1 2 (Vs a3 nU c3)
   have k3 : (((((w8).setCell ⟨gr, 0, none⟩ (Vs a1 n c1)).setCell ⟨gr, 1, none⟩ (Vs A9 (nE + 1) c9)).setCell ⟨gr, 2, none⟩ (Vs a3 nU c3)).setCell ⟨gr, 3, none⟩ (Vs a4 nG c4)).heap[gr]? = some (.cells #[(Vs a1 n c1), (Vs A9 (nE + 1) c9), (Vs a3 nU c3), (Vs a4 nG c4)] 41 (0, 0)) := by simpa using blk_set k2 3 (Vs a4 nG c4)
   have hbf := below_set (j := 3) (v := (Vs a4 nG c4)) (below_set (j := 2) (v := (Vs a3 nU c3)) (below_set (j := 1) (v := (Vs A9 (nE + 1) c9)) (below_set (j := 0) (v := (Vs a1 n c1)) HB.out HGR.out) HGR.out) HGR.out) HGR.out
   have r3 := Kd.R_far (p := ⟨gr, 3, none⟩) (Kd.R_far (p := ⟨gr, 2, none⟩) (Kd.R_far (p := ⟨gr, 1, none⟩) (Kd.R_far (p := ⟨gr, 0, none⟩) HO8.out (fun k hk => hk.2.2) (Vs a1 n c1)) (fun k hk => hk.2.2) (Vs A9 (nE + 1) c9)) (fun k hk => hk.2.2) (Vs a3 nU c3)) (fun k hk => hk.2.2) (Vs a4 nG c4)
   generalize (((w8.setCell ⟨gr, 0, none⟩ (Vs a1 n c1)).setCell ⟨gr, 1, none⟩ (Vs A9 (nE + 1) c9)).setCell ⟨gr, 2, none⟩ (Vs a3 nU c3)).setCell ⟨gr, 3, none⟩ (Vs a4 nG c4) = w7 at k3 hbf r3 ⊢
   clear k0 k1 k2
   have z0 := (blk_cell k3 0).trans (show _ = some (Vs a1 n c1) from rfl)
   have z1 := (blk_cell k3 1).trans (show _ = some (Vs A9 (nE + 1) c9) from rfl)
   have z2 := (blk_cell k3 2).trans (show _ = some (Vs a3 nU c3) from rfl)
   have z3 := (blk_cell k3 3).trans (show _ = some (Vs a4 nG c4) from rfl)
   obtain ⟨A7, c7, hv7, hc7, hC7⟩ := Kd.R_reads r3
   rw [HLX.out] at hv7 hc7 hC7
   have hA7 : A9 = A7 ∧ c9 = c7 := by injection hv7 with h1 h2 h3; exact ⟨h1, h3⟩
   obtain ⟨rfl, rfl⟩ := hA7
   exact bodyPost_ret (v := .tuple #[.agg #[.slice a1 n c1, .slice A9 (nE + 1) c9, .slice a3 nU c3, .slice a4 nG c4], .int .i64 0]) (by simp [results, Tryz.results23, go_sem, z0, z1, z2, z3]) rfl (HDONE.out HC1.out _ _ A9 c9 rfl hbf hc7 hC7)
def RDuePost (w : World) (S : List SA) (B : RB) (t : P2) (e : Ending) (w' : World) : Prop :=
 Below w.heap.size w w' ∧ ((B.E.find? (evIs t) = none ∧ e = .returned (.tuple #[.slice none 0 0, .int .i64 9])) ∨
  (∃ ev A c, B.E.find? (evIs t) = some ev ∧ e = .returned (.tuple #[.slice A (rdueL S B t ev B.U []).length c, .int .i64 0]) ∧ Kd.C kRG w' A (rdueL S B t ev B.U []).length (rdueL S B t ev B.U [])))
theorem rdueL_drop {S : List SA} {B : RB} {t : P2} {e : REv} {i : Nat} {s : RSub} {out : List RGiv} (h : B.U[i]? = some s) : rdueL S B t e (B.U.drop i) out = rdueL S B t e (B.U.drop (i + 1)) (if rdueB S B t e s = true then insG (givOf (keyS s) t) out false else out) := by
 have hl : i < B.U.length := (List.getElem?_eq_some_iff.1 h).1
 rw [List.drop_eq_getElem_cons hl, (List.getElem?_eq_some_iff.1 h).2]
 rfl
theorem insG_drop {g : RGiv} {out : List RGiv} {j : Nat} {x : RGiv} (h : out[j]? = some x) (d : Bool) : insG g (out.drop j) d = (if d = true then x :: insG g (out.drop (j + 1)) true else if ltG g x = true then g :: x :: insG g (out.drop (j + 1)) true else x :: insG g (out.drop (j + 1)) false) := by
 have hl : j < out.length := (List.getElem?_eq_some_iff.1 h).1
 rw [List.drop_eq_getElem_cons hl, (List.getElem?_eq_some_iff.1 h).2]
 cases d <;> rfl
theorem own_lt_ne {α : Type} {k : Kd α} {e : Nat} {w : World} {base : Nat} {ok : Nat → Prop} {v : Value} {xs : List α} (h : Kd.R k e w base ok v xs) {g : Nat} (hg : w.heap.size ≤ g) : ¬ (some g = v.ownBlock) := fun e => by
 obtain ⟨_, inner, ho, _⟩ := h
 have := own_lt ho g e.symm
 omega
theorem insG_len (g : RGiv) (l : List RGiv) : (insG g l false).length = l.length + 1 := by
 induction l with
 | nil => rfl
 | cons x r ih =>
  show (if ltG g x = true then g :: x :: insG g r true else x :: insG g r false).length = _
  split
  ·
   rw [insG_true]; rfl
  ·
   rw [List.length_cons, ih]; rfl
set_option maxHeartbeats 8000000 in
theorem rdue18_calls (n : Nat) (h : RH) (S : List SA) (B : RB) (t : P2) (w : World) (hb : IsRB w S n h B) (hl1 : B.E.length ≤ 100000) (hl : B.U.length ≤ 100000) (hl3 : B.G.length ≤ 100000) (hn9 : n ≤ 100000) (hes : ∀ e ∈ B.E, ∀ v ∈ e.V, v.f1.size ≤ 1000000000) :
 Calls Tryz.prog 11 #[rbV n h B, .int .i64 t.1, .int .i64 t.2] w (RDuePost w S B t) := by
 have HBD := mk0 hb
 have HES := mk0 hes
 obtain ⟨t1, t2⟩ := t
 obtain ⟨a1, c1, a2, c2, a3, c3, a4, c4⟩ := h
 obtain ⟨nE, hnE⟩ : ∃ k, k = B.E.length := ⟨_, rfl⟩
 obtain ⟨nU, hnU⟩ : ∃ k, k = B.U.length := ⟨_, rfl⟩
 obtain ⟨nG, hnG⟩ : ∃ k, k = B.G.length := ⟨_, rfl⟩
 have HFC := mk0 (fun W (hW : Below w.heap.size w W) => rfind18_calls n ⟨a1, c1, a2, c2, a3, c3, a4, c4⟩ S B (t1, t2) W (HBD.out.below hW) hl1)
 have HHC := mk0 (fun (g : RGiv) W (hW : Below w.heap.size w W) => rhas_calls n ⟨a1, c1, a2, c2, a3, c3, a4, c4⟩ S B g W (HBD.out.below hW) hl3)
 have HMC := mk0 (fun (x : REv) (hx : EvRd w x) (hxs : ∀ v ∈ x.V, v.f1.size ≤ 1000000000) (s : RSub) (hs : SubRd w s) W (hW : Below w.heap.size w W) => rmatch_calls a1 s.A x.A n s.n x.n c1 s.c x.c S s.F x.V x.pay W HBD.out.len hs.1 hx.1 (Kd.C_below HBD.out.sch hW) (Kd.C_below hs.2.2.2.2 hW) (Kd.C_below hx.2.2.2 hW) hn9 hs.2.2.1 hs.2.1 hs.2.2.2.1 hxs)
 have HC := mk0 (show Kd.C kRS w a3 nU B.U by rw [hnU]; exact hb.sub)
 have HLE := mk0 (And.intro hl hnU)
 unfold rbV at HFC HHC ⊢
 dsimp only at HFC HHC ⊢
 rw [← hnE, ← hnU, ← hnG] at HFC HHC ⊢
 clear hb hnE hnU hnG hl hes
 have HNO := mk0 (fun (hf : B.E.find? (evIs (t1, t2)) = none) e w' (he : e = .returned (.tuple #[.slice none 0 0, .int .i64 9])) (hbf : Below w.heap.size w w') => show RDuePost w S B (t1, t2) e w' from ⟨hbf, Or.inl ⟨hf, he⟩⟩)
 have HYES := mk0 (fun ev (hf : B.E.find? (evIs (t1, t2)) = some ev) e w' A c (he : e = .returned (.tuple #[.slice A (rdueL S B (t1, t2) ev B.U []).length c, .int .i64 0])) (hbf : Below w.heap.size w w') (hC : Kd.C kRG w' A (rdueL S B (t1, t2) ev B.U []).length (rdueL S B (t1, t2) ev B.U [])) => show RDuePost w S B (t1, t2) e w' from ⟨hbf, Or.inr ⟨ev, A, c, hf, he, hC⟩⟩)
 generalize RDuePost w S B (t1, t2) = POST at HNO HYES ⊢
 go_enter Tryz.func11, Tryz.ntmps11
 go_upto_region 1 with (fail)
 have HB := mk0 (below_alloc (Below.refl w.heap.size w) (.cells #[.slice a1 n c1, .slice a2 nE c2, .slice a3 nU c3, .slice a4 nG c4] 41))
 have HKB := mk0 (heap_alloc_new w (.cells #[.slice a1 n c1, .slice a2 nE c2, .slice a3 nU c3, .slice a4 nG c4] 41))
 generalize w.alloc (.cells #[.slice a1 n c1, .slice a2 nE c2, .slice a3 nU c3, .slice a4 nG c4] 41) = w0 at HB HKB ⊢
 obtain ⟨gb, hgb⟩ : ∃ g, g = w.heap.size := ⟨_, rfl⟩
 rw [← hgb] at HKB ⊢
 clear hgb
 have x0 := (blk_cell HKB.out 0).trans (show _ = some (Vs a1 n c1) from rfl)
 have x1 := (blk_cell HKB.out 1).trans (show _ = some (Vs a2 nE c2) from rfl)
 have x2 := (blk_cell HKB.out 2).trans (show _ = some (Vs a3 nU c3) from rfl)
 have x3 := (blk_cell HKB.out 3).trans (show _ = some (Vs a4 nG c4) from rfl)
 go_wp2_with fail
 refine (HFC.out _ HB.out).mono ?_
 rintro e w1 ⟨y, b, rfl, hb, hf⟩
 clear HFC x0 x1 x2 x3
 have HYM := mk0 (show b = true → EvRd w y ∧ ∀ v ∈ y.V, v.f1.size ≤ 1000000000 from fun hb => by
  rcases hf with ⟨_, hf⟩ | ⟨h0, _⟩
  ·
   have hm := List.mem_of_find?_eq_some hf
   exact ⟨HBD.out.evs y hm, HES.out y hm⟩
  ·
   rw [hb] at h0; cases h0)
 obtain ⟨yp, ys, yA, yn, yc, yV, ypay⟩ := y
 dsimp only
 go_upto_region 2 with (fail)
 have hb5 := below_then hb (below_size hb) (below_alloc (Below.refl w1.heap.size w1) (.cells #[.int .i64 yp, .int .i64 ys, .slice yA yn yc, .string ypay] 88))
 have HKV := mk0 (heap_alloc_new w1 (.cells #[.int .i64 yp, .int .i64 ys, .slice yA yn yc, .string ypay] 88))
 have n1 := mk0 (below_then HB.out HB.out.size hb5)
 have n2 := mk0 ((hb5.block _ (blk_lt HKB.out)).trans HKB.out)
 clear HB HKB hb hb5
 have HB := n1
 have HKB := n2
 clear n1 n2
 generalize w1.alloc (.cells #[.int .i64 yp, .int .i64 ys, .slice yA yn yc, .string ypay] 88) = w2 at HB HKB HKV ⊢
 generalize w1.heap.size = gv at HKV ⊢
 rcases hf with ⟨rfl, hf⟩ | ⟨rfl, hf⟩
 ·
  obtain ⟨hye, hys⟩ := HYM.out rfl
  have HYE := mk0 (And.intro hye hys)
  clear hye hys HYM
  have HMC1 := mk0 (HMC.out _ HYE.out.1 HYE.out.2)
  dsimp only at HMC1
  clear HMC
  obtain ⟨ev, hev⟩ : ∃ ev : REv, ev = ⟨yp, ys, yA, yn, yc, yV, ypay⟩ := ⟨_, rfl⟩
  have HEVF := mk0 (And.intro hev (show B.E.find? (evIs (t1, t2)) = some ev by rw [hev]; exact hf))
  clear hf hev
  have x2 := (blk_cell HKB.out 2).trans (show _ = some (Vs a3 nU c3) from rfl)
  go_upto_region 5 with (fail)
  have hb5 := below_alloc (Below.refl w2.heap.size w2) (.cells #[] 58)
  have HO := mk0 (show Kd.R kRG 58 (w2.alloc (.cells #[] 58)) w.heap.size (fun _ => True) (.slice (some ⟨w2.heap.size, 0, none⟩) 0 0) ([] : List RGiv) from ⟨fun _ _ => trivial, [], World.ownsRow_lit (base := w.heap.size) (e := 58) (size := kRG.sz) w2 #[] 0 HB.out.size (by decide) rfl, Reps.none _ _⟩)
  have n1 := mk0 (below_then HB.out HB.out.size hb5)
  have n2 := mk0 ((hb5.block _ (blk_lt HKB.out)).trans HKB.out)
  have n3 := mk0 ((hb5.block _ (blk_lt HKV.out)).trans HKV.out)
  clear HB HKB HKV hb5 x2
  have HB := n1
  have HKB := n2
  have HKV := n3
  clear n1 n2 n3
  generalize w2.alloc (.cells #[] 58) = w3 at HB HKB HKV HO ⊢
  generalize Vs (some ⟨w2.heap.size, 0, none⟩) 0 0 = v0 at HO ⊢
  have x2 := (blk_cell HKB.out 2).trans (show _ = some (Vs a3 nU c3) from rfl)
  go_upto_region 6 with (fail)
  clear x2
  have hnu : nU ≤ 100000 := by rw [HLE.out.2]; exact HLE.out.1
  have HP := mk0 (show rdueL S B (t1, t2) ev B.U [] = rdueL S B (t1, t2) ev (B.U.drop 0) [] from rfl)
  go_loopg [10, 12, 13, 14, 15, 17, 31] (nU + 1) (fun k v10 v12 v13 v14 v15 v17 v31 W => ∃ (i : Nat) (out : List RGiv), Aside0 (i ≤ nU ∧ k + i = nU + 1 ∧ out.length ≤ i ∧ rdueL S B (t1, t2) ev B.U [] = rdueL S B (t1, t2) ev (B.U.drop i) out) ∧ v31 = .int .i64 (i : Int) ∧ Aside0 (Below w.heap.size w W) ∧ Aside0 (W.heap[gb]? = some (.cells #[.slice a1 n c1, .slice a2 nE c2, .slice a3 nU c3, .slice a4 nG c4] 41 (0, 0))) ∧ Aside0 (W.heap[gv]? = some (.cells #[.int .i64 yp, .int .i64 ys, .slice yA yn yc, .string ypay] 88 (0, 0))) ∧ Aside0 (Kd.R kRG 58 W w.heap.size (fun _ => True) v10 out))
  case atStart => exact ⟨0, [], ⟨by omega, by omega, Nat.le_refl _, HP.out⟩, rfl, HB, HKB, HKV, HO⟩
  case round =>
   clear HB HKB HKV HO HP
   obtain ⟨i, out, HI, rfl, HB, HKB, HKV, HO⟩ := hrel
   by_cases hi : i < nU
   ·
    have b1 : decide ((i : Int) < (nU : Int)) = true := decide_eq_true (by omega)
    have b2 : decide (i < nU) = true := decide_eq_true (by omega)
    have p1 : (0 : Int) ≤ (i : Int) := by omega
    have p2 : (i : Int) < (nU : Int) := by omega
    obtain ⟨ad, s, hA, hs, d0, d1, d2⟩ := at_RS (Kd.C_below HC.out HB.out) i hi
    subst hA
    have HSD := mk0 (rdueL_drop (S := S) (t := (t1, t2)) (e := ev) (out := out) hs)
    have HSR := mk0 (HBD.out.subs s (List.mem_of_getElem? hs))
    have HMC2 := mk0 (HMC1.out s HSR.out)
    clear hs
    obtain ⟨s0, s1, sA, sm, sc, sF⟩ := s
    dsimp only [givOf, keyS] at d0 d1 d2 HMC2 HSD
    have HRD := mk0 (show rdueB S B (t1, t2) ev ⟨s0, s1, sA, sm, sc, sF⟩ = (matchB S sF yV ypay && !(B.G.any fun y => decide (y = (⟨s0, s1, t1, t2⟩ : RGiv)))) by unfold rdueB; rw [HEVF.out.1]; rfl)
    have HHC2 := mk0 (HHC.out ⟨s0, s1, t1, t2⟩)
    dsimp only at HHC2
    go_upto_region 8 with (fail)
    have hb5 := below_alloc (Below.refl wr.heap.size wr) (.cells #[.int .i64 s0, .int .i64 s1, .slice sA sm sc] 111)
    have HKS := mk0 (heap_alloc_new wr (.cells #[.int .i64 s0, .int .i64 s1, .slice sA sm sc] 111))
    have n1 := mk0 (below_then HB.out HB.out.size hb5)
    have n2 := mk0 ((hb5.block _ (blk_lt HKB.out)).trans HKB.out)
    have n3 := mk0 ((hb5.block _ (blk_lt HKV.out)).trans HKV.out)
    have n4 := mk0 (Kd.R_below HO.out hb5)
    clear HB HKB HKV HO hb5 d0 d1 d2
    have HB := n1
    have HKB := n2
    have HKV := n3
    have HO := n4
    clear n1 n2 n3 n4
    generalize wr.alloc (.cells #[.int .i64 s0, .int .i64 s1, .slice sA sm sc] 111) = w4 at HB HKB HKV HO HKS ⊢
    generalize wr.heap.size = gs at HKS ⊢
    have x0 := (blk_cell HKS.out 0).trans (show _ = some (Value.int .i64 s0) from rfl)
    have x1 := (blk_cell HKS.out 1).trans (show _ = some (Value.int .i64 s1) from rfl)
    go_upto_region 9 with (fail)
    have hb5 := below_alloc (Below.refl w4.heap.size w4) (.cells #[.int .i64 s0, .int .i64 s1, .int .i64 t1, .int .i64 t2] 58)
    have HKG := mk0 (heap_alloc_new w4 (.cells #[.int .i64 s0, .int .i64 s1, .int .i64 t1, .int .i64 t2] 58))
    have n1 := mk0 (below_then HB.out HB.out.size hb5)
    have n2 := mk0 ((hb5.block _ (blk_lt HKB.out)).trans HKB.out)
    have n3 := mk0 ((hb5.block _ (blk_lt HKV.out)).trans HKV.out)
    have n4 := mk0 (Kd.R_below HO.out hb5)
    have n5 := mk0 ((hb5.block _ (blk_lt HKS.out)).trans HKS.out)
    clear HB HKB HKV HO HKS hb5 x0 x1
    have HB := n1
    have HKB := n2
    have HKV := n3
    have HO := n4
    have HKS := n5
    clear n1 n2 n3 n4 n5
    generalize w4.alloc (.cells #[.int .i64 s0, .int .i64 s1, .int .i64 t1, .int .i64 t2] 58) = w5 at HB HKB HKV HO HKS HKG ⊢
    generalize w4.heap.size = gg at HKG ⊢
    have x0 := (blk_cell HKB.out 0).trans (show _ = some (Vs a1 n c1) from rfl)
    have k2 := (blk_cell HKS.out 2).trans (show _ = some (Vs sA sm sc) from rfl)
    have z2 := (blk_cell HKV.out 2).trans (show _ = some (Vs yA yn yc) from rfl)
    have z3 := (blk_cell HKV.out 3).trans (show _ = some (Value.string ypay) from rfl)
    go_wp2_with fail
    refine (HMC2.out w5 HB.out).mono ?_
    rintro e w6 ⟨rfl, hb5⟩
    have n1 := mk0 (below_then HB.out HB.out.size hb5)
    have n2 := mk0 ((hb5.block _ (blk_lt HKB.out)).trans HKB.out)
    have n3 := mk0 ((hb5.block _ (blk_lt HKV.out)).trans HKV.out)
    have n4 := mk0 (Kd.R_below HO.out hb5)
    have n5 := mk0 ((hb5.block _ (blk_lt HKG.out)).trans HKG.out)
    clear HB HKB HKV HO HKS HKG hb5 x0 k2 z2 z3
    have HB := n1
    have HKB := n2
    have HKV := n3
    have HO := n4
    have HKG := n5
    clear n1 n2 n3 n4 n5 HMC2
    cases hmt : matchB S sF yV ypay with
    | false =>
     have hd : rdueB S B (t1, t2) ev ⟨s0, s1, sA, sm, sc, sF⟩ = false := by rw [HRD.out, hmt]; rfl
     have hsd := HSD.out
     rw [if_neg (by rw [hd]; simp)] at hsd
     have HFF := mk0 hsd
     clear hd hsd hmt
     go_wp2_with fail
     go_roundg (gk - 1)
     case measure => have := HI.out; omega
     case rel => exact ⟨i + 1, out, ⟨by omega, by have := HI.out; omega, by have := HI.out; omega, by rw [HI.out.2.2.2, HFF.out]⟩, (by first | rfl | (rw [wrap_in (by omega) (by omega), show (i : Int) + 1 = ((i + 1 : Nat) : Int) by omega])), HB, HKB, HKV, HO⟩
    | true =>
     have x0 := (blk_cell HKB.out 0).trans (show _ = some (Vs a1 n c1) from rfl)
     have x1 := (blk_cell HKB.out 1).trans (show _ = some (Vs a2 nE c2) from rfl)
     have x2 := (blk_cell HKB.out 2).trans (show _ = some (Vs (some ad) nU c3) from rfl)
     have x3 := (blk_cell HKB.out 3).trans (show _ = some (Vs a4 nG c4) from rfl)
     have y0 := (blk_cell HKG.out 0).trans (show _ = some (Value.int .i64 s0) from rfl)
     have y1 := (blk_cell HKG.out 1).trans (show _ = some (Value.int .i64 s1) from rfl)
     have y2 := (blk_cell HKG.out 2).trans (show _ = some (Value.int .i64 t1) from rfl)
     have y3 := (blk_cell HKG.out 3).trans (show _ = some (Value.int .i64 t2) from rfl)
     go_wp2_with fail
     refine (HHC2.out w6 HB.out).mono ?_
     rintro e w7 ⟨rfl, hb5⟩
     have n1 := mk0 (below_then HB.out HB.out.size hb5)
     have n2 := mk0 ((hb5.block _ (blk_lt HKB.out)).trans HKB.out)
     have n3 := mk0 ((hb5.block _ (blk_lt HKV.out)).trans HKV.out)
     have n4 := mk0 (Kd.R_below HO.out hb5)
     have n5 := mk0 ((hb5.block _ (blk_lt HKG.out)).trans HKG.out)
     clear HB HKB HKV HO HKG hb5 x0 x1 x2 x3 y0 y1 y2 y3
     have HB := n1
     have HKB := n2
     have HKV := n3
     have HO := n4
     have HKG := n5
     clear n1 n2 n3 n4 n5 HHC2
     cases hgt : B.G.any (fun y => decide (y = (⟨s0, s1, t1, t2⟩ : RGiv))) with
     | true =>
      have hd : rdueB S B (t1, t2) ev ⟨s0, s1, sA, sm, sc, sF⟩ = false := by rw [HRD.out, hmt, hgt]; rfl
      have hsd := HSD.out
      rw [if_neg (by rw [hd]; simp)] at hsd
      have HFF := mk0 hsd
      clear hd hsd hmt hgt
      go_wp2_with fail
      go_roundg (gk - 1)
      case measure => have := HI.out; omega
      case rel => exact ⟨i + 1, out, ⟨by omega, by have := HI.out; omega, by have := HI.out; omega, by rw [HI.out.2.2.2, HFF.out]⟩, (by first | rfl | (rw [wrap_in (by omega) (by omega), show (i : Int) + 1 = ((i + 1 : Nat) : Int) by omega])), HB, HKB, HKV, HO⟩
     | false =>
      have hd : rdueB S B (t1, t2) ev ⟨s0, s1, sA, sm, sc, sF⟩ = true := by rw [HRD.out, hmt, hgt]; rfl
      have hsd := HSD.out
      rw [if_pos hd] at hsd
      have HFS := mk0 hsd
      clear hd hsd hmt hgt HSD HRD
      go_upto_region 11 with (fail)
      obtain ⟨A8, c8, rfl, _, hC8⟩ := Kd.R_reads HO.out
      have HOC := mk0 hC8
      have HOL := mk0 (show out.length ≤ 100000 by have := HI.out; omega)
      clear HO hC8
      obtain ⟨nO, hnO⟩ : ∃ k, k = out.length := ⟨_, rfl⟩
      rw [← hnO] at HOC HOL ⊢
      have HNO2 := mk0 hnO
      clear hnO
      obtain ⟨W1, hW1⟩ : ∃ W, W = w7 := ⟨_, rfl⟩
      subst hW1
      have HW := mk0 (below_alloc (Below.refl W1.heap.size W1) (.cells #[] 58))
      have HO := mk0 (show Kd.R kRG 58 (W1.alloc (.cells #[] 58)) W1.heap.size (fun _ => True) (.slice (some ⟨W1.heap.size, 0, none⟩) 0 0) ([] : List RGiv) from ⟨fun _ _ => trivial, [], World.ownsRow_lit (base := W1.heap.size) (e := 58) (size := kRG.sz) W1 #[] 0 (Nat.le_refl _) (by decide) rfl, Reps.none _ _⟩)
      generalize W1.alloc (.cells #[] 58) = w8 at HW HO ⊢
      generalize Vs (some ⟨W1.heap.size, 0, none⟩) 0 0 = v8 at HO ⊢
      have HP := mk0 (show insG ⟨s0, s1, t1, t2⟩ out false = [] ++ insG ⟨s0, s1, t1, t2⟩ (out.drop 0) false from rfl)
      go_upto_region 13 with (fail)
      obtain ⟨gko, rfl⟩ : ∃ g, g = gk := ⟨gk, rfl⟩
      go_loopg [14, 15, 17, 61] (nO + 1) (fun k v14 v15 v17 v61 W => ∃ (j : Nat) (nxt : List RGiv) (dn : Bool), Aside0 (j ≤ nO ∧ k + j = nO + 1 ∧ nxt.length ≤ 2 * j ∧ insG ⟨s0, s1, t1, t2⟩ out false = nxt ++ insG ⟨s0, s1, t1, t2⟩ (out.drop j) dn) ∧ v61 = .int .i64 (j : Int) ∧ v15 = .bool dn ∧ Aside0 (Kd.R kRG 58 W W1.heap.size (fun _ => True) v14 nxt) ∧ Aside0 (Below W1.heap.size W1 W))
      case atStart => exact ⟨0, [], false, ⟨by omega, by omega, Nat.le_refl _, HP.out⟩, rfl, rfl, HO, HW⟩
      case round =>
       clear HO HW HP
       obtain ⟨j, nxt, dn, HJ, rfl, rfl, HO, HW⟩ := hrel
       by_cases hj : j < nO
       ·
        have c1 : decide ((j : Int) < (nO : Int)) = true := decide_eq_true (by omega)
        have c2 : decide (j < nO) = true := decide_eq_true (by omega)
        have r1 : (0 : Int) ≤ (j : Int) := by omega
        have r2 : (j : Int) < (nO : Int) := by omega
        have hnl : nxt.length ≤ 200000 := by have := HJ.out; have := HOL.out; omega
        have hno := HOL.out
        obtain ⟨ad2, x, hA2, hx, d0, d1, d2, d3⟩ := at_RG (Kd.C_below HOC.out HW.out) j hj
        subst hA2
        have HID := mk0 (insG_drop (g := ⟨s0, s1, t1, t2⟩) hx dn)
        clear hx
        obtain ⟨xa, xb, xc, xd⟩ := x
        dsimp only at d0 d1 d2 d3
        go_upto_region 15 with (fail)
        have hb5 := below_alloc (Below.refl wr.heap.size wr) (.cells #[.int .i64 xa, .int .i64 xb, .int .i64 xc, .int .i64 xd] 58)
        have kx := heap_alloc_new wr (.cells #[.int .i64 xa, .int .i64 xb, .int .i64 xc, .int .i64 xd] 58)
        have m1 := mk0 (below_then HW.out HW.out.size hb5)
        have m2 := mk0 (Kd.R_alloc HO.out (.cells #[.int .i64 xa, .int .i64 xb, .int .i64 xc, .int .i64 xd] 58))
        have HNX := mk0 (fun e => own_lt_ne HO.out (g := wr.heap.size) (Nat.le_refl _) e)
        clear HW HO hb5 d0 d1 d2 d3
        have HW := m1
        have HO := m2
        clear m1 m2
        generalize wr.alloc (.cells #[.int .i64 xa, .int .i64 xb, .int .i64 xc, .int .i64 xd] 58) = wx at kx HW HO ⊢
        generalize wr.heap.size = gx at kx HNX ⊢
        have x0 := (blk_cell kx 0).trans (show _ = some (Value.int .i64 xa) from rfl)
        have x1 := (blk_cell kx 1).trans (show _ = some (Value.int .i64 xb) from rfl)
        have x2 := (blk_cell kx 2).trans (show _ = some (Value.int .i64 xc) from rfl)
        have x3 := (blk_cell kx 3).trans (show _ = some (Value.int .i64 xd) from rfl)
        have hgg := (HW.out.block _ (blk_lt HKG.out)).trans HKG.out
        have y0 := (blk_cell hgg 0).trans (show _ = some (Value.int .i64 s0) from rfl)
        have y1 := (blk_cell hgg 1).trans (show _ = some (Value.int .i64 s1) from rfl)
        have y2 := (blk_cell hgg 2).trans (show _ = some (Value.int .i64 t1) from rfl)
        have y3 := (blk_cell hgg 3).trans (show _ = some (Value.int .i64 t2) from rfl)
        clear hgg
        cases dn with
        | true =>
         have HFF := mk0 (show insG ⟨s0, s1, t1, t2⟩ out false = (nxt ++ [⟨xa, xb, xc, xd⟩]) ++ insG ⟨s0, s1, t1, t2⟩ (out.drop (j + 1)) true from (by rw [HJ.out.2.2.2, HID.out, if_pos rfl, List.append_assoc]; rfl))
         go_wp2_with (((with_reducible refine gate_builtin (b := .append) (xs := #[.tmp 92, .tmp 94]) rfl ?_); at_builtin; go_loud (refine Kd.R_append kRG (w0 := W1) W1.heap.size rfl (.tmp 92) (.tmp 94) 39 58 (.agg #[.int .i64 0, .int .i64 0, .int .i64 0, .int .i64 0]) 32 rfl Tryz.underlying39 infoRG rfl (by decide) (by omega) _ nxt (⟨xa, xb, xc, xd⟩ : RGiv) [.int .i64 xa, .int .i64 xb, .int .i64 xc, .int .i64 xd] (fun _ => True) (fun _ => False) rfl ?aX ?aP (fun _ hk => hk.elim) ?aF HO.out HW.out HW.out.size ?aL ?_; (case aX => first | rfl | (go_simp; done) | (go_simp; rfl)); (case aP => exact kRG_mkM _ _ _ (⟨xa, xb, xc, xd⟩ : RGiv)); (case aF => exact (fun _ _ => trivial)); (case aL => omega); intro v9 w9 ho hb hg hat; go_frame)))
         have m4 := mk0 hb
         have m5 := mk0 ho
         clear HW HO ho hb hg hat
         have HW := m4
         have HO := m5
         clear m4 m5
         go_roundg (gk - 1)
         case measure => have := HJ.out; omega
         case rel => exact ⟨j + 1, _, true, ⟨by omega, by have := HJ.out; omega, by rw [List.length_append]; have := HJ.out; simp; omega, HFF.out⟩, (by first | rfl | (rw [wrap_in (by omega) (by omega), show (j : Int) + 1 = ((j + 1 : Nat) : Int) by omega])), rfl, HO, HW⟩
        | false =>
         have HIF := mk0 (show insG ⟨s0, s1, t1, t2⟩ (out.drop j) false = (if ltG ⟨s0, s1, t1, t2⟩ ⟨xa, xb, xc, xd⟩ = true then ⟨s0, s1, t1, t2⟩ :: ⟨xa, xb, xc, xd⟩ :: insG ⟨s0, s1, t1, t2⟩ (out.drop (j + 1)) true else ⟨xa, xb, xc, xd⟩ :: insG ⟨s0, s1, t1, t2⟩ (out.drop (j + 1)) false) by rw [HID.out, if_neg (by decide)])
         clear HID
         by_cases u1 : s0 < xa
         ·
          have o1 : decide (s0 < xa) = true := decide_eq_true u1
          have hlt : ltG ⟨s0, s1, t1, t2⟩ ⟨xa, xb, xc, xd⟩ = true := ltG_iff.2 (Or.inl u1)
          clear u1
          have HFF := mk0 (show insG ⟨s0, s1, t1, t2⟩ out false = ((nxt ++ [⟨s0, s1, t1, t2⟩]) ++ [⟨xa, xb, xc, xd⟩]) ++ insG ⟨s0, s1, t1, t2⟩ (out.drop (j + 1)) true from (by rw [HJ.out.2.2.2, HIF.out, if_pos hlt, List.append_assoc, List.append_assoc]; rfl))
          have hl1 : (nxt ++ [(⟨s0, s1, t1, t2⟩ : RGiv)]).length ≤ 200001 := by rw [List.length_append]; simp; omega
          go_upto_region 17 with (((with_reducible refine gate_builtin (b := .append) (xs := #[.tmp 88, .tmp 90]) rfl ?_); at_builtin; go_loud (refine Kd.R_append kRG (w0 := W1) W1.heap.size rfl (.tmp 88) (.tmp 90) 39 58 (.agg #[.int .i64 0, .int .i64 0, .int .i64 0, .int .i64 0]) 32 rfl Tryz.underlying39 infoRG rfl (by decide) (by omega) _ nxt (⟨s0, s1, t1, t2⟩ : RGiv) [.int .i64 s0, .int .i64 s1, .int .i64 t1, .int .i64 t2] (fun _ => True) (fun _ => False) rfl ?aX ?aP (fun _ hk => hk.elim) ?aF HO.out HW.out HW.out.size ?aL ?_; (case aX => first | rfl | (go_simp; done) | (go_simp; rfl)); (case aP => exact kRG_mkM _ _ _ (⟨s0, s1, t1, t2⟩ : RGiv)); (case aF => exact (fun _ _ => trivial)); (case aL => omega); intro v9 w9 ho hb hg hat; go_frame)))
          have kx9 := (hg.block _ (blk_lt kx) (fun e => HNX.out e)).trans kx
          clear x0 x1 x2 x3 y0 y1 y2 y3 kx
          have kx := kx9
          clear kx9
          have x0 := (blk_cell kx 0).trans (show _ = some (Value.int .i64 xa) from rfl)
          have x1 := (blk_cell kx 1).trans (show _ = some (Value.int .i64 xb) from rfl)
          have x2 := (blk_cell kx 2).trans (show _ = some (Value.int .i64 xc) from rfl)
          have x3 := (blk_cell kx 3).trans (show _ = some (Value.int .i64 xd) from rfl)
          have m4 := mk0 hb
          have m5 := mk0 ho
          clear HW HO ho hb hg hat
          have HW := m4
          have HO := m5
          clear m4 m5
          go_wp2_with (((with_reducible refine gate_builtin (b := .append) (xs := #[.tmp 92, .tmp 94]) rfl ?_); at_builtin; go_loud (refine Kd.R_append kRG (w0 := W1) W1.heap.size rfl (.tmp 92) (.tmp 94) 39 58 (.agg #[.int .i64 0, .int .i64 0, .int .i64 0, .int .i64 0]) 32 rfl Tryz.underlying39 infoRG rfl (by decide) (by omega) _ (nxt ++ [(⟨s0, s1, t1, t2⟩ : RGiv)]) (⟨xa, xb, xc, xd⟩ : RGiv) [.int .i64 xa, .int .i64 xb, .int .i64 xc, .int .i64 xd] (fun _ => True) (fun _ => False) rfl ?aX ?aP (fun _ hk => hk.elim) ?aF HO.out HW.out HW.out.size ?aL ?_; (case aX => first | rfl | (go_simp; done) | (go_simp; rfl)); (case aP => exact kRG_mkM _ _ _ (⟨xa, xb, xc, xd⟩ : RGiv)); (case aF => exact (fun _ _ => trivial)); (case aL => omega); intro v9 w9 ho hb hg hat; go_frame)))
          have m4 := mk0 hb
          have m5 := mk0 ho
          clear HW HO ho hb hg hat
          have HW := m4
          have HO := m5
          clear m4 m5
          go_roundg (gk - 1)
          case measure => have := HJ.out; omega
          case rel => exact ⟨j + 1, _, true, ⟨by omega, by have := HJ.out; omega, by rw [List.length_append, List.length_append]; have := HJ.out; simp; omega, HFF.out⟩, (by first | rfl | (rw [wrap_in (by omega) (by omega), show (j : Int) + 1 = ((j + 1 : Nat) : Int) by omega])), rfl, HO, HW⟩
         ·
          have o1 : decide (s0 < xa) = false := decide_eq_false u1
          by_cases u2 : s0 = xa
          ·
           have o2 : (s0 == xa) = true := by simpa using u2
           by_cases u3 : s1 < xb
           ·
            have o3 : decide (s1 < xb) = true := decide_eq_true u3
            have hlt : ltG ⟨s0, s1, t1, t2⟩ ⟨xa, xb, xc, xd⟩ = true := ltG_iff.2 (Or.inr ⟨u2, u3⟩)
            clear u1 u2 u3
            have HFF := mk0 (show insG ⟨s0, s1, t1, t2⟩ out false = ((nxt ++ [⟨s0, s1, t1, t2⟩]) ++ [⟨xa, xb, xc, xd⟩]) ++ insG ⟨s0, s1, t1, t2⟩ (out.drop (j + 1)) true from (by rw [HJ.out.2.2.2, HIF.out, if_pos hlt, List.append_assoc, List.append_assoc]; rfl))
            have hl1 : (nxt ++ [(⟨s0, s1, t1, t2⟩ : RGiv)]).length ≤ 200001 := by rw [List.length_append]; simp; omega
            go_upto_region 17 with (((with_reducible refine gate_builtin (b := .append) (xs := #[.tmp 88, .tmp 90]) rfl ?_); at_builtin; go_loud (refine Kd.R_append kRG (w0 := W1) W1.heap.size rfl (.tmp 88) (.tmp 90) 39 58 (.agg #[.int .i64 0, .int .i64 0, .int .i64 0, .int .i64 0]) 32 rfl Tryz.underlying39 infoRG rfl (by decide) (by omega) _ nxt (⟨s0, s1, t1, t2⟩ : RGiv) [.int .i64 s0, .int .i64 s1, .int .i64 t1, .int .i64 t2] (fun _ => True) (fun _ => False) rfl ?aX ?aP (fun _ hk => hk.elim) ?aF HO.out HW.out HW.out.size ?aL ?_; (case aX => first | rfl | (go_simp; done) | (go_simp; rfl)); (case aP => exact kRG_mkM _ _ _ (⟨s0, s1, t1, t2⟩ : RGiv)); (case aF => exact (fun _ _ => trivial)); (case aL => omega); intro v9 w9 ho hb hg hat; go_frame)))
            have kx9 := (hg.block _ (blk_lt kx) (fun e => HNX.out e)).trans kx
            clear x0 x1 x2 x3 y0 y1 y2 y3 kx
            have kx := kx9
            clear kx9
            have x0 := (blk_cell kx 0).trans (show _ = some (Value.int .i64 xa) from rfl)
            have x1 := (blk_cell kx 1).trans (show _ = some (Value.int .i64 xb) from rfl)
            have x2 := (blk_cell kx 2).trans (show _ = some (Value.int .i64 xc) from rfl)
            have x3 := (blk_cell kx 3).trans (show _ = some (Value.int .i64 xd) from rfl)
            have m4 := mk0 hb
            have m5 := mk0 ho
            clear HW HO ho hb hg hat
            have HW := m4
            have HO := m5
            clear m4 m5
            go_wp2_with (((with_reducible refine gate_builtin (b := .append) (xs := #[.tmp 92, .tmp 94]) rfl ?_); at_builtin; go_loud (refine Kd.R_append kRG (w0 := W1) W1.heap.size rfl (.tmp 92) (.tmp 94) 39 58 (.agg #[.int .i64 0, .int .i64 0, .int .i64 0, .int .i64 0]) 32 rfl Tryz.underlying39 infoRG rfl (by decide) (by omega) _ (nxt ++ [(⟨s0, s1, t1, t2⟩ : RGiv)]) (⟨xa, xb, xc, xd⟩ : RGiv) [.int .i64 xa, .int .i64 xb, .int .i64 xc, .int .i64 xd] (fun _ => True) (fun _ => False) rfl ?aX ?aP (fun _ hk => hk.elim) ?aF HO.out HW.out HW.out.size ?aL ?_; (case aX => first | rfl | (go_simp; done) | (go_simp; rfl)); (case aP => exact kRG_mkM _ _ _ (⟨xa, xb, xc, xd⟩ : RGiv)); (case aF => exact (fun _ _ => trivial)); (case aL => omega); intro v9 w9 ho hb hg hat; go_frame)))
            have m4 := mk0 hb
            have m5 := mk0 ho
            clear HW HO ho hb hg hat
            have HW := m4
            have HO := m5
            clear m4 m5
            go_roundg (gk - 1)
            case measure => have := HJ.out; omega
            case rel => exact ⟨j + 1, _, true, ⟨by omega, by have := HJ.out; omega, by rw [List.length_append, List.length_append]; have := HJ.out; simp; omega, HFF.out⟩, (by first | rfl | (rw [wrap_in (by omega) (by omega), show (j : Int) + 1 = ((j + 1 : Nat) : Int) by omega])), rfl, HO, HW⟩
           ·
            have o3 : decide (s1 < xb) = false := decide_eq_false u3
            have hlt : ¬ ltG ⟨s0, s1, t1, t2⟩ ⟨xa, xb, xc, xd⟩ = true := fun h => by
             rcases ltG_iff.1 h with h | h
             ·
              exact u1 h
             ·
              exact u3 h.2
            clear u1 u2 u3
            have HFF := mk0 (show insG ⟨s0, s1, t1, t2⟩ out false = (nxt ++ [⟨xa, xb, xc, xd⟩]) ++ insG ⟨s0, s1, t1, t2⟩ (out.drop (j + 1)) false from (by rw [HJ.out.2.2.2, HIF.out, if_neg hlt, List.append_assoc]; rfl))
            go_wp2_with (((with_reducible refine gate_builtin (b := .append) (xs := #[.tmp 92, .tmp 94]) rfl ?_); at_builtin; go_loud (refine Kd.R_append kRG (w0 := W1) W1.heap.size rfl (.tmp 92) (.tmp 94) 39 58 (.agg #[.int .i64 0, .int .i64 0, .int .i64 0, .int .i64 0]) 32 rfl Tryz.underlying39 infoRG rfl (by decide) (by omega) _ nxt (⟨xa, xb, xc, xd⟩ : RGiv) [.int .i64 xa, .int .i64 xb, .int .i64 xc, .int .i64 xd] (fun _ => True) (fun _ => False) rfl ?aX ?aP (fun _ hk => hk.elim) ?aF HO.out HW.out HW.out.size ?aL ?_; (case aX => first | rfl | (go_simp; done) | (go_simp; rfl)); (case aP => exact kRG_mkM _ _ _ (⟨xa, xb, xc, xd⟩ : RGiv)); (case aF => exact (fun _ _ => trivial)); (case aL => omega); intro v9 w9 ho hb hg hat; go_frame)))
            have m4 := mk0 hb
            have m5 := mk0 ho
            clear HW HO ho hb hg hat
            have HW := m4
            have HO := m5
            clear m4 m5
            go_roundg (gk - 1)
            case measure => have := HJ.out; omega
            case rel => exact ⟨j + 1, _, false, ⟨by omega, by have := HJ.out; omega, by rw [List.length_append]; have := HJ.out; simp; omega, HFF.out⟩, (by first | rfl | (rw [wrap_in (by omega) (by omega), show (j : Int) + 1 = ((j + 1 : Nat) : Int) by omega])), rfl, HO, HW⟩
          ·
           have o2 : (s0 == xa) = false := by simpa using u2
           have hlt : ¬ ltG ⟨s0, s1, t1, t2⟩ ⟨xa, xb, xc, xd⟩ = true := fun h => by
            rcases ltG_iff.1 h with h | h
            ·
             exact u1 h
            ·
             exact u2 h.1
           clear u1 u2
           have HFF := mk0 (show insG ⟨s0, s1, t1, t2⟩ out false = (nxt ++ [⟨xa, xb, xc, xd⟩]) ++ insG ⟨s0, s1, t1, t2⟩ (out.drop (j + 1)) false from (by rw [HJ.out.2.2.2, HIF.out, if_neg hlt, List.append_assoc]; rfl))
           go_wp2_with (((with_reducible refine gate_builtin (b := .append) (xs := #[.tmp 92, .tmp 94]) rfl ?_); at_builtin; go_loud (refine Kd.R_append kRG (w0 := W1) W1.heap.size rfl (.tmp 92) (.tmp 94) 39 58 (.agg #[.int .i64 0, .int .i64 0, .int .i64 0, .int .i64 0]) 32 rfl Tryz.underlying39 infoRG rfl (by decide) (by omega) _ nxt (⟨xa, xb, xc, xd⟩ : RGiv) [.int .i64 xa, .int .i64 xb, .int .i64 xc, .int .i64 xd] (fun _ => True) (fun _ => False) rfl ?aX ?aP (fun _ hk => hk.elim) ?aF HO.out HW.out HW.out.size ?aL ?_; (case aX => first | rfl | (go_simp; done) | (go_simp; rfl)); (case aP => exact kRG_mkM _ _ _ (⟨xa, xb, xc, xd⟩ : RGiv)); (case aF => exact (fun _ _ => trivial)); (case aL => omega); intro v9 w9 ho hb hg hat; go_frame)))
           have m4 := mk0 hb
           have m5 := mk0 ho
           clear HW HO ho hb hg hat
           have HW := m4
           have HO := m5
           clear m4 m5
           go_roundg (gk - 1)
           case measure => have := HJ.out; omega
           case rel => exact ⟨j + 1, _, false, ⟨by omega, by have := HJ.out; omega, by rw [List.length_append]; have := HJ.out; simp; omega, HFF.out⟩, (by first | rfl | (rw [wrap_in (by omega) (by omega), show (j : Int) + 1 = ((j + 1 : Nat) : Int) by omega])), rfl, HO, HW⟩
       ·
        have c1 : decide ((j : Int) < (nO : Int)) = false := decide_eq_false (by omega)
        have c2 : decide (j < nO) = false := decide_eq_false (by omega)
        have hnl : nxt.length ≤ 200000 := by have := HJ.out; have := HOL.out; omega
        have hdr : out.drop j = [] := List.drop_of_length_le (by have := HNO2.out; omega)
        have hil := insG_len ⟨s0, s1, t1, t2⟩ out
        cases dn with
        | true =>
         have hE : insG ⟨s0, s1, t1, t2⟩ out false = nxt := by rw [HJ.out.2.2.2, hdr]; show nxt ++ [] = nxt; exact List.append_nil _
         have m1 := mk0 (below_then HB.out HB.out.size HW.out)
         have m2 := mk0 ((HW.out.block _ (blk_lt HKB.out)).trans HKB.out)
         have m3 := mk0 ((HW.out.block _ (blk_lt HKV.out)).trans HKV.out)
         have m4 := mk0 (Kd.R_lower HO.out HB.out.size)
         clear HB HKB HKV HO HW
         go_wp2_with fail
         go_roundg (gko - 1)
         case measure => have := HI.out; omega
         case rel => exact ⟨i + 1, nxt, ⟨by omega, by have := HI.out; omega, by rw [← hE, hil]; have := HI.out; omega, by rw [HI.out.2.2.2, HFS.out, hE]⟩, (by first | rfl | (rw [wrap_in (by omega) (by omega), show (i : Int) + 1 = ((i + 1 : Nat) : Int) by omega])), m1, m2, m3, m4⟩
        | false =>
         have hE : insG ⟨s0, s1, t1, t2⟩ out false = nxt ++ [⟨s0, s1, t1, t2⟩] := by rw [HJ.out.2.2.2, hdr]; rfl
         have hgg := (HW.out.block _ (blk_lt HKG.out)).trans HKG.out
         have y0 := (blk_cell hgg 0).trans (show _ = some (Value.int .i64 s0) from rfl)
         have y1 := (blk_cell hgg 1).trans (show _ = some (Value.int .i64 s1) from rfl)
         have y2 := (blk_cell hgg 2).trans (show _ = some (Value.int .i64 t1) from rfl)
         have y3 := (blk_cell hgg 3).trans (show _ = some (Value.int .i64 t2) from rfl)
         clear hgg
         go_wp2_with (((with_reducible refine gate_builtin (b := .append) (xs := #[.tmp 99, .tmp 101]) rfl ?_); at_builtin; go_loud (refine Kd.R_append kRG (w0 := W1) W1.heap.size rfl (.tmp 99) (.tmp 101) 39 58 (.agg #[.int .i64 0, .int .i64 0, .int .i64 0, .int .i64 0]) 32 rfl Tryz.underlying39 infoRG rfl (by decide) (by omega) _ nxt (⟨s0, s1, t1, t2⟩ : RGiv) [.int .i64 s0, .int .i64 s1, .int .i64 t1, .int .i64 t2] (fun _ => True) (fun _ => False) rfl ?aX ?aP (fun _ hk => hk.elim) ?aF HO.out HW.out HW.out.size ?aL ?_; (case aX => first | rfl | (go_simp; done) | (go_simp; rfl)); (case aP => exact kRG_mkM _ _ _ (⟨s0, s1, t1, t2⟩ : RGiv)); (case aF => exact (fun _ _ => trivial)); (case aL => omega); intro v9 w9 ho hb hg hat; go_frame)))
         have m4 := mk0 hb
         have m5 := mk0 ho
         clear HW HO ho hb hg hat
         have HW := m4
         have HO := m5
         clear m4 m5
         have m1 := mk0 (below_then HB.out HB.out.size HW.out)
         have m2 := mk0 ((HW.out.block _ (blk_lt HKB.out)).trans HKB.out)
         have m3 := mk0 ((HW.out.block _ (blk_lt HKV.out)).trans HKV.out)
         have m4 := mk0 (Kd.R_lower HO.out HB.out.size)
         clear HB HKB HKV HO HW
         go_roundg (gko - 1)
         case measure => have := HI.out; omega
         case rel => exact ⟨i + 1, _, ⟨by omega, by have := HI.out; omega, by rw [← hE, hil]; have := HI.out; omega, by rw [HI.out.2.2.2, HFS.out, hE]⟩, (by first | rfl | (rw [wrap_in (by omega) (by omega), show (i : Int) + 1 = ((i + 1 : Nat) : Int) by omega])), m1, m2, m3, m4⟩
   ·
    have b1 : decide ((i : Int) < (nU : Int)) = false := decide_eq_false (by omega)
    have b2 : decide (i < nU) = false := decide_eq_false (by omega)
    have hE : rdueL S B (t1, t2) ev B.U [] = out := by
     rw [HI.out.2.2.2, List.drop_of_length_le (by have := HLE.out.2; omega)]
     rfl
    obtain ⟨A9, c9, rfl, _, hC9⟩ := Kd.R_reads HO.out
    have hfin := HYES.out ev HEVF.out.2 (.returned (.tuple #[.slice A9 out.length c9, .int .i64 0])) wr A9 c9 (by rw [hE]) HB.out (by rw [hE]; exact hC9)
    clear hE hC9 HO HKB HKV
    go_wp2
    try go_ret2
    exact hfin
 ·
  have hfin := HNO.out hf (.returned (.tuple #[.slice none 0 0, .int .i64 9])) w2 rfl HB.out
  go_wp2
  try go_ret2
  exact hfin
end Go.Proofs.YtlokmijoaocofaaGreatDoor.Mine
end
