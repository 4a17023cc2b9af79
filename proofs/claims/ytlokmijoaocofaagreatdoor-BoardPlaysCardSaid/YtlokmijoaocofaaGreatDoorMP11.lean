/- Texts of one claim, one behind the other, made short by a program. -/
import Derived.Test.YtlokmijoaocofaaGreatDoorMP10
import Derived.Maps.OwnSet
import Derived.Maps.RangeWalk
import Derived.DeepKeys4
set_option linter.unusedSimpArgs false
set_option linter.unusedVariables false
set_option maxRecDepth 100000
section
namespace Go.Proofs.YtlokmijoaocofaaGreatDoor.Mine
open Go.RowKit YtlokmijoaocofaaGreatDoorW.PrintWords YtlokmijoaocofaaGreatDoorW.PrintLast YtlokmijoaocofaaGreatDoorW.PrintMore
open PBoardPlays
open Value renaming slice → Vs
def evIs (t : Int × Int) (x : REv) : Bool := x.pub == t.1 && x.seq == t.2
def subIs (t : Int × Int) (x : RSub) : Bool := x.node == t.1 && x.id == t.2
theorem find_drop {α : Type} (p : α → Bool) (l : List α) (i : Nat) (x : α) (h : l[i]? = some x) : (l.drop i).find? p = if p x = true then some x else (l.drop (i + 1)).find? p := by
 have hl : i < l.length := (List.getElem?_eq_some_iff.1 h).1
 rw [List.drop_eq_getElem_cons hl, (List.getElem?_eq_some_iff.1 h).2, List.find?_cons]
 cases p x <;> rfl
set_option maxHeartbeats 8000000 in
theorem rfind18_calls (n : Nat) (h : RH) (S : List SA) (B : RB) (t : Int × Int) (w : World) (hb : IsRB w S n h B) (hl : B.E.length ≤ 100000) :
 Calls Tryz.prog 35 #[rbV n h B, .int .i64 t.1, .int .i64 t.2] w fun e w' => ∃ (x : REv) (b : Bool), e = .returned (.tuple #[.agg #[.int .i64 x.pub, .int .i64 x.seq, .slice x.A x.n x.c, .string x.pay], .bool b]) ∧ Below w.heap.size w w' ∧ ((b = true ∧ B.E.find? (evIs t) = some x) ∨ (b = false ∧ B.E.find? (evIs t) = none)) := by
 have HC := mk0 hb.ev
 obtain ⟨t1, t2⟩ := t
 obtain ⟨a1, c1, a2, c2, a3, c3, a4, c4⟩ := h
 obtain ⟨nE, hnE⟩ : ∃ k, k = B.E.length := ⟨_, rfl⟩
 obtain ⟨nU, hnU⟩ : ∃ k, k = B.U.length := ⟨_, rfl⟩
 obtain ⟨nG, hnG⟩ : ∃ k, k = B.G.length := ⟨_, rfl⟩
 unfold rbV
 dsimp only
 rw [← hnE, ← hnU, ← hnG]
 rw [← hnE] at hl HC
 clear hb
 have HNE := mk0 hnE
 clear hnE hnU hnG
 have HP := mk0 (show B.E.find? (evIs (t1, t2)) = (B.E.drop 0).find? (evIs (t1, t2)) from rfl)
 generalize B.E.find? (evIs (t1, t2)) = r at HP ⊢
 go_enter Tryz.func35, Tryz.ntmps35
 go_upto_region 1 with (fail)
 have hb2 := below_alloc (below_alloc (Below.refl w.heap.size w) (.cells #[.slice a1 n c1, .slice a2 nE c2, .slice a3 nU c3, .slice a4 nG c4] 41)) (.cells #[.int .i64 0, .int .i64 0, .slice none 0 0, .string ⟨#[]⟩] 88)
 have kb : ((w.alloc (.cells #[.slice a1 n c1, .slice a2 nE c2, .slice a3 nU c3, .slice a4 nG c4] 41)).alloc (.cells #[.int .i64 0, .int .i64 0, .slice none 0 0, .string ⟨#[]⟩] 88)).heap[w.heap.size]? = some (.cells #[.slice a1 n c1, .slice a2 nE c2, .slice a3 nU c3, .slice a4 nG c4] 41 (0, 0)) := (push2_new w.heap _ _).1
 have kr : ((w.alloc (.cells #[.slice a1 n c1, .slice a2 nE c2, .slice a3 nU c3, .slice a4 nG c4] 41)).alloc (.cells #[.int .i64 0, .int .i64 0, .slice none 0 0, .string ⟨#[]⟩] 88)).heap[w.heap.size + 1]? = some (.cells #[.int .i64 0, .int .i64 0, .slice none 0 0, .string ⟨#[]⟩] 88 (0, 0)) := (push2_new w.heap _ _).2
 have HB := mk0 hb2
 have HKR := mk0 kr
 clear hb2 kr
 generalize (w.alloc (.cells #[.slice a1 n c1, .slice a2 nE c2, .slice a3 nU c3, .slice a4 nG c4] 41)).alloc (.cells #[.int .i64 0, .int .i64 0, .slice none 0 0, .string ⟨#[]⟩] 88) = w0 at kb HKR HB ⊢
 obtain ⟨gr, hgr⟩ : ∃ g, g = w.heap.size + 1 := ⟨_, rfl⟩
 rw [← hgr] at HKR ⊢
 have HGR := mk0 (show w.heap.size ≤ gr by omega)
 clear hgr
 have z1 := (blk_cell kb 1).trans (show _ = some (Vs a2 nE c2) from rfl)
 have z2 := (blk_cell kb 2).trans (show _ = some (Vs a3 nU c3) from rfl)
 clear kb
 go_upto_region 2 with (fail)
 clear z1 z2
 go_loopg [9, 13] (nE + 1) (fun k v9 v13 W => ∃ i : Nat, Aside0 (i ≤ nE ∧ k + i = nE + 1 ∧ r = (B.E.drop i).find? (evIs (t1, t2))) ∧ v13 = .int .i64 (i : Int) ∧ Aside0 (Below w.heap.size w W) ∧ Aside0 (W.heap[gr]? = some (.cells #[.int .i64 0, .int .i64 0, .slice none 0 0, .string ⟨#[]⟩] 88 (0, 0))))
 case atStart => exact ⟨0, ⟨by omega, by omega, HP.out⟩, rfl, HB, HKR⟩
 case round =>
  clear HB HKR HP
  obtain ⟨i, HI, rfl, HB, HKR⟩ := hrel
  by_cases hi : i < nE
  ·
   have b1 : decide ((i : Int) < (nE : Int)) = true := decide_eq_true (by omega)
   have b2 : decide (i < nE) = true := decide_eq_true (by omega)
   have p1 : (0 : Int) ≤ (i : Int) := by omega
   have p2 : (i : Int) < (nE : Int) := by omega
   obtain ⟨ad, x, hA, hx, c0, c1', c2', c3'⟩ := at_RE (Kd.C_below HC.out HB.out) i hi
   subst hA
   have HFD := mk0 (find_drop (evIs (t1, t2)) B.E i x hx)
   clear hx
   obtain ⟨xp, xs, xA, xn, xc, xV, xpay⟩ := x
   dsimp only at c0 c1' c2' c3'
   go_upto_region 4 with (fail)
   have hb2 := below_alloc (Below.refl wr.heap.size wr) (.cells #[.int .i64 xp, .int .i64 xs, .slice xA xn xc, .string xpay] 88)
   have kx := heap_alloc_new wr (.cells #[.int .i64 xp, .int .i64 xs, .slice xA xn xc, .string xpay] 88)
   have n1 := mk0 ((hb2.block _ (blk_lt HKR.out)).trans HKR.out)
   have n2 := mk0 (below_then HB.out HB.out.size hb2)
   clear HB HKR hb2
   have HKR := n1
   have HB := n2
   clear n1 n2
   generalize wr.alloc (.cells #[.int .i64 xp, .int .i64 xs, .slice xA xn xc, .string xpay] 88) = w2 at kx HKR HB ⊢
   generalize wr.heap.size = gx at kx ⊢
   clear c0 c1' c2' c3'
   have x0 := (blk_cell kx 0).trans (show _ = some (Value.int .i64 xp) from rfl)
   have x1 := (blk_cell kx 1).trans (show _ = some (Value.int .i64 xs) from rfl)
   have x2 := (blk_cell kx 2).trans (show _ = some (Vs xA xn xc) from rfl)
   have x3 := (blk_cell kx 3).trans (show _ = some (Value.string xpay) from rfl)
   cases o1 : (xp == t1) with
   | false =>
    have hE : evIs (t1, t2) ⟨xp, xs, xA, xn, xc, xV, xpay⟩ = false := by show (xp == t1 && xs == t2) = false; rw [o1]; rfl
    have HFE := HFD.out
    rw [if_neg (by rw [hE]; simp)] at HFE
    have HFF := mk0 HFE
    clear HFE hE HFD
    go_wp2_with fail
    go_roundg (gk - 1)
    case measure => have := HI.out; omega
    case rel => exact ⟨i + 1, ⟨by omega, by have := HI.out; omega, by rw [HI.out.2.2, HFF.out]⟩, (by first | rfl | (rw [wrap_in (by omega) (by omega), show (i : Int) + 1 = ((i + 1 : Nat) : Int) by omega])), HB, HKR⟩
   | true =>
    cases o2 : (xs == t2) with
    | false =>
     have hE : evIs (t1, t2) ⟨xp, xs, xA, xn, xc, xV, xpay⟩ = false := by show (xp == t1 && xs == t2) = false; rw [o2, Bool.and_false]
     have HFE := HFD.out
     rw [if_neg (by rw [hE]; simp)] at HFE
     have HFF := mk0 HFE
     clear HFE hE HFD
     go_wp2_with fail
     go_roundg (gk - 1)
     case measure => have := HI.out; omega
     case rel => exact ⟨i + 1, ⟨by omega, by have := HI.out; omega, by rw [HI.out.2.2, HFF.out]⟩, (by first | rfl | (rw [wrap_in (by omega) (by omega), show (i : Int) + 1 = ((i + 1 : Nat) : Int) by omega])), HB, HKR⟩
    | true =>
     have hE : evIs (t1, t2) ⟨xp, xs, xA, xn, xc, xV, xpay⟩ = true := by show (xp == t1 && xs == t2) = true; rw [o1, o2]; rfl
     have HFE := HFD.out
     rw [if_pos hE] at HFE
     have HR := mk0 (show r = some ⟨xp, xs, xA, xn, xc, xV, xpay⟩ by rw [HI.out.2.2, HFE])
     clear HFE hE HFD
     have y0 := (blk_cell HKR.out 0).trans (show _ = some (Value.int .i64 0) from rfl)
     have y1 := (blk_cell HKR.out 1).trans (show _ = some (Value.int .i64 0) from rfl)
     have y2 := (blk_cell HKR.out 2).trans (show _ = some (Vs none 0 0) from rfl)
     have y3 := (blk_cell HKR.out 3).trans (show _ = some (Value.string ⟨#[]⟩) from rfl)
     have f0 := blk_frozen HKR.out 0
     have f1 := blk_frozen HKR.out 1
     have f2 := blk_frozen HKR.out 2
     have f3 := blk_frozen HKR.out 3
     go_wp2
     have k0 : ((w2).setCell ⟨gr, 0, none⟩ (Value.int .i64 xp)).heap[gr]? = some (.cells #[(Value.int .i64 xp), (Value.int .i64 0), (Vs none 0 0), (Value.string ⟨#[]⟩)] 88 (0, 0)) := by simpa using blk_set HKR.out 0 (Value.int .i64 xp)
     have k1 : (((w2).setCell ⟨gr, 0, none⟩ (Value.int .i64 xp)).setCell ⟨gr, 1, none⟩ (Value.int .i64 xs)).heap[gr]? = some (.cells #[(Value.int .i64 xp), (Value.int .i64 xs), (Vs none 0 0), (Value.string ⟨#[]⟩)] 88 (0, 0)) := by simpa using blk_set k0 1 (Value.int .i64 xs)
     have k2 : ((((w2).setCell ⟨gr, 0, none⟩ (Value.int .i64 xp)).setCell ⟨gr, 1, none⟩ (Value.int .i64 xs)).setCell ⟨gr, 2, none⟩ (Vs xA xn xc)).heap[gr]? = some (.cells #[(Value.int .i64 xp), (Value.int .i64 xs), (Vs xA xn xc), (Value.string ⟨#[]⟩)] 88 (0, 0)) := by simpa using blk_set k1 2 (Vs xA xn xc)
     have k3 : (((((w2).setCell ⟨gr, 0, none⟩ (Value.int .i64 xp)).setCell ⟨gr, 1, none⟩ (Value.int .i64 xs)).setCell ⟨gr, 2, none⟩ (Vs xA xn xc)).setCell ⟨gr, 3, none⟩ (Value.string xpay)).heap[gr]? = some (.cells #[(Value.int .i64 xp), (Value.int .i64 xs), (Vs xA xn xc), (Value.string xpay)] 88 (0, 0)) := by simpa using blk_set k2 3 (Value.string xpay)
     have hbf := below_set (j := 3) (v := (Value.string xpay)) (below_set (j := 2) (v := (Vs xA xn xc)) (below_set (j := 1) (v := (Value.int .i64 xs)) (below_set (j := 0) (v := (Value.int .i64 xp)) HB.out HGR.out) HGR.out) HGR.out) HGR.out
     generalize ((((w2).setCell ⟨gr, 0, none⟩ (Value.int .i64 xp)).setCell ⟨gr, 1, none⟩ (Value.int .i64 xs)).setCell ⟨gr, 2, none⟩ (Vs xA xn xc)).setCell ⟨gr, 3, none⟩ (Value.string xpay) = w9 at k3 hbf ⊢
     clear k0 k1 k2
     have z0 := (blk_cell k3 0).trans (show _ = some (Value.int .i64 xp) from rfl)
     have z1 := (blk_cell k3 1).trans (show _ = some (Value.int .i64 xs) from rfl)
     have z2 := (blk_cell k3 2).trans (show _ = some (Vs xA xn xc) from rfl)
     have z3 := (blk_cell k3 3).trans (show _ = some (Value.string xpay) from rfl)
     exact bodyPost_ret (v := .tuple #[.agg #[.int .i64 xp, .int .i64 xs, .slice xA xn xc, .string xpay], .bool true]) (by simp [results, Tryz.results35, go_sem, z0, z1, z2, z3]) rfl ⟨⟨xp, xs, xA, xn, xc, xV, xpay⟩, true, rfl, hbf, Or.inl ⟨rfl, HR.out⟩⟩
  ·
   have b1 : decide ((i : Int) < (nE : Int)) = false := decide_eq_false (by omega)
   have b2 : decide (i < nE) = false := decide_eq_false (by omega)
   have HR := mk0 (show r = none by rw [HI.out.2.2, List.drop_of_length_le (by have := HNE.out; omega)]; rfl)
   have y0 := (blk_cell HKR.out 0).trans (show _ = some (Value.int .i64 0) from rfl)
   have y1 := (blk_cell HKR.out 1).trans (show _ = some (Value.int .i64 0) from rfl)
   have y2 := (blk_cell HKR.out 2).trans (show _ = some (Vs none 0 0) from rfl)
   have y3 := (blk_cell HKR.out 3).trans (show _ = some (Value.string ⟨#[]⟩) from rfl)
   have f0 := blk_frozen HKR.out 0
   have f1 := blk_frozen HKR.out 1
   have f2 := blk_frozen HKR.out 2
   have f3 := blk_frozen HKR.out 3
   go_wp2
   have k0 : ((wr).setCell ⟨gr, 0, none⟩ (Value.int .i64 0)).heap[gr]? = some (.cells #[(Value.int .i64 0), (Value.int .i64 0), (Vs none 0 0), (Value.string ⟨#[]⟩)] 88 (0, 0)) := by simpa using blk_set HKR.out 0 (Value.int .i64 0)
   have k1 : (((wr).setCell ⟨gr, 0, none⟩ (Value.int .i64 0)).setCell ⟨gr, 1, none⟩ (Value.int .i64 0)).heap[gr]? = some (.cells #[(Value.int .i64 0), (Value.int .i64 0), (Vs none 0 0), (Value.string ⟨#[]⟩)] 88 (0, 0)) := by simpa using blk_set k0 1 (Value.int .i64 0)
   have k2 : ((((wr).setCell ⟨gr, 0, none⟩ (Value.int .i64 0)).setCell ⟨gr, 1, none⟩ (Value.int .i64 0)).setCell ⟨gr, 2, none⟩ (Vs none 0 0)).heap[gr]? = some (.cells #[(Value.int .i64 0), (Value.int .i64 0), (Vs none 0 0), (Value.string ⟨#[]⟩)] 88 (0, 0)) := by simpa using blk_set k1 2 (Vs none 0 0)
   have k3 : (((((wr).setCell ⟨gr, 0, none⟩ (Value.int .i64 0)).setCell ⟨gr, 1, none⟩ (Value.int .i64 0)).setCell ⟨gr, 2, none⟩ (Vs none 0 0)).setCell ⟨gr, 3, none⟩ (Value.string ⟨#[]⟩)).heap[gr]? = some (.cells #[(Value.int .i64 0), (Value.int .i64 0), (Vs none 0 0), (Value.string ⟨#[]⟩)] 88 (0, 0)) := by simpa using blk_set k2 3 (Value.string ⟨#[]⟩)
   have hbf := below_set (j := 3) (v := (Value.string ⟨#[]⟩)) (below_set (j := 2) (v := (Vs none 0 0)) (below_set (j := 1) (v := (Value.int .i64 0)) (below_set (j := 0) (v := (Value.int .i64 0)) HB.out HGR.out) HGR.out) HGR.out) HGR.out
   generalize ((((wr).setCell ⟨gr, 0, none⟩ (Value.int .i64 0)).setCell ⟨gr, 1, none⟩ (Value.int .i64 0)).setCell ⟨gr, 2, none⟩ (Vs none 0 0)).setCell ⟨gr, 3, none⟩ (Value.string ⟨#[]⟩) = w9 at k3 hbf ⊢
   clear k0 k1 k2
   have z0 := (blk_cell k3 0).trans (show _ = some (Value.int .i64 0) from rfl)
   have z1 := (blk_cell k3 1).trans (show _ = some (Value.int .i64 0) from rfl)
   have z2 := (blk_cell k3 2).trans (show _ = some (Vs none 0 0) from rfl)
   have z3 := (blk_cell k3 3).trans (show _ = some (Value.string ⟨#[]⟩) from rfl)
   exact bodyPost_ret (v := .tuple #[.agg #[.int .i64 0, .int .i64 0, .slice none 0 0, .string ⟨#[]⟩], .bool false]) (by simp [results, Tryz.results35, go_sem, z0, z1, z2, z3]) rfl ⟨zRE, false, rfl, hbf, Or.inr ⟨rfl, HR.out⟩⟩
set_option maxHeartbeats 8000000 in
theorem rasked_calls (n : Nat) (h : RH) (S : List SA) (B : RB) (t : Int × Int) (w : World) (hb : IsRB w S n h B) (hl : B.U.length ≤ 100000) :
 Calls Tryz.prog 50 #[rbV n h B, .int .i64 t.1, .int .i64 t.2] w fun e w' => ∃ (x : RSub) (b : Bool), e = .returned (.tuple #[.agg #[.int .i64 x.node, .int .i64 x.id, .slice x.A x.n x.c], .bool b]) ∧ Below w.heap.size w w' ∧ ((b = true ∧ B.U.find? (subIs t) = some x) ∨ (b = false ∧ B.U.find? (subIs t) = none)) := by
 have HC := mk0 hb.sub
 obtain ⟨t1, t2⟩ := t
 obtain ⟨a1, c1, a2, c2, a3, c3, a4, c4⟩ := h
 obtain ⟨nE, hnE⟩ : ∃ k, k = B.E.length := ⟨_, rfl⟩
 obtain ⟨nU, hnU⟩ : ∃ k, k = B.U.length := ⟨_, rfl⟩
 obtain ⟨nG, hnG⟩ : ∃ k, k = B.G.length := ⟨_, rfl⟩
 unfold rbV
 dsimp only
 rw [← hnE, ← hnU, ← hnG]
 rw [← hnU] at hl HC
 clear hb
 have HNE := mk0 hnU
 clear hnE hnU hnG
 have HP := mk0 (show B.U.find? (subIs (t1, t2)) = (B.U.drop 0).find? (subIs (t1, t2)) from rfl)
 generalize B.U.find? (subIs (t1, t2)) = r at HP ⊢
 go_enter Tryz.func50, Tryz.ntmps50
 go_upto_region 1 with (fail)
 have hb2 := below_alloc (below_alloc (Below.refl w.heap.size w) (.cells #[.slice a1 n c1, .slice a2 nE c2, .slice a3 nU c3, .slice a4 nG c4] 41)) (.cells #[.int .i64 0, .int .i64 0, .slice none 0 0] 111)
 have kb : ((w.alloc (.cells #[.slice a1 n c1, .slice a2 nE c2, .slice a3 nU c3, .slice a4 nG c4] 41)).alloc (.cells #[.int .i64 0, .int .i64 0, .slice none 0 0] 111)).heap[w.heap.size]? = some (.cells #[.slice a1 n c1, .slice a2 nE c2, .slice a3 nU c3, .slice a4 nG c4] 41 (0, 0)) := (push2_new w.heap _ _).1
 have kr : ((w.alloc (.cells #[.slice a1 n c1, .slice a2 nE c2, .slice a3 nU c3, .slice a4 nG c4] 41)).alloc (.cells #[.int .i64 0, .int .i64 0, .slice none 0 0] 111)).heap[w.heap.size + 1]? = some (.cells #[.int .i64 0, .int .i64 0, .slice none 0 0] 111 (0, 0)) := (push2_new w.heap _ _).2
 have HB := mk0 hb2
 have HKR := mk0 kr
 clear hb2 kr
 generalize (w.alloc (.cells #[.slice a1 n c1, .slice a2 nE c2, .slice a3 nU c3, .slice a4 nG c4] 41)).alloc (.cells #[.int .i64 0, .int .i64 0, .slice none 0 0] 111) = w0 at kb HKR HB ⊢
 obtain ⟨gr, hgr⟩ : ∃ g, g = w.heap.size + 1 := ⟨_, rfl⟩
 rw [← hgr] at HKR ⊢
 have HGR := mk0 (show w.heap.size ≤ gr by omega)
 clear hgr
 have z1 := (blk_cell kb 1).trans (show _ = some (Vs a2 nE c2) from rfl)
 have z2 := (blk_cell kb 2).trans (show _ = some (Vs a3 nU c3) from rfl)
 clear kb
 go_upto_region 2 with (fail)
 clear z1 z2
 go_loopg [9, 13] (nU + 1) (fun k v9 v13 W => ∃ i : Nat, Aside0 (i ≤ nU ∧ k + i = nU + 1 ∧ r = (B.U.drop i).find? (subIs (t1, t2))) ∧ v13 = .int .i64 (i : Int) ∧ Aside0 (Below w.heap.size w W) ∧ Aside0 (W.heap[gr]? = some (.cells #[.int .i64 0, .int .i64 0, .slice none 0 0] 111 (0, 0))))
 case atStart => exact ⟨0, ⟨by omega, by omega, HP.out⟩, rfl, HB, HKR⟩
 case round =>
  clear HB HKR HP
  obtain ⟨i, HI, rfl, HB, HKR⟩ := hrel
  by_cases hi : i < nU
  ·
   have b1 : decide ((i : Int) < (nU : Int)) = true := decide_eq_true (by omega)
   have b2 : decide (i < nU) = true := decide_eq_true (by omega)
   have p1 : (0 : Int) ≤ (i : Int) := by omega
   have p2 : (i : Int) < (nU : Int) := by omega
   obtain ⟨ad, x, hA, hx, c0, c1', c2'⟩ := at_RS (Kd.C_below HC.out HB.out) i hi
   subst hA
   have HFD := mk0 (find_drop (subIs (t1, t2)) B.U i x hx)
   clear hx
   obtain ⟨xp, xs, xA, xn, xc, xV⟩ := x
   dsimp only at c0 c1' c2'
   go_upto_region 4 with (fail)
   have hb2 := below_alloc (Below.refl wr.heap.size wr) (.cells #[.int .i64 xp, .int .i64 xs, .slice xA xn xc] 111)
   have kx := heap_alloc_new wr (.cells #[.int .i64 xp, .int .i64 xs, .slice xA xn xc] 111)
   have n1 := mk0 ((hb2.block _ (blk_lt HKR.out)).trans HKR.out)
   have n2 := mk0 (below_then HB.out HB.out.size hb2)
   clear HB HKR hb2
   have HKR := n1
   have HB := n2
   clear n1 n2
   generalize wr.alloc (.cells #[.int .i64 xp, .int .i64 xs, .slice xA xn xc] 111) = w2 at kx HKR HB ⊢
   generalize wr.heap.size = gx at kx ⊢
   clear c0 c1' c2'
   have x0 := (blk_cell kx 0).trans (show _ = some (Value.int .i64 xp) from rfl)
   have x1 := (blk_cell kx 1).trans (show _ = some (Value.int .i64 xs) from rfl)
   have x2 := (blk_cell kx 2).trans (show _ = some (Vs xA xn xc) from rfl)
   cases o1 : (xp == t1) with
   | false =>
    have hE : subIs (t1, t2) ⟨xp, xs, xA, xn, xc, xV⟩ = false := by show (xp == t1 && xs == t2) = false; rw [o1]; rfl
    have HFE := HFD.out
    rw [if_neg (by rw [hE]; simp)] at HFE
    have HFF := mk0 HFE
    clear HFE hE HFD
    go_wp2_with fail
    go_roundg (gk - 1)
    case measure => have := HI.out; omega
    case rel => exact ⟨i + 1, ⟨by omega, by have := HI.out; omega, by rw [HI.out.2.2, HFF.out]⟩, (by first | rfl | (rw [wrap_in (by omega) (by omega), show (i : Int) + 1 = ((i + 1 : Nat) : Int) by omega])), HB, HKR⟩
   | true =>
    cases o2 : (xs == t2) with
    | false =>
     have hE : subIs (t1, t2) ⟨xp, xs, xA, xn, xc, xV⟩ = false := by show (xp == t1 && xs == t2) = false; rw [o2, Bool.and_false]
     have HFE := HFD.out
     rw [if_neg (by rw [hE]; simp)] at HFE
     have HFF := mk0 HFE
     clear HFE hE HFD
     go_wp2_with fail
     go_roundg (gk - 1)
     case measure => have := HI.out; omega
     case rel => exact ⟨i + 1, ⟨by omega, by have := HI.out; omega, by rw [HI.out.2.2, HFF.out]⟩, (by first | rfl | (rw [wrap_in (by omega) (by omega), show (i : Int) + 1 = ((i + 1 : Nat) : Int) by omega])), HB, HKR⟩
    | true =>
     have hE : subIs (t1, t2) ⟨xp, xs, xA, xn, xc, xV⟩ = true := by show (xp == t1 && xs == t2) = true; rw [o1, o2]; rfl
     have HFE := HFD.out
     rw [if_pos hE] at HFE
     have HR := mk0 (show r = some ⟨xp, xs, xA, xn, xc, xV⟩ by rw [HI.out.2.2, HFE])
     clear HFE hE HFD
     have y0 := (blk_cell HKR.out 0).trans (show _ = some (Value.int .i64 0) from rfl)
     have y1 := (blk_cell HKR.out 1).trans (show _ = some (Value.int .i64 0) from rfl)
     have y2 := (blk_cell HKR.out 2).trans (show _ = some (Vs none 0 0) from rfl)
     have f0 := blk_frozen HKR.out 0
     have f1 := blk_frozen HKR.out 1
     have f2 := blk_frozen HKR.out 2
     go_wp2
     have k0 : ((w2).setCell ⟨gr, 0, none⟩ (Value.int .i64 xp)).heap[gr]? = some (.cells #[(Value.int .i64 xp), (Value.int .i64 0), (Vs none 0 0)] 111 (0, 0)) := by simpa using blk_set HKR.out 0 (Value.int .i64 xp)
     have k1 : (((w2).setCell ⟨gr, 0, none⟩ (Value.int .i64 xp)).setCell ⟨gr, 1, none⟩ (Value.int .i64 xs)).heap[gr]? = some (.cells #[(Value.int .i64 xp), (Value.int .i64 xs), (Vs none 0 0)] 111 (0, 0)) := by simpa using blk_set k0 1 (Value.int .i64 xs)
     have k2 : ((((w2).setCell ⟨gr, 0, none⟩ (Value.int .i64 xp)).setCell ⟨gr, 1, none⟩ (Value.int .i64 xs)).setCell ⟨gr, 2, none⟩ (Vs xA xn xc)).heap[gr]? = some (.cells #[(Value.int .i64 xp), (Value.int .i64 xs), (Vs xA xn xc)] 111 (0, 0)) := by simpa using blk_set k1 2 (Vs xA xn xc)
     have hbf := below_set (j := 2) (v := (Vs xA xn xc)) (below_set (j := 1) (v := (Value.int .i64 xs)) (below_set (j := 0) (v := (Value.int .i64 xp)) HB.out HGR.out) HGR.out) HGR.out
     generalize (((w2).setCell ⟨gr, 0, none⟩ (Value.int .i64 xp)).setCell ⟨gr, 1, none⟩ (Value.int .i64 xs)).setCell ⟨gr, 2, none⟩ (Vs xA xn xc) = w9 at k2 hbf ⊢
     clear k0 k1
     have z0 := (blk_cell k2 0).trans (show _ = some (Value.int .i64 xp) from rfl)
     have z1 := (blk_cell k2 1).trans (show _ = some (Value.int .i64 xs) from rfl)
     have z2 := (blk_cell k2 2).trans (show _ = some (Vs xA xn xc) from rfl)
     exact bodyPost_ret (v := .tuple #[.agg #[.int .i64 xp, .int .i64 xs, .slice xA xn xc], .bool true]) (by simp [results, Tryz.results50, go_sem, z0, z1, z2]) rfl ⟨⟨xp, xs, xA, xn, xc, xV⟩, true, rfl, hbf, Or.inl ⟨rfl, HR.out⟩⟩
  ·
   have b1 : decide ((i : Int) < (nU : Int)) = false := decide_eq_false (by omega)
   have b2 : decide (i < nU) = false := decide_eq_false (by omega)
   have HR := mk0 (show r = none by rw [HI.out.2.2, List.drop_of_length_le (by have := HNE.out; omega)]; rfl)
   have y0 := (blk_cell HKR.out 0).trans (show _ = some (Value.int .i64 0) from rfl)
   have y1 := (blk_cell HKR.out 1).trans (show _ = some (Value.int .i64 0) from rfl)
   have y2 := (blk_cell HKR.out 2).trans (show _ = some (Vs none 0 0) from rfl)
   have f0 := blk_frozen HKR.out 0
   have f1 := blk_frozen HKR.out 1
   have f2 := blk_frozen HKR.out 2
   go_wp2
   have k0 : ((wr).setCell ⟨gr, 0, none⟩ (Value.int .i64 0)).heap[gr]? = some (.cells #[(Value.int .i64 0), (Value.int .i64 0), (Vs none 0 0)] 111 (0, 0)) := by simpa using blk_set HKR.out 0 (Value.int .i64 0)
   have k1 : (((wr).setCell ⟨gr, 0, none⟩ (Value.int .i64 0)).setCell ⟨gr, 1, none⟩ (Value.int .i64 0)).heap[gr]? = some (.cells #[(Value.int .i64 0), (Value.int .i64 0), (Vs none 0 0)] 111 (0, 0)) := by simpa using blk_set k0 1 (Value.int .i64 0)
   have k2 : ((((wr).setCell ⟨gr, 0, none⟩ (Value.int .i64 0)).setCell ⟨gr, 1, none⟩ (Value.int .i64 0)).setCell ⟨gr, 2, none⟩ (Vs none 0 0)).heap[gr]? = some (.cells #[(Value.int .i64 0), (Value.int .i64 0), (Vs none 0 0)] 111 (0, 0)) := by simpa using blk_set k1 2 (Vs none 0 0)
   have hbf := below_set (j := 2) (v := (Vs none 0 0)) (below_set (j := 1) (v := (Value.int .i64 0)) (below_set (j := 0) (v := (Value.int .i64 0)) HB.out HGR.out) HGR.out) HGR.out
   generalize (((wr).setCell ⟨gr, 0, none⟩ (Value.int .i64 0)).setCell ⟨gr, 1, none⟩ (Value.int .i64 0)).setCell ⟨gr, 2, none⟩ (Vs none 0 0) = w9 at k2 hbf ⊢
   clear k0 k1
   have z0 := (blk_cell k2 0).trans (show _ = some (Value.int .i64 0) from rfl)
   have z1 := (blk_cell k2 1).trans (show _ = some (Value.int .i64 0) from rfl)
   have z2 := (blk_cell k2 2).trans (show _ = some (Vs none 0 0) from rfl)
   exact bodyPost_ret (v := .tuple #[.agg #[.int .i64 0, .int .i64 0, .slice none 0 0], .bool false]) (by simp [results, Tryz.results50, go_sem, z0, z1, z2]) rfl ⟨zRS, false, rfl, hbf, Or.inr ⟨rfl, HR.out⟩⟩
theorem eqA58 (d : Nat) (w : World) (x0 y0 x1 y1 x2 y2 x3 y3 : Int) :
 (Op.equalIn (d + 2) 58 (.agg #[.int .i64 x0, .int .i64 x1, .int .i64 x2, .int .i64 x3]) (.agg #[.int .i64 y0, .int .i64 y1, .int .i64 y2, .int .i64 y3])).run Tryz.prog w = .ok (x0 == y0 && (x1 == y1 && (x2 == y2 && (x3 == y3)))) w := by
 refine eqA_of Tryz.underlying58 (by kernel_rfl) ?_
 refine eqf_cons (by rfl) (by go_simp; rfl) (by go_simp; rfl) (by go_simp) ?_
 refine eqf_cons (by rfl) (by go_simp; rfl) (by go_simp; rfl) (by go_simp) ?_
 refine eqf_cons (by rfl) (by go_simp; rfl) (by go_simp; rfl) (by go_simp) ?_
 exact eqf_last (by rfl) (by go_simp; rfl) (by go_simp; rfl) (by go_simp)
attribute [local go_sem high] eqA58
theorem givEq (x g : RGiv) : decide (x = g) = (x.node == g.node && (x.id == g.id && (x.pub == g.pub && (x.seq == g.seq)))) := by
 obtain ⟨a, b, c, d⟩ := x
 obtain ⟨e, f, p, q⟩ := g
 rw [Bool.eq_iff_iff]
 simp
theorem any_drop {α : Type} (p : α → Bool) (l : List α) (i : Nat) (x : α) (h : l[i]? = some x) : (l.drop i).any p = (p x || (l.drop (i + 1)).any p) := by
 have hl : i < l.length := (List.getElem?_eq_some_iff.1 h).1
 rw [List.drop_eq_getElem_cons hl, (List.getElem?_eq_some_iff.1 h).2, List.any_cons]
set_option maxHeartbeats 8000000 in
theorem rhas_calls (n : Nat) (h : RH) (S : List SA) (B : RB) (g : RGiv) (w : World) (hb : IsRB w S n h B) (hl : B.G.length ≤ 100000) :
 Calls Tryz.prog 37 #[rbV n h B, .agg #[.int .i64 g.node, .int .i64 g.id, .int .i64 g.pub, .int .i64 g.seq]] w fun e w' => e = .returned (.bool (B.G.any (fun y => decide (y = g)))) ∧ Below w.heap.size w w' := by
 have HC := mk0 hb.got
 obtain ⟨a1, c1, a2, c2, a3, c3, a4, c4⟩ := h
 obtain ⟨nE, hnE⟩ : ∃ k, k = B.E.length := ⟨_, rfl⟩
 obtain ⟨nU, hnU⟩ : ∃ k, k = B.U.length := ⟨_, rfl⟩
 obtain ⟨nG, hnG⟩ : ∃ k, k = B.G.length := ⟨_, rfl⟩
 unfold rbV
 dsimp only
 rw [← hnE, ← hnU, ← hnG]
 rw [← hnG] at hl HC
 clear hb
 have HNE := mk0 hnG
 clear hnE hnU hnG
 have HP := mk0 (show B.G.any (fun y => decide (y = g)) = (B.G.drop 0).any (fun y => decide (y = g)) from rfl)
 generalize B.G.any (fun y => decide (y = g)) = r at HP ⊢
 obtain ⟨g0, g1, g2, g3⟩ := g
 dsimp only
 go_enter Tryz.func37, Tryz.ntmps37
 go_upto_region 1 with (fail)
 have hb2 := below_alloc (below_alloc (Below.refl w.heap.size w) (.cells #[.slice a1 n c1, .slice a2 nE c2, .slice a3 nU c3, .slice a4 nG c4] 41)) (.cells #[.int .i64 g0, .int .i64 g1, .int .i64 g2, .int .i64 g3] 58)
 have kb : ((w.alloc (.cells #[.slice a1 n c1, .slice a2 nE c2, .slice a3 nU c3, .slice a4 nG c4] 41)).alloc (.cells #[.int .i64 g0, .int .i64 g1, .int .i64 g2, .int .i64 g3] 58)).heap[w.heap.size]? = some (.cells #[.slice a1 n c1, .slice a2 nE c2, .slice a3 nU c3, .slice a4 nG c4] 41 (0, 0)) := (push2_new w.heap _ _).1
 have kr : ((w.alloc (.cells #[.slice a1 n c1, .slice a2 nE c2, .slice a3 nU c3, .slice a4 nG c4] 41)).alloc (.cells #[.int .i64 g0, .int .i64 g1, .int .i64 g2, .int .i64 g3] 58)).heap[w.heap.size + 1]? = some (.cells #[.int .i64 g0, .int .i64 g1, .int .i64 g2, .int .i64 g3] 58 (0, 0)) := (push2_new w.heap _ _).2
 have HB := mk0 hb2
 have HKR := mk0 kr
 clear hb2 kr
 generalize (w.alloc (.cells #[.slice a1 n c1, .slice a2 nE c2, .slice a3 nU c3, .slice a4 nG c4] 41)).alloc (.cells #[.int .i64 g0, .int .i64 g1, .int .i64 g2, .int .i64 g3] 58) = w0 at kb HKR HB ⊢
 obtain ⟨gr, hgr⟩ : ∃ g, g = w.heap.size + 1 := ⟨_, rfl⟩
 rw [← hgr] at HKR ⊢
 clear hgr
 have z3 := (blk_cell kb 3).trans (show _ = some (Vs a4 nG c4) from rfl)
 clear kb
 go_upto_region 2 with (fail)
 clear z3
 go_loopg [6, 10] (nG + 1) (fun k v6 v10 W => ∃ i : Nat, Aside0 (i ≤ nG ∧ k + i = nG + 1 ∧ r = (B.G.drop i).any (fun y => decide (y = ⟨g0, g1, g2, g3⟩))) ∧ v10 = .int .i64 (i : Int) ∧ Aside0 (Below w.heap.size w W) ∧ Aside0 (W.heap[gr]? = some (.cells #[.int .i64 g0, .int .i64 g1, .int .i64 g2, .int .i64 g3] 58 (0, 0))))
 case atStart => exact ⟨0, ⟨by omega, by omega, HP.out⟩, rfl, HB, HKR⟩
 case round =>
  clear HB HKR HP
  obtain ⟨i, HI, rfl, HB, HKR⟩ := hrel
  by_cases hi : i < nG
  ·
   have b1 : decide ((i : Int) < (nG : Int)) = true := decide_eq_true (by omega)
   have b2 : decide (i < nG) = true := decide_eq_true (by omega)
   have p1 : (0 : Int) ≤ (i : Int) := by omega
   have p2 : (i : Int) < (nG : Int) := by omega
   obtain ⟨ad, x, hA, hx, d0, d1, d2, d3⟩ := at_RG (Kd.C_below HC.out HB.out) i hi
   subst hA
   have HFD := mk0 (any_drop (fun y => decide (y = (⟨g0, g1, g2, g3⟩ : RGiv))) B.G i x hx)
   have HEQ := mk0 (givEq x ⟨g0, g1, g2, g3⟩)
   clear hx
   obtain ⟨xa, xb, xc, xd⟩ := x
   dsimp only at d0 d1 d2 d3 HEQ
   go_upto_region 4 with (fail)
   have hb2 := below_alloc (Below.refl wr.heap.size wr) (.cells #[.int .i64 xa, .int .i64 xb, .int .i64 xc, .int .i64 xd] 58)
   have kx := heap_alloc_new wr (.cells #[.int .i64 xa, .int .i64 xb, .int .i64 xc, .int .i64 xd] 58)
   have n1 := mk0 ((hb2.block _ (blk_lt HKR.out)).trans HKR.out)
   have n2 := mk0 (below_then HB.out HB.out.size hb2)
   clear HB HKR hb2 d0 d1 d2 d3
   have HKR := n1
   have HB := n2
   clear n1 n2
   generalize wr.alloc (.cells #[.int .i64 xa, .int .i64 xb, .int .i64 xc, .int .i64 xd] 58) = w2 at kx HKR HB ⊢
   generalize wr.heap.size = gx at kx ⊢
   have x0 := (blk_cell kx 0).trans (show _ = some (Value.int .i64 xa) from rfl)
   have x1 := (blk_cell kx 1).trans (show _ = some (Value.int .i64 xb) from rfl)
   have x2 := (blk_cell kx 2).trans (show _ = some (Value.int .i64 xc) from rfl)
   have x3 := (blk_cell kx 3).trans (show _ = some (Value.int .i64 xd) from rfl)
   have y0 := (blk_cell HKR.out 0).trans (show _ = some (Value.int .i64 g0) from rfl)
   have y1 := (blk_cell HKR.out 1).trans (show _ = some (Value.int .i64 g1) from rfl)
   have y2 := (blk_cell HKR.out 2).trans (show _ = some (Value.int .i64 g2) from rfl)
   have y3 := (blk_cell HKR.out 3).trans (show _ = some (Value.int .i64 g3) from rfl)
   have hu58 := Tryz.underlying58
   cases o1 : (xa == g0 && (xb == g1 && (xc == g2 && xd == g3))) with
   | false =>
    have HFF := mk0 (show r = (B.G.drop (i + 1)).any (fun y => decide (y = (⟨g0, g1, g2, g3⟩ : RGiv))) by rw [HI.out.2.2, HFD.out, HEQ.out, o1, Bool.false_or])
    go_wp2_with fail
    go_roundg (gk - 1)
    case measure => have := HI.out; omega
    case rel => exact ⟨i + 1, ⟨by omega, by have := HI.out; omega, HFF.out⟩, (by first | rfl | (rw [wrap_in (by omega) (by omega), show (i : Int) + 1 = ((i + 1 : Nat) : Int) by omega])), HB, HKR⟩
   | true =>
    have HR := mk0 (show r = true by rw [HI.out.2.2, HFD.out, HEQ.out, o1, Bool.true_or])
    go_wp2
    try go_ret
    exact ⟨by rw [HR.out]; rfl, HB.out⟩
  ·
   have b1 : decide ((i : Int) < (nG : Int)) = false := decide_eq_false (by omega)
   have b2 : decide (i < nG) = false := decide_eq_false (by omega)
   have HR := mk0 (show r = false by rw [HI.out.2.2, List.drop_of_length_le (by have := HNE.out; omega)]; rfl)
   go_wp2
   try go_ret
   exact ⟨by rw [HR.out]; rfl, HB.out⟩
end Go.Proofs.YtlokmijoaocofaaGreatDoor.Mine
end
section
namespace Go.Proofs.YtlokmijoaocofaaGreatDoor.PBoardPlays
open Go.RowKit Go.Proofs.YtlokmijoaocofaaGreatDoorW.PrintWords Go.Proofs.YtlokmijoaocofaaGreatDoorW.PrintLast Go.Proofs.YtlokmijoaocofaaGreatDoorW.PrintMore
attribute [local go_sem] max2_int min2_int max_two min_two max_three min_three max_four min_four
theorem eqA72 (d : Nat) (w : World) (x0 y0 : Int) (x1 y1 : ByteArray) :
 (Op.equalIn (d + 2) 72 (.agg #[.int .i64 x0, .string x1]) (.agg #[.int .i64 y0, .string y1])).run Tryz.prog w = .ok (x0 == y0 && (x1.toList == y1.toList)) w := by
 refine eqA_of Tryz.underlying72 (by kernel_rfl) ?_
 refine eqf_cons (by rfl) (by go_simp; rfl) (by go_simp; rfl) (by go_simp) ?_
 exact eqf_last (by rfl) (by go_simp; rfl) (by go_simp; rfl) (by go_simp)
attribute [local go_sem] max2_int min2_int max_two min_two max_three min_three max_four min_four
attribute [local go_sem high] eqA72
def value_Value_71.l0 : Nat → List (S72) → List (S72) → Int → Int → Option (Bool)
 | 0, _, _, _, _ => none
 | k + 1, x0, x1, x12, x13 => if x13 < x12 then (if 0 ≤ x13 then (if x13 < (x0.length : Int) then (if x13 < (x1.length : Int) then (if (!(((rd_T72 x0 x13).f0) == ((rd_T72 x1 x13).f0)) || (!((((rd_T72 x0 x13).f1).toList) == (((rd_T72 x1 x13).f1).toList)))) = true then (some false) else (value_Value_71.l0 k x0 x1 x12 (wrap64 (x13 + 1)))) else (none)) else (none)) else (none)) else (some true)
def value_Value_71.f (k : Nat) (l0 : List (S72)) (l1 : List (S72)) : Option (Bool) := if (l0.length : Int) = (l1.length : Int) then (value_Value_71.l0 k l0 l1 (l0.length : Int) 0) else (some false)
theorem value_Value_71.mono_l : ∀ k, (∀ y0 y1 y2 y3, LeO (value_Value_71.l0 k y0 y1 y2 y3) (value_Value_71.l0 (k + 1) y0 y1 y2 y3))
 | 0 => fun _ _ _ _ r h => by simp [value_Value_71.l0] at h
 | k + 1 => by
  have ih0 := value_Value_71.mono_l k
  ·
   intro y0 y1 y2 y3
   unfold value_Value_71.l0
   repeat' first
   | (with_reducible exact ih0 _ _ _ _)
   | (with_reducible exact LeO.refl _)
   | (with_reducible exact LeO.none _)
   | (with_reducible refine LeO.ite ?_ ?_)
   | (with_reducible refine LeO.bind ?_ (fun _ => ?_))
   | exact ih0 _ _ _ _
   | exact LeO.none _
   | refine LeO.ite ?_ ?_
   | refine LeO.bind ?_ (fun _ => ?_)
theorem value_Value_71.mono : ∀ a0 a1 k, LeO (value_Value_71.f k a0 a1) (value_Value_71.f (k + 1) a0 a1) := by
 intro a0 a1 k
 have ih0 := value_Value_71.mono_l k
 unfold value_Value_71.f
 repeat' first
  | (with_reducible exact ih0 _ _ _ _)
  | (with_reducible exact LeO.refl _)
  | (with_reducible exact LeO.none _)
  | (with_reducible refine LeO.ite ?_ ?_)
  | (with_reducible refine LeO.bind ?_ (fun _ => ?_))
  | exact ih0 _ _ _ _
  | exact LeO.none _
  | refine LeO.ite ?_ ?_
  | refine LeO.bind ?_ (fun _ => ?_)
set_option maxHeartbeats 8000000 in
theorem value_Value_71.calls (k : Nat) (A0 : Option Addr) (c0 : Nat) (l0 : List (S72)) (A1 : Option Addr) (c1 : Nat) (l1 : List (S72)) (r : Bool) (w : World) (hr0 : Kd.C k72 w A0 l0.length l0) (hc0 : l0.length ≤ c0) (hr1 : Kd.C k72 w A1 l1.length l1) (hc1 : l1.length ≤ c1) (h : value_Value_71.f k l0 l1 = some r) :
 Calls Tryz.prog 71 #[.slice A0 l0.length c0, .slice A1 l1.length c1] w fun e w' => e = .returned (.bool r) ∧ Drawn0 w w' := by
 have hu72 := Tryz.underlying72
 have HR0 := mk0 hr0
 have HC0 := mk0 hc0
 clear hr0 hc0
 have HR1 := mk0 hr1
 have HC1 := mk0 hc1
 clear hr1 hc1
 have H : (if (l0.length : Int) = (l1.length : Int) then (value_Value_71.l0 k l0 l1 (l0.length : Int) 0) else (some false)) = some r := h
 clear h
 by_cases c3 : (l0.length : Int) = (l1.length : Int)
 ·
  rw [if_pos c3] at H
  have c3b0 : ((l0.length : Int) == (l1.length : Int)) = true := beq_iff_eq.mpr c3
  have c3b1 : ((l0.length : Int) != (l1.length : Int)) = false := bne_eq_false_iff_eq.mpr c3
  have c3b2 : (l0.length == l1.length) = true := by first | simpa using c3 | (simp at c3 ⊢; omega)
  clear c3
  have H' := mk0 H
  clear H
  go_enter Tryz.func71, Tryz.ntmps71
  go_wp2
  repeat (go_quiet (fail); try go_wp2)
  go_loopg [13] k (fun kq v13 w' => ∃ (x13_1 : Int), v13 = .int .i64 x13_1 ∧ Aside0 (value_Value_71.l0 kq l0 l1 (l0.length : Int) x13_1 = some r) ∧ Aside0 (kq ≤ k) ∧ Drawn0 w w')
  case atStart => exact ⟨(0), (by first | rfl | (simp; done) | (simp [*]; done)), H', ⟨Nat.le_refl _⟩, by repeat (first | exact Drawn0.refl _ | apply Drawn0.step)⟩
  case round =>
   clear H'
   try clear c1
   try clear p2
   try clear c3
   try clear c3b0
   try clear c3b1
   try clear c3b2
   obtain ⟨x13_1, rfl, HA, HK1, ⟨m1, rfl⟩⟩ := hrel
   cases gk with
   | zero => exact absurd HA.out (by simp [value_Value_71.l0])
   | succ k1 =>
    have H := HA.out
    clear HA
    simp only [value_Value_71.l0] at H
    by_cases c4 : x13_1 < (l0.length : Int)
    ·
     rw [if_pos c4] at H
     have c4b0 : decide (x13_1 < (l0.length : Int)) = true := decide_eq_true c4
     clear c4
     by_cases c5 : 0 ≤ x13_1
     ·
      rw [if_pos c5] at H
      have c5b0 : decide (0 ≤ x13_1) = true := decide_eq_true c5
      clear c5
      by_cases c6 : x13_1 < (l0.length : Int)
      ·
       rw [if_pos c6] at H
       have c6b0 : decide (x13_1 < (l0.length : Int)) = true := decide_eq_true c6
       clear c6
       by_cases c7 : x13_1 < (l1.length : Int)
       ·
        rw [if_pos c7] at H
        have c7b0 : decide (x13_1 < (l1.length : Int)) = true := decide_eq_true c7
        clear c7
        by_cases c8 : (!(((rd_T72 l0 x13_1).f0) == ((rd_T72 l1 x13_1).f0)) || (!((((rd_T72 l0 x13_1).f1).toList) == (((rd_T72 l1 x13_1).f1).toList)))) = true
        ·
         rw [if_pos c8] at H
         have c8b0 : (!(((rd_T72 l0 x13_1).f0) == ((rd_T72 l1 x13_1).f0)) || (!((((rd_T72 l0 x13_1).f1).toList) == (((rd_T72 l1 x13_1).f1).toList)))) = true := c8
         clear c8
         obtain rfl := Option.some.inj H
         have p193 : 0 ≤ (x13_1 : Int) := of_decide_eq_true (by first | (with_reducible assumption) | assumption)
         have q193 : x13_1 < (l0.length : Int) := of_decide_eq_true (by first | (with_reducible assumption) | assumption)
         obtain ⟨ad193, e193, hx193_0, hx193_1⟩ := at_T72 HR0.out x13_1 p193 q193
         cases e193
         replace p193 := eq_true p193
         replace q193 := eq_true q193
         have p194 : 0 ≤ (x13_1 : Int) := of_decide_eq_true (by first | (with_reducible assumption) | assumption)
         have q194 : x13_1 < (l1.length : Int) := of_decide_eq_true (by first | (with_reducible assumption) | assumption)
         obtain ⟨ad194, e194, hx194_0, hx194_1⟩ := at_T72 HR1.out x13_1 p194 q194
         cases e194
         replace p194 := eq_true p194
         replace q194 := eq_true q194
         go_wp2
         repeat (go_quiet (fail); try go_wp2)
         go_ret
         exact ⟨by first | rfl | (simp; done) | (simp [*]; done), by repeat (first | exact Drawn0.refl _ | apply Drawn0.step)⟩
        ·
         rw [if_neg c8] at H
         have c8b0 : (!(((rd_T72 l0 x13_1).f0) == ((rd_T72 l1 x13_1).f0)) || (!((((rd_T72 l0 x13_1).f1).toList) == (((rd_T72 l1 x13_1).f1).toList)))) = false := by simpa using c8
         clear c8
         have H' := mk0 H
         clear H
         have p193 : 0 ≤ (x13_1 : Int) := of_decide_eq_true (by first | (with_reducible assumption) | assumption)
         have q193 : x13_1 < (l0.length : Int) := of_decide_eq_true (by first | (with_reducible assumption) | assumption)
         obtain ⟨ad193, e193, hx193_0, hx193_1⟩ := at_T72 HR0.out x13_1 p193 q193
         cases e193
         replace p193 := eq_true p193
         replace q193 := eq_true q193
         have p194 : 0 ≤ (x13_1 : Int) := of_decide_eq_true (by first | (with_reducible assumption) | assumption)
         have q194 : x13_1 < (l1.length : Int) := of_decide_eq_true (by first | (with_reducible assumption) | assumption)
         obtain ⟨ad194, e194, hx194_0, hx194_1⟩ := at_T72 HR1.out x13_1 p194 q194
         cases e194
         replace p194 := eq_true p194
         replace q194 := eq_true q194
         go_wp2
         repeat (go_quiet (fail); try go_wp2)
         go_roundg k1
         case measure => have := HK1.out; omega
         case rel => exact ⟨(wrap64 (x13_1 + 1)), (by first | rfl | (simp; done) | (simp [*]; done)), H', ⟨by have := HK1.out; omega⟩, by repeat (first | exact Drawn0.refl _ | apply Drawn0.step)⟩
       ·
        rw [if_neg c7] at H
        exact absurd H (by simp)
      ·
       rw [if_neg c6] at H
       exact absurd H (by simp)
     ·
      rw [if_neg c5] at H
      exact absurd H (by simp)
    ·
     rw [if_neg c4] at H
     have c4b0 : decide (x13_1 < (l0.length : Int)) = false := decide_eq_false c4
     clear c4
     obtain rfl := Option.some.inj H
     go_wp2
     repeat (go_quiet (fail); try go_wp2)
     go_ret
     exact ⟨by first | rfl | (simp; done) | (simp [*]; done), by repeat (first | exact Drawn0.refl _ | apply Drawn0.step)⟩
 ·
  rw [if_neg c3] at H
  have c3b0 : ((l0.length : Int) == (l1.length : Int)) = false := beq_eq_false_iff_ne.mpr c3
  have c3b1 : ((l0.length : Int) != (l1.length : Int)) = true := bne_iff_ne.mpr c3
  have c3b2 : (l0.length == l1.length) = false := by first | simpa using c3 | (simp at c3 ⊢; omega)
  obtain rfl := Option.some.inj H
  go_enter Tryz.func71, Tryz.ntmps71
  go_wp2
  repeat (go_quiet (fail); try go_wp2)
  go_ret
  exact ⟨by first | rfl | (simp; done) | (simp [*]; done), by repeat (first | exact Drawn0.refl _ | apply Drawn0.step)⟩
def board_Same.f (k : Nat) (l0_0 : List (S72)) (a0_1 : ByteArray) (l1_0 : List (S72)) (a1_1 : ByteArray) : Option (Bool) := if a0_1.toList = a1_1.toList then ((value_Value_71.f k l0_0 l1_0).bind fun t197 => (some t197)) else (some false)
theorem board_Same.mono : ∀ a0 a1 a2 a3 k, LeO (board_Same.f k a0 a1 a2 a3) (board_Same.f (k + 1) a0 a1 a2 a3) := by
 intro a0 a1 a2 a3 k
 unfold board_Same.f
 repeat' first
  | (with_reducible exact value_Value_71.mono _ _ _)
  | (with_reducible exact LeO.refl _)
  | (with_reducible exact LeO.none _)
  | (with_reducible refine LeO.ite ?_ ?_)
  | (with_reducible refine LeO.bind ?_ (fun _ => ?_))
  | exact value_Value_71.mono _ _ _
  | exact LeO.none _
  | refine LeO.ite ?_ ?_
  | refine LeO.bind ?_ (fun _ => ?_)
set_option maxHeartbeats 8000000 in
theorem board_Same.calls (k : Nat) (A0_0 : Option Addr) (c0_0 : Nat) (l0_0 : List (S72)) (a0_1 : ByteArray) (A1_0 : Option Addr) (c1_0 : Nat) (l1_0 : List (S72)) (a1_1 : ByteArray) (r : Bool) (w : World) (hr0_0 : Kd.C k72 w A0_0 l0_0.length l0_0) (hc0_0 : l0_0.length ≤ c0_0) (hr1_0 : Kd.C k72 w A1_0 l1_0.length l1_0) (hc1_0 : l1_0.length ≤ c1_0) (h : board_Same.f k l0_0 a0_1 l1_0 a1_1 = some r) :
 Calls Tryz.prog 46 #[.agg #[.slice A0_0 l0_0.length c0_0, .string a0_1], .agg #[.slice A1_0 l1_0.length c1_0, .string a1_1]] w fun e w' => e = .returned (.bool r) ∧ Below w.heap.size w w' := by
 have hu44 := Tryz.underlying44
 have HR0_0 := mk0 hr0_0
 have HC0_0 := mk0 hc0_0
 clear hr0_0 hc0_0
 have HR1_0 := mk0 hr1_0
 have HC1_0 := mk0 hc1_0
 clear hr1_0 hc1_0
 have HB := mk0 (Below.refl w.heap.size w)
 have H : (if a0_1.toList = a1_1.toList then ((value_Value_71.f k l0_0 l1_0).bind fun t197 => (some t197)) else (some false)) = some r := h
 clear h
 by_cases c3 : a0_1.toList = a1_1.toList
 ·
  rw [if_pos c3] at H
  have c3b0 : (a0_1.toList == a1_1.toList) = true := beq_iff_eq.mpr c3
  have c3b1 : (a0_1.toList != a1_1.toList) = false := bne_eq_false_iff_eq.mpr c3
  clear c3
  replace H := Option.bind_eq_some_iff.mp H
  obtain ⟨t197, A40, H⟩ := H
  replace H : (some t197) = some r := H
  have A4 := mk0 A40
  clear A40
  obtain rfl := Option.some.inj H
  go_enter Tryz.func46, Tryz.ntmps46
  go_wp2_with (first | ((with_reducible refine gate_dst (N := 2) rfl ?_); refine box_event ?hg (N := 2) ?hd (cs := #[.slice A0_0 l0_0.length c0_0, .string a0_1]) (t := 44) ?hr ?_; (case hd => rfl); (case hg => rfl); (case hr => first | (go_simp; done) | (go_simp; rfl)); intro gb195 hg w5 hbox hb; have n0_ := mk0 (below_step (by repeat (first | (with_reducible first | exact HB.out | apply below_alloc | apply pw_below_drewN | apply below_drew1) | exact HB.out)) hb); have n1_ := mk0 (hbox); have n2_ := mk0 ((by rw [hg]; exact (below_size (by repeat (first | (with_reducible first | exact HB.out | apply below_alloc | apply pw_below_drewN | apply below_drew1) | exact HB.out))) : w.heap.size ≤ gb195)); have n3_ := mk0 ((by rw [hg]; exact (below_size (by repeat (first | (with_reducible first | exact HB.out | apply below_alloc | apply pw_below_drewN | apply below_drew1) | exact HB.out))) : w.heap.size ≤ gb195)); clear HB; have HB := n0_; have BK195 := n1_; have GW195 := n2_; have GE195 := n3_; clear n0_ n1_ n2_ n3_; clear hb hbox hg) | ((with_reducible refine gate_dst (N := 3) rfl ?_); refine box_event ?hg (N := 3) ?hd (cs := #[.slice A1_0 l1_0.length c1_0, .string a1_1]) (t := 44) ?hr ?_; (case hd => rfl); (case hg => rfl); (case hr => first | (go_simp; done) | (go_simp; rfl)); intro gb196 hg w6 hbox hb; have n0_ := mk0 (blk_below (g := gb195) (o := .cells #[.slice A0_0 l0_0.length c0_0, .string a0_1] 44 (0, 0)) (by (with_reducible repeat (first | refine blk_drewN ?_ _ | refine blk_drew ?_ | refine blk_alloc ?_ _)); exact BK195.out) hb); have n1_ := mk0 (below_step (by repeat (first | (with_reducible first | exact HB.out | apply below_alloc | apply pw_below_drewN | apply below_drew1 | refine below_set ?_ GE195.out) | exact HB.out)) hb); have n2_ := mk0 (hbox); have n3_ := mk0 ((by rw [hg]; exact (below_size (by repeat (first | (with_reducible first | exact HB.out | apply below_alloc | apply pw_below_drewN | apply below_drew1 | refine below_set ?_ GE195.out) | exact HB.out))) : w.heap.size ≤ gb196)); have n4_ := mk0 ((by rw [hg]; exact (below_size (by repeat (first | (with_reducible first | exact HB.out | apply below_alloc | apply pw_below_drewN | apply below_drew1 | refine below_set ?_ GE195.out) | exact HB.out))) : w.heap.size ≤ gb196)); have n5_ := mk0 ((by rw [hg]; exact Nat.ne_of_lt (blk_lt (g := gb195) (o := .cells #[.slice A0_0 l0_0.length c0_0, .string a0_1] 44 (0, 0)) (by (with_reducible repeat (first | refine blk_drewN ?_ _ | refine blk_drew ?_ | refine blk_alloc ?_ _)); exact BK195.out)) : gb195 ≠ gb196)); have n6_ := mk0 ((by rw [hg]; exact Nat.ne_of_gt (blk_lt (g := gb195) (o := .cells #[.slice A0_0 l0_0.length c0_0, .string a0_1] 44 (0, 0)) (by (with_reducible repeat (first | refine blk_drewN ?_ _ | refine blk_drew ?_ | refine blk_alloc ?_ _)); exact BK195.out)) : gb196 ≠ gb195)); clear BK195; clear HB; have BK195 := n0_; have HB := n1_; have BK196 := n2_; have GW196 := n3_; have GE196 := n4_; have NB195_196 := n5_; have NB196_195 := n6_; clear n0_ n1_ n2_ n3_ n4_ n5_ n6_; clear hb hbox hg; have hnb7 := NB195_196.out; have hnc7 := NB196_195.out; have hcz8_0 : w6.cell? ⟨gb195, 0, none⟩ = some (.slice A0_0 l0_0.length c0_0) := (blk_cell BK195.out 0).trans rfl; have hcz8_1 : w6.cell? ⟨gb195, 1, none⟩ = some (.string a0_1) := (blk_cell BK195.out 1).trans rfl; have hfz8_0 := blk_frozen BK195.out 0; have hfz8_1 := blk_frozen BK195.out 1; have hcz9_0 : w6.cell? ⟨gb196, 0, none⟩ = some (.slice A1_0 l1_0.length c1_0) := (blk_cell BK196.out 0).trans rfl; have hcz9_1 : w6.cell? ⟨gb196, 1, none⟩ = some (.string a1_1) := (blk_cell BK196.out 1).trans rfl; have hfz9_0 := blk_frozen BK196.out 0; have hfz9_1 := blk_frozen BK196.out 1) | (go_at_call 71; (with_reducible refine (value_Value_71.calls k _ _ l0_0 _ _ l1_0 t197 _ ?side1 ?side2 ?side3 ?side4 A4.out).mono ?_); (case side1 => repeat (first | exact (Kd.C_below HR0_0.out HB.out) | (with_reducible refine Kd.C_alloc ?_ _) | (with_reducible refine Kd.C_drewN ?_ _) | (with_reducible refine Kd.C_drew ?_))); (case side2 => exact HC0_0.out); (case side3 => repeat (first | exact (Kd.C_below HR1_0.out HB.out) | (with_reducible refine Kd.C_alloc ?_ _) | (with_reducible refine Kd.C_drewN ?_ _) | (with_reducible refine Kd.C_drew ?_))); (case side4 => exact HC1_0.out); rintro e w' ⟨rfl, ⟨nd, rfl⟩⟩))
  go_ret
  exact ⟨by first | rfl | (simp [errW_none, errW_some] <;> rfl) | (simp [*, errW_none, errW_some] <;> rfl), by repeat (first | (with_reducible first | exact HB.out | apply below_alloc | apply pw_below_drewN | apply below_drew1 | refine below_set ?_ GE195.out | refine below_set ?_ GE196.out) | exact HB.out)⟩
 ·
  rw [if_neg c3] at H
  have c3b0 : (a0_1.toList == a1_1.toList) = false := beq_eq_false_iff_ne.mpr c3
  have c3b1 : (a0_1.toList != a1_1.toList) = true := bne_iff_ne.mpr c3
  obtain rfl := Option.some.inj H
  go_enter Tryz.func46, Tryz.ntmps46
  go_wp2_with (first | ((with_reducible refine gate_dst (N := 2) rfl ?_); refine box_event ?hg (N := 2) ?hd (cs := #[.slice A0_0 l0_0.length c0_0, .string a0_1]) (t := 44) ?hr ?_; (case hd => rfl); (case hg => rfl); (case hr => first | (go_simp; done) | (go_simp; rfl)); intro gb195 hg w10 hbox hb; have n0_ := mk0 (below_step (by repeat (first | (with_reducible first | exact HB.out | apply below_alloc | apply pw_below_drewN | apply below_drew1) | exact HB.out)) hb); have n1_ := mk0 (hbox); have n2_ := mk0 ((by rw [hg]; exact (below_size (by repeat (first | (with_reducible first | exact HB.out | apply below_alloc | apply pw_below_drewN | apply below_drew1) | exact HB.out))) : w.heap.size ≤ gb195)); have n3_ := mk0 ((by rw [hg]; exact (below_size (by repeat (first | (with_reducible first | exact HB.out | apply below_alloc | apply pw_below_drewN | apply below_drew1) | exact HB.out))) : w.heap.size ≤ gb195)); clear HB; have HB := n0_; have BK195 := n1_; have GW195 := n2_; have GE195 := n3_; clear n0_ n1_ n2_ n3_; clear hb hbox hg) | ((with_reducible refine gate_dst (N := 3) rfl ?_); refine box_event ?hg (N := 3) ?hd (cs := #[.slice A1_0 l1_0.length c1_0, .string a1_1]) (t := 44) ?hr ?_; (case hd => rfl); (case hg => rfl); (case hr => first | (go_simp; done) | (go_simp; rfl)); intro gb196 hg w11 hbox hb; have n0_ := mk0 (blk_below (g := gb195) (o := .cells #[.slice A0_0 l0_0.length c0_0, .string a0_1] 44 (0, 0)) (by (with_reducible repeat (first | refine blk_drewN ?_ _ | refine blk_drew ?_ | refine blk_alloc ?_ _)); exact BK195.out) hb); have n1_ := mk0 (below_step (by repeat (first | (with_reducible first | exact HB.out | apply below_alloc | apply pw_below_drewN | apply below_drew1 | refine below_set ?_ GE195.out) | exact HB.out)) hb); have n2_ := mk0 (hbox); have n3_ := mk0 ((by rw [hg]; exact (below_size (by repeat (first | (with_reducible first | exact HB.out | apply below_alloc | apply pw_below_drewN | apply below_drew1 | refine below_set ?_ GE195.out) | exact HB.out))) : w.heap.size ≤ gb196)); have n4_ := mk0 ((by rw [hg]; exact (below_size (by repeat (first | (with_reducible first | exact HB.out | apply below_alloc | apply pw_below_drewN | apply below_drew1 | refine below_set ?_ GE195.out) | exact HB.out))) : w.heap.size ≤ gb196)); have n5_ := mk0 ((by rw [hg]; exact Nat.ne_of_lt (blk_lt (g := gb195) (o := .cells #[.slice A0_0 l0_0.length c0_0, .string a0_1] 44 (0, 0)) (by (with_reducible repeat (first | refine blk_drewN ?_ _ | refine blk_drew ?_ | refine blk_alloc ?_ _)); exact BK195.out)) : gb195 ≠ gb196)); have n6_ := mk0 ((by rw [hg]; exact Nat.ne_of_gt (blk_lt (g := gb195) (o := .cells #[.slice A0_0 l0_0.length c0_0, .string a0_1] 44 (0, 0)) (by (with_reducible repeat (first | refine blk_drewN ?_ _ | refine blk_drew ?_ | refine blk_alloc ?_ _)); exact BK195.out)) : gb196 ≠ gb195)); clear BK195; clear HB; have BK195 := n0_; have HB := n1_; have BK196 := n2_; have GW196 := n3_; have GE196 := n4_; have NB195_196 := n5_; have NB196_195 := n6_; clear n0_ n1_ n2_ n3_ n4_ n5_ n6_; clear hb hbox hg; have hnb12 := NB195_196.out; have hnc12 := NB196_195.out; have hcz13_0 : w11.cell? ⟨gb195, 0, none⟩ = some (.slice A0_0 l0_0.length c0_0) := (blk_cell BK195.out 0).trans rfl; have hcz13_1 : w11.cell? ⟨gb195, 1, none⟩ = some (.string a0_1) := (blk_cell BK195.out 1).trans rfl; have hfz13_0 := blk_frozen BK195.out 0; have hfz13_1 := blk_frozen BK195.out 1; have hcz14_0 : w11.cell? ⟨gb196, 0, none⟩ = some (.slice A1_0 l1_0.length c1_0) := (blk_cell BK196.out 0).trans rfl; have hcz14_1 : w11.cell? ⟨gb196, 1, none⟩ = some (.string a1_1) := (blk_cell BK196.out 1).trans rfl; have hfz14_0 := blk_frozen BK196.out 0; have hfz14_1 := blk_frozen BK196.out 1))
  go_ret
  exact ⟨by first | rfl | (simp [errW_none, errW_some] <;> rfl) | (simp [*, errW_none, errW_some] <;> rfl), by repeat (first | (with_reducible first | exact HB.out | apply below_alloc | apply pw_below_drewN | apply below_drew1 | refine below_set ?_ GE195.out | refine below_set ?_ GE196.out) | exact HB.out)⟩
end Go.Proofs.YtlokmijoaocofaaGreatDoor.PBoardPlays
end
section
namespace Go.Proofs.YtlokmijoaocofaaGreatDoor.Mine
open Go.RowKit YtlokmijoaocofaaGreatDoorW.PrintWords YtlokmijoaocofaaGreatDoorW.PrintLast YtlokmijoaocofaaGreatDoorW.PrintMore
open PBoardPlays
def eqV (x y : SV) : Bool := (x.f0 == y.f0) && (x.f1.toList == y.f1.toList)
def sameL : List SV → List SV → Bool
 | [], [] => true
 | x :: r, y :: s => eqV x y && sameL r s
 | _, _ => false
theorem sameL_len : ∀ (l1 l2 : List SV), l1.length ≠ l2.length → sameL l1 l2 = false
 | [], [], h => by simp at h
 | [], _ :: _, _ => rfl
 | _ :: _, [], _ => rfl
 | x :: r, y :: s, h => by
  unfold sameL
  rw [sameL_len r s (by simpa using h), Bool.and_false]
theorem same_l0 (l1 l2 : List SV) (hl : l1.length ≤ 1000000) (h2 : l2.length = l1.length) : ∀ (d k i : Nat), l1.length - i = d → i ≤ l1.length → d < k → value_Value_71.l0 k l1 l2 (l1.length : Int) (i : Int) = some (sameL (l1.drop i) (l2.drop i)) := by
 intro d
 induction d with
 | zero =>
  intro k i h0 hd hk
  obtain ⟨k, rfl⟩ : ∃ m, k = m + 1 := ⟨k - 1, by omega⟩
  simp only [value_Value_71.l0]
  rw [if_neg (by omega), List.drop_eq_nil_iff.2 (by omega), List.drop_eq_nil_iff.2 (by omega)]
  rfl
 | succ d ih =>
  intro k i h0 hd hk
  obtain ⟨k, rfl⟩ : ∃ m, k = m + 1 := ⟨k - 1, by omega⟩
  simp only [value_Value_71.l0]
  rw [if_pos (by omega), if_pos (by omega), if_pos (by omega), if_pos (by omega), wrap_in (by omega) (by omega), show (i : Int) + 1 = ((i + 1 : Nat) : Int) by omega]
  have e1 : l1.drop i = rd_T72 l1 (i : Int) :: l1.drop (i + 1) := by
   rw [List.drop_eq_getElem_cons (by omega)]
   show _ = l1.getD (Int.toNat (i : Int)) _ :: _
   rw [Int.toNat_natCast, List.getD_eq_getElem?_getD, List.getElem?_eq_getElem (by omega)]
   rfl
  have e2 : l2.drop i = rd_T72 l2 (i : Int) :: l2.drop (i + 1) := by
   rw [List.drop_eq_getElem_cons (by omega)]
   show _ = l2.getD (Int.toNat (i : Int)) _ :: _
   rw [Int.toNat_natCast, List.getD_eq_getElem?_getD, List.getElem?_eq_getElem (by omega)]
   rfl
  rw [e1, e2]
  generalize rd_T72 l1 (i : Int) = x
  generalize rd_T72 l2 (i : Int) = y
  unfold sameL
  cases hx : eqV x y with
  | true =>
   unfold eqV at hx
   simp only [Bool.and_eq_true] at hx
   rw [hx.1, hx.2, if_neg (by simp), Bool.true_and]
   exact ih k (i + 1) (by omega) (by omega) (by omega)
  | false =>
   unfold eqV at hx
   rw [if_pos (by cases h3 : (x.f0 == y.f0) <;> simp_all)]
   rfl
theorem same_f (l1 l2 : List SV) (hl : l1.length ≤ 1000000) : value_Value_71.f (l1.length + 1) l1 l2 = some (sameL l1 l2) := by
 unfold value_Value_71.f
 by_cases h : l2.length = l1.length
 ·
  rw [if_pos (by omega)]
  exact same_l0 l1 l2 hl h l1.length _ 0 (by omega) (by omega) (by omega)
 ·
  rw [if_neg (by omega), sameL_len l1 l2 (by omega)]
def sameEv (V1 : List SV) (p1 : ByteArray) (V2 : List SV) (p2 : ByteArray) : Bool := (p1.toList == p2.toList) && sameL V1 V2
theorem same_calls (A B : Option Addr) (n m c d : Nat) (V1 V2 : List SV) (p1 p2 : ByteArray) (w : World) (hn : V1.length = n) (hm : V2.length = m) (hr : Kd.C k72 w A n V1) (hr2 : Kd.C k72 w B m V2) (hc : n ≤ c) (hd : m ≤ d) (hl : n ≤ 1000000) :
 Calls Tryz.prog 46 #[encE A n c p1, encE B m d p2] w fun e w' => e = .returned (.bool (sameEv V1 p1 V2 p2)) ∧ Below w.heap.size w w' := by
 subst hn
 subst hm
 refine board_Same.calls (V1.length + 1) A c V1 p1 B d V2 p2 _ w hr hc hr2 hd ?_
 unfold board_Same.f sameEv
 by_cases h : p1.toList = p2.toList
 ·
  rw [if_pos h, same_f V1 V2 hl, h]
  simp
 ·
  rw [if_neg h]
  have : (p1.toList == p2.toList) = false := by simpa using h
  rw [this]
  rfl
theorem all_drop {α : Type} (p : α → Bool) (l : List α) (i : Nat) (x : α) (h : l[i]? = some x) : (l.drop i).all p = (p x && (l.drop (i + 1)).all p) := by
 have hl : i < l.length := (List.getElem?_eq_some_iff.1 h).1
 rw [List.drop_eq_getElem_cons hl, (List.getElem?_eq_some_iff.1 h).2, List.all_cons]
set_option maxHeartbeats 8000000 in
theorem rmatch_calls (A B E : Option Addr) (n m k c d e0 : Nat) (S : List SA) (F : List SP) (V : List SV) (pay : ByteArray) (w : World) (hn : S.length = n) (hm : F.length = m) (hk : V.length = k) (hr : Kd.C k63 w A n (S.map toA)) (hr2 : Kd.C k158 w B m (F.map toQ)) (hr3 : Kd.C k135 w E k (V.map toV)) (hl : n ≤ 100000) (hl2 : m ≤ 100000) (hcd : m ≤ d) (hst : ∀ p ∈ F, p.f4.size ≤ 1000000000) (hsz : ∀ x ∈ V, x.f1.size ≤ 1000000000) :
 Calls Tryz.prog 36 #[.slice A n c, .slice B m d, .slice E k e0, .int .i64 (pay.size : Int)] w fun e w' => e = .returned (.bool (matchB S F V pay)) ∧ Below w.heap.size w w' := by
 have HRS := mk0 hr
 have HRF := mk0 hr2
 have HRV := mk0 hr3
 have HN := mk0 hn
 have HM := mk0 hm
 have HK := mk0 hk
 have HST := mk0 hst
 have HSZ := mk0 hsz
 have HZ := mk0 (show matchB S F V pay = ((filterBad S F).isNone && ((evBad S V pay).isNone && F.all fun p => takesB p (V.getD (findB p.f0 S).toNat z72))) from rfl)
 generalize matchB S F V pay = z at HZ ⊢
 clear hr hr2 hr3 hn hm hk hst hsz
 have HFC := mk0 (rfilter_calls A B n m c d S F w HN.out HM.out HRS.out HRF.out hl hl2 hcd HST.out)
 have HEC := mk0 (fun W (hb : Below w.heap.size w W) => revent_calls A E n k c e0 S V pay W HN.out HK.out (Kd.C_below HRS.out hb) (Kd.C_below HRV.out hb) hl HSZ.out)
 cases hfb : filterBad S F with
 | some i =>
  have HR := mk0 (show z = false by rw [HZ.out, hfb]; rfl)
  rw [hfb] at HFC
  have q1 : decide (0 ≤ badI2 (some i)) = true := decide_eq_true (by show (0 : Int) ≤ (i : Int); omega)
  clear hfb
  go_enter Tryz.func36, Tryz.ntmps36
  go_wp2_with fail
  refine HFC.out.mono ?_
  rintro e w1 ⟨rfl, hb⟩
  clear HFC HEC
  go_wp2
  try go_ret
  exact ⟨by rw [HR.out]; rfl, hb⟩
 | none =>
  rw [hfb] at HFC
  have hfx := filterBad_find hfb
  have HFX := mk0 hfx
  have q1 : decide (0 ≤ badI2 none) = false := by decide
  cases heb : evBad S V pay with
  | some i =>
   have HR := mk0 (show z = false by rw [HZ.out, hfb, heb]; rfl)
   rw [heb] at HEC
   have q2 : decide (0 ≤ badI2 (some i)) = true := decide_eq_true (by show (0 : Int) ≤ (i : Int); omega)
   clear hfb heb hfx
   go_enter Tryz.func36, Tryz.ntmps36
   go_wp2_with fail
   refine HFC.out.mono ?_
   rintro e w1 ⟨rfl, hb⟩
   have HB := mk0 hb
   clear HFC hb
   go_wp2_with fail
   refine (HEC.out _ HB.out).mono ?_
   rintro e w2 ⟨rfl, hb⟩
   have hfin := below_then HB.out HB.out.size hb
   clear HEC hb
   go_wp2
   try go_ret
   exact ⟨by rw [HR.out]; rfl, hfin⟩
  | none =>
   have hlen := evBad_len heb
   have HP := mk0 (show z = (F.drop 0).all fun p => takesB p (V.getD (findB p.f0 S).toNat z72) by rw [HZ.out, hfb, heb]; rfl)
   rw [heb] at HEC
   have HKN := mk0 (show k = n by have := HK.out; have := HN.out; omega)
   clear hfb heb hfx hlen
   go_enter Tryz.func36, Tryz.ntmps36
   go_wp2_with fail
   refine HFC.out.mono ?_
   rintro e w1 ⟨rfl, hb⟩
   have HB := mk0 hb
   clear HFC hb
   go_wp2_with fail
   refine (HEC.out _ HB.out).mono ?_
   rintro e w2 ⟨rfl, hb⟩
   have n1 := mk0 (below_then HB.out HB.out.size hb)
   clear HEC HB hb
   have HB := n1
   clear n1
   go_upto_region 4 with (fail)
   go_loopg [10, 24] (m + 1) (fun kq v10 v24 W => ∃ i : Nat, Aside0 (i ≤ m ∧ kq + i = m + 1 ∧ z = (F.drop i).all fun p => takesB p (V.getD (findB p.f0 S).toNat z72)) ∧ v24 = .int .i64 (i : Int) ∧ Aside0 (Below w.heap.size w W))
   case atStart => exact ⟨0, ⟨by omega, by omega, HP.out⟩, rfl, HB⟩
   case round =>
    clear HB HP
    obtain ⟨i, HI, rfl, HB⟩ := hrel
    by_cases hi : i < m
    ·
     have b1 : decide ((i : Int) < (m : Int)) = true := decide_eq_true (by omega)
     have b2 : decide (i < m) = true := decide_eq_true (by omega)
     have p1 : (0 : Int) ≤ (i : Int) := by omega
     have p2 : (i : Int) < (m : Int) := by omega
     obtain ⟨ad, e, h0, h1, h2, h3, h4⟩ := at_T158 (Kd.C_below HRF.out HB.out) i p1 p2
     cases e
     obtain ⟨p, hp⟩ : ∃ p, F[i]? = some p := ⟨_, List.getElem?_eq_getElem (by have := HM.out; omega)⟩
     have hgd : F.getD i z149 = p := by rw [List.getD_eq_getElem?_getD, hp]; rfl
     have hrd : rd_T158 (F.map toQ) (i : Int) = toQ p := by rw [← hgd]; exact getD_toQ F i
     rw [hrd, Int.toNat_natCast] at h0 h1 h2 h3 h4
     have hpm : p ∈ F := List.mem_of_getElem? hp
     have HAD := mk0 (all_drop (fun p => takesB p (V.getD (findB p.f0 S).toNat z72)) F i p hp)
     have hkk := HFX.out p hpm
     have hps := HST.out p hpm
     clear hrd hgd hp hpm
     change wr.cell? _ = some (.string p.f0) at h0
     change wr.cell? _ = some (.int .i64 p.f1) at h1
     change wr.cell? _ = some (.int .i64 p.f2) at h2
     change wr.cell? _ = some (.int .i64 p.f3) at h3
     change wr.cell? _ = some (.string p.f4) at h4
     have hlt := findB_lt p.f0 S
     obtain ⟨kk, hkk2⟩ : ∃ x, x = findB p.f0 S := ⟨_, rfl⟩
     rw [← hkk2] at hkk hlt HAD
     have HKE := mk0 hkk2
     obtain ⟨j, rfl⟩ : ∃ j : Nat, kk = (j : Int) := ⟨kk.toNat, by omega⟩
     clear hkk2 hkk
     have p3 : (0 : Int) ≤ (j : Int) := by omega
     have p4 : (j : Int) < (k : Int) := by have := HN.out; have := HKN.out; omega
     obtain ⟨ad3, e, k0, k1⟩ := at_T135 (Kd.C_below HRV.out HB.out) (j : Int) p3 p4
     cases e
     have hrd2 : rd_T135 (V.map toV) (j : Int) = toV (V.getD j z72) := getD_toV V j
     rw [hrd2, Int.toNat_natCast] at k0 k1
     rw [Int.toNat_natCast] at HAD
     have hvz : (V.getD j z72).f1.size ≤ 1000000000 := HSZ.out _ (by rw [List.getD_eq_getElem?_getD, List.getElem?_eq_getElem (by have := HK.out; omega)]; exact List.getElem_mem _)
     generalize V.getD j z72 = v at k0 k1 HAD hvz
     change wr.cell? _ = some (.int .i64 v.f0) at k0
     change wr.cell? _ = some (.string v.f1) at k1
     have HTC := mk0 (fun W => rtrue_calls p v W hvz hps)
     clear hrd2 hlt hvz hps
     go_upto_region 6 with (fail)
     have hb2 := below_alloc (Below.refl wr.heap.size wr) (.cells #[.string p.f0, .int .i64 p.f1, .int .i64 p.f2, .int .i64 p.f3, .string p.f4] 158)
     have kx := heap_alloc_new wr (.cells #[.string p.f0, .int .i64 p.f1, .int .i64 p.f2, .int .i64 p.f3, .string p.f4] 158)
     replace k0 := cell_blw hb2 k0
     replace k1 := cell_blw hb2 k1
     have n2 := mk0 (below_then HB.out HB.out.size hb2)
     clear HB hb2 h0 h1 h2 h3 h4
     have HB := n2
     clear n2
     generalize wr.alloc (.cells #[.string p.f0, .int .i64 p.f1, .int .i64 p.f2, .int .i64 p.f3, .string p.f4] 158) = w2 at kx k0 k1 HB ⊢
     generalize wr.heap.size = gx at kx ⊢
     have q0 : ∀ q : BelowP w2, q.w.cell? ⟨gx, 0, none⟩ = some (.string p.f0) := fun q => q.cell ((blk_cell kx 0).trans rfl)
     have q1' : ∀ q : BelowP w2, q.w.cell? ⟨gx, 1, none⟩ = some (.int .i64 p.f1) := fun q => q.cell ((blk_cell kx 1).trans rfl)
     have q2' : ∀ q : BelowP w2, q.w.cell? ⟨gx, 2, none⟩ = some (.int .i64 p.f2) := fun q => q.cell ((blk_cell kx 2).trans rfl)
     have q3 : ∀ q : BelowP w2, q.w.cell? ⟨gx, 3, none⟩ = some (.int .i64 p.f3) := fun q => q.cell ((blk_cell kx 3).trans rfl)
     have q4 : ∀ q : BelowP w2, q.w.cell? ⟨gx, 4, none⟩ = some (.string p.f4) := fun q => q.cell ((blk_cell kx 4).trans rfl)
     have q5 : ∀ q : BelowP w2, q.w.cell? (ad3.add (j * 2)) = some (.int .i64 v.f0) := fun q => q.cell k0
     have q6 : ∀ q : BelowP w2, q.w.cell? ⟨(ad3.add (j * 2)).block, (ad3.add (j * 2)).off + 1, none⟩ = some (.string v.f1) := fun q => q.cell k1
     have HFF := mk0 (fun q : BelowP w2 => (rfind_calls A n c (S.map toA) p.f0 q.w (by rw [List.length_map]; exact HN.out) (Kd.C_below HRS.out (below_then HB.out HB.out.size q.h)) hl).mono (fun e w' hq => show e = .returned (.int .i64 (j : Int)) ∧ Below q.w.heap.size q.w w' from by rw [findR_map, ← HKE.out] at hq; exact hq))
     clear kx k0 k1
     cases htb : takesB p v with
     | false =>
      rw [htb] at HTC
      have HR := mk0 (show z = false by rw [HI.out.2.2, HAD.out, htb, Bool.false_and])
      clear htb
      refine wp_region_quiet_below (by kernel_rfl) (by kernel_rfl) ?_
      repeat ((with_reducible refine wpQuiet_step (fun K hK => ?_)); go_simp; first | ((with_reducible refine hK _ ?_); clear hK K) | ((with_reducible apply Exists.intro); (with_reducible refine ⟨fun _ => ?_, hK _ ?_⟩); (first | (go_at_call 61; (with_reducible refine Calls.below_of (HFF.out _))) | (go_at_call 60; (with_reducible refine Calls.below_of (HTC.out _)))); clear hK K))
      with_reducible refine wpQuiet_nil ?_
      rintro _ ⟨pq, rfl⟩
      have hfin := below_then HB.out HB.out.size pq.h
      go_wp2
      try go_ret
      exact ⟨by rw [HR.out]; rfl, hfin⟩
     | true =>
      rw [htb] at HTC
      have HFF2 := mk0 (show z = (F.drop (i + 1)).all fun p => takesB p (V.getD (findB p.f0 S).toNat z72) by rw [HI.out.2.2, HAD.out, htb, Bool.true_and])
      clear htb
      refine wp_region_quiet_below (by kernel_rfl) (by kernel_rfl) ?_
      repeat ((with_reducible refine wpQuiet_step (fun K hK => ?_)); go_simp; first | ((with_reducible refine hK _ ?_); clear hK K) | ((with_reducible apply Exists.intro); (with_reducible refine ⟨fun _ => ?_, hK _ ?_⟩); (first | (go_at_call 61; (with_reducible refine Calls.below_of (HFF.out _))) | (go_at_call 60; (with_reducible refine Calls.below_of (HTC.out _)))); clear hK K))
      with_reducible refine wpQuiet_nil ?_
      rintro _ ⟨pq, rfl⟩
      have n1 := mk0 (below_then HB.out HB.out.size pq.h)
      go_wp2_with fail
      go_roundg (gk - 1)
      case measure => have := HI.out; omega
      case rel => exact ⟨i + 1, ⟨by omega, by have := HI.out; omega, HFF2.out⟩, (by first | rfl | (rw [wrap_in (by omega) (by omega), show (i : Int) + 1 = ((i + 1 : Nat) : Int) by omega])), n1⟩
    ·
     have b1 : decide ((i : Int) < (m : Int)) = false := decide_eq_false (by omega)
     have b2 : decide (i < m) = false := decide_eq_false (by omega)
     have HR := mk0 (show z = true by rw [HI.out.2.2, List.drop_of_length_le (by have := HM.out; omega)]; rfl)
     go_wp2
     try go_ret
     exact ⟨by rw [HR.out]; rfl, HB.out⟩
theorem eqA29 (d : Nat) (w : World) (x0 y0 : Int) (x1 y1 : ByteArray) :
 (Op.equalIn (d + 2) 135 (.agg #[.int .i64 x0, .string x1]) (.agg #[.int .i64 y0, .string y1])).run Tryz.prog w = .ok (x0 == y0 && (x1.toList == y1.toList)) w := by
 refine eqA_of Tryz.underlying135 (by kernel_rfl) ?_
 refine eqf_cons (by rfl) (by go_simp; rfl) (by go_simp; rfl) (by go_simp) ?_
 exact eqf_last (by rfl) (by go_simp; rfl) (by go_simp; rfl) (by go_simp)
attribute [local go_sem high] eqA29
theorem sameL_drop {V1 V2 : List SV} (hl : V1.length = V2.length) (i : Nat) (h : i < V1.length) : sameL (V1.drop i) (V2.drop i) = (eqV (V1.getD i z72) (V2.getD i z72) && sameL (V1.drop (i + 1)) (V2.drop (i + 1))) := by
 rw [List.drop_eq_getElem_cons h, List.drop_eq_getElem_cons (show i < V2.length by omega), List.getD_eq_getElem?_getD, List.getD_eq_getElem?_getD, List.getElem?_eq_getElem h, List.getElem?_eq_getElem (show i < V2.length by omega)]
 rfl
set_option maxHeartbeats 8000000 in
theorem rsame_calls (A B : Option Addr) (n m c d : Nat) (V1 V2 : List SV) (w : World) (hn : V1.length = n) (hm : V2.length = m) (hr : Kd.C k135 w A n (V1.map toV)) (hr2 : Kd.C k135 w B m (V2.map toV)) (hl : n ≤ 100000) :
 Calls Tryz.prog 51 #[.slice A n c, .slice B m d] w fun e w' => e = .returned (.bool (sameL V1 V2)) ∧ Below w.heap.size w w' := by
 have HR1 := mk0 hr
 have HR2 := mk0 hr2
 have HN := mk0 hn
 have HM := mk0 hm
 clear hr hr2 hn hm
 by_cases h1 : n = m
 ·
  subst h1
  have q0 : ((n : Int) != (n : Int)) = false := by simp
  have HP := mk0 (show sameL V1 V2 = sameL (V1.drop 0) (V2.drop 0) from rfl)
  generalize sameL V1 V2 = z at HP ⊢
  go_enter Tryz.func51, Tryz.ntmps51
  go_upto_region 4 with (fail)
  go_loopg [5, 13] (n + 1) (fun k v5 v13 W => ∃ i : Nat, Aside0 (i ≤ n ∧ k + i = n + 1 ∧ z = sameL (V1.drop i) (V2.drop i)) ∧ v13 = .int .i64 (i : Int) ∧ Aside0 (Below w.heap.size w W))
  case atStart => exact ⟨0, ⟨by omega, by omega, HP.out⟩, rfl, ⟨Below.refl _ _⟩⟩
  case round =>
   clear HP
   obtain ⟨i, HI, rfl, HB⟩ := hrel
   by_cases hi : i < n
   ·
    have b1 : decide ((i : Int) < (n : Int)) = true := decide_eq_true (by omega)
    have b2 : decide (i < n) = true := decide_eq_true (by omega)
    have p1 : (0 : Int) ≤ (i : Int) := by omega
    have p2 : (i : Int) < (n : Int) := by omega
    obtain ⟨ad1, ea, h0, h1⟩ := at_T135 (Kd.C_below HR1.out HB.out) (i : Int) p1 p2
    obtain ⟨ad2, eb, h2, h3⟩ := at_T135 (Kd.C_below HR2.out HB.out) (i : Int) p1 p2
    cases ea
    cases eb
    have hrd1 : rd_T135 (V1.map toV) (i : Int) = toV (V1.getD i z72) := getD_toV V1 i
    have hrd2 : rd_T135 (V2.map toV) (i : Int) = toV (V2.getD i z72) := getD_toV V2 i
    rw [hrd1, Int.toNat_natCast] at h0 h1
    rw [hrd2, Int.toNat_natCast] at h2 h3
    have HSD := mk0 (sameL_drop (V1 := V1) (V2 := V2) (by have := HN.out; have := HM.out; omega) i (by rw [HN.out]; exact hi))
    clear hrd1 hrd2
    generalize V1.getD i z72 = a at HSD h0 h1
    generalize V2.getD i z72 = b at HSD h2 h3
    change wr.cell? _ = some (.int .i64 a.f0) at h0
    change wr.cell? _ = some (.string a.f1) at h1
    change wr.cell? _ = some (.int .i64 b.f0) at h2
    change wr.cell? _ = some (.string b.f1) at h3
    have q0' : ∀ q : BelowP wr, q.w.cell? (ad1.add (i * 2)) = some (.int .i64 a.f0) := fun q => q.cell h0
    have q1' : ∀ q : BelowP wr, q.w.cell? ⟨(ad1.add (i * 2)).block, (ad1.add (i * 2)).off + 1, none⟩ = some (.string a.f1) := fun q => q.cell h1
    have q2' : ∀ q : BelowP wr, q.w.cell? (ad2.add (i * 2)) = some (.int .i64 b.f0) := fun q => q.cell h2
    have q3' : ∀ q : BelowP wr, q.w.cell? ⟨(ad2.add (i * 2)).block, (ad2.add (i * 2)).off + 1, none⟩ = some (.string b.f1) := fun q => q.cell h3
    clear h0 h1 h2 h3
    have hu29 := Tryz.underlying135
    cases o1 : (a.f0 == b.f0 && (a.f1.toList == b.f1.toList)) with
    | false =>
     have HR := mk0 (show z = false by rw [HI.out.2.2, HSD.out]; unfold eqV; rw [o1, Bool.false_and])
     go_wp2_with fail
     refine wp_region_quiet_below (by kernel_rfl) (by kernel_rfl) ?_
     repeat ((with_reducible refine wpQuiet_step (fun K hK => ?_)); go_simp; first | ((with_reducible refine hK _ ?_); clear hK K) | ((with_reducible apply Exists.intro); (with_reducible refine ⟨fun _ => ?_, hK _ ?_⟩); (fail); clear hK K))
     with_reducible refine wpQuiet_nil ?_
     rintro _ ⟨pq, rfl⟩
     have hfin := below_then HB.out HB.out.size pq.h
     go_wp2
     try go_ret
     exact ⟨by rw [HR.out]; rfl, hfin⟩
    | true =>
     have HFF := mk0 (show z = sameL (V1.drop (i + 1)) (V2.drop (i + 1)) by rw [HI.out.2.2, HSD.out]; unfold eqV; rw [o1, Bool.true_and])
     go_wp2_with fail
     refine wp_region_quiet_below (by kernel_rfl) (by kernel_rfl) ?_
     repeat ((with_reducible refine wpQuiet_step (fun K hK => ?_)); go_simp; first | ((with_reducible refine hK _ ?_); clear hK K) | ((with_reducible apply Exists.intro); (with_reducible refine ⟨fun _ => ?_, hK _ ?_⟩); (fail); clear hK K))
     with_reducible refine wpQuiet_nil ?_
     rintro _ ⟨pq, rfl⟩
     have n1 := mk0 (below_then HB.out HB.out.size pq.h)
     go_wp2_with fail
     go_roundg (gk - 1)
     case measure => have := HI.out; omega
     case rel => exact ⟨i + 1, ⟨by omega, by have := HI.out; omega, HFF.out⟩, (by first | rfl | (rw [wrap_in (by omega) (by omega), show (i : Int) + 1 = ((i + 1 : Nat) : Int) by omega])), n1⟩
   ·
    have b1 : decide ((i : Int) < (n : Int)) = false := decide_eq_false (by omega)
    have b2 : decide (i < n) = false := decide_eq_false (by omega)
    have HR := mk0 (show z = true by rw [HI.out.2.2, List.drop_of_length_le (by have := HN.out; omega), List.drop_of_length_le (by have := HM.out; omega)]; rfl)
    go_wp2
    try go_ret
    exact ⟨by rw [HR.out]; rfl, HB.out⟩
 ·
  have q0 : ((n : Int) != (m : Int)) = true := by simp; omega
  have q1 : (n != m) = true := by simpa using h1
  have HR := mk0 (show sameL V1 V2 = false from sameL_len V1 V2 (by rw [HN.out, HM.out]; exact h1))
  clear h1
  go_enter Tryz.func51, Tryz.ntmps51
  go_wp2
  try go_ret
  exact ⟨by rw [HR.out]; rfl, Below.refl _ _⟩
end Go.Proofs.YtlokmijoaocofaaGreatDoor.Mine
end
section
namespace Go.Proofs.YtlokmijoaocofaaGreatDoor.Mine
open Go.Maps
theorem laidOutP : laidOutB Tryz.prog = true := by kernel_rfl
theorem lawWho : Keyed Tryz.prog 56 := Keyed.of_law (deep_law_laid laidOutP (m := 3) (by omega) (of_decide_eq_true (by kernel_rfl)) (by kernel_rfl) (by kernel_rfl))
theorem lawWhat : Keyed Tryz.prog 96 := Keyed.of_law (deep_law_laid laidOutP (m := 3) (by omega) (of_decide_eq_true (by kernel_rfl)) (by kernel_rfl) (by kernel_rfl))
theorem lawGiven : Keyed Tryz.prog 102 := Keyed.of_law (deep_law_laid laidOutP (m := 5) (by omega) (of_decide_eq_true (by kernel_rfl)) (by kernel_rfl) (by kernel_rfl))
def k2 (x : Int × Int) : Value := .agg #[.int .i64 x.1, .int .i64 x.2]
def k4 (x : (Int × Int) × (Int × Int)) : Value := .agg #[.int .i64 x.1.1, .int .i64 x.1.2, .int .i64 x.2.1, .int .i64 x.2.2]
def wf2 (x : Int × Int) : Prop := (Lit.int .i64 x.1).wf = true ∧ (Lit.int .i64 x.2).wf = true
def wf4 (x : (Int × Int) × (Int × Int)) : Prop := wf2 x.1 ∧ wf2 x.2
theorem tsizeP : Tryz.prog.types.size = 255 := by kernel_rfl
theorem keyOf_struct {P : Program} {k : TypeId} {fs : Array Field} (hk : P.underlying k = some (.struct fs)) (v : Value) : keyOf P k v = if P.keyType k && v.formed P k then (P.keyLits (P.types.size + 1) k v.cells.toList).map fun ls => .string (keyBytes ls) else none := by
 unfold keyOf
 rw [hk]
theorem kl_int_mk {P : Program} {t : TypeId} (h : P.underlying t = some (.int .i64)) (d : Nat) {a : Int} (ha : (Lit.int .i64 a).wf = true) : P.keyLits (d + 1) t [.int .i64 a] = some [.int .i64 a] := by
 unfold Program.keyLits
 rw [h]
 simp [ha]
theorem kl_int_inv {P : Program} {t : TypeId} (h : P.underlying t = some (.int .i64)) {d : Nat} {cs : List Value} {ls : List Lit} (hl : P.keyLits (d + 1) t cs = some ls) : ∃ a, cs = [.int .i64 a] ∧ (Lit.int .i64 a).wf = true := by
 unfold Program.keyLits at hl
 rw [h] at hl
 split at hl <;> simp_all
theorem kl2_mk {P : Program} {k : TypeId} {f0 f1 : Field} (hk : P.underlying k = some (.struct #[f0, f1])) (h0 : P.underlying f0.type = some (.int .i64)) (h1 : P.underlying f1.type = some (.int .i64)) (o0 : f0.offset = 0) (o1 : f1.offset = 1) (c0 : P.cellsOf f0.type = 1) (c1 : P.cellsOf f1.type = 1) (hC : P.cellsOf k = 2)
 (hn : (#[f0, f1] : Array Field).all (·.name != "_") = true) (d : Nat) {x : Int × Int} (hx : wf2 x) : P.keyLits (d + 2) k [.int .i64 x.1, .int .i64 x.2] = some [.int .i64 x.1, .int .i64 x.2] := by
 unfold Program.keyLits
 rw [hk]
 simp only [hC, hn]
 simp [o0, o1, c0, c1, kl_int_mk h0 d hx.1, kl_int_mk h1 d hx.2]
theorem kl2_inv {P : Program} {k : TypeId} {f0 f1 : Field} (hk : P.underlying k = some (.struct #[f0, f1])) (h0 : P.underlying f0.type = some (.int .i64)) (h1 : P.underlying f1.type = some (.int .i64)) (o0 : f0.offset = 0) (o1 : f1.offset = 1) (c0 : P.cellsOf f0.type = 1) (c1 : P.cellsOf f1.type = 1) (hC : P.cellsOf k = 2)
 {d : Nat} {cs : List Value} {ls : List Lit} (hl : P.keyLits (d + 2) k cs = some ls) : ∃ x : Int × Int, cs = [.int .i64 x.1, .int .i64 x.2] ∧ wf2 x := by
 unfold Program.keyLits at hl
 rw [hk] at hl
 simp only [hC] at hl
 split at hl
 ·
  rename_i hcond
  obtain ⟨hlen, _⟩ := hcond
  match cs, hlen with
  | [u, v], _ =>
   have e0 : (([u, v] : List Value).drop 0).take 1 = [u] := rfl
   have e1 : (([u, v] : List Value).drop 1).take 1 = [v] := rfl
   simp only [List.mapM_cons, List.mapM_nil, o0, o1, c0, c1, e0, e1] at hl
   cases ha : P.keyLits (d + 1) f0.type [u] with
   | none => simp [ha] at hl
   | some a =>
    cases hb : P.keyLits (d + 1) f1.type [v] with
    | none => simp [ha, hb] at hl
    | some b =>
     obtain ⟨a', ea, wa⟩ := kl_int_inv h0 ha
     obtain ⟨b', eb, wb⟩ := kl_int_inv h1 hb
     obtain rfl := List.singleton_inj.1 ea
     obtain rfl := List.singleton_inj.1 eb
     exact ⟨(a', b'), rfl, wa, wb⟩
 ·
  cases hl
theorem key_who {x : Int × Int} (hx : wf2 x) : ∃ l, keyOf Tryz.prog 56 (k2 x) = some l := by
 rw [keyOf_struct Tryz.underlying56]
 have hkt : Tryz.prog.keyType 56 = true := by kernel_rfl
 have hf : (k2 x).formed Tryz.prog 56 = true := by
  have hC : Tryz.prog.cellsOf 56 = 2 := by kernel_rfl
  unfold k2 Value.formed
  rw [Tryz.underlying56]
  show ((#[Value.int .i64 x.1, Value.int .i64 x.2] : Array Value).size == _) = true
  rw [hC]
  rfl
 have hl := kl2_mk Tryz.underlying56 Tryz.underlying3 Tryz.underlying3 rfl rfl (by kernel_rfl) (by kernel_rfl) (by kernel_rfl) (by kernel_rfl) (255 - 1) hx
 rw [hkt, hf, tsizeP]
 exact ⟨_, by rw [Bool.and_self, if_pos rfl]; show Option.map _ (Program.keyLits _ (255 - 1 + 2) _ [.int .i64 x.1, .int .i64 x.2]) = _; rw [hl]; rfl⟩
theorem key_what {x : Int × Int} (hx : wf2 x) : ∃ l, keyOf Tryz.prog 96 (k2 x) = some l := by
 rw [keyOf_struct Tryz.underlying96]
 have hkt : Tryz.prog.keyType 96 = true := by kernel_rfl
 have hf : (k2 x).formed Tryz.prog 96 = true := by
  have hC : Tryz.prog.cellsOf 96 = 2 := by kernel_rfl
  unfold k2 Value.formed
  rw [Tryz.underlying96]
  show ((#[Value.int .i64 x.1, Value.int .i64 x.2] : Array Value).size == _) = true
  rw [hC]
  rfl
 have hl := kl2_mk Tryz.underlying96 Tryz.underlying3 Tryz.underlying3 rfl rfl (by kernel_rfl) (by kernel_rfl) (by kernel_rfl) (by kernel_rfl) (255 - 1) hx
 rw [hkt, hf, tsizeP]
 exact ⟨_, by rw [Bool.and_self, if_pos rfl]; show Option.map _ (Program.keyLits _ (255 - 1 + 2) _ [.int .i64 x.1, .int .i64 x.2]) = _; rw [hl]; rfl⟩
theorem key_who_inv {v : Value} {l : Lit} (h : keyOf Tryz.prog 56 v = some l) : ∃ x, v = k2 x ∧ wf2 x := by
 rw [keyOf_struct Tryz.underlying56] at h
 split at h
 ·
  rename_i hc
  rw [tsizeP] at h
  obtain ⟨ls, hls, _⟩ := Option.map_eq_some_iff.1 h
  have hls2 : Tryz.prog.keyLits (255 - 1 + 2) 56 v.cells.toList = some ls := hls
  obtain ⟨x, hx, wx⟩ := kl2_inv (d := 255 - 1) Tryz.underlying56 Tryz.underlying3 Tryz.underlying3 rfl rfl (by kernel_rfl) (by kernel_rfl) (by kernel_rfl) hls2
  refine ⟨x, ?_, wx⟩
  simp only [Bool.and_eq_true] at hc
  have hf := hc.2
  cases v with
  | agg cs =>
   have hx2 : cs.toList = [Value.int .i64 x.1, Value.int .i64 x.2] := hx
   have hx3 : cs = #[Value.int .i64 x.1, Value.int .i64 x.2] := Array.ext' hx2
   rw [hx3]
   rfl
  | _ => simp [Value.formed, Tryz.underlying56] at hf
 ·
  cases h
theorem key_given {x : (Int × Int) × (Int × Int)} (hx : wf4 x) : ∃ l, keyOf Tryz.prog 102 (k4 x) = some l := by
 rw [keyOf_struct Tryz.underlying102]
 have hkt : Tryz.prog.keyType 102 = true := by kernel_rfl
 have hC : Tryz.prog.cellsOf 102 = 4 := by kernel_rfl
 have hCw : Tryz.prog.cellsOf 56 = 2 := by kernel_rfl
 have hCt : Tryz.prog.cellsOf 96 = 2 := by kernel_rfl
 have hf : (k4 x).formed Tryz.prog 102 = true := by
  unfold k4 Value.formed
  rw [Tryz.underlying102]
  show ((#[Value.int .i64 x.1.1, Value.int .i64 x.1.2, Value.int .i64 x.2.1, Value.int .i64 x.2.2] : Array Value).size == _) = true
  rw [hC]
  rfl
 have hl1 := kl2_mk Tryz.underlying56 Tryz.underlying3 Tryz.underlying3 rfl rfl (by kernel_rfl) (by kernel_rfl) (by kernel_rfl) (by kernel_rfl) (255 - 2) hx.1
 have hl2 := kl2_mk Tryz.underlying96 Tryz.underlying3 Tryz.underlying3 rfl rfl (by kernel_rfl) (by kernel_rfl) (by kernel_rfl) (by kernel_rfl) (255 - 2) hx.2
 have hl : Tryz.prog.keyLits (255 - 2 + 3) 102 [.int .i64 x.1.1, .int .i64 x.1.2, .int .i64 x.2.1, .int .i64 x.2.2] = some [.int .i64 x.1.1, .int .i64 x.1.2, .int .i64 x.2.1, .int .i64 x.2.2] := by
  unfold Program.keyLits
  rw [Tryz.underlying102]
  simp only [hC, List.length_cons, List.length_nil]
  rw [if_pos ⟨trivial, by kernel_rfl⟩]
  simp only [List.mapM_cons, List.mapM_nil, hCw, hCt]
  simp [hl1, hl2]
 rw [hkt, hf, tsizeP]
 exact ⟨_, by rw [Bool.and_self, if_pos rfl]; show Option.map _ (Program.keyLits _ (255 - 2 + 3) _ [.int .i64 x.1.1, .int .i64 x.1.2, .int .i64 x.2.1, .int .i64 x.2.2]) = _; rw [hl]; rfl⟩
theorem k2_inj {x y : Int × Int} (h : k2 x = k2 y) : x = y := by
 unfold k2 at h
 injection h with h
 have h := congrArg Array.toList h
 simp at h
 exact Prod.ext h.1 h.2
theorem k4_inj {x y : (Int × Int) × (Int × Int)} (h : k4 x = k4 y) : x = y := by
 unfold k4 at h
 injection h with h
 have h := congrArg Array.toList h
 simp at h
 exact Prod.ext (Prod.ext h.1 h.2.1) (Prod.ext h.2.2.1 h.2.2.2)
end Go.Proofs.YtlokmijoaocofaaGreatDoor.Mine
end
