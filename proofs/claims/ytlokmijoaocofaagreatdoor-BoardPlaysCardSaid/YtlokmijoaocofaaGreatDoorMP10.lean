/- Texts of one claim, one behind the other, made short by a program. -/
import Derived.Test.YtlokmijoaocofaaGreatDoorMP9
set_option linter.unusedSimpArgs false
set_option linter.unusedVariables false
set_option maxRecDepth 100000
section
namespace Go.Proofs.YtlokmijoaocofaaGreatDoor.Mine
open Go.RowKit YtlokmijoaocofaaGreatDoorW.PrintWords YtlokmijoaocofaaGreatDoorW.PrintLast YtlokmijoaocofaaGreatDoorW.PrintMore
open PBoardPlays
open Value renaming slice → Vs
abbrev RV := S135
def toV (x : SV) : RV := ⟨x.f0, x.f1⟩
def cutV (x : SV) : SV := ⟨x.f0, cutB x.f1 50⟩
def evOf (V : List SV) : List SV := (V.take 6).map cutV
theorem ev_snoc (L : List SV) (i : Nat) (h : i < L.length) : (L.take (i + 1)).map cutV = (L.take i).map cutV ++ [cutV (L.getD i z72)] := by
 rw [List.take_succ_eq_append_getElem h, List.map_append, List.getD_eq_getElem?_getD, List.getElem?_eq_getElem h]
 rfl
set_option maxHeartbeats 4000000 in
theorem event5_calls (A : Option Addr) (n c : Nat) (L : List SV) (pay : ByteArray) (w : World) (hn : L.length = n) (hr : Kd.C k72 w A n L) (hc : n ≤ c) (hnm : ∀ p ∈ L, p.f1.size ≤ 9223372036854775807) (hpay : pay.size ≤ 9223372036854775807) (hn2 : n ≤ 9223372036854775807) :
 Calls Tryz.prog 22 #[encE A n c pay] w fun e w' => ∃ v0 v1, e = .returned (.tuple #[.agg #[v0, .string (cutB pay 210)], v1]) ∧ Kd.R k72 72 w' w.heap.size (fun _ => True) v0 (evOf L) ∧ Kd.R k135 135 w' w.heap.size (fun _ => True) v1 ((evOf L).map toV) ∧ Below w.heap.size w w' := by
 have HR := mk0 hr
 have HN := mk0 hn
 have HNM := mk0 hnm
 have HP := mk0 hpay
 have HCP := mk0 (fun W => cut_P pay 210 W HP.out (by omega))
 generalize cutB pay 210 = pay2 at HCP ⊢
 clear hr hn hnm hpay
 unfold encE
 go_enter Tryz.func22, Tryz.ntmps22
 go_wp2_with fail
 refine (HCP.out _).mono ?_
 rintro e w1 ⟨rfl, rfl⟩
 go_wp2_with fail
 obtain ⟨g1, hg1⟩ : ∃ g, g = w.heap.size := ⟨_, rfl⟩
 have hs1 : (w.alloc (.cells #[.slice A n c, .string pay] 44)).heap.size = w.heap.size + 1 := by show (w.heap.push _).size = _; exact Array.size_push _
 generalize hW1 : w.alloc (.cells #[.slice A n c, .string pay] 44) = W1 at hs1 ⊢
 have hs2 : (W1.alloc (.cells #[.slice none 0 0, .string ⟨#[]⟩] 44)).heap.size = w.heap.size + 2 := by show (W1.heap.push _).size = _; rw [Array.size_push, hs1]
 generalize hW2 : W1.alloc (.cells #[.slice none 0 0, .string ⟨#[]⟩] 44) = W2 at hs2 ⊢
 have hs3 : (W2.alloc (.cells #[] 135)).heap.size = w.heap.size + 3 := by show (W2.heap.push _).size = _; rw [Array.size_push, hs2]
 have ho5 := World.ownsRow_lit (base := w.heap.size) (e := 135) (size := 2) W2 #[] 0 (by rw [hs2]; omega) (by decide) rfl
 generalize hW3 : W2.alloc (.cells #[] 135) = W3 at hs3 ho5 ⊢
 have k1 : W1.heap[w.heap.size]? = some (.cells #[.slice A n c, .string pay] 44 (0, 0)) := by rw [← hW1]; exact blk_new w _
 have k2 : W2.heap[w.heap.size + 1]? = some (.cells #[.slice none 0 0, .string ⟨#[]⟩] 44 (0, 0)) := by rw [← hW2, ← hs1]; exact blk_new W1 _
 have k1' : W2.heap[w.heap.size]? = some (.cells #[.slice A n c, .string pay] 44 (0, 0)) := by rw [← hW2]; exact (Below.heap_alloc W1 _ _ (by omega)).trans k1
 have k2' : W3.heap[w.heap.size + 1]? = some (.cells #[.slice none 0 0, .string ⟨#[]⟩] 44 (0, 0)) := by rw [← hW3]; exact (Below.heap_alloc W2 _ _ (by omega)).trans k2
 have k1'' : W3.heap[w.heap.size]? = some (.cells #[.slice A n c, .string pay] 44 (0, 0)) := by rw [← hW3]; exact (Below.heap_alloc W2 _ _ (by omega)).trans k1'
 have hb3 : Below w.heap.size w W3 := by rw [← hW3, ← hW2, ← hW1]; exact below_alloc (below_alloc (below_alloc (Below.refl _ _) _) _) _
 have K1 := mk0 ((Below.heap_alloc W3 (.cells #[.slice none 0 0, .string pay2] 44) _ (by omega)).trans k1'')
 have K2 := mk0 ((Below.heap_alloc W3 (.cells #[.slice none 0 0, .string pay2] 44) _ (by omega)).trans k2')
 have K4 := mk0 (show (W3.alloc (.cells #[.slice none 0 0, .string pay2] 44)).heap[w.heap.size + 3]? = some (.cells #[.slice none 0 0, .string pay2] 44 (0, 0)) by rw [← hs3]; exact blk_new W3 _)
 have HB := mk0 (below_alloc hb3 (.cells #[.slice none 0 0, .string pay2] 44))
 rw [hs2] at ho5
 have hown5 : Kd.R k135 135 W3 w.heap.size (fun k => k ≠ w.heap.size ∧ k ≠ w.heap.size + 1 ∧ k ≠ w.heap.size + 3) (.slice (some ⟨w.heap.size + 2, 0, none⟩) 0 0) ([] : List RV) := by
  refine ⟨fun k hk => ?_, [], ho5, Reps.none _ _⟩
  have hk2 : w.heap.size + 2 = k := by simpa [Value.ownBlock] using hk
  exact ⟨by omega, by omega, by omega⟩
 have HO5 := mk0 (Kd.R_alloc hown5 (.cells #[.slice none 0 0, .string pay2] 44))
 rw [show w.heap.size + 1 + 1 = w.heap.size + 2 by omega, show w.heap.size + 2 + 1 = w.heap.size + 3 by omega]
 generalize W3.alloc (.cells #[.slice none 0 0, .string pay2] 44) = w0 at K1 K2 K4 HB HO5 ⊢
 obtain ⟨g2, hg2⟩ : ∃ g, g = w.heap.size + 1 := ⟨_, rfl⟩
 obtain ⟨g4, hg4⟩ : ∃ g, g = w.heap.size + 3 := ⟨_, rfl⟩
 have HGN := mk0 (show w.heap.size ≤ g2 ∧ w.heap.size ≤ g4 ∧ w.heap.size ≠ g4 ∧ g2 ≠ g4 ∧ w.heap.size ≠ g2 by omega)
 rw [← hg2, ← hg4] at HO5
 rw [← hg2] at K2
 rw [← hg4] at K4
 rw [← hg2, ← hg4]
 generalize Vs (some { block := w.heap.size + 2, off := 0 }) 0 0 = v50 at HO5 ⊢
 clear hW1 hW2 hW3 hs1 hs2 hs3 ho5 k1 k2 k1' k2' k1'' hb3 hown5 hg1 hg2 hg4
 have HO4 := mk0 (Kd.R_nil k72 72 w0 w.heap.size (fun k => k ≠ w.heap.size ∧ k ≠ g2 ∧ k ≠ g4))
 go_loopg [5, 6, 7] 8 (fun k v5 v6 v7 W => ∃ (i : Nat) (A4 : Option Addr) (n4 c4 : Nat), Aside0 (i ≤ n ∧ i ≤ 6 ∧ k + i = 8) ∧ v6 = .int .i64 (i : Int) ∧ Aside0 (Kd.R k72 72 W w.heap.size (fun k => k ≠ w.heap.size ∧ k ≠ g2 ∧ k ≠ g4) (.slice A4 n4 c4) ((L.take i).map cutV)) ∧ Aside0 (Kd.R k135 135 W w.heap.size (fun k => k ≠ w.heap.size ∧ k ≠ g2 ∧ k ≠ g4) v5 (((L.take i).map cutV).map toV)) ∧ Aside0 (W.heap[w.heap.size]? = some (.cells #[.slice A n c, .string pay] 44 (0, 0))) ∧ Aside0 (W.heap[g2]? = some (.cells #[.slice none 0 0, .string ⟨#[]⟩] 44 (0, 0))) ∧ Aside0 (W.heap[g4]? = some (.cells #[.slice A4 n4 c4, .string pay2] 44 (0, 0))) ∧ Aside0 (Below w.heap.size w W))
 case atStart => exact ⟨0, none, 0, 0, ⟨by omega, by omega, by omega⟩, rfl, HO4, HO5, K1, K2, K4, HB⟩
 case round =>
  clear HO4 HO5 HB K1 K2 K4
  obtain ⟨i, A4, n4, c4, HI, rfl, HO4, HO5, K1, K2, K4, HB⟩ := hrel
  have y10 := (blk_cell K1.out 0).trans (show _ = some (Vs A n c) from rfl)
  have y40 := (blk_cell K4.out 0).trans (show _ = some (Vs A4 n4 c4) from rfl)
  have y41 := (blk_cell K4.out 1).trans (show _ = some (Value.string pay2) from rfl)
  have y20 := (blk_cell K2.out 0).trans (show _ = some (Vs none 0 0) from rfl)
  have y21 := (blk_cell K2.out 1).trans (show _ = some (Value.string ⟨#[]⟩) from rfl)
  have f20 := blk_frozen K2.out 0
  have f21 := blk_frozen K2.out 1
  have f40 := blk_frozen K4.out 0
  by_cases hi : i < n
  ·
   have b1 : decide ((i : Int) < (n : Int)) = true := decide_eq_true (by omega)
   have b2 : decide (i < n) = true := decide_eq_true (by omega)
   have p1 : (0 : Int) ≤ (i : Int) := by omega
   have p2 : (i : Int) < (n : Int) := by omega
   by_cases h6 : i < 6
   ·
    have b3 : decide ((i : Int) < 6) = true := decide_eq_true (by omega)
    obtain ⟨ad, e, h0, h1⟩ := at_T72 (Kd.C_below HR.out HB.out) i p1 p2
    cases e
    rw [Int.toNat_natCast] at h0 h1
    have hrd : rd_T72 L (i : Int) = L.getD i z72 := rfl
    rw [hrd] at h0 h1
    have hs := ev_snoc L i (by have := HN.out; omega)
    have hz : (L.getD i z72).f1.size ≤ 9223372036854775807 := HNM.out _ (by rw [List.getD_eq_getElem?_getD, List.getElem?_eq_getElem (by have := HN.out; omega)]; exact List.getElem_mem _)
    have HS := mk0 hs
    clear hrd hs
    generalize L.getD i z72 = p at h0 h1 hz HS
    go_wp2_with fail
    refine (cut_P p.f1 50 _ hz (by omega)).mono ?_
    rintro e w1 ⟨rfl, rfl⟩
    generalize hcut : cutB p.f1 50 = st
    have HC := mk0 (show cutV p = ⟨p.f0, st⟩ by unfold cutV; rw [hcut])
    clear hcut
    go_upto_region 7 with (fail)
    have KB7 : Aside0 ((wr.alloc (.cells #[.int .i64 p.f0, .string st] 72)).heap[wr.heap.size]? = some (.cells #[.int .i64 p.f0, .string st] 72 (0, 0))) := ⟨heap_alloc_new wr _⟩
    have l1 := blk_lt K1.out
    have l2 := blk_lt K2.out
    have l4 := blk_lt K4.out
    have HLV := mk0 (fun k (hk : (Vs A4 n4 c4).ownBlock = some k) => (Kd.R_bound HO4.out).1 k hk |>.2.2.1)
    have HLU := mk0 (fun k (hk : u5.ownBlock = some k) => (Kd.R_bound HO5.out).1 k hk |>.2.2.1)
    have n0_ := mk0 ((Below.heap_alloc wr (.cells #[.int .i64 p.f0, .string st] 72) _ l1).trans K1.out)
    have n1_ := mk0 ((Below.heap_alloc wr (.cells #[.int .i64 p.f0, .string st] 72) _ l2).trans K2.out)
    have n2_ := mk0 ((Below.heap_alloc wr (.cells #[.int .i64 p.f0, .string st] 72) _ l4).trans K4.out)
    have n3_ := mk0 (below_alloc HB.out (.cells #[.int .i64 p.f0, .string st] 72))
    have n4_ := mk0 (Kd.R_alloc HO4.out (.cells #[.int .i64 p.f0, .string st] 72))
    have n5_ := mk0 (Kd.R_alloc HO5.out (.cells #[.int .i64 p.f0, .string st] 72))
    have HL4 := mk0 (show g4 ≠ wr.heap.size by omega)
    clear K1 K2 K4 HB HO4 HO5 h0 h1 y10 y40 y41 y20 y21 f20 f21 f40 l1 l2 l4
    have K1 := n0_
    have K2 := n1_
    have K4 := n2_
    have HB := n3_
    have HO4 := n4_
    have HO5 := n5_
    clear n0_ n1_ n2_ n3_ n4_ n5_
    generalize wr.alloc (.cells #[.int .i64 p.f0, .string st] 72) = w2 at KB7 K1 K2 K4 HB HO4 HO5 ⊢
    generalize wr.heap.size = g7 at KB7 HLV HLU HL4 ⊢
    have y0 := (blk_cell KB7.out 0).trans (show _ = some (Value.int .i64 p.f0) from rfl)
    have y1 := (blk_cell KB7.out 1).trans (show _ = some (Value.string st) from rfl)
    have y40 := (blk_cell K4.out 0).trans (show _ = some (Vs A4 n4 c4) from rfl)
    have f40 := blk_frozen K4.out 0
    have hbd : ((L.take i).map cutV).length ≤ 6 := by simp; omega
    have hbd2 : (((L.take i).map cutV).map toV).length ≤ 6 := by simp; omega
    have HBD := mk0 (And.intro hbd hbd2)
    clear hbd hbd2
    go_upto_region 8 with ((with_reducible refine gate_builtin (b := .append) (xs := #[.tmp 34, .tmp 36]) rfl ?_); at_builtin; go_loud (refine Kd.R_append k72 (w0 := w) w.heap.size rfl (.tmp 34) (.tmp 36) 42 72 (.agg #[(.int .i64 0), (.string ⟨#[]⟩)]) 24 rfl Tryz.underlying42 info72 rfl (by decide) (by omega) _ _ (⟨p.f0, st⟩ : SV) [.int .i64 p.f0, .string st] (fun k => k ≠ w.heap.size ∧ k ≠ g2 ∧ k ≠ g4) (fun _ => False) rfl ?aX ?aP (fun _ hk => hk.elim) ?aF HO4.out HB.out HB.out.size ?aL ?_; (case aX => first | rfl | (go_simp; done) | (go_simp; rfl)); (case aP => exact k72_mkM _ _ _ (⟨p.f0, st⟩ : SV)); (case aF => exact (fun k hk => by have l1 := blk_lt K1.out; have l2 := blk_lt K2.out; have l4 := blk_lt K4.out; exact ⟨by omega, by omega, by omega⟩)); (case aL => have := HBD.out; omega); intro v9 w9 ho hb hg hat; obtain ⟨A9, c9, rfl, _, _⟩ := Kd.R_reads ho; generalize ((L.take i).map cutV ++ [(⟨p.f0, st⟩ : SV)]).length = n9 at ho hat ⊢; have n0_ := mk0 ((hg.block _ (blk_lt K1.out) (fun e => (HO4.out.1 _ e.symm).1 rfl)).trans K1.out); have n1_ := mk0 ((hg.block _ (blk_lt K2.out) (fun e => (HO4.out.1 _ e.symm).2.1 rfl)).trans K2.out); have n2_ := mk0 ((hg.block _ (blk_lt K4.out) (fun e => (HO4.out.1 _ e.symm).2.2 rfl)).trans K4.out); have n3_ := mk0 hb; have n4_ := mk0 ho; have n5_ := mk0 (Kd.R_mono (Kd.R_grown (Kd.R_apartR HO5.out HO4.out (by decide)) hg (fun k hk => hk.2)) (ok' := fun k => k ≠ w.heap.size ∧ k ≠ g2 ∧ k ≠ g4) (fun _ hk => hk.1)); have n6_ := mk0 ((hg.block _ (blk_lt KB7.out) (fun e => absurd (HLV.out _ e.symm) (Nat.lt_irrefl _))).trans KB7.out); clear K1 K2 K4 HB HO4 HO5 KB7 ho hb hg hat y0 y1 y40 f40; have K1 := n0_; have K2 := n1_; have K4 := n2_; have HB := n3_; have HO4 := n4_; have HO5 := n5_; have KB7 := n6_; clear n0_ n1_ n2_ n3_ n4_ n5_ n6_; have y40 := (blk_cell K4.out 0).trans (show _ = some (Vs A4 n4 c4) from rfl); have f40 := blk_frozen K4.out 0))
    have k4 : (w9.setCell ⟨g4, 0, none⟩ (.slice A9 n9 c9)).heap[g4]? = some (.cells #[.slice A9 n9 c9, .string pay2] 44 (0, 0)) := by simpa using blk_set K4.out 0 (.slice A9 n9 c9)
    have n0_ := mk0 ((Below.heap_setCell w9 ⟨g4, 0, none⟩ (.slice A9 n9 c9) _ HGN.out.2.2.1).trans K1.out)
    have n1_ := mk0 ((Below.heap_setCell w9 ⟨g4, 0, none⟩ (.slice A9 n9 c9) _ HGN.out.2.2.2.1).trans K2.out)
    have n2_ := mk0 k4
    have n3_ := mk0 (below_set (j := 0) (v := .slice A9 n9 c9) HB.out HGN.out.2.1)
    have n4_ := mk0 (Kd.R_far (p := ⟨g4, 0, none⟩) HO4.out (fun k hk => hk.2.2) (.slice A9 n9 c9))
    have n5_ := mk0 (Kd.R_far (p := ⟨g4, 0, none⟩) HO5.out (fun k hk => hk.2.2) (.slice A9 n9 c9))
    have n6_ := mk0 ((Below.heap_setCell w9 ⟨g4, 0, none⟩ (.slice A9 n9 c9) _ (fun e => HL4.out e.symm)).trans KB7.out)
    clear K1 K2 K4 HB HO4 HO5 KB7 k4 y40 f40
    have K1 := n0_
    have K2 := n1_
    have K4 := n2_
    have HB := n3_
    have HO4 := n4_
    have HO5 := n5_
    have KB7 := n6_
    clear n0_ n1_ n2_ n3_ n4_ n5_ n6_
    generalize w9.setCell ⟨g4, 0, none⟩ (.slice A9 n9 c9) = w3 at K1 K2 K4 HB HO4 HO5 KB7 ⊢
    have y0 := (blk_cell KB7.out 0).trans (show _ = some (Value.int .i64 p.f0) from rfl)
    have y1 := (blk_cell KB7.out 1).trans (show _ = some (Value.string st) from rfl)
    go_wp2_with ((with_reducible refine gate_builtin (b := .append) (xs := #[.tmp 39, .tmp 41]) rfl ?_); at_builtin; go_loud (refine Kd.R_append k135 (w0 := w) w.heap.size rfl (.tmp 39) (.tmp 41) 83 135 (.agg #[(.int .i64 0), (.string ⟨#[]⟩)]) 24 rfl Tryz.underlying83 info135 rfl (by decide) (by omega) _ _ (⟨p.f0, st⟩ : RV) [.int .i64 p.f0, .string st] (fun k => k ≠ w.heap.size ∧ k ≠ g2 ∧ k ≠ g4) (fun _ => False) rfl ?aX ?aP (fun _ hk => hk.elim) ?aF HO5.out HB.out HB.out.size ?aL ?_; (case aX => first | rfl | (go_simp; done) | (go_simp; rfl)); (case aP => exact k135_mkM _ _ _ (⟨p.f0, st⟩ : RV)); (case aF => exact (fun k hk => by have l1 := blk_lt K1.out; have l2 := blk_lt K2.out; have l4 := blk_lt K4.out; exact ⟨by omega, by omega, by omega⟩)); (case aL => have := HBD.out; omega); intro v9 w9 ho hb hg hat; have n0_ := mk0 ((hg.block _ (blk_lt K1.out) (fun e => (HO5.out.1 _ e.symm).1 rfl)).trans K1.out); have n1_ := mk0 ((hg.block _ (blk_lt K2.out) (fun e => (HO5.out.1 _ e.symm).2.1 rfl)).trans K2.out); have n2_ := mk0 ((hg.block _ (blk_lt K4.out) (fun e => (HO5.out.1 _ e.symm).2.2 rfl)).trans K4.out); have n3_ := mk0 hb; have n5_ := mk0 ho; have n4_ := mk0 (Kd.R_mono (Kd.R_grown (Kd.R_apartR HO4.out HO5.out (by decide)) hg (fun k hk => hk.2)) (ok' := fun k => k ≠ w.heap.size ∧ k ≠ g2 ∧ k ≠ g4) (fun _ hk => hk.1)); clear K1 K2 K4 HB HO4 HO5 KB7 ho hb hg hat y0 y1; have K1 := n0_; have K2 := n1_; have K4 := n2_; have HB := n3_; have HO4 := n4_; have HO5 := n5_; clear n0_ n1_ n2_ n3_ n4_ n5_))
    go_roundg (gk - 1)
    case measure => have := HI.out; omega
    case rel => exact ⟨i + 1, _, _, _, ⟨by omega, by omega, by have := HI.out; omega⟩, rfl, ⟨by rw [HS.out, HC.out]; exact HO4.out⟩, ⟨by rw [HS.out, HC.out, List.map_append]; exact HO5.out⟩, K1, K2, K4, HB⟩
   ·
    have b3 : decide ((i : Int) < 6) = false := decide_eq_false (by omega)
    have hE : evOf L = (L.take i).map cutV := by unfold evOf; rw [show i = 6 by have := HI.out; omega]
    have HE := mk0 hE
    clear hE
    rw [← HE.out] at HO4 HO5
    go_wp2
    have za : (wr.setCell ⟨g2, 0, none⟩ (.slice A4 n4 c4)).heap[g2]? = some (.cells #[.slice A4 n4 c4, .string ⟨#[]⟩] 44 (0, 0)) := by simpa using blk_set K2.out 0 (.slice A4 n4 c4)
    have z : ((wr.setCell ⟨g2, 0, none⟩ (.slice A4 n4 c4)).setCell ⟨g2, 1, none⟩ (.string pay2)).heap[g2]? = some (.cells #[.slice A4 n4 c4, .string pay2] 44 (0, 0)) := by simpa using blk_set za 1 (.string pay2)
    clear za
    have hb := below_set (j := 1) (v := .string pay2) (below_set (j := 0) (v := .slice A4 n4 c4) HB.out HGN.out.1) HGN.out.1
    have h4 := Kd.R_mono (Kd.R_far (p := ⟨g2, 1, none⟩) (Kd.R_far (p := ⟨g2, 0, none⟩) HO4.out (fun k hk => hk.2.1) (.slice A4 n4 c4)) (fun k hk => hk.2.1) (.string pay2)) (ok' := fun _ => True) (fun _ _ => trivial)
    have h5 := Kd.R_mono (Kd.R_far (p := ⟨g2, 1, none⟩) (Kd.R_far (p := ⟨g2, 0, none⟩) HO5.out (fun k hk => hk.2.1) (.slice A4 n4 c4)) (fun k hk => hk.2.1) (.string pay2)) (ok' := fun _ => True) (fun _ _ => trivial)
    generalize (wr.setCell ⟨g2, 0, none⟩ (.slice A4 n4 c4)).setCell ⟨g2, 1, none⟩ (.string pay2) = w9 at z hb h4 h5 ⊢
    have z0 := (blk_cell z 0).trans (show _ = some (Vs A4 n4 c4) from rfl)
    have z1 := (blk_cell z 1).trans (show _ = some (Value.string pay2) from rfl)
    refine bodyPost_ret (v := .tuple #[.agg #[.slice A4 n4 c4, .string pay2], u5]) (by simp [results, Tryz.results22, go_sem, z0, z1]) rfl ⟨_, _, rfl, h4, h5, hb⟩
  ·
   have b1 : decide ((i : Int) < (n : Int)) = false := decide_eq_false (by omega)
   have b2 : decide (i < n) = false := decide_eq_false (by omega)
   have hE : evOf L = (L.take i).map cutV := by
    unfold evOf
    have h1 : L.length ≤ i := by have := HN.out; omega
    rw [List.take_of_length_le h1, List.take_of_length_le (by have := HI.out; omega)]
   have HE := mk0 hE
   clear hE
   rw [← HE.out] at HO4 HO5
   clear hi
   go_wp2
   have za : (wr.setCell ⟨g2, 0, none⟩ (.slice A4 n4 c4)).heap[g2]? = some (.cells #[.slice A4 n4 c4, .string ⟨#[]⟩] 44 (0, 0)) := by simpa using blk_set K2.out 0 (.slice A4 n4 c4)
   have z : ((wr.setCell ⟨g2, 0, none⟩ (.slice A4 n4 c4)).setCell ⟨g2, 1, none⟩ (.string pay2)).heap[g2]? = some (.cells #[.slice A4 n4 c4, .string pay2] 44 (0, 0)) := by simpa using blk_set za 1 (.string pay2)
   clear za
   have hb := below_set (j := 1) (v := .string pay2) (below_set (j := 0) (v := .slice A4 n4 c4) HB.out HGN.out.1) HGN.out.1
   have h4 := Kd.R_mono (Kd.R_far (p := ⟨g2, 1, none⟩) (Kd.R_far (p := ⟨g2, 0, none⟩) HO4.out (fun k hk => hk.2.1) (.slice A4 n4 c4)) (fun k hk => hk.2.1) (.string pay2)) (ok' := fun _ => True) (fun _ _ => trivial)
   have h5 := Kd.R_mono (Kd.R_far (p := ⟨g2, 1, none⟩) (Kd.R_far (p := ⟨g2, 0, none⟩) HO5.out (fun k hk => hk.2.1) (.slice A4 n4 c4)) (fun k hk => hk.2.1) (.string pay2)) (ok' := fun _ => True) (fun _ _ => trivial)
   generalize (wr.setCell ⟨g2, 0, none⟩ (.slice A4 n4 c4)).setCell ⟨g2, 1, none⟩ (.string pay2) = w9 at z hb h4 h5 ⊢
   have z0 := (blk_cell z 0).trans (show _ = some (Vs A4 n4 c4) from rfl)
   have z1 := (blk_cell z 1).trans (show _ = some (Value.string pay2) from rfl)
   refine bodyPost_ret (v := .tuple #[.agg #[.slice A4 n4 c4, .string pay2], u5]) (by simp [results, Tryz.results22, go_sem, z0, z1]) rfl ⟨_, _, rfl, h4, h5, hb⟩
structure REv where
 pub : Int
 seq : Int
 A : Option Addr
 n : Nat
 c : Nat
 V : List SV
 pay : ByteArray
structure RSub where
 node : Int
 id : Int
 A : Option Addr
 n : Nat
 c : Nat
 F : List SP
structure RGiv where
 node : Int
 id : Int
 pub : Int
 seq : Int
deriving DecidableEq
def evCells (x : REv) : List Value := [.int .i64 x.pub, .int .i64 x.seq, .slice x.A x.n x.c, .string x.pay]
def subCells (x : RSub) : List Value := [.int .i64 x.node, .int .i64 x.id, .slice x.A x.n x.c]
def givCells (x : RGiv) : List Value := [.int .i64 x.node, .int .i64 x.id, .int .i64 x.pub, .int .i64 x.seq]
theorem kRE_one (x : REv) : ∀ u ∈ evCells x, u.oneCell' = true := by
 intro u hu
 simp only [evCells, List.mem_cons, List.not_mem_nil, or_false] at hu
 rcases hu with rfl | rfl | rfl | rfl <;> rfl
def kRE : Kd REv := Kd.iso (Kd.raw 4) evCells
theorem kRE_open {w : World} {x : REv} {cs : List Value} (h : kRE.K w x cs) : cs = evCells x := h.1
theorem kRE_mk (w : World) (x : REv) : kRE.K w x (evCells x) := ⟨rfl, rfl, kRE_one x⟩
theorem kRE_mkM (w : World) (base : Nat) (ok : Nat → Prop) (x : REv) : kRE.M w base ok x (evCells x) := ⟨rfl, rfl, kRE_one x⟩
theorem kRE_flat {W : World} {base : Nat} (x : REv) (cs : List Value) (h : kRE.K W x cs) : kRE.M W base (fun _ => False) x cs := by rw [kRE_open h]; exact kRE_mkM _ _ _ x
theorem kRS_one (x : RSub) : ∀ u ∈ subCells x, u.oneCell' = true := by
 intro u hu
 simp only [subCells, List.mem_cons, List.not_mem_nil, or_false] at hu
 rcases hu with rfl | rfl | rfl <;> rfl
def kRS : Kd RSub := Kd.iso (Kd.raw 3) subCells
theorem kRS_open {w : World} {x : RSub} {cs : List Value} (h : kRS.K w x cs) : cs = subCells x := h.1
theorem kRS_mk (w : World) (x : RSub) : kRS.K w x (subCells x) := ⟨rfl, rfl, kRS_one x⟩
theorem kRS_mkM (w : World) (base : Nat) (ok : Nat → Prop) (x : RSub) : kRS.M w base ok x (subCells x) := ⟨rfl, rfl, kRS_one x⟩
theorem kRS_flat {W : World} {base : Nat} (x : RSub) (cs : List Value) (h : kRS.K W x cs) : kRS.M W base (fun _ => False) x cs := by rw [kRS_open h]; exact kRS_mkM _ _ _ x
theorem kRG_one (x : RGiv) : ∀ u ∈ givCells x, u.oneCell' = true := by
 intro u hu
 simp only [givCells, List.mem_cons, List.not_mem_nil, or_false] at hu
 rcases hu with rfl | rfl | rfl | rfl <;> rfl
def kRG : Kd RGiv := Kd.iso (Kd.raw 4) givCells
theorem kRG_open {w : World} {x : RGiv} {cs : List Value} (h : kRG.K w x cs) : cs = givCells x := h.1
theorem kRG_mk (w : World) (x : RGiv) : kRG.K w x (givCells x) := ⟨rfl, rfl, kRG_one x⟩
theorem kRG_mkM (w : World) (base : Nat) (ok : Nat → Prop) (x : RGiv) : kRG.M w base ok x (givCells x) := ⟨rfl, rfl, kRG_one x⟩
theorem kRG_flat {W : World} {base : Nat} (x : RGiv) (cs : List Value) (h : kRG.K W x cs) : kRG.M W base (fun _ => False) x cs := by rw [kRG_open h]; exact kRG_mkM _ _ _ x
def zRE : REv := ⟨0, 0, none, 0, 0, [], ⟨#[]⟩⟩
def zRS : RSub := ⟨0, 0, none, 0, 0, []⟩
theorem at_RE {w : World} {A : Option Addr} {n : Nat} {xs : List REv} (h : Kd.C kRE w A n xs) (i : Nat) (hi : i < n) : ∃ ad x, A = some ad ∧ xs[i]? = some x ∧ w.cell? (ad.add (i * 4)) = some (.int .i64 x.pub) ∧ w.cell? ⟨(ad.add (i * 4)).block, (ad.add (i * 4)).off + 1, none⟩ = some (.int .i64 x.seq) ∧ w.cell? ⟨(ad.add (i * 4)).block, (ad.add (i * 4)).off + 2, none⟩ = some (.slice x.A x.n x.c) ∧ w.cell? ⟨(ad.add (i * 4)).block, (ad.add (i * 4)).off + 3, none⟩ = some (.string x.pay) := by
 obtain ⟨ad, e, hc⟩ := h.2.2 (by omega)
 have hl : i < xs.length := by rw [h.1]; exact hi
 have hx : xs[i]? = some xs[i] := List.getElem?_eq_getElem hl
 obtain ⟨cs, h1, h2, h3⟩ := hc i _ hx
 obtain rfl := kRE_open h2
 have h3 : ∀ j u, (evCells xs[i])[j]? = some u → w.cell? (ad.add (i * 4 + j)) = some u := h3
 exact ⟨ad, _, e, hx, h3 0 _ rfl, by rw [← add_field _ _ 1 (by omega)]; exact h3 1 _ rfl, by rw [← add_field _ _ 2 (by omega)]; exact h3 2 _ rfl, by rw [← add_field _ _ 3 (by omega)]; exact h3 3 _ rfl⟩
theorem at_RS {w : World} {A : Option Addr} {n : Nat} {xs : List RSub} (h : Kd.C kRS w A n xs) (i : Nat) (hi : i < n) : ∃ ad x, A = some ad ∧ xs[i]? = some x ∧ w.cell? (ad.add (i * 3)) = some (.int .i64 x.node) ∧ w.cell? ⟨(ad.add (i * 3)).block, (ad.add (i * 3)).off + 1, none⟩ = some (.int .i64 x.id) ∧ w.cell? ⟨(ad.add (i * 3)).block, (ad.add (i * 3)).off + 2, none⟩ = some (.slice x.A x.n x.c) := by
 obtain ⟨ad, e, hc⟩ := h.2.2 (by omega)
 have hl : i < xs.length := by rw [h.1]; exact hi
 have hx : xs[i]? = some xs[i] := List.getElem?_eq_getElem hl
 obtain ⟨cs, h1, h2, h3⟩ := hc i _ hx
 obtain rfl := kRS_open h2
 have h3 : ∀ j u, (subCells xs[i])[j]? = some u → w.cell? (ad.add (i * 3 + j)) = some u := h3
 exact ⟨ad, _, e, hx, h3 0 _ rfl, by rw [← add_field _ _ 1 (by omega)]; exact h3 1 _ rfl, by rw [← add_field _ _ 2 (by omega)]; exact h3 2 _ rfl⟩
theorem at_RG {w : World} {A : Option Addr} {n : Nat} {xs : List RGiv} (h : Kd.C kRG w A n xs) (i : Nat) (hi : i < n) : ∃ ad x, A = some ad ∧ xs[i]? = some x ∧ w.cell? (ad.add (i * 4)) = some (.int .i64 x.node) ∧ w.cell? ⟨(ad.add (i * 4)).block, (ad.add (i * 4)).off + 1, none⟩ = some (.int .i64 x.id) ∧ w.cell? ⟨(ad.add (i * 4)).block, (ad.add (i * 4)).off + 2, none⟩ = some (.int .i64 x.pub) ∧ w.cell? ⟨(ad.add (i * 4)).block, (ad.add (i * 4)).off + 3, none⟩ = some (.int .i64 x.seq) := by
 obtain ⟨ad, e, hc⟩ := h.2.2 (by omega)
 have hl : i < xs.length := by rw [h.1]; exact hi
 have hx : xs[i]? = some xs[i] := List.getElem?_eq_getElem hl
 obtain ⟨cs, h1, h2, h3⟩ := hc i _ hx
 obtain rfl := kRG_open h2
 have h3 : ∀ j u, (givCells xs[i])[j]? = some u → w.cell? (ad.add (i * 4 + j)) = some u := h3
 exact ⟨ad, _, e, hx, h3 0 _ rfl, by rw [← add_field _ _ 1 (by omega)]; exact h3 1 _ rfl, by rw [← add_field _ _ 2 (by omega)]; exact h3 2 _ rfl, by rw [← add_field _ _ 3 (by omega)]; exact h3 3 _ rfl⟩
def EvRd (w : World) (x : REv) : Prop := x.V.length = x.n ∧ x.n ≤ x.c ∧ x.n ≤ 100000 ∧ Kd.C k135 w x.A x.n (x.V.map toV)
def SubRd (w : World) (x : RSub) : Prop := x.F.length = x.n ∧ x.n ≤ x.c ∧ x.n ≤ 100000 ∧ (∀ p ∈ x.F, p.f4.size ≤ 1000000000) ∧ Kd.C k158 w x.A x.n (x.F.map toQ)
theorem EvRd.below {w w' : World} {x : REv} (h : EvRd w x) (hb : Below w.heap.size w w') : EvRd w' x := ⟨h.1, h.2.1, h.2.2.1, Kd.C_below h.2.2.2 hb⟩
theorem SubRd.below {w w' : World} {x : RSub} (h : SubRd w x) (hb : Below w.heap.size w w') : SubRd w' x := ⟨h.1, h.2.1, h.2.2.1, h.2.2.2.1, Kd.C_below h.2.2.2.2 hb⟩
theorem getD_toV (V : List SV) (i : Nat) : (V.map toV).getD i z135 = toV (V.getD i z72) := by
 rw [List.getD_eq_getElem?_getD, List.getD_eq_getElem?_getD, List.getElem?_map]
 cases V[i]? <;> rfl
structure RB where
 E : List REv
 U : List RSub
 G : List RGiv
structure RH where
 a1 : Option Addr
 c1 : Nat
 a2 : Option Addr
 c2 : Nat
 a3 : Option Addr
 c3 : Nat
 a4 : Option Addr
 c4 : Nat
def rbV (n : Nat) (h : RH) (B : RB) : Value := .agg #[.slice h.a1 n h.c1, .slice h.a2 B.E.length h.c2, .slice h.a3 B.U.length h.c3, .slice h.a4 B.G.length h.c4]
structure IsRB (w : World) (S : List SA) (n : Nat) (h : RH) (B : RB) : Prop where
 len : S.length = n
 cs : n ≤ h.c1
 sch : Kd.C k63 w h.a1 n (S.map toA)
 ce : B.E.length ≤ h.c2
 ev : Kd.C kRE w h.a2 B.E.length B.E
 evs : ∀ x ∈ B.E, EvRd w x
 cu : B.U.length ≤ h.c3
 sub : Kd.C kRS w h.a3 B.U.length B.U
 subs : ∀ x ∈ B.U, SubRd w x
 cg : B.G.length ≤ h.c4
 got : Kd.C kRG w h.a4 B.G.length B.G
theorem IsRB.below {w w' : World} {S : List SA} {n : Nat} {h : RH} {B : RB} (k : IsRB w S n h B) (hb : Below w.heap.size w w') : IsRB w' S n h B :=
 ⟨k.len, k.cs, Kd.C_below k.sch hb, k.ce, Kd.C_below k.ev hb, fun x hx => (k.evs x hx).below hb, k.cu, Kd.C_below k.sub hb, fun x hx => (k.subs x hx).below hb, k.cg, Kd.C_below k.got hb⟩
theorem btl_loop (s : ByteArray) : ∀ (k i : Nat) (r : List UInt8), s.size - i = k → i ≤ s.size → ByteArray.toList.loop s i r = r.reverse ++ s.data.toList.drop i := by
 intro k
 induction k with
 | zero =>
  intro i r h hi
  rw [ByteArray.toList.loop.eq_1, if_neg (by omega)]
  have : s.data.toList.drop i = [] := List.drop_eq_nil_iff.2 (by rw [Array.length_toList]; show s.size ≤ i; omega)
  rw [this, List.append_nil]
 | succ k ih =>
  intro i r h hi
  rw [ByteArray.toList.loop.eq_1, if_pos (by omega), ih (i + 1) _ (by omega) (by omega)]
  have hlt : i < s.data.toList.length := by rw [Array.length_toList]; show i < s.size; omega
  rw [List.drop_eq_getElem_cons hlt, List.reverse_cons, List.append_assoc]
  congr 1
  show [s.get! i] ++ _ = _
  have : s.get! i = s.data.toList[i] := by
   have h2 : i < s.data.size := by rw [Array.length_toList] at hlt; exact hlt
   show s.data[i]! = _
   rw [getElem!_pos s.data i h2, Array.getElem_toList]
  rw [this]
  rfl
theorem btl (s : ByteArray) : s.toList = s.data.toList := by
 have := btl_loop s s.size 0 [] (by omega) (Nat.zero_le _)
 simpa [ByteArray.toList] using this
theorem badFrom_none {S : List S61} {F : List S149} : ∀ (k i : Nat), badFrom S F k i = none → ∀ j, i ≤ j → j < i + k → okAt S F j = true
 | 0, i, _, j, h1, h2 => by omega
 | k + 1, i, h, j, h1, h2 => by
  unfold badFrom at h
  split at h
  ·
   by_cases hj : j = i
   ·
    rw [hj]; assumption
   ·
    exact badFrom_none k (i + 1) h j (by omega) (by omega)
  ·
   cases h
def readR (S : List S61) (s : ByteArray) : List Pr ⊕ Int :=
 match parseR s with
 | .inr z => .inr z.2
 | .inl xs => match filterBad S (xs.map toP) with
  | none => .inl xs
  | some _ => .inr 3
def ReadOk (w : World) (xs : List Pr) (e : Ending) (w' : World) : Prop := ∃ v, e = .returned (.tuple #[v, .nilIface]) ∧ Kd.R k149 149 w' w.heap.size (fun _ => True) v (xs.map toP) ∧ Below w.heap.size w w'
def ReadNo (w : World) (c : Int) (e : Ending) (w' : World) : Prop := ∃ b n, e = .returned (.tuple #[.slice none 0 0, .iface 143 (.pointer (some ⟨b, 0, none⟩))]) ∧ ErrIs w' c n (.iface 143 (.pointer (some ⟨b, 0, none⟩))) ∧ Below w.heap.size w w'
def ReadPost (w : World) (S : List S61) (s : ByteArray) (e : Ending) (w' : World) : Prop :=
 match readR S s with
 | .inl xs => ReadOk w xs e w'
 | .inr c => ReadNo w c e w'
theorem ReadPost.ok {w w' : World} {S : List S61} {s : ByteArray} {xs : List Pr} {e : Ending} (h : ReadPost w S s e w') (hr : readR S s = .inl xs) : ReadOk w xs e w' := by
 unfold ReadPost at h
 rw [hr] at h
 exact h
theorem ReadPost.no {w w' : World} {S : List S61} {s : ByteArray} {c : Int} {e : Ending} (h : ReadPost w S s e w') (hr : readR S s = .inr c) : ReadNo w c e w' := by
 unfold ReadPost at h
 rw [hr] at h
 exact h
theorem ReadPost.mk_ok {w w' : World} {S : List S61} {s : ByteArray} {xs : List Pr} {e : Ending} (hr : readR S s = .inl xs) (h : ReadOk w xs e w') : ReadPost w S s e w' := by
 unfold ReadPost
 rw [hr]
 exact h
theorem ReadPost.mk_no {w w' : World} {S : List S61} {s : ByteArray} {c : Int} {e : Ending} (hr : readR S s = .inr c) (h : ReadNo w c e w') : ReadPost w S s e w' := by
 unfold ReadPost
 rw [hr]
 exact h
theorem parseR_not3 {s : ByteArray} {z : Int × Int} (h : parseR s = .inr z) : (z.2 == 3) = false := by
 unfold parseR at h
 split at h
 ·
  injection h with h
  subst h
  rfl
 ·
  split at h
  ·
   cases h
  ·
   injection h with h
   subst h
   rfl
theorem FilterPost.bad {w w' : World} {S : List S61} {F : List S149} {e : Ending} {i : Nat} (h : FilterPost w S F e w') (hb : filterBad S F = some i) : ∃ b, w.heap.size ≤ b ∧ e = .returned (.iface 143 (.pointer (some ⟨b, 0, none⟩))) ∧ IsFault w' b ⟨#[118, 97, 108, 117, 101]⟩ (i : Int) 3 ∧ Below w.heap.size w w' := by
 unfold FilterPost at h
 rw [hb] at h
 exact h
theorem FilterPost.ok {w w' : World} {S : List S61} {F : List S149} {e : Ending} (h : FilterPost w S F e w') (hb : filterBad S F = none) : e = .returned .nilIface ∧ Below w.heap.size w w' := by
 unfold FilterPost at h
 rw [hb] at h
 exact h
set_option maxHeartbeats 4000000 in
theorem read_calls (A : Option Addr) (n c : Nat) (S : List S61) (s : ByteArray) (w : World) (hn : S.length = n) (hr : Kd.C k61 w A n S) (hl : n ≤ 100000) (hs : s.size ≤ 1000) :
 Calls Tryz.prog 45 #[.slice A n c, .string s] w (ReadPost w S s) := by
 have HRS := mk0 hr
 have HN := mk0 hn
 clear hr hn
 have HOK := mk0 (fun xs e w' h ho => ReadPost.mk_ok (w := w) (w' := w') (S := S) (s := s) (xs := xs) (e := e) h ho)
 have HNO := mk0 (fun c e w' h ho => ReadPost.mk_no (w := w) (w' := w') (S := S) (s := s) (c := c) (e := e) h ho)
 generalize ReadPost w S s = POST at HOK HNO ⊢
 go_enter Tryz.func45, Tryz.ntmps45
 go_wp2_with fail
 refine (parse_P s _ hs).mono ?_
 rintro e w1 hp
 cases hpr : parseR s with
 | inr z =>
  have h3 := parseR_not3 hpr
  obtain ⟨at_, cd⟩ := z
  simp only at h3
  obtain ⟨b, hbl, rfl, hf, hb1⟩ := hp.no hpr
  have HR := mk0 (show readR S s = .inr cd by unfold readR; rw [hpr])
  have HF := mk0 hf
  have HB := mk0 hb1
  clear hp hpr hf hb1 hbl
  go_wp2_with fail
  refine (is_err cd 3 1 _ _ (IsFault.errIs HF.out)).mono ?_
  rintro e w2 ⟨rfl, rfl⟩
  rw [h3]
  have hfin := HNO.out cd _ _ HR.out ⟨b, 1, rfl, IsFault.errIs HF.out, HB.out⟩
  go_wp2
  first
   | exact hfin
   | (
    go_ret2
    exact hfin)
 | inl xs =>
  obtain ⟨v1, rfl, ho, hb1⟩ := hp.ok hpr
  obtain ⟨A1, c1, rfl, hc1, hC1⟩ := Kd.R_reads ho
  have lx : (xs.map toP).length ≤ 301 := by simpa using parse_count hpr
  have HB := mk0 hb1
  have HO := mk0 ho
  have HC1 := mk0 hC1
  have HPR := mk0 hpr
  clear hp hpr ho hb1 hC1
  obtain ⟨n1, hn⟩ : ∃ n, (xs.map toP).length = n := ⟨_, rfl⟩
  have HN1 := mk0 hn
  rw [hn] at HC1 HO hc1 lx ⊢
  clear hn
  go_wp2_with fail
  refine (filter_calls A A1 n n1 c c1 S (xs.map toP) _ HN.out HN1.out (Kd.C_below HRS.out HB.out) HC1.out hl (by omega) hc1).mono ?_
  rintro e w2 hq
  cases hfb : filterBad S (xs.map toP) with
  | some i =>
   obtain ⟨b, hbl, rfl, hf, hb2⟩ := hq.bad hfb
   have HR := mk0 (show readR S s = .inr 3 by unfold readR; rw [HPR.out]; simp only [hfb])
   have HF := mk0 hf
   have n_ := mk0 (below_then HB.out HB.out.size hb2)
   clear HB hq hfb hf hb2 hbl HO HC1
   have HB := n_
   clear n_
   go_wp2_with fail
   refine (is_err 3 3 1 _ _ (IsFault.errIs HF.out)).mono ?_
   rintro e w3 ⟨rfl, rfl⟩
   have hnew := heap_alloc_new w2 (.cells #[.string sFilter, .int .i64 0, .iface 143 (.pointer (some ⟨b, 0, none⟩))] 145 (0, 0))
   have hfin := HNO.out 3 _ _ HR.out ⟨w2.heap.size, 2, rfl, ⟨w2.heap.size, sFilter, 0, _, rfl, hnew, IsFault.errIs (IsFault.keep HF.out (below_alloc (Below.refl _ _) _))⟩, below_alloc HB.out _⟩
   clear hnew
   go_wp2
   first
    | exact hfin
    | (
     go_ret2
     exact hfin)
  | none =>
   obtain ⟨rfl, hb2⟩ := hq.ok hfb
   have HR := mk0 (show readR S s = .inl xs by unfold readR; rw [HPR.out]; simp only [hfb])
   have o_ := mk0 (Kd.R_below HO.out hb2)
   have n_ := mk0 (below_then HB.out HB.out.size hb2)
   clear HB hq hfb hb2 HO HC1
   have HB := n_
   have HO := o_
   clear n_ o_
   go_wp2_with fail
   refine (is_nil 3 _).mono ?_
   rintro e w3 ⟨rfl, rfl⟩
   have hfin := HOK.out xs _ _ HR.out ⟨_, rfl, HO.out, HB.out⟩
   go_wp2
   first
    | exact hfin
    | (
     go_ret2
     exact hfin)
def preB (s p : ByteArray) : Bool := decide (p.size ≤ s.size) && ((s.extract 0 p.size).toList == p.toList)
theorem lite_calls (s p : ByteArray) (w : World) : Calls Tryz.prog 106 #[.string s, .string p] w fun e w' => e = .returned (.bool (preB s p)) ∧ w = w' := by
 by_cases h : p.size ≤ s.size
 ·
  have b1 : decide ((p.size : Int) ≤ (s.size : Int)) = true := decide_eq_true (by omega)
  have b2 : decide (p.size ≤ s.size) = true := decide_eq_true h
  have p1 : (p.size : Int) ≤ (s.size : Int) := by omega
  have HV := mk0 (show preB s p = ((s.extract 0 p.size).toList == p.toList) by unfold preB; rw [b2]; rfl)
  generalize preB s p = z at HV ⊢
  clear h
  go_enter Tryz.func106, Tryz.ntmps106
  go_wp2
  go_ret
  exact ⟨by rw [HV.out]; rfl, rfl⟩
 ·
  have b1 : decide ((p.size : Int) ≤ (s.size : Int)) = false := decide_eq_false (by omega)
  have b2 : decide (p.size ≤ s.size) = false := decide_eq_false h
  have HV := mk0 (show preB s p = false by unfold preB; rw [b2]; rfl)
  generalize preB s p = z at HV ⊢
  clear h
  go_enter Tryz.func106, Tryz.ntmps106
  go_wp2
  go_ret
  exact ⟨by rw [HV.out]; rfl, rfl⟩
theorem prefix_calls (s p : ByteArray) (w : World) : Calls Tryz.prog 80 #[.string s, .string p] w fun e w' => e = .returned (.bool (preB s p)) ∧ w = w' := by
 have HC := mk0 (fun W => lite_calls s p W)
 generalize preB s p = z at HC ⊢
 go_enter Tryz.func80, Tryz.ntmps80
 go_wp2_with fail
 refine (HC.out _).mono ?_
 rintro e w1 ⟨rfl, rfl⟩
 go_wp2
 go_ret
 exact ⟨rfl, rfl⟩
def takesB (p : SP) (v : SV) : Bool :=
 if p.f1 = 1 then decide (p.f2 ≤ v.f0) && decide (v.f0 ≤ p.f3)
 else if p.f1 = 2 then v.f1.toList == p.f4.toList
 else preB v.f1 p.f4
theorem takes_calls (p : SP) (v : SV) (w : World) : Calls Tryz.prog 55 #[enc46 p, encV v] w fun e w' => e = .returned (.bool (takesB p v)) ∧ Below w.heap.size w w' := by
 unfold enc46 encV
 by_cases t1 : p.f1 = 1
 ·
  have o1 : (p.f1 == 1) = true := by simpa using t1
  have HV := mk0 (show takesB p v = (decide (p.f2 ≤ v.f0) && decide (v.f0 ≤ p.f3)) by unfold takesB; rw [if_pos t1])
  generalize takesB p v = z at HV ⊢
  clear t1
  by_cases t2 : p.f2 ≤ v.f0
  ·
   have e2 := decide_eq_true t2
   have HZ := mk0 (show z = decide (v.f0 ≤ p.f3) by rw [HV.out, e2]; rfl)
   clear t2
   cases e3 : decide (v.f0 ≤ p.f3) with
   | true =>
    rw [e3] at HZ
    go_enter Tryz.func55, Tryz.ntmps55
    go_wp2
    go_ret
    exact ⟨by rw [HZ.out]; first | rfl | simp, below_alloc (below_alloc (Below.refl _ _) _) _⟩
   | false =>
    rw [e3] at HZ
    go_enter Tryz.func55, Tryz.ntmps55
    go_wp2
    go_ret
    exact ⟨by rw [HZ.out]; first | rfl | simp, below_alloc (below_alloc (Below.refl _ _) _) _⟩
  ·
   have e2 := decide_eq_false t2
   have HZ := mk0 (show z = false by rw [HV.out, e2]; rfl)
   clear t2
   go_enter Tryz.func55, Tryz.ntmps55
   go_wp2
   go_ret
   exact ⟨by rw [HZ.out]; first | rfl | simp, below_alloc (below_alloc (Below.refl _ _) _) _⟩
 ·
  have o1 : (p.f1 == 1) = false := by simpa using t1
  by_cases t2 : p.f1 = 2
  ·
   have o2 : (p.f1 == 2) = true := by simpa using t2
   have HZ := mk0 (show takesB p v = (v.f1.toList == p.f4.toList) by unfold takesB; rw [if_neg t1, if_pos t2])
   generalize takesB p v = z at HZ ⊢
   clear t1 t2
   cases e1 : (v.f1.toList == p.f4.toList) with
   | true =>
    rw [e1] at HZ
    go_enter Tryz.func55, Tryz.ntmps55
    go_wp2
    go_ret
    exact ⟨by rw [HZ.out]; first | rfl | simp, below_alloc (below_alloc (Below.refl _ _) _) _⟩
   | false =>
    rw [e1] at HZ
    go_enter Tryz.func55, Tryz.ntmps55
    go_wp2
    go_ret
    exact ⟨by rw [HZ.out]; first | rfl | simp, below_alloc (below_alloc (Below.refl _ _) _) _⟩
  ·
   have o2 : (p.f1 == 2) = false := by simpa using t2
   have HZ := mk0 (show takesB p v = preB v.f1 p.f4 by unfold takesB; rw [if_neg t1, if_neg t2])
   have HC := mk0 (fun W => prefix_calls v.f1 p.f4 W)
   generalize takesB p v = z at HZ ⊢
   generalize preB v.f1 p.f4 = z2 at HZ HC
   clear t1 t2
   go_enter Tryz.func55, Tryz.ntmps55
   go_wp2_with fail
   refine (HC.out _).mono ?_
   rintro e w1 ⟨rfl, rfl⟩
   go_wp2
   go_ret
   exact ⟨by rw [HZ.out]; rfl, below_alloc (below_alloc (Below.refl _ _) _) _⟩
theorem filterBad_find {S : List SA} {F : List SP} (h : filterBad S F = none) : ∀ p ∈ F, 0 ≤ findB p.f0 S := by
 unfold filterBad at h
 split at h
 ·
  cases h
 ·
  intro p hp
  obtain ⟨i, hi, rfl⟩ := List.getElem_of_mem hp
  have := badFrom_none F.length 0 h i (Nat.zero_le _) (by omega)
  have e : F.getD i z149 = F[i] := by rw [List.getD_eq_getElem?_getD, List.getElem?_eq_getElem hi]; rfl
  unfold okAt at this
  rw [e] at this
  simp only [Bool.and_eq_true, decide_eq_true_eq] at this
  exact this.1.1
set_option maxHeartbeats 4000000 in
theorem match_clo (A B : Option Addr) (n m c d ge gs : Nat) (S : List SA) (V : List SV) (F : List SP) (pay : ByteArray) (w : World) (hn : S.length = n) (hm : V.length = n) (hmm : m = n) (hl : n ≤ 100000) (hr : Kd.C k61 w A n S) (hr2 : Kd.C k72 w B n V)
 (hge : w.heap[ge]? = some (.cells #[.slice B m d, .string pay] 44 (0, 0))) (hgs : w.heap[gs]? = some (.cells #[.slice A n c] 23 (0, 0))) (hf : ∀ p ∈ F, 0 ≤ findB p.f0 S) :
 CloOn 54 #[.pointer (some ⟨ge, 0, none⟩), .pointer (some ⟨gs, 0, none⟩)] enc46 (fun p => !takesB p (V.getD (findB p.f0 S).toNat z72)) w F := fun W p hp hb => by
 subst hmm
 have HS := mk0 (Kd.C_below hr hb)
 have HV := mk0 (Kd.C_below hr2 hb)
 have HGE := mk0 ((hb.block _ (blk_lt hge)).trans hge)
 have HGS := mk0 ((hb.block _ (blk_lt hgs)).trans hgs)
 obtain ⟨k, hk⟩ := Int.eq_ofNat_of_zero_le (hf p hp)
 have hkn : k < m := by have := findB_lt p.f0 S; omega
 have HN := mk0 hn
 have HK := mk0 hk
 clear hr hr2 hge hgs hf hp hb hm hn hk
 show Calls _ _ (#[enc46 p] ++ _) W fun e w' => e = .returned (.bool (!takesB p (V.getD (findB p.f0 S).toNat z72))) ∧ Below W.heap.size W w'
 rw [HK.out, Int.toNat_natCast]
 obtain ⟨v, hv⟩ : ∃ v, v = V.getD k z72 := ⟨_, rfl⟩
 rw [← hv]
 have HVV := mk0 hv
 clear hv
 have HTC := mk0 (fun W => takes_calls p v W)
 generalize takesB p v = z at HTC ⊢
 show Calls _ _ #[enc46 p, .pointer (some ⟨ge, 0, none⟩), .pointer (some ⟨gs, 0, none⟩)] W _
 unfold enc46 encV at HTC
 unfold enc46
 go_enter Tryz.func54, Tryz.ntmps54
 go_wp2_with fail
 generalize hW : W.alloc (Obj.cells #[.string p.f0, .int .i64 p.f1, .int .i64 p.f2, .int .i64 p.f3, .string p.f4] 149) = W2
 have hb2 : Below W.heap.size W W2 := by rw [← hW]; exact below_alloc (Below.refl _ _) _
 have HKP : W2.heap[W.heap.size]? = some (.cells #[.string p.f0, .int .i64 p.f1, .int .i64 p.f2, .int .i64 p.f3, .string p.f4] 149 (0, 0)) := by rw [← hW]; exact blk_new W _
 have HGE2 := (hb2.block _ (blk_lt HGE.out)).trans HGE.out
 have HGS2 := (hb2.block _ (blk_lt HGS.out)).trans HGS.out
 have HS2 := mk0 (Kd.C_below HS.out hb2)
 have HB := mk0 hb2
 obtain ⟨ad2, e, k0, k1⟩ := at_T72 (Kd.C_below HV.out hb2) (k : Int) (by omega) (by omega)
 rw [Int.toNat_natCast] at k0 k1
 have hrd : rd_T72 V (k : Int) = V.getD k z72 := rfl
 rw [hrd, ← HVV.out] at k0 k1
 cases e
 clear hW HGE HGS HS HV hb2 hrd
 generalize W.heap.size = gp at HKP ⊢
 have q0 : ∀ q : BelowP W2, q.w.cell? ⟨gp, 0, none⟩ = some (.string p.f0) := fun q => q.cell ((blk_cell HKP 0).trans rfl)
 have q1 : ∀ q : BelowP W2, q.w.cell? ⟨gp, 1, none⟩ = some (.int .i64 p.f1) := fun q => q.cell ((blk_cell HKP 1).trans rfl)
 have q2 : ∀ q : BelowP W2, q.w.cell? ⟨gp, 2, none⟩ = some (.int .i64 p.f2) := fun q => q.cell ((blk_cell HKP 2).trans rfl)
 have q3 : ∀ q : BelowP W2, q.w.cell? ⟨gp, 3, none⟩ = some (.int .i64 p.f3) := fun q => q.cell ((blk_cell HKP 3).trans rfl)
 have q4 : ∀ q : BelowP W2, q.w.cell? ⟨gp, 4, none⟩ = some (.string p.f4) := fun q => q.cell ((blk_cell HKP 4).trans rfl)
 have q5 : ∀ q : BelowP W2, q.w.cell? ⟨ge, 0, none⟩ = some (.slice (some ad2) m d) := fun q => q.cell ((blk_cell HGE2 0).trans rfl)
 have q6 : ∀ q : BelowP W2, q.w.cell? ⟨gs, 0, none⟩ = some (.slice A m c) := fun q => q.cell ((blk_cell HGS2 0).trans rfl)
 have r0 : ∀ q : BelowP W2, q.w.cell? _ = _ := fun q => q.cell k0
 have r1 : ∀ q : BelowP W2, q.w.cell? _ = _ := fun q => q.cell k1
 have HFC := mk0 (fun q : BelowP W2 => find_calls A m c S p.f0 q.w HN.out (Kd.C_below HS2.out q.h) hl)
 rw [HK.out] at HFC
 have p1 : (0 : Int) ≤ (k : Int) := by omega
 have p2 : (k : Int) < (m : Int) := by omega
 clear HKP HGE2 HGS2 HS2 k0 k1 HK HVV
 refine wp_region_quiet_below (by kernel_rfl) (by kernel_rfl) ?_
 repeat (quiet_step (first | (go_at_call 56; (with_reducible refine Calls.below_of (HFC.out _))) | (go_at_call 55; (with_reducible refine Calls.below_of (HTC.out _)))))
 refine wpQuiet_nil ?_
 rintro _ ⟨pq, rfl⟩
 go_wp2
 go_ret
 exact ⟨rfl, below_then HB.out HB.out.size pq.h⟩
def matchB (S : List SA) (F : List SP) (V : List SV) (pay : ByteArray) : Bool :=
 (filterBad S F).isNone && ((evBad S V pay).isNone && F.all fun p => takesB p (V.getD (findB p.f0 S).toNat z72))
theorem evBad_len {S : List SA} {V : List SV} {pay : ByteArray} (h : evBad S V pay = none) : V.length = S.length := by
 unfold evBad at h
 split at h
 ·
  cases h
 ·
  omega
theorem all_any {α : Type} (p : α → Bool) (l : List α) : l.all p = !(l.any fun x => !p x) := by
 induction l with
 | nil => rfl
 | cons x r ih => rw [List.all_cons, List.any_cons, ih]; cases p x <;> simp
set_option maxHeartbeats 4000000 in
theorem match_calls (A B E : Option Addr) (n m c d k e0 : Nat) (S : List SA) (F : List SP) (V : List SV) (pay : ByteArray) (w : World) (hn : S.length = n) (hm : F.length = m) (hk : V.length = k) (hr : Kd.C k61 w A n S) (hr2 : Kd.C k149 w B m F) (hr3 : Kd.C k72 w E k V) (hl : n ≤ 100000) (hl2 : m ≤ 100000) (hcd : m ≤ d) :
 Calls Tryz.prog 30 #[.slice A n c, .slice B m d, encE E k e0 pay] w fun e w' => e = .returned (.bool (matchB S F V pay)) ∧ Below w.heap.size w w' := by
 have HS := mk0 hr
 have HF := mk0 hr2
 have HV := mk0 hr3
 have HN := mk0 hn
 have HM := mk0 hm
 have HK := mk0 hk
 have HZ := mk0 (show matchB S F V pay = ((filterBad S F).isNone && ((evBad S V pay).isNone && F.all fun p => takesB p (V.getD (findB p.f0 S).toNat z72))) from rfl)
 generalize matchB S F V pay = z at HZ ⊢
 clear hr hr2 hr3 hn hm hk
 have HEV := mk0 (fun W (h1 : Kd.C k61 W A n S) (h2 : Kd.C k72 W E k V) => event_calls A E n k c e0 S V pay W HN.out HK.out h1 h2 hl)
 unfold encE at HEV ⊢
 go_enter Tryz.func30, Tryz.ntmps30
 go_wp2_with fail
 have hb0 := below_alloc (below_alloc (Below.refl w.heap.size w) (.cells #[.slice A n c] 23)) (.cells #[.slice E k e0, .string pay] 44)
 have hs1 : (w.alloc (.cells #[.slice A n c] 23)).heap.size = w.heap.size + 1 := by show (w.heap.push _).size = _; exact Array.size_push _
 have hgs := (Below.heap_alloc (w.alloc (.cells #[.slice A n c] 23)) (.cells #[.slice E k e0, .string pay] 44) w.heap.size (by rw [hs1]; omega)).trans (heap_alloc_new w _)
 have hge := heap_alloc_new (w.alloc (.cells #[.slice A n c] 23)) (.cells #[.slice E k e0, .string pay] 44)
 rw [hs1] at hge
 have HB := mk0 hb0
 have KS := mk0 hgs
 have KE := mk0 hge
 clear hs1 hgs hge hb0
 generalize (w.alloc (.cells #[.slice A n c] 23)).alloc (.cells #[.slice E k e0, .string pay] 44) = w0 at HB KS KE ⊢
 obtain ⟨gs, hgs⟩ : ∃ g, g = w.heap.size := ⟨_, rfl⟩
 obtain ⟨ge, hge⟩ : ∃ g, g = w.heap.size + 1 := ⟨_, rfl⟩
 rw [← hgs] at KS
 rw [← hge] at KE
 rw [← hge, ← hgs]
 clear hgs hge
 refine (filter_calls A B n m c d S F _ HN.out HM.out (Kd.C_below HS.out HB.out) (Kd.C_below HF.out HB.out) hl hl2 hcd).mono ?_
 rintro e w1 hq
 cases hfb : filterBad S F with
 | some i =>
  obtain ⟨b, hbl, rfl, hf, hb⟩ := hq.bad hfb
  have HZ2 := mk0 (show z = false by rw [HZ.out, hfb]; rfl)
  have n_ := mk0 (below_then HB.out HB.out.size hb)
  clear HB hb hq hfb hf hbl
  have HB := n_
  clear n_
  go_wp2
  go_ret
  exact ⟨by rw [HZ2.out]; rfl, HB.out⟩
 | none =>
  obtain ⟨rfl, hb⟩ := hq.ok hfb
  have HFB := mk0 hfb
  have n_ := mk0 (below_then HB.out HB.out.size hb)
  have k1_ := mk0 ((hb.block _ (blk_lt KS.out)).trans KS.out)
  have k2_ := mk0 ((hb.block _ (blk_lt KE.out)).trans KE.out)
  clear HB hb hq hfb KS KE
  have HB := n_
  have KS := k1_
  have KE := k2_
  clear n_ k1_ k2_
  have y0 := (blk_cell KS.out 0).trans (show _ = some (Vs A n c) from rfl)
  have y1 := (blk_cell KE.out 0).trans (show _ = some (Vs E k e0) from rfl)
  have y2 := (blk_cell KE.out 1).trans (show _ = some (Value.string pay) from rfl)
  go_wp2_with fail
  refine (HEV.out _ (Kd.C_below HS.out HB.out) (Kd.C_below HV.out HB.out)).mono ?_
  rintro e w2 hq
  cases heb : evBad S V pay with
  | some i =>
   obtain ⟨b, hbl, rfl, hf, hb⟩ := hq.bad heb
   have HZ2 := mk0 (show z = false by rw [HZ.out, HFB.out, heb]; rfl)
   have n_ := mk0 (below_then HB.out HB.out.size hb)
   clear HB hb hq heb hf hbl y0 y1 y2
   have HB := n_
   clear n_
   go_wp2
   go_ret
   exact ⟨by rw [HZ2.out]; rfl, HB.out⟩
  | none =>
   obtain ⟨rfl, hb⟩ := hq.ok heb
   have hlen := evBad_len heb
   have hkn : k = n := by have := HK.out; have := HN.out; omega
   have HZ2 := mk0 (show z = !(F.any fun p => !takesB p (V.getD (findB p.f0 S).toNat z72)) by rw [HZ.out, HFB.out, heb, all_any]; rfl)
   have n_ := mk0 (below_then HB.out HB.out.size hb)
   have k1_ := mk0 ((hb.block _ (blk_lt KS.out)).trans KS.out)
   have k2_ := mk0 ((hb.block _ (blk_lt KE.out)).trans KE.out)
   clear HB hb hq heb KS KE y0 y1 y2
   have HB := n_
   have KS := k1_
   have KE := k2_
   clear n_ k1_ k2_
   have HVV : Kd.C k72 w E n V := by rw [← hkn]; exact HV.out
   have HC := mk0 (cont46_calls 54 #[.pointer (some ⟨ge, 0, none⟩), .pointer (some ⟨gs, 0, none⟩)] _ B m d F w2 (enters_of Tryz.func54 (by kernel_rfl) rfl) HM.out (Kd.C_below HF.out HB.out) hl2 (match_clo A E n k c e0 ge gs S V F pay w2 HN.out (by rw [HK.out]; exact hkn) hkn hl (Kd.C_below HS.out HB.out) (Kd.C_below HVV HB.out) KE.out KS.out (filterBad_find HFB.out)))
   generalize (F.any fun p => !takesB p (V.getD (findB p.f0 S).toNat z72)) = b at HC HZ2
   clear HVV hkn hlen
   go_wp2_with fail
   refine HC.out.mono ?_
   rintro e w3 ⟨rfl, hb⟩
   have n_ := mk0 (below_then HB.out HB.out.size hb)
   clear HB hb
   go_wp2
   go_ret
   exact ⟨by rw [HZ2.out]; rfl, n_.out⟩
set_option maxHeartbeats 4000000 in
theorem rtrue_calls (p : SP) (v : SV) (w : World) (hsz : v.f1.size ≤ 1000000000) (hsp : p.f4.size ≤ 1000000000) :
 Calls Tryz.prog 60 #[.agg #[.string p.f0, .int .i64 p.f1, .int .i64 p.f2, .int .i64 p.f3, .string p.f4], .agg #[.int .i64 v.f0, .string v.f1]] w fun e w' => e = .returned (.bool (takesB p v)) ∧ Below w.heap.size w w' := by
 have hb2 := below_alloc (below_alloc (Below.refl w.heap.size w) (.cells #[.string p.f0, .int .i64 p.f1, .int .i64 p.f2, .int .i64 p.f3, .string p.f4] 158)) (.cells #[.int .i64 v.f0, .string v.f1] 135)
 by_cases t1 : p.f1 = 1
 ·
  have o1 : (p.f1 == 1) = true := by simpa using t1
  have HV := mk0 (show takesB p v = (decide (p.f2 ≤ v.f0) && decide (v.f0 ≤ p.f3)) by unfold takesB; rw [if_pos t1])
  generalize takesB p v = z at HV ⊢
  clear t1 hsz hsp
  by_cases t2 : p.f2 ≤ v.f0
  ·
   have e2 : decide (p.f2 ≤ v.f0) = true := decide_eq_true t2
   clear t2
   go_enter Tryz.func60, Tryz.ntmps60
   go_wp2
   try go_ret
   exact ⟨by rw [HV.out, e2]; rfl, hb2⟩
  ·
   have e2 : decide (p.f2 ≤ v.f0) = false := decide_eq_false t2
   clear t2
   go_enter Tryz.func60, Tryz.ntmps60
   go_wp2
   try go_ret
   exact ⟨by rw [HV.out, e2]; rfl, hb2⟩
 ·
  have o1 : (p.f1 == 1) = false := by simpa using t1
  by_cases t2 : p.f1 = 2
  ·
   have o2 : (p.f1 == 2) = true := by simpa using t2
   have HV := mk0 (show takesB p v = (p.f4.toList == v.f1.toList) by unfold takesB; rw [if_neg t1, if_pos t2]; exact Bool.beq_comm)
   generalize takesB p v = z at HV ⊢
   clear t1 t2 hsz hsp
   go_enter Tryz.func60, Tryz.ntmps60
   go_wp2
   try go_ret
   exact ⟨by rw [HV.out]; rfl, hb2⟩
  ·
   have o2 : (p.f1 == 2) = false := by simpa using t2
   have HV := mk0 (show takesB p v = preB v.f1 p.f4 by unfold takesB; rw [if_neg t1, if_neg t2])
   generalize takesB p v = z at HV ⊢
   clear t1 t2
   go_enter Tryz.func60, Tryz.ntmps60
   go_upto_region 5 with (fail)
   have kp : ((w.alloc (.cells #[.string p.f0, .int .i64 p.f1, .int .i64 p.f2, .int .i64 p.f3, .string p.f4] 158)).alloc (.cells #[.int .i64 v.f0, .string v.f1] 135)).heap[w.heap.size]? = some (.cells #[.string p.f0, .int .i64 p.f1, .int .i64 p.f2, .int .i64 p.f3, .string p.f4] 158 (0, 0)) := (push2_new w.heap _ _).1
   have kv : ((w.alloc (.cells #[.string p.f0, .int .i64 p.f1, .int .i64 p.f2, .int .i64 p.f3, .string p.f4] 158)).alloc (.cells #[.int .i64 v.f0, .string v.f1] 135)).heap[w.heap.size + 1]? = some (.cells #[.int .i64 v.f0, .string v.f1] 135 (0, 0)) := (push2_new w.heap _ _).2
   have HB2 := mk0 hb2
   clear hb2
   generalize (w.alloc (.cells #[.string p.f0, .int .i64 p.f1, .int .i64 p.f2, .int .i64 p.f3, .string p.f4] 158)).alloc (.cells #[.int .i64 v.f0, .string v.f1] 135) = w3 at kp kv HB2 ⊢
   have q0 : ∀ q : BelowP w3, q.w.cell? ⟨w.heap.size, 4, none⟩ = some (.string p.f4) := fun q => q.cell ((blk_cell kp 4).trans rfl)
   have q1 : ∀ q : BelowP w3, q.w.cell? ⟨w.heap.size + 1, 1, none⟩ = some (.string v.f1) := fun q => q.cell ((blk_cell kv 1).trans rfl)
   clear kp kv
   by_cases h : p.f4.size ≤ v.f1.size
   ·
    have c1 : decide ((p.f4.size : Int) ≤ (v.f1.size : Int)) = true := decide_eq_true (by omega)
    have c2 : decide (p.f4.size ≤ v.f1.size) = true := decide_eq_true h
    have i1 : (p.f4.size : Int) ≤ (v.f1.size : Int) := by omega
    have i2 : (0 : Int) ≤ (p.f4.size : Int) := by omega
    have HW := mk0 (show z = ((v.f1.extract 0 p.f4.size).toList == p.f4.toList) by rw [HV.out]; unfold preB; rw [c2]; rfl)
    clear h HV
    refine wp_region_quiet_below (by kernel_rfl) (by kernel_rfl) ?_
    repeat ((with_reducible refine wpQuiet_step (fun K hK => ?_)); go_simp; first | ((with_reducible refine hK _ ?_); clear hK K) | ((with_reducible apply Exists.intro); (with_reducible refine ⟨fun _ => ?_, hK _ ?_⟩); (fail); clear hK K))
    with_reducible refine wpQuiet_nil ?_
    rintro _ ⟨pq, rfl⟩
    have hfin := below_then HB2.out HB2.out.size pq.h
    go_wp2
    try go_ret
    exact ⟨by rw [HW.out]; rfl, hfin⟩
   ·
    have c1 : decide ((p.f4.size : Int) ≤ (v.f1.size : Int)) = false := decide_eq_false (by omega)
    have c2 : decide (p.f4.size ≤ v.f1.size) = false := decide_eq_false h
    have HW := mk0 (show z = false by rw [HV.out]; unfold preB; rw [c2]; rfl)
    clear h HV
    refine wp_region_quiet_below (by kernel_rfl) (by kernel_rfl) ?_
    repeat ((with_reducible refine wpQuiet_step (fun K hK => ?_)); go_simp; first | ((with_reducible refine hK _ ?_); clear hK K) | ((with_reducible apply Exists.intro); (with_reducible refine ⟨fun _ => ?_, hK _ ?_⟩); (fail); clear hK K))
    with_reducible refine wpQuiet_nil ?_
    rintro _ ⟨pq, rfl⟩
    have hfin := below_then HB2.out HB2.out.size pq.h
    go_wp2
    try go_ret
    exact ⟨by rw [HW.out]; rfl, hfin⟩
set_option maxHeartbeats 8000000 in
theorem revent_calls (A B : Option Addr) (n m c d : Nat) (S : List SA) (V : List SV) (pay : ByteArray) (w : World) (hn : S.length = n) (hm : V.length = m) (hr : Kd.C k63 w A n (S.map toA)) (hr2 : Kd.C k135 w B m (V.map toV)) (hl : n ≤ 100000) (hsz : ∀ x ∈ V, x.f1.size ≤ 1000000000) :
 Calls Tryz.prog 47 #[.slice A n c, .slice B m d, .int .i64 (pay.size : Int)] w fun e w' => e = .returned (.int .i64 (badI2 (evBad S V pay))) ∧ Below w.heap.size w w' := by
 have HRS := mk0 hr
 have HRV := mk0 hr2
 have HN := mk0 hn
 have HM := mk0 hm
 have HSZ := mk0 hsz
 clear hr hr2 hn hm hsz
 obtain ⟨z, hz⟩ : ∃ z, z = badI2 (evBad S V pay) := ⟨_, rfl⟩
 rw [← hz]
 have HZ := mk0 hz
 clear hz
 by_cases h1 : m = n
 ·
  subst h1
  have q0 : ((m : Int) != (m : Int)) = false := by simp
  by_cases hp : 200 < pay.size
  ·
   have q2 : decide (200 < (pay.size : Int)) = true := decide_eq_true (by omega)
   have q2b : decide (200 < pay.size) = true := decide_eq_true hp
   have HB := mk0 (show z = 0 by rw [HZ.out]; unfold evBad; rw [if_pos (Or.inr hp)]; rfl)
   clear hp
   go_enter Tryz.func47, Tryz.ntmps47
   go_wp2
   try go_ret
   exact ⟨by rw [HB.out]; rfl, Below.refl _ _⟩
  ·
   have q2 : decide (200 < (pay.size : Int)) = false := decide_eq_false (by omega)
   have q2b : decide (200 < pay.size) = false := decide_eq_false hp
   have HFB := mk0 (show evBad S V pay = evFrom S V m 0 by unfold evBad; rw [if_neg (by rw [HN.out, HM.out]; omega), HN.out])
   clear hp
   go_enter Tryz.func47, Tryz.ntmps47
   go_upto_region 4 with (fail)
   go_loopg [7, 8, 9, 21] (m + 1) (fun k v7 v8 v9 v21 W => ∃ i : Nat, Aside0 (i ≤ m ∧ k + i = m + 1 ∧ evBad S V pay = evFrom S V (m - i) i) ∧ v21 = .int .i64 (i : Int) ∧ Aside0 (Below w.heap.size w W))
   case atStart => exact ⟨0, ⟨by omega, by omega, HFB.out⟩, rfl, ⟨Below.refl _ _⟩⟩
   case round =>
    clear HFB
    obtain ⟨i, HI, rfl, HB⟩ := hrel
    by_cases hi : i < m
    ·
     have b1 : decide ((i : Int) < (m : Int)) = true := decide_eq_true (by omega)
     have b2 : decide (i < m) = true := decide_eq_true (by omega)
     have p1 : (0 : Int) ≤ (i : Int) := by omega
     have p2 : (i : Int) < (m : Int) := by omega
     have hstep : evFrom S V (m - i) i = if fitsB (S.getD i z61) (V.getD i z72) then evFrom S V (m - (i + 1)) (i + 1) else some i := by
      rw [show m - i = (m - (i + 1)) + 1 by omega]
      rfl
     obtain ⟨ad, e, h0, h1, h2, h3⟩ := at_T63 (Kd.C_below HRS.out HB.out) i p1 p2
     cases e
     obtain ⟨ad2, e, k0, k1⟩ := at_T135 (Kd.C_below HRV.out HB.out) i p1 p2
     cases e
     rw [Int.toNat_natCast] at h0 h1 h2 h3 k0 k1
     have hrd : rd_T63 (S.map toA) (i : Int) = toA (S.getD i z61) := getD_toA S i
     have hrd2 : rd_T135 (V.map toV) (i : Int) = toV (V.getD i z72) := getD_toV V i
     rw [hrd] at h0 h1 h2 h3
     rw [hrd2] at k0 k1
     have hvz : (V.getD i z72).f1.size ≤ 1000000000 := HSZ.out _ (by rw [List.getD_eq_getElem?_getD, List.getElem?_eq_getElem (by have := HM.out; omega)]; exact List.getElem_mem _)
     generalize S.getD i z61 = a at h0 h1 h2 h3 hstep
     generalize V.getD i z72 = v at k0 k1 hstep hvz
     have HST := mk0 hstep
     clear hrd hrd2 hstep
     change wr.cell? _ = some (.string a.f0) at h0
     change wr.cell? _ = some (.int .i64 a.f1) at h1
     change wr.cell? _ = some (.int .i64 a.f2) at h2
     change wr.cell? _ = some (.int .i64 a.f3) at h3
     change wr.cell? _ = some (.int .i64 v.f0) at k0
     change wr.cell? _ = some (.string v.f1) at k1
     go_upto_region 6 with (fail)
     have hb2 := below_alloc (Below.refl wr.heap.size wr) (.cells #[.string a.f0, .int .i64 a.f1, .int .i64 a.f2, .int .i64 a.f3] 63)
     have ka := heap_alloc_new wr (.cells #[.string a.f0, .int .i64 a.f1, .int .i64 a.f2, .int .i64 a.f3] 63)
     replace k0 := cell_blw hb2 k0
     replace k1 := cell_blw hb2 k1
     have HB1 := mk0 (below_then HB.out HB.out.size hb2)
     clear h0 h1 h2 h3 hb2 HB
     generalize wr.alloc (.cells #[.string a.f0, .int .i64 a.f1, .int .i64 a.f2, .int .i64 a.f3] 63) = w2 at ka k0 k1 HB1 ⊢
     generalize wr.heap.size = ga at ka ⊢
     go_upto_region 7 with (fail)
     have hb2 := below_alloc (Below.refl w2.heap.size w2) (.cells #[.int .i64 v.f0, .string v.f1] 135)
     have kv := heap_alloc_new w2 (.cells #[.int .i64 v.f0, .string v.f1] 135)
     replace ka := (hb2.block _ (blk_lt ka)).trans ka
     have HB2 := mk0 (below_then HB1.out HB1.out.size hb2)
     clear k0 k1 hb2 HB1
     generalize w2.alloc (.cells #[.int .i64 v.f0, .string v.f1] 135) = w3 at ka kv HB2 ⊢
     generalize w2.heap.size = gv at kv ⊢
     have x0 := (blk_cell ka 1).trans (show _ = some (Value.int .i64 a.f1) from rfl)
     have x1 := (blk_cell ka 2).trans (show _ = some (Value.int .i64 a.f2) from rfl)
     have x2 := (blk_cell ka 3).trans (show _ = some (Value.int .i64 a.f3) from rfl)
     have x3 := (blk_cell kv 0).trans (show _ = some (Value.int .i64 v.f0) from rfl)
     have x4 := (blk_cell kv 1).trans (show _ = some (Value.string v.f1) from rfl)
     clear ka kv
     by_cases t1 : a.f1 = 1
     ·
      have o1 : (a.f1 == 1) = true := by simpa using t1
      have o1b : (a.f1 != 1) = false := by simpa using t1
      have HV := mk0 (show fitsB a v = ((v.f1.toList == []) && (decide (a.f2 ≤ v.f0) && decide (v.f0 ≤ a.f3))) by unfold fitsB; rw [if_pos t1])
      clear t1
      cases e1 : (v.f1.toList == []) with
      | false =>
       have HFT := mk0 (show fitsB a v = false from (by rw [HV.out, e1]; rfl))
       rw [HFT.out, if_neg (by simp)] at HST
       have HR := mk0 (show z = (i : Int) by rw [HZ.out, HI.out.2.2, HST.out]; rfl)
       go_wp2
       try go_ret
       exact ⟨by rw [HR.out]; rfl, HB2.out⟩
      | true =>
       by_cases t2 : v.f0 < a.f2
       ·
        have e2 : decide (v.f0 < a.f2) = true := decide_eq_true t2
        have e2' : decide (a.f2 ≤ v.f0) = false := decide_eq_false (by omega)
        clear t2
        have HFT := mk0 (show fitsB a v = false from (by rw [HV.out, e2', Bool.false_and, Bool.and_false]))
        rw [HFT.out, if_neg (by simp)] at HST
        have HR := mk0 (show z = (i : Int) by rw [HZ.out, HI.out.2.2, HST.out]; rfl)
        go_wp2
        try go_ret
        exact ⟨by rw [HR.out]; rfl, HB2.out⟩
       ·
        have e2 : decide (v.f0 < a.f2) = false := decide_eq_false t2
        have e2' : decide (a.f2 ≤ v.f0) = true := decide_eq_true (by omega)
        by_cases t3 : a.f3 < v.f0
        ·
         have e3 : decide (a.f3 < v.f0) = true := decide_eq_true t3
         have e3' : decide (v.f0 ≤ a.f3) = false := decide_eq_false (by omega)
         clear t2 t3
         have HFT := mk0 (show fitsB a v = false from (by rw [HV.out, e3', Bool.and_false, Bool.and_false]))
         rw [HFT.out, if_neg (by simp)] at HST
         have HR := mk0 (show z = (i : Int) by rw [HZ.out, HI.out.2.2, HST.out]; rfl)
         go_wp2
         try go_ret
         exact ⟨by rw [HR.out]; rfl, HB2.out⟩
        ·
         have e3 : decide (a.f3 < v.f0) = false := decide_eq_false t3
         have e3' : decide (v.f0 ≤ a.f3) = true := decide_eq_true (by omega)
         clear t2 t3
         have HFT := mk0 (show fitsB a v = true from (by rw [HV.out, e1, e2', e3']; rfl))
         rw [HFT.out, if_pos rfl] at HST
         go_wp2_with fail
         go_roundg (gk - 1)
         case measure => have := HI.out; omega
         case rel => exact ⟨i + 1, ⟨by omega, by have := HI.out; omega, by rw [HI.out.2.2, HST.out]⟩, (by first | rfl | (rw [wrap_in (by omega) (by omega), show (i : Int) + 1 = ((i + 1 : Nat) : Int) by omega])), HB2⟩
     ·
      have o1 : (a.f1 == 1) = false := by simpa using t1
      have o1b : (a.f1 != 1) = true := by simpa using t1
      have HV := mk0 (show fitsB a v = ((v.f0 == 0) && strOk v.f1) by unfold fitsB; rw [if_neg t1])
      clear t1
      cases e1 : (v.f0 == 0) with
      | false =>
       have e1b : (v.f0 != 0) = true := by simpa using e1
       have HFT := mk0 (show fitsB a v = false from (by rw [HV.out, e1]; rfl))
       rw [HFT.out, if_neg (by simp)] at HST
       have HR := mk0 (show z = (i : Int) by rw [HZ.out, HI.out.2.2, HST.out]; rfl)
       go_wp2
       try go_ret
       exact ⟨by rw [HR.out]; rfl, HB2.out⟩
      | true =>
       have e1b : (v.f0 != 0) = false := by simpa using e1
       have HC := mk0 (fun W => rstrOk_calls v.f1 W hvz)
       cases e2 : strOk v.f1 with
       | false =>
        rw [e2] at HC
        have HFT := mk0 (show fitsB a v = false by rw [HV.out, e1, e2]; rfl)
        rw [HFT.out, if_neg (by simp)] at HST
        have HR := mk0 (show z = (i : Int) by rw [HZ.out, HI.out.2.2, HST.out]; rfl)
        go_wp2_with fail
        refine (HC.out _).mono ?_
        rintro e w5 ⟨rfl, rfl⟩
        go_wp2
        try go_ret
        exact ⟨by rw [HR.out]; rfl, HB2.out⟩
       | true =>
        rw [e2] at HC
        have HFT := mk0 (show fitsB a v = true by rw [HV.out, e1, e2]; rfl)
        rw [HFT.out, if_pos rfl] at HST
        go_wp2_with fail
        refine (HC.out _).mono ?_
        rintro e w5 ⟨rfl, rfl⟩
        go_wp2_with fail
        go_roundg (gk - 1)
        case measure => have := HI.out; omega
        case rel => exact ⟨i + 1, ⟨by omega, by have := HI.out; omega, by rw [HI.out.2.2, HST.out]⟩, (by first | rfl | (rw [wrap_in (by omega) (by omega), show (i : Int) + 1 = ((i + 1 : Nat) : Int) by omega])), HB2⟩
    ·
     have b1 : decide ((i : Int) < (m : Int)) = false := decide_eq_false (by omega)
     have b2 : decide (i < m) = false := decide_eq_false (by omega)
     have HR := mk0 (show z = -1 by rw [HZ.out, HI.out.2.2, show m - i = 0 by omega]; rfl)
     go_wp2
     try go_ret
     exact ⟨by rw [HR.out]; rfl, HB.out⟩
 ·
  have q1 : ((m : Int) != (n : Int)) = true := by simp; omega
  have q1b : (m != n) = true := by simpa using h1
  have HB := mk0 (show z = 0 by rw [HZ.out]; unfold evBad; rw [if_pos (Or.inl (by rw [HN.out, HM.out]; exact h1))]; rfl)
  clear h1
  go_enter Tryz.func47, Tryz.ntmps47
  go_wp2
  try go_ret
  exact ⟨by rw [HB.out]; rfl, Below.refl _ _⟩
end Go.Proofs.YtlokmijoaocofaaGreatDoor.Mine
end
