/-
  awake: answers that the document fixes; and the contract of Parse at any text of at most 1000 bytes.
-/
import Derived.Test.YthaapijjjgkacaaDoorParse
import Derived.Test.YthaapijjjgkacaaDoorAs2
import Derived.Test.YthaapijjjgkacaaDoorSame
set_option linter.unusedSimpArgs false
set_option linter.unusedVariables false
namespace Go.Proofs.YthaapijjjgkacaaDoor.Mine
open Go.RowKit Go.Proofs.YthaapijjjgkacaaDoorW.PrintWords Go.Proofs.YthaapijjjgkacaaDoorW.PrintLast Go.Proofs.YthaapijjjgkacaaDoorW.PrintMore
open Go.Proofs.YthaapijjjgkacaaDoor.PFilterReads

theorem parse_P (s : ByteArray) (w : World) (h : s.size ≤ 1000) : Calls Tryd.prog 13 #[.string s] w (ParsePost w s) := by
  by_cases h3 : 300 < s.size
  · exact parse_long s w h h3
  · exact parse_any s w (by omega)
def sA1 : ByteArray := ⟨#[112, 114, 105, 99, 101, 32, 105, 110, 32, 51, 46, 46, 57, 32, 97, 110, 100, 32, 116, 97, 103, 32, 94, 61, 32, 34, 97, 34]⟩
def sA2 : ByteArray := ⟨#[112, 114, 105, 99, 101]⟩
def xA1 : List Pr := [⟨[112, 114, 105, 99, 101], 1, 3, 9, []⟩, ⟨[116, 97, 103], 3, 0, 0, [97]⟩]
theorem parse_A1 : parseR sA1 = .inl xA1 := by rfl
theorem parse_A2 : parseR sA2 = .inr (5, 2) := by rfl

theorem ErrTy.below {w w' : World} (h : ErrTy w) (hb : Below w.heap.size w w') : ErrTy w' := by
  have h0 : (0 : Nat) < w.heap.size := by
    rcases Nat.eq_zero_or_pos w.heap.size with h0 | h1
    · simp [ErrTy, World.cell?, h0] at h
    · exact h1
  exact (hb.cell (p := ⟨0, 0, none⟩) h0).trans h
theorem ParsePost.ok {w w' : World} {s : ByteArray} {xs : List Pr} {e : Ending} (h : ParsePost w s e w') (hr : parseR s = .inl xs) : ParseOk w xs e w' := by
  unfold ParsePost at h
  rw [hr] at h
  exact h
theorem ParsePost.no {w w' : World} {s : ByteArray} {a c : Int} {e : Ending} (h : ParsePost w s e w') (hr : parseR s = .inr (a, c)) : ParseNo w a c e w' := by
  unfold ParsePost at h
  rw [hr] at h
  exact h
theorem IsFault.errIs {w : World} {b : Nat} {wh : ByteArray} {at_ c : Int} (h : IsFault w b wh at_ c) : ErrIs w c 1 (.iface 67 (.pointer (some ⟨b, 0, none⟩))) := ⟨b, wh, at_, _, rfl, h, rfl⟩
theorem IsFault.keep {w w' : World} {b : Nat} {wh : ByteArray} {at_ c : Int} (h : IsFault w b wh at_ c) (hb : Below w.heap.size w w') : IsFault w' b wh at_ c := (hb.block b (Array.getElem?_eq_some_iff.1 h).1).trans h

theorem R_head {α : Type} {d : Kd α} {e : Nat} {w : World} {base : Nat} {ok : Nat → Prop} {v : Value} {xs : List α} (h : d.R e w base ok v xs) (hx : 0 < xs.length) : ∃ g cap, v = .slice (some ⟨g, 0, none⟩) xs.length cap ∧ xs.length ≤ cap := by
  obtain ⟨A, c, hv, hc, _⟩ := Kd.R_reads h
  obtain ⟨_, inner, hown, hr⟩ := h
  rcases hown.2 with ⟨h1, _⟩ | ⟨g, cap, cur, h1, _⟩
  · rw [hv] at h1
    injection h1 with _ h2 _
    omega
  · rw [hv] at h1
    injection h1 with h2 h3 h4
    subst h2 h4
    exact ⟨g, c, hv, hc⟩
set_option maxHeartbeats 4000000 in
set_option maxRecDepth 100000 in
theorem awake_calls (w : World) (hg : ErrTy w) : Calls Tryd.prog 12 #[] w fun e w' => e = .returned (.bool true) ∧ Below w.heap.size w w' := by
  have HG := Aside0.mk hg
  clear hg
  go_enter Tryd.func12, Tryd.ntmps12
  go_wp2_with fail
  refine (parse_P sA1 _ (by decide)).mono ?_
  rintro e w1 hp
  obtain ⟨v1, rfl, ho, hb1⟩ := hp.ok parse_A1
  obtain ⟨g, c, hv, hcap⟩ := R_head ho (by decide)
  subst hv
  obtain ⟨A, c', hv, hle, hC⟩ := Kd.R_reads ho
  injection hv with hv1 hv2 hv3
  subst hv1 hv3
  clear hv2
  have HB1 := Aside0.mk hb1
  have HCC := Aside0.mk hC
  clear hp ho hb1 hle hC hcap
  go_wp2_with fail
  refine (parse_P sA2 _ (by decide)).mono ?_
  rintro e w2 hp
  obtain ⟨b, hbl, rfl, hf, hb2⟩ := hp.no parse_A2
  have HB2 := Aside0.mk hb2
  have HF := Aside0.mk hf
  have HBL := Aside0.mk hbl
  clear hp hf hb2 hbl
  obtain ⟨ad, hA, _, _, _, h03, _⟩ := at_T46 HCC.out 0 (by omega) (by decide)
  obtain ⟨ad2, hA2, _, h11, _, _, _⟩ := at_T46 HCC.out 1 (by omega) (by decide)
  cases hA
  cases hA2
  have h03' : (w2.alloc (.cells #[.pointer none] 67)).cell? ⟨g, 3, none⟩ = some (.int .i64 9) := World.cell?_alloc_lt w2 (.cells #[.pointer none] 67) _ (World.block_lt_of_cell? _ _ ((HB2.out.cell (World.block_lt_of_cell? _ _ h03)).trans h03)) |>.trans ((HB2.out.cell (World.block_lt_of_cell? _ _ h03)).trans h03)
  have h11' : (w2.alloc (.cells #[.pointer none] 67)).cell? ⟨g, 6, none⟩ = some (.int .i64 3) := World.cell?_alloc_lt w2 (.cells #[.pointer none] 67) _ (World.block_lt_of_cell? _ _ ((HB2.out.cell (World.block_lt_of_cell? _ _ h11)).trans h11)) |>.trans ((HB2.out.cell (World.block_lt_of_cell? _ _ h11)).trans h11)
  clear h03 h11
  go_wp2_with fail
  refine (is_err 2 2 1 _ _ (IsFault.errIs (IsFault.keep HF.out ((Below.refl _ _).alloc (Nat.le_refl _) _)))).mono ?_
  rintro e w3 ⟨rfl, rfl⟩
  go_wp2_with fail
  refine (as_fault ⟨b, 0, none⟩ w2.heap.size (.pointer none) _ (ErrTy.alloc (ErrTy.below (ErrTy.below HG.out HB1.out) HB2.out) _) (heap_new _ _)).mono ?_
  rintro e w4 ⟨rfl, hput⟩
  have HB4 := Aside0.mk (Put.back hput)
  have hc4 : w4.cell? ⟨w2.heap.size, 0, none⟩ = some (.pointer (some ⟨b, 0, none⟩)) := cell_of_row w4 w2.heap.size 0 _ _ _ hput.2.2.2.2.2
  have hc5 : w4.cell? ⟨b, 1, none⟩ = some (.int .i64 5) := cell_of_row w4 b 1 _ _ _ (IsFault.keep HF.out HB4.out)
  clear hput
  go_wp2
  go_ret
  exact ⟨rfl, below_then (below_then HB1.out HB1.out.size HB2.out) (Nat.le_trans HB1.out.size HB2.out.size) HB4.out⟩
end Go.Proofs.YthaapijjjgkacaaDoor.Mine
