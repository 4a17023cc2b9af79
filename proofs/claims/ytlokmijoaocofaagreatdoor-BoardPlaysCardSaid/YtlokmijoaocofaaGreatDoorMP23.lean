/- Texts of one claim, one behind the other, made short by a program. -/
import Derived.Test.YtlokmijoaocofaaGreatDoorMP15
import Derived.Test.YtlokmijoaocofaaGreatDoorMP22
set_option linter.unusedSimpArgs false
set_option linter.unusedVariables false
section
namespace Go.Proofs.YtlokmijoaocofaaGreatDoor.Mine
open Go.RowKit YtlokmijoaocofaaGreatDoorW.PrintWords YtlokmijoaocofaaGreatDoorW.PrintLast YtlokmijoaocofaaGreatDoorW.PrintMore
open PBoardPlays
theorem textL_len (l acc t : List UInt8) (h : (textL l acc).1 = some t) : t.length ≤ acc.length + l.length := by
 induction hn : l.length using Nat.strongRecOn generalizing l acc with
 | _ n ih =>
  match l with
  | [] => rw [textL_nil] at h; cases h
  | c :: r =>
   by_cases h1 : c = 34
   ·
    rw [textL_q _ _ h1] at h; injection h with h; subst h; omega
   ·
    by_cases h2 : c = 92
    ·
     match r with
     | [] => rw [textL_b0 _ h2] at h; cases h
     | d :: r' =>
      by_cases h3 : d = 34 ∨ d = 92
      ·
       rw [textL_b1 _ _ h2 h3] at h
       have := ih r'.length (by simp at hn; omega) r' _ h rfl
       simp at this hn
       omega
      ·
       rw [textL_b2 _ _ h2 h3] at h; cases h
    ·
     by_cases h3 : 32 ≤ c ∧ c ≤ 126
     ·
      rw [textL_p _ _ h1 h2 h3] at h
      have := ih r.length (by simp at hn; omega) r _ h rfl
      simp at this hn
      omega
     ·
      rw [textL_n _ _ h1 h2 h3] at h; cases h
theorem markS_le (m : List UInt8) (st : St) : (markS m st).l.length ≤ st.l.length := by
 unfold markS
 split
 ·
  exact Nat.le_refl _
 ·
  have := (skip_suf st.l).length_le
  unfold markL
  split
  ·
   simp only [List.length_drop]; omega
  ·
   exact this
theorem textS_len (st : St) : (textS st).1.length ≤ st.l.length := by
 have h1 := markS_le [34] st
 unfold textS
 split
 ·
  exact Nat.zero_le _
 ·
  cases ht : textL (markS [34] st).l [] with
  | mk a r =>
   cases a with
   | none => exact Nat.zero_le _
   | some t =>
    have := textL_len _ _ t (by rw [ht])
    simp only [textR]
    simp at this
    omega
theorem predS_len (l : List UInt8) : (predS ⟨l, none⟩).1.str.length ≤ l.length := by
 have h1 : (wordS ⟨l, none⟩).2.l.length ≤ l.length := (wordS_ok (w := l) (st := ⟨l, none⟩) ⟨List.suffix_refl _, fun n hn => by cases hn⟩).1.length_le
 have h2 := blanksS_le (wordS ⟨l, none⟩).2
 unfold predS
 simp only
 split
 ·
  have := textS_len (markS [61] (blanksS (wordS ⟨l, none⟩).2))
  have := markS_le [61] (blanksS (wordS ⟨l, none⟩).2)
  simp only
  omega
 ·
  split
  ·
   have := textS_len (markS [94, 61] (blanksS (wordS ⟨l, none⟩).2))
   have := markS_le [94, 61] (blanksS (wordS ⟨l, none⟩).2)
   simp only
   omega
  ·
   exact Nat.zero_le _
theorem PS_sizes : ∀ (n : Nat) (l : List UInt8) (acc xs : List Pr), l.length ≤ n → PS l acc = .inl xs → ∀ x ∈ xs, x ∈ acc ∨ x.str.length ≤ l.length
 | n, l, acc, xs, hn, h => by
  have h0 := predS_len l
  rw [PS_eq] at h
  cases hb : (blanksS (predS ⟨l, none⟩).2).bad with
  | some m => rw [hb] at h; cases h
  | none =>
   rw [hb] at h
   simp only at h
   by_cases hs : (blanksS (predS ⟨l, none⟩).2).l = []
   ·
    rw [if_pos hs] at h
    cases h
    intro x hx
    rcases List.mem_append.1 hx with hx | hx
    ·
     exact Or.inl hx
    ·
     rw [List.mem_singleton.1 hx]
     exact Or.inr h0
   ·
    rw [if_neg hs] at h
    unfold PN at h
    cases ha : (andS (blanksS (predS ⟨l, none⟩).2)).bad with
    | some m => rw [ha] at h; cases h
    | none =>
     rw [ha] at h
     have h1 := andS_lt hb ha
     have h2 := blanksS_le (predS ⟨l, none⟩).2
     have h3 : (predS ⟨l, none⟩).2.l.length ≤ l.length := predS_le (st := ⟨l, none⟩) rfl
     match n with
     | 0 => omega
     | n + 1 =>
      have h4 := PS_sizes n _ _ _ (by omega) h
      intro x hx
      rcases h4 x hx with h5 | h5
      ·
       rcases List.mem_append.1 h5 with h6 | h6
       ·
        exact Or.inl h6
       ·
        rw [List.mem_singleton.1 h6]
        exact Or.inr h0
      ·
       exact Or.inr (by omega)
theorem parse_sizes {s : ByteArray} {xs : List Pr} (h : parseR s = .inl xs) : ∀ x ∈ xs, x.str.length ≤ 300 := by
 obtain ⟨h1, h2⟩ := parseR_ok h
 intro x hx
 rcases PS_sizes _ _ _ _ (Nat.le_refl _) h2 x hx with h3 | h3
 ·
  cases h3
 ·
  rw [bytes_len] at h3
  omega
theorem parse_sizesP {s : ByteArray} {xs : List Pr} (h : parseR s = .inl xs) : ∀ p ∈ xs.map toP, p.f4.size ≤ 1000000000 := by
 intro p hp
 obtain ⟨x, hx, rfl⟩ := List.mem_map.1 hp
 have := parse_sizes h x hx
 have e : (toP x).f4.size = x.str.length := by
  show (x.str.toArray).size = _
  rw [List.size_toArray]
 omega
end Go.Proofs.YtlokmijoaocofaaGreatDoor.Mine
end
section
namespace Go.Proofs.YtlokmijoaocofaaGreatDoor.Mine
open Go.Maps Go.RowKit YtlokmijoaocofaaGreatDoorW.PrintWords YtlokmijoaocofaaGreatDoorW.PrintLast YtlokmijoaocofaaGreatDoorW.PrintMore
open PBoardPlays
open Value renaming slice → Vs
theorem rparse_no {w w' : World} {s : ByteArray} {e : Ending} {at_ c : Int} (h : RParsePost w s e w') (hr : parseR s = .inr (at_, c)) : RParseNo w at_ c e w' := by
 unfold RParsePost at h
 rw [hr] at h
 exact h
theorem rparse_ok {w w' : World} {s : ByteArray} {e : Ending} {xs : List Pr} (h : RParsePost w s e w') (hr : parseR s = .inl xs) : RParseOk w xs e w' := by
 unfold RParsePost at h
 rw [hr] at h
 exact h
theorem parseR_code {s : ByteArray} {at_ c : Int} (h : parseR s = .inr (at_, c)) : (c == 0) = false := by
 unfold parseR at h
 split at h
 ·
  injection h with h
  injection h with _ h
  subst h
  rfl
 ·
  split at h
  ·
   cases h
  ·
   injection h with h
   injection h with _ h
   subst h
   rfl
theorem own_at {α : Type} {k : Kd α} {e : Nat} {w : World} {base : Nat} {ok : Nat → Prop} {v : Value} {xs : List α} (h : Kd.R k e w base ok v xs) (h0 : 0 < xs.length) : ∃ (g : Nat) (cur : Array Value), (∃ n c, v = .slice (some ⟨g, 0, none⟩) n c) ∧ base ≤ g ∧ w.heap[g]? = some (.cells cur e (0, 0)) := by
 obtain ⟨_, inner, ho, _⟩ := h
 rcases ho.2 with ⟨_, hz⟩ | ⟨g, cap, cur, hv, hg, hh, _⟩
 ·
  omega
 ·
  exact ⟨g, cur, ⟨_, _, hv⟩, hg, hh⟩
theorem SubRd.blockKept {w w' : World} {t1 t2 : Int} {g n c : Nat} {F : List SP} (h : SubRd w ⟨t1, t2, some ⟨g, 0, none⟩, n, c, F⟩) (hb : w'.heap[g]? = w.heap[g]?) : SubRd w' ⟨t1, t2, some ⟨g, 0, none⟩, n, c, F⟩ := by
 refine ⟨h.1, h.2.1, h.2.2.1, h.2.2.2.1, h.2.2.2.2.1, h.2.2.2.2.2.1, fun hn => ?_⟩
 obtain ⟨ad, e, hc⟩ := h.2.2.2.2.2.2 hn
 refine ⟨ad, e, fun j p hj => ?_⟩
 obtain ⟨cs, h1, h2, h3⟩ := hc j p hj
 have e2 : (⟨g, 0, none⟩ : Addr) = ad := Option.some.inj e
 refine ⟨cs, h1, ?_, fun i u hi => ?_⟩
 ·
  obtain rfl := k158_open h2
  exact k158_mk w' p
 ·
  have h4 := h3 i u hi
  rw [← e2] at h4 ⊢
  have h5 : w'.cell? ((⟨g, 0, none⟩ : Addr).add (j * (k158).sz + i)) = w.cell? ((⟨g, 0, none⟩ : Addr).add (j * (k158).sz + i)) := by
   have e3 : ((⟨g, 0, none⟩ : Addr).add (j * (k158).sz + i)).block = g := by unfold Addr.add; split <;> rfl
   unfold World.cell?
   rw [e3, hb]
  exact h5.trans h4
theorem toPQ_map (xs : List Pr) : xs.map toPQ = (xs.map toP).map toQ := by
 rw [List.map_map]
 rfl
def RSubPost (w : World) (S : List SA) (n : Nat) (B : RB) (t : P2) (s : ByteArray) (e : Ending) (w' : World) : Prop :=
 (rsubC S B t s ≠ 0 ∧ RBPost w S n B (rsubC S B t s) e w') ∨ (rsubC S B t s = 0 ∧ ∃ (xs : List Pr) (A : Option Addr) (m c : Nat), readR S s = .inl xs ∧ B.U.find? (subIs t) = none ∧ RBPost w S n (B.sub ⟨t.1, t.2, A, m, c, xs.map toP⟩) 0 e w')
set_option maxHeartbeats 8000000 in
set_option maxRecDepth 100000 in
theorem rsub_calls (n : Nat) (h : RH) (S : List SA) (B : RB) (t : P2) (s : ByteArray) (w : World) (hb : IsRB w S n h B) (hl : B.U.length ≤ 100000) (hn9 : n ≤ 100000) (hs : s.size ≤ 1000) :
 Calls Tryz.prog 24 #[rbV n h B, .int .i64 t.1, .int .i64 t.2, .string s] w (RSubPost w S n B t s) := by
 have HBD := mk0 hb
 obtain ⟨t1, t2⟩ := t
 obtain ⟨a1, c1, a2, c2, a3, c3, a4, c4⟩ := h
 obtain ⟨nE, hnE⟩ : ∃ k, k = B.E.length := ⟨_, rfl⟩
 obtain ⟨nU, hnU⟩ : ∃ k, k = B.U.length := ⟨_, rfl⟩
 obtain ⟨nG, hnG⟩ : ∃ k, k = B.G.length := ⟨_, rfl⟩
 have HAC := mk0 (fun W (hW : Below w.heap.size w W) => rasked_calls n ⟨a1, c1, a2, c2, a3, c3, a4, c4⟩ S B (t1, t2) W (HBD.out.below hW) hl)
 have HPC := mk0 (fun W => rparse_calls s W hs)
 have HLE := mk0 (And.intro hl hnU)
 unfold rbV at HAC ⊢
 dsimp only at HAC ⊢
 rw [← hnE, ← hnU, ← hnG] at HAC ⊢
 have HLN := mk0 (And.intro hnE hnG)
 clear hb hnE hnU hnG hl
 have HSAME := mk0 (fun (c : Int) (hc0 : rsubC S B (t1, t2) s = c) (hc1 : c ≠ 0) e w' (he : e = .returned (.tuple #[.agg #[.slice a1 n c1, .slice a2 nE c2, .slice a3 nU c3, .slice a4 nG c4], .int .i64 c])) (hbf : Below w.heap.size w w') => show RSubPost w S n B (t1, t2) s e w' from by
  refine Or.inl ⟨by rw [hc0]; exact hc1, ⟨a1, c1, a2, c2, a3, c3, a4, c4⟩, ?_, hbf, HBD.out.below hbf⟩
  unfold rbV
  dsimp only
  rw [hc0, ← HLE.out.2, ← HLN.out.1, ← HLN.out.2]
  exact he)
 have HDONE0 := mk0 (fun (xs : List Pr) (xA : Option Addr) (xn xc : Nat) (hrd : readR S s = .inl xs) (hfn : B.U.find? (subIs (t1, t2)) = none) (w9 : World) (hb9 : Below w.heap.size w w9) (hsr : SubRd w9 ⟨t1, t2, xA, xn, xc, xs.map toP⟩) e w' (A9 : Option Addr) (c9 : Nat) (he : e = .returned (.tuple #[.agg #[.slice a1 n c1, .slice a2 nE c2, .slice A9 (nU + 1) c9, .slice a4 nG c4], .int .i64 0])) (hbf : Below w.heap.size w w') (hsr2 : SubRd w' ⟨t1, t2, xA, xn, xc, xs.map toP⟩) (hc9 : nU + 1 ≤ c9) (hC : Kd.C kRS w' A9 (nU + 1) (B.U ++ [⟨t1, t2, xA, xn, xc, xs.map toP⟩])) => show RSubPost w S n B (t1, t2) s e w' from by
  have hlen : (B.sub ⟨t1, t2, xA, xn, xc, xs.map toP⟩).U.length = nU + 1 := by show (B.U ++ [_]).length = _; rw [List.length_append, ← HLE.out.2]; rfl
  refine Or.inr ⟨by unfold rsubC; rw [hrd]; show (if (B.U.find? (subIs (t1, t2))).isSome = true then (5 : Int) else 0) = 0; rw [hfn]; rfl, xs, xA, xn, xc, hrd, hfn, ⟨a1, c1, a2, c2, A9, c9, a4, c4⟩, ?_, hbf, ?_⟩
  ·
   unfold rbV
   dsimp only
   rw [hlen, show (B.sub ⟨t1, t2, xA, xn, xc, xs.map toP⟩).E.length = nE from HLN.out.1.symm, show (B.sub ⟨t1, t2, xA, xn, xc, xs.map toP⟩).G.length = nG from HLN.out.2.symm]
   exact he
  ·
   have hk := HBD.out.below hbf
   refine ⟨hk.len, hk.cs, hk.sch, hk.ce, hk.ev, hk.evs, by rw [hlen]; exact hc9, by rw [hlen]; exact hC, fun y hy => ?_, hk.cg, hk.got⟩
   rcases List.mem_append.1 hy with hy | hy
   ·
    exact hk.subs y hy
   ·
    rw [List.mem_singleton.1 hy]; exact hsr2)
 have HCR := mk0 (show rsubC S B (t1, t2) s = (match readR S s with | .inr c => c | .inl _ => if (B.U.find? (subIs (t1, t2))).isSome then 5 else 0) from rfl)
 generalize RSubPost w S n B (t1, t2) s = POST at HSAME HDONE0 ⊢
 go_enter Tryz.func24, Tryz.ntmps24
 go_upto_region 1 with (fail)
 have hb3 := below_alloc (below_alloc (Below.refl w.heap.size w) (.cells #[.slice a1 n c1, .slice a2 nE c2, .slice a3 nU c3, .slice a4 nG c4] 41)) (.cells #[.slice none 0 0, .slice none 0 0, .slice none 0 0, .slice none 0 0] 41)
 obtain ⟨kb, kr⟩ := push2_new w.heap (.cells #[.slice a1 n c1, .slice a2 nE c2, .slice a3 nU c3, .slice a4 nG c4] 41 (0, 0)) (.cells #[.slice none 0 0, .slice none 0 0, .slice none 0 0, .slice none 0 0] 41 (0, 0))
 have HB := mk0 hb3
 have HKB := mk0 (show ((w.alloc (.cells #[.slice a1 n c1, .slice a2 nE c2, .slice a3 nU c3, .slice a4 nG c4] 41)).alloc (.cells #[.slice none 0 0, .slice none 0 0, .slice none 0 0, .slice none 0 0] 41)).heap[w.heap.size]? = _ from kb)
 have HKR := mk0 (show ((w.alloc (.cells #[.slice a1 n c1, .slice a2 nE c2, .slice a3 nU c3, .slice a4 nG c4] 41)).alloc (.cells #[.slice none 0 0, .slice none 0 0, .slice none 0 0, .slice none 0 0] 41)).heap[w.heap.size + 1]? = _ from kr)
 clear kb kr hb3
 generalize (w.alloc (.cells #[.slice a1 n c1, .slice a2 nE c2, .slice a3 nU c3, .slice a4 nG c4] 41)).alloc (.cells #[.slice none 0 0, .slice none 0 0, .slice none 0 0, .slice none 0 0] 41) = w0 at HB HKB HKR ⊢
 obtain ⟨gr, hgr⟩ : ∃ g, g = w.heap.size + 1 := ⟨_, rfl⟩
 obtain ⟨gb, hgb⟩ : ∃ g, g = w.heap.size := ⟨_, rfl⟩
 rw [← hgr] at HKR
 rw [← hgb] at HKB
 rw [← hgr, ← hgb]
 have HGR := mk0 (show w.heap.size ≤ gr by omega)
 obtain ⟨ge, hge⟩ : ∃ g, g = gr := ⟨_, rfl⟩
 have HKE := HKR
 rw [← hge] at HKE
 have HGN := mk0 (show gb = w.heap.size ∧ gb ≠ gr ∧ True from ⟨by omega, by omega, trivial⟩)
 clear hgr hgb hge
 go_wp2_with fail
 refine (HPC.out _).mono ?_
 rintro e w1 hp
 cases hr : parseR s with
 | inr z =>
  obtain ⟨at_, c⟩ := z
  obtain ⟨rfl, hb⟩ := rparse_no hp hr
  have hc0 := parseR_code hr
  have hc0b : (c != 0) = true := by simpa using hc0
  have HC0 := mk0 (show rsubC S B (t1, t2) s = c by rw [HCR.out]; unfold readR; rw [hr])
  have hne : c ≠ 0 := by simpa using hc0
  have HNE := mk0 hne
  clear hp hr hne
  have n1 := mk0 ((hb.block _ (blk_lt HKB.out)).trans HKB.out)
  have n2 := mk0 ((hb.block _ (blk_lt HKE.out)).trans HKE.out)
  have n3 := mk0 ((hb.block _ (blk_lt HKR.out)).trans HKR.out)
  have n4 := mk0 (below_then HB.out HB.out.size hb)
  clear HKB HKE HKR HB
  have HKB := n1
  have HKE := n2
  have HKR := n3
  have HB := n4
  clear n1 n2 n3 n4
  clear hb
  have y0 := (blk_cell HKR.out 0).trans (show _ = some (Vs none 0 0) from rfl)
  have y1 := (blk_cell HKR.out 1).trans (show _ = some (Vs none 0 0) from rfl)
  have y2 := (blk_cell HKR.out 2).trans (show _ = some (Vs none 0 0) from rfl)
  have y3 := (blk_cell HKR.out 3).trans (show _ = some (Vs none 0 0) from rfl)
  have f0 := blk_frozen HKR.out 0
  have f1 := blk_frozen HKR.out 1
  have f2 := blk_frozen HKR.out 2
  have f3 := blk_frozen HKR.out 3
  have x0 := (blk_cell HKB.out 0).trans (show _ = some (Vs a1 n c1) from rfl)
  have x1 := (blk_cell HKB.out 1).trans (show _ = some (Vs a2 nE c2) from rfl)
  have x2 := (blk_cell HKB.out 2).trans (show _ = some (Vs a3 nU c3) from rfl)
  have x3 := (blk_cell HKB.out 3).trans (show _ = some (Vs a4 nG c4) from rfl)
  go_wp2
  have k0 : ((w1).setCell ⟨gr, 0, none⟩ (Vs a1 n c1)).heap[gr]? = some (.cells #[(Vs a1 n c1), (Vs none 0 0), (Vs none 0 0), (Vs none 0 0)] 41 (0, 0)) := by simpa using blk_set HKR.out 0 (Vs a1 n c1)
  have k1 : (((w1).setCell ⟨gr, 0, none⟩ (Vs a1 n c1)).setCell ⟨gr, 1, none⟩ (Vs a2 nE c2)).heap[gr]? = some (.cells #[(Vs a1 n c1), (Vs a2 nE c2), (Vs none 0 0), (Vs none 0 0)] 41 (0, 0)) := by simpa using blk_set k0 1 (Vs a2 nE c2)
  have k2 : ((((w1).setCell ⟨gr, 0, none⟩ (Vs a1 n c1)).setCell ⟨gr, 1, none⟩ (Vs a2 nE c2)).setCell ⟨gr, 2, none⟩ (Vs a3 nU c3)).heap[gr]? = some (.cells #[(Vs a1 n c1), (Vs a2 nE c2), (Vs a3 nU c3), (Vs none 0 0)] 41 (0, 0)) := by simpa using blk_set k1 2 (Vs a3 nU c3)
  have k3 : (((((w1).setCell ⟨gr, 0, none⟩ (Vs a1 n c1)).setCell ⟨gr, 1, none⟩ (Vs a2 nE c2)).setCell ⟨gr, 2, none⟩ (Vs a3 nU c3)).setCell ⟨gr, 3, none⟩ (Vs a4 nG c4)).heap[gr]? = some (.cells #[(Vs a1 n c1), (Vs a2 nE c2), (Vs a3 nU c3), (Vs a4 nG c4)] 41 (0, 0)) := by simpa using blk_set k2 3 (Vs a4 nG c4)
  have hbf := below_set (j := 3) (v := (Vs a4 nG c4)) (below_set (j := 2) (v := (Vs a3 nU c3)) (below_set (j := 1) (v := (Vs a2 nE c2)) (below_set (j := 0) (v := (Vs a1 n c1)) HB.out HGR.out) HGR.out) HGR.out) HGR.out
  generalize ((((w1).setCell ⟨gr, 0, none⟩ (Vs a1 n c1)).setCell ⟨gr, 1, none⟩ (Vs a2 nE c2)).setCell ⟨gr, 2, none⟩ (Vs a3 nU c3)).setCell ⟨gr, 3, none⟩ (Vs a4 nG c4) = w9 at k3 hbf ⊢
  clear k0 k1 k2
  have z0 := (blk_cell k3 0).trans (show _ = some (Vs a1 n c1) from rfl)
  have z1 := (blk_cell k3 1).trans (show _ = some (Vs a2 nE c2) from rfl)
  have z2 := (blk_cell k3 2).trans (show _ = some (Vs a3 nU c3) from rfl)
  have z3 := (blk_cell k3 3).trans (show _ = some (Vs a4 nG c4) from rfl)
  exact bodyPost_ret (v := .tuple #[.agg #[.slice a1 n c1, .slice a2 nE c2, .slice a3 nU c3, .slice a4 nG c4], .int .i64 c]) (by simp [results, Tryz.results24, go_sem, z0, z1, z2, z3]) rfl (HSAME.out c HC0.out HNE.out _ _ rfl hbf)
 | inl xs =>
  obtain ⟨v, rfl, ho, hb⟩ := rparse_ok hp hr
  rw [toPQ_map] at ho
  have hcnt : (xs.map toP).length ≤ 100000 := by have := parse_count hr; simp; omega
  have hsz := parse_sizesP hr
  obtain ⟨xA, xc, rfl, hxc, hxC⟩ := Kd.R_reads ho
  rw [List.length_map] at hxc hxC ho ⊢
  obtain ⟨xn, hxn⟩ : ∃ k, k = (xs.map toP).length := ⟨_, rfl⟩
  rw [← hxn] at hxc hxC hcnt ho ⊢
  have HXS := mk0 (And.intro hxn.symm (And.intro hxc (And.intro hcnt (And.intro hsz hxC))))
  have HPR := mk0 hr
  have HXR := mk0 ho
  clear hp hr ho hxc hxC hcnt hsz hxn
  have n1 := mk0 ((hb.block _ (blk_lt HKB.out)).trans HKB.out)
  have n2 := mk0 ((hb.block _ (blk_lt HKE.out)).trans HKE.out)
  have n3 := mk0 ((hb.block _ (blk_lt HKR.out)).trans HKR.out)
  have n4 := mk0 (below_then HB.out HB.out.size hb)
  clear HKB HKE HKR HB
  have HKB := n1
  have HKE := n2
  have HKR := n3
  have HB := n4
  clear n1 n2 n3 n4
  clear hb
  have x0 := (blk_cell HKB.out 0).trans (show _ = some (Vs a1 n c1) from rfl)
  go_wp2_with fail
  refine (rfilter_calls a1 xA n xn c1 xc S (xs.map toP) w1 HBD.out.len HXS.out.1 (Kd.C_below HBD.out.sch HB.out) HXS.out.2.2.2.2 hn9 HXS.out.2.2.1 HXS.out.2.1 HXS.out.2.2.2.1).mono ?_
  rintro e w2 ⟨rfl, hb⟩
  clear x0
  have n1 := mk0 ((hb.block _ (blk_lt HKB.out)).trans HKB.out)
  have n2 := mk0 ((hb.block _ (blk_lt HKE.out)).trans HKE.out)
  have n3 := mk0 ((hb.block _ (blk_lt HKR.out)).trans HKR.out)
  have n4 := mk0 (below_then HB.out HB.out.size hb)
  clear HKB HKE HKR HB
  have HKB := n1
  have HKE := n2
  have HKR := n3
  have HB := n4
  clear n1 n2 n3 n4
  have HXD := mk0 (show SubRd w2 ⟨t1, t2, xA, xn, xc, xs.map toP⟩ from ⟨HXS.out.1, HXS.out.2.1, HXS.out.2.2.1, HXS.out.2.2.2.1, Kd.C_below HXS.out.2.2.2.2 hb⟩)
  have HXQ := mk0 (Kd.R_below HXR.out hb)
  clear hb HXS HXR
  cases hfb : filterBad S (xs.map toP) with
  | some i =>
   have HC0 := mk0 (show rsubC S B (t1, t2) s = 3 by rw [HCR.out]; unfold readR; rw [HPR.out]; simp only [hfb])
   have q1 : decide (0 ≤ badI2 (some i)) = true := decide_eq_true (by show (0 : Int) ≤ (i : Int); omega)
   clear hfb
   have y0 := (blk_cell HKR.out 0).trans (show _ = some (Vs none 0 0) from rfl)
   have y1 := (blk_cell HKR.out 1).trans (show _ = some (Vs none 0 0) from rfl)
   have y2 := (blk_cell HKR.out 2).trans (show _ = some (Vs none 0 0) from rfl)
   have y3 := (blk_cell HKR.out 3).trans (show _ = some (Vs none 0 0) from rfl)
   have f0 := blk_frozen HKR.out 0
   have f1 := blk_frozen HKR.out 1
   have f2 := blk_frozen HKR.out 2
   have f3 := blk_frozen HKR.out 3
   have x0 := (blk_cell HKB.out 0).trans (show _ = some (Vs a1 n c1) from rfl)
   have x1 := (blk_cell HKB.out 1).trans (show _ = some (Vs a2 nE c2) from rfl)
   have x2 := (blk_cell HKB.out 2).trans (show _ = some (Vs a3 nU c3) from rfl)
   have x3 := (blk_cell HKB.out 3).trans (show _ = some (Vs a4 nG c4) from rfl)
   go_wp2
   have k0 : ((w2).setCell ⟨gr, 0, none⟩ (Vs a1 n c1)).heap[gr]? = some (.cells #[(Vs a1 n c1), (Vs none 0 0), (Vs none 0 0), (Vs none 0 0)] 41 (0, 0)) := by simpa using blk_set HKR.out 0 (Vs a1 n c1)
   have k1 : (((w2).setCell ⟨gr, 0, none⟩ (Vs a1 n c1)).setCell ⟨gr, 1, none⟩ (Vs a2 nE c2)).heap[gr]? = some (.cells #[(Vs a1 n c1), (Vs a2 nE c2), (Vs none 0 0), (Vs none 0 0)] 41 (0, 0)) := by simpa using blk_set k0 1 (Vs a2 nE c2)
   have k2 : ((((w2).setCell ⟨gr, 0, none⟩ (Vs a1 n c1)).setCell ⟨gr, 1, none⟩ (Vs a2 nE c2)).setCell ⟨gr, 2, none⟩ (Vs a3 nU c3)).heap[gr]? = some (.cells #[(Vs a1 n c1), (Vs a2 nE c2), (Vs a3 nU c3), (Vs none 0 0)] 41 (0, 0)) := by simpa using blk_set k1 2 (Vs a3 nU c3)
   have k3 : (((((w2).setCell ⟨gr, 0, none⟩ (Vs a1 n c1)).setCell ⟨gr, 1, none⟩ (Vs a2 nE c2)).setCell ⟨gr, 2, none⟩ (Vs a3 nU c3)).setCell ⟨gr, 3, none⟩ (Vs a4 nG c4)).heap[gr]? = some (.cells #[(Vs a1 n c1), (Vs a2 nE c2), (Vs a3 nU c3), (Vs a4 nG c4)] 41 (0, 0)) := by simpa using blk_set k2 3 (Vs a4 nG c4)
   have hbf := below_set (j := 3) (v := (Vs a4 nG c4)) (below_set (j := 2) (v := (Vs a3 nU c3)) (below_set (j := 1) (v := (Vs a2 nE c2)) (below_set (j := 0) (v := (Vs a1 n c1)) HB.out HGR.out) HGR.out) HGR.out) HGR.out
   generalize ((((w2).setCell ⟨gr, 0, none⟩ (Vs a1 n c1)).setCell ⟨gr, 1, none⟩ (Vs a2 nE c2)).setCell ⟨gr, 2, none⟩ (Vs a3 nU c3)).setCell ⟨gr, 3, none⟩ (Vs a4 nG c4) = w9 at k3 hbf ⊢
   clear k0 k1 k2
   have z0 := (blk_cell k3 0).trans (show _ = some (Vs a1 n c1) from rfl)
   have z1 := (blk_cell k3 1).trans (show _ = some (Vs a2 nE c2) from rfl)
   have z2 := (blk_cell k3 2).trans (show _ = some (Vs a3 nU c3) from rfl)
   have z3 := (blk_cell k3 3).trans (show _ = some (Vs a4 nG c4) from rfl)
   exact bodyPost_ret (v := .tuple #[.agg #[.slice a1 n c1, .slice a2 nE c2, .slice a3 nU c3, .slice a4 nG c4], .int .i64 3]) (by simp [results, Tryz.results24, go_sem, z0, z1, z2, z3]) rfl (HSAME.out 3 HC0.out (by decide) _ _ rfl hbf)
  | none =>
   have hrd : readR S s = .inl xs := by unfold readR; rw [HPR.out]; simp only [hfb]
   have HRD := mk0 hrd
   have HC0 := mk0 (show rsubC S B (t1, t2) s = if (B.U.find? (subIs (t1, t2))).isSome then 5 else 0 by rw [HCR.out, hrd])
   have q1 : decide (0 ≤ badI2 none) = false := by decide
   have HPO := mk0 (show 0 < (xs.map toP).length by
    unfold filterBad at hfb
    split at hfb
    ·
     cases hfb
    ·
     omega)
   clear hfb hrd HPR
   have x0 := (blk_cell HKB.out 0).trans (show _ = some (Vs a1 n c1) from rfl)
   have x1 := (blk_cell HKB.out 1).trans (show _ = some (Vs a2 nE c2) from rfl)
   have x2 := (blk_cell HKB.out 2).trans (show _ = some (Vs a3 nU c3) from rfl)
   have x3 := (blk_cell HKB.out 3).trans (show _ = some (Vs a4 nG c4) from rfl)
   go_wp2_with fail
   refine (HAC.out _ HB.out).mono ?_
   rintro e w3 ⟨y, b, rfl, hb, hf⟩
   clear HAC x0 x1 x2 x3
   have n1 := mk0 ((hb.block _ (blk_lt HKB.out)).trans HKB.out)
   have n2 := mk0 ((hb.block _ (blk_lt HKE.out)).trans HKE.out)
   have n3 := mk0 ((hb.block _ (blk_lt HKR.out)).trans HKR.out)
   have n4 := mk0 (below_then HB.out HB.out.size hb)
   clear HKB HKE HKR HB
   have HKB := n1
   have HKE := n2
   have HKR := n3
   have HB := n4
   clear n1 n2 n3 n4
   have HXD2 := mk0 (HXD.out.below hb)
   have HXQ2 := mk0 (Kd.R_below HXQ.out hb)
   clear hb HXD HXQ
   obtain ⟨yp, ys, yA, yn, yc, yF⟩ := y
   dsimp only
   go_upto_region 7 with (fail)
   have hb5 := below_alloc (Below.refl w3.heap.size w3) (.cells #[.int .i64 yp, .int .i64 ys, .slice yA yn yc] 111)
   have n1 := mk0 ((hb5.block _ (blk_lt HKB.out)).trans HKB.out)
   have n2 := mk0 ((hb5.block _ (blk_lt HKE.out)).trans HKE.out)
   have n3 := mk0 ((hb5.block _ (blk_lt HKR.out)).trans HKR.out)
   have n4 := mk0 (below_then HB.out HB.out.size hb5)
   clear HKB HKE HKR HB
   have HKB := n1
   have HKE := n2
   have HKR := n3
   have HB := n4
   clear n1 n2 n3 n4
   have HXD := mk0 (HXD2.out.below hb5)
   have HXQ := mk0 (Kd.R_below HXQ2.out hb5)
   clear hb5 HXD2 HXQ2
   generalize w3.alloc (.cells #[.int .i64 yp, .int .i64 ys, .slice yA yn yc] 111) = w4 at HKB HKE HKR HB HXD HXQ ⊢
   rcases hf with ⟨rfl, hf⟩ | ⟨rfl, hf⟩
   ·
    have HC1 := mk0 (show rsubC S B (t1, t2) s = 5 by rw [HC0.out, hf]; rfl)
    clear hf
    have y0 := (blk_cell HKR.out 0).trans (show _ = some (Vs none 0 0) from rfl)
    have y1 := (blk_cell HKR.out 1).trans (show _ = some (Vs none 0 0) from rfl)
    have y2 := (blk_cell HKR.out 2).trans (show _ = some (Vs none 0 0) from rfl)
    have y3 := (blk_cell HKR.out 3).trans (show _ = some (Vs none 0 0) from rfl)
    have f0 := blk_frozen HKR.out 0
    have f1 := blk_frozen HKR.out 1
    have f2 := blk_frozen HKR.out 2
    have f3 := blk_frozen HKR.out 3
    have x0 := (blk_cell HKB.out 0).trans (show _ = some (Vs a1 n c1) from rfl)
    have x1 := (blk_cell HKB.out 1).trans (show _ = some (Vs a2 nE c2) from rfl)
    have x2 := (blk_cell HKB.out 2).trans (show _ = some (Vs a3 nU c3) from rfl)
    have x3 := (blk_cell HKB.out 3).trans (show _ = some (Vs a4 nG c4) from rfl)
    go_wp2
    have k0 : ((w4).setCell ⟨gr, 0, none⟩ (Vs a1 n c1)).heap[gr]? = some (.cells #[(Vs a1 n c1), (Vs none 0 0), (Vs none 0 0), (Vs none 0 0)] 41 (0, 0)) := by simpa using blk_set HKR.out 0 (Vs a1 n c1)
    have k1 : (((w4).setCell ⟨gr, 0, none⟩ (Vs a1 n c1)).setCell ⟨gr, 1, none⟩ (Vs a2 nE c2)).heap[gr]? = some (.cells #[(Vs a1 n c1), (Vs a2 nE c2), (Vs none 0 0), (Vs none 0 0)] 41 (0, 0)) := by simpa using blk_set k0 1 (Vs a2 nE c2)
    have k2 : ((((w4).setCell ⟨gr, 0, none⟩ (Vs a1 n c1)).setCell ⟨gr, 1, none⟩ (Vs a2 nE c2)).setCell ⟨gr, 2, none⟩ (Vs a3 nU c3)).heap[gr]? = some (.cells #[(Vs a1 n c1), (Vs a2 nE c2), (Vs a3 nU c3), (Vs none 0 0)] 41 (0, 0)) := by simpa using blk_set k1 2 (Vs a3 nU c3)
    have k3 : (((((w4).setCell ⟨gr, 0, none⟩ (Vs a1 n c1)).setCell ⟨gr, 1, none⟩ (Vs a2 nE c2)).setCell ⟨gr, 2, none⟩ (Vs a3 nU c3)).setCell ⟨gr, 3, none⟩ (Vs a4 nG c4)).heap[gr]? = some (.cells #[(Vs a1 n c1), (Vs a2 nE c2), (Vs a3 nU c3), (Vs a4 nG c4)] 41 (0, 0)) := by simpa using blk_set k2 3 (Vs a4 nG c4)
    have hbf := below_set (j := 3) (v := (Vs a4 nG c4)) (below_set (j := 2) (v := (Vs a3 nU c3)) (below_set (j := 1) (v := (Vs a2 nE c2)) (below_set (j := 0) (v := (Vs a1 n c1)) HB.out HGR.out) HGR.out) HGR.out) HGR.out
    generalize ((((w4).setCell ⟨gr, 0, none⟩ (Vs a1 n c1)).setCell ⟨gr, 1, none⟩ (Vs a2 nE c2)).setCell ⟨gr, 2, none⟩ (Vs a3 nU c3)).setCell ⟨gr, 3, none⟩ (Vs a4 nG c4) = w9 at k3 hbf ⊢
    clear k0 k1 k2
    have z0 := (blk_cell k3 0).trans (show _ = some (Vs a1 n c1) from rfl)
    have z1 := (blk_cell k3 1).trans (show _ = some (Vs a2 nE c2) from rfl)
    have z2 := (blk_cell k3 2).trans (show _ = some (Vs a3 nU c3) from rfl)
    have z3 := (blk_cell k3 3).trans (show _ = some (Vs a4 nG c4) from rfl)
    exact bodyPost_ret (v := .tuple #[.agg #[.slice a1 n c1, .slice a2 nE c2, .slice a3 nU c3, .slice a4 nG c4], .int .i64 5]) (by simp [results, Tryz.results24, go_sem, z0, z1, z2, z3]) rfl (HSAME.out 5 HC1.out (by decide) _ _ rfl hbf)
   ·
    have HC1 := mk0 (show True from trivial)
    obtain ⟨gx, cur, ⟨_, _, hxa⟩, hgx, hkx⟩ := own_at HXQ.out (by rw [List.length_map]; exact HPO.out)
    have hxa2 : xA = some ⟨gx, 0, none⟩ := by injection hxa
    subst hxa2
    have HGX := mk0 (show gx ≠ gb ∧ gx ≠ gr by
     have h1 := HKB.out
     have h2 := HKR.out
     constructor
     ·
      rintro rfl
      rw [hkx] at h1
      cases h1
     ·
      rintro rfl
      rw [hkx] at h2
      cases h2)
    clear HKE
    have HKE := mk0 hkx
    have HKX0 := mk0 hkx
    clear ge hxa hgx hkx
    obtain ⟨ge, hge⟩ : ∃ g, g = gx := ⟨_, rfl⟩
    subst hge
    have HB4 := HB
    have HDONE := mk0 (fun (_ : True) e w' (A9 : Option Addr) (c9 : Nat) he (hbf : Below w.heap.size w w') hc9 hC (hsr2 : SubRd w' ⟨t1, t2, some ⟨ge, 0, none⟩, xn, xc, xs.map toP⟩) => HDONE0.out xs _ xn xc HRD.out hf w4 HB4.out HXD.out e w' A9 c9 he hbf hsr2 hc9 hC)
    have hlu := HLE.out.1
    go_upto_region 9 with (fail)
    have HCE := mk0 (show Kd.C kRS w a3 nU B.U by rw [HLE.out.2]; exact HBD.out.sub)
    have hl := (show nU ≤ 100000 by rw [HLE.out.2]; exact HLE.out.1)
    have HO := mk0 (show Kd.R kRS 111 ((w4).alloc (.cells #[] 111)) w.heap.size (fun k => k ≠ gb ∧ k ≠ ge ∧ k ≠ gr) (.slice (some ⟨(w4).heap.size, 0, none⟩) 0 0) [] from ⟨fun k hk => by
     have hk2 : (w4).heap.size = k := by simpa [Value.ownBlock] using hk
     have l1 := blk_lt HKB.out
     have l2 := blk_lt HKE.out
     have l3 := blk_lt HKR.out
     exact ⟨by omega, by omega, by omega⟩, [], World.ownsRow_lit (base := w.heap.size) (e := 111) (size := (kRS).sz) (w4) #[] 0 HB.out.size (by decide) rfl, Reps.none _ _⟩)
    have hba := below_alloc (Below.refl (w4).heap.size (w4)) (.cells #[] 111)
    have n1 := mk0 ((hba.block _ (blk_lt HKB.out)).trans HKB.out)
    have n2 := mk0 ((hba.block _ (blk_lt HKE.out)).trans HKE.out)
    have n3 := mk0 ((hba.block _ (blk_lt HKR.out)).trans HKR.out)
    have n4 := mk0 (below_then HB.out HB.out.size hba)
    clear HKB HKE HKR HB
    have HKB := n1
    have HKE := n2
    have HKR := n3
    have HB := n4
    clear n1 n2 n3 n4
    clear hba
    have x0 := (blk_cell HKB.out 0).trans (show _ = some (Vs a1 n c1) from rfl)
    have x1 := (blk_cell HKB.out 1).trans (show _ = some (Vs a2 nE c2) from rfl)
    have x2 := (blk_cell HKB.out 2).trans (show _ = some (Vs a3 nU c3) from rfl)
    have x3 := (blk_cell HKB.out 3).trans (show _ = some (Vs a4 nG c4) from rfl)
    go_upto_region 10 with (((with_reducible refine gate_builtin (b := .append) (xs := #[.tmp 44, .tmp 46]) rfl ?_); at_builtin; go_loud (refine Kd.R_append_rows kRS (w0 := w) w.heap.size rfl (.tmp 44) (.tmp 46) 38 111 (.agg #[.int .i64 0, .int .i64 0, .slice none 0 0]) 40 rfl Tryz.underlying38 infoRS rfl (by decide) (by omega) _ [] B.U a3 nU c3 (fun k => k ≠ gb ∧ k ≠ ge ∧ k ≠ gr) (fun _ => False) rfl rfl HO.out ((Kd.C_below HCE.out HB.out)) (fun x cs hx => kRS_flat x cs hx) (fun _ hk => hk.elim) ?aF HB.out HB.out.size ?aL ?_; (case aF => exact (fun k hk => by have l1 := blk_lt HKB.out; have l2 := blk_lt HKE.out; have l3 := blk_lt HKR.out; exact ⟨by omega, by omega, by omega⟩)); (case aL => simp; omega); intro v9 w9 ho hb hg hat; go_frame)))
    clear x0 x1 x2 x3
    have m1 := mk0 ((hg.block _ (blk_lt HKB.out) (fun e => (HO.out.1 _ e.symm).1 rfl)).trans HKB.out)
    have m2 := mk0 ((hg.block _ (blk_lt HKE.out) (fun e => (HO.out.1 _ e.symm).2.1 rfl)).trans HKE.out)
    have m3 := mk0 ((hg.block _ (blk_lt HKR.out) (fun e => (HO.out.1 _ e.symm).2.2 rfl)).trans HKR.out)
    have m4 := mk0 hb
    have m5 := mk0 ho
    clear HKB HKE HKR HB HO ho hb hg hat
    have HKB := m1
    have HKE := m2
    have HKR := m3
    have HB := m4
    have HO := m5
    clear m1 m2 m3 m4 m5
    skip
    rw [List.nil_append] at HO
    have hlE : (B.U).length ≤ 100000 := by rw [← HLE.out.2]; exact hl
    have HLX := mk0 (show (B.U ++ [(⟨t1, t2, some ⟨ge, 0, none⟩, xn, xc, xs.map toP⟩ : RSub)]).length = nU + 1 by rw [List.length_append, HLE.out.2]; rfl)
    go_upto_region 11 with (((with_reducible refine gate_builtin (b := .append) (xs := #[.tmp 48, .tmp 53]) rfl ?_); at_builtin; go_loud (refine Kd.R_append kRS (w0 := w) w.heap.size rfl (.tmp 48) (.tmp 53) 38 111 (.agg #[.int .i64 0, .int .i64 0, .slice none 0 0]) 40 rfl Tryz.underlying38 infoRS rfl (by decide) (by omega) _ B.U (⟨t1, t2, some ⟨ge, 0, none⟩, xn, xc, xs.map toP⟩ : RSub) [.int .i64 t1, .int .i64 t2, .slice (some ⟨ge, 0, none⟩) xn xc] (fun k => k ≠ gb ∧ k ≠ ge ∧ k ≠ gr) (fun _ => False) rfl ?aX ?aP (fun _ hk => hk.elim) ?aF HO.out HB.out HB.out.size ?aL ?_; (case aX => first | rfl | (go_simp; done) | (go_simp; rfl)); (case aP => exact kRS_mkM _ _ _ (⟨t1, t2, some ⟨ge, 0, none⟩, xn, xc, xs.map toP⟩ : RSub)); (case aF => exact (fun k hk => by have l1 := blk_lt HKB.out; have l2 := blk_lt HKE.out; have l3 := blk_lt HKR.out; exact ⟨by omega, by omega, by omega⟩)); (case aL => omega); intro v9 w9 ho hb hg hat; go_frame)); skip; obtain ⟨A9, c9, rfl, hc9, hC9⟩ := Kd.R_reads ho; rw [HLX.out] at ho hc9 hC9 hat ⊢; have HC9 := mk0 (And.intro hc9 hC9); clear hc9 hC9; have m1 := mk0 ((hg.block _ (blk_lt HKB.out) (fun e => (HO.out.1 _ e.symm).1 rfl)).trans HKB.out); have m2 := mk0 ((hg.block _ (blk_lt HKE.out) (fun e => (HO.out.1 _ e.symm).2.1 rfl)).trans HKE.out); have m3 := mk0 ((hg.block _ (blk_lt HKR.out) (fun e => (HO.out.1 _ e.symm).2.2 rfl)).trans HKR.out); have m4 := mk0 hb; have m5 := mk0 ho; clear HKB HKE HKR HB HO ho hb hg hat; have HKB := m1; have HKE := m2; have HKR := m3; have HB := m4; have HO := m5; clear m1 m2 m3 m4 m5; have x1 := (blk_cell HKB.out 2).trans (show _ = some (Vs a3 nU c3) from rfl); have f1 := blk_frozen HKB.out 2)
    clear x1 f1
    have m1 := mk0 (show (w9.setCell ⟨gb, 2, none⟩ (.slice A9 (nU + 1) c9)).heap[gb]? = some (.cells #[.slice a1 n c1, .slice a2 nE c2, .slice A9 (nU + 1) c9, .slice a4 nG c4] 41 (0, 0)) by simpa using blk_set HKB.out 2 (.slice A9 (nU + 1) c9))
    have m2 := mk0 ((Below.heap_setCell w9 ⟨gb, 2, none⟩ (.slice A9 (nU + 1) c9) gr (fun e => HGN.out.2.1 e.symm)).trans HKR.out)
    have m3 := mk0 (below_set (j := 2) (v := .slice A9 (nU + 1) c9) HB.out (Nat.le_of_eq HGN.out.1.symm))
    have m4 := mk0 (Kd.R_far (p := ⟨gb, 2, none⟩) HO.out (fun k hk => hk.1) (.slice A9 (nU + 1) c9))
    have HKE8 := mk0 ((Below.heap_setCell w9 ⟨gb, 2, none⟩ (.slice A9 (nU + 1) c9) ge HGX.out.1).trans HKE.out)
    clear HKB HKE HKR HB HO HC9
    generalize w9.setCell ⟨gb, 2, none⟩ (.slice A9 (nU + 1) c9) = w8 at m1 m2 m3 m4 HKE8 ⊢
    have HKB := m1
    have HKR := m2
    have HB := m3
    have HO8 := m4
    clear m1 m2 m3 m4
    have y0 := (blk_cell HKR.out 0).trans (show _ = some (Vs none 0 0) from rfl)
    have y1 := (blk_cell HKR.out 1).trans (show _ = some (Vs none 0 0) from rfl)
    have y2 := (blk_cell HKR.out 2).trans (show _ = some (Vs none 0 0) from rfl)
    have y3 := (blk_cell HKR.out 3).trans (show _ = some (Vs none 0 0) from rfl)
    have f0 := blk_frozen HKR.out 0
    have f1 := blk_frozen HKR.out 1
    have f2 := blk_frozen HKR.out 2
    have f3 := blk_frozen HKR.out 3
    have x0 := (blk_cell HKB.out 0).trans (show _ = some (Vs a1 n c1) from rfl)
    have x1 := (blk_cell HKB.out 1).trans (show _ = some (Vs a2 nE c2) from rfl)
    have x2 := (blk_cell HKB.out 2).trans (show _ = some (Vs A9 (nU + 1) c9) from rfl)
    have x3 := (blk_cell HKB.out 3).trans (show _ = some (Vs a4 nG c4) from rfl)
    go_wp2
    have k0 : ((w8).setCell ⟨gr, 0, none⟩ (Vs a1 n c1)).heap[gr]? = some (.cells #[(Vs a1 n c1), (Vs none 0 0), (Vs none 0 0), (Vs none 0 0)] 41 (0, 0)) := by simpa using blk_set HKR.out 0 (Vs a1 n c1)
    have k1 : (((w8).setCell ⟨gr, 0, none⟩ (Vs a1 n c1)).setCell ⟨gr, 1, none⟩ (Vs a2 nE c2)).heap[gr]? = some (.cells #[(Vs a1 n c1), (Vs a2 nE c2), (Vs none 0 0), (Vs none 0 0)] 41 (0, 0)) := by simpa using blk_set k0 1 (Vs a2 nE c2)
    have k2 : ((((w8).setCell ⟨gr, 0, none⟩ (Vs a1 n c1)).setCell ⟨gr, 1, none⟩ (Vs a2 nE c2)).setCell ⟨gr, 2, none⟩ (Vs A9 (nU + 1) c9)).heap[gr]? = some (.cells #[(Vs a1 n c1), (Vs a2 nE c2), (Vs A9 (nU + 1) c9), (Vs none 0 0)] 41 (0, 0)) := by simpa using blk_set k1 2 (Vs A9 (nU + 1) c9)
    have k3 : (((((w8).setCell ⟨gr, 0, none⟩ (Vs a1 n c1)).setCell ⟨gr, 1, none⟩ (Vs a2 nE c2)).setCell ⟨gr, 2, none⟩ (Vs A9 (nU + 1) c9)).setCell ⟨gr, 3, none⟩ (Vs a4 nG c4)).heap[gr]? = some (.cells #[(Vs a1 n c1), (Vs a2 nE c2), (Vs A9 (nU + 1) c9), (Vs a4 nG c4)] 41 (0, 0)) := by simpa using blk_set k2 3 (Vs a4 nG c4)
    have hbf := below_set (j := 3) (v := (Vs a4 nG c4)) (below_set (j := 2) (v := (Vs A9 (nU + 1) c9)) (below_set (j := 1) (v := (Vs a2 nE c2)) (below_set (j := 0) (v := (Vs a1 n c1)) HB.out HGR.out) HGR.out) HGR.out) HGR.out
    have r3 := Kd.R_far (p := ⟨gr, 3, none⟩) (Kd.R_far (p := ⟨gr, 2, none⟩) (Kd.R_far (p := ⟨gr, 1, none⟩) (Kd.R_far (p := ⟨gr, 0, none⟩) HO8.out (fun k hk => hk.2.2) (Vs a1 n c1)) (fun k hk => hk.2.2) (Vs a2 nE c2)) (fun k hk => hk.2.2) (Vs A9 (nU + 1) c9)) (fun k hk => hk.2.2) (Vs a4 nG c4)
    have hk7 := ((Below.heap_setCell _ ⟨gr, 3, none⟩ (Vs a4 nG c4) ge HGX.out.2).trans ((Below.heap_setCell _ ⟨gr, 2, none⟩ (Vs A9 (nU + 1) c9) ge HGX.out.2).trans ((Below.heap_setCell _ ⟨gr, 1, none⟩ (Vs a2 nE c2) ge HGX.out.2).trans (Below.heap_setCell w8 ⟨gr, 0, none⟩ (Vs a1 n c1) ge HGX.out.2)))).trans HKE8.out
    generalize (((w8.setCell ⟨gr, 0, none⟩ (Vs a1 n c1)).setCell ⟨gr, 1, none⟩ (Vs a2 nE c2)).setCell ⟨gr, 2, none⟩ (Vs A9 (nU + 1) c9)).setCell ⟨gr, 3, none⟩ (Vs a4 nG c4) = w7 at k3 hbf r3 hk7 ⊢
    have HSR := mk0 (HXD.out.blockKept (hk7.trans HKX0.out.symm))
    clear k0 k1 k2
    have z0 := (blk_cell k3 0).trans (show _ = some (Vs a1 n c1) from rfl)
    have z1 := (blk_cell k3 1).trans (show _ = some (Vs a2 nE c2) from rfl)
    have z2 := (blk_cell k3 2).trans (show _ = some (Vs A9 (nU + 1) c9) from rfl)
    have z3 := (blk_cell k3 3).trans (show _ = some (Vs a4 nG c4) from rfl)
    obtain ⟨A7, c7, hv7, hc7, hC7⟩ := Kd.R_reads r3
    rw [HLX.out] at hv7 hc7 hC7
    have hA7 : A9 = A7 ∧ c9 = c7 := by injection hv7 with h1 h2 h3; exact ⟨h1, h3⟩
    obtain ⟨rfl, rfl⟩ := hA7
    exact bodyPost_ret (v := .tuple #[.agg #[.slice a1 n c1, .slice a2 nE c2, .slice A9 (nU + 1) c9, .slice a4 nG c4], .int .i64 0]) (by simp [results, Tryz.results24, go_sem, z0, z1, z2, z3]) rfl (HDONE.out HC1.out _ _ A9 c9 rfl hbf hc7 hC7 HSR.out)
end Go.Proofs.YtlokmijoaocofaaGreatDoor.Mine
end
