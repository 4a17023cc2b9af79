/- Texts of one claim, one behind the other, made short by a program. -/
import Derived.Test.YtnmpijbcajclgaaGreatDoorMN19
set_option linter.unusedSimpArgs false
set_option linter.unusedVariables false
set_option maxRecDepth 100000
section
namespace Go.Proofs.YtnmpijbcajclgaaGreatDoor.Mine
open Go.Maps Go.RowKit YtnmpijbcajclgaaGreatDoorW.PrintWords YtnmpijbcajclgaaGreatDoorW.PrintLast YtnmpijbcajclgaaGreatDoorW.PrintMore
open PNodeAlone
open Value renaming slice → Vs
theorem idx_hit {α : Type} (p : α → Bool) (l : List α) (k : Nat) (hk : k < l.length) (h : keepL p (l.take (k + 1)) = l.take k) : p l[k] = true ∧ keepL p (l.take k) = l.take k := by
 have e : l.take (k + 1) = l.take k ++ [l[k]] := take_snoc (List.getElem?_eq_getElem hk)
 have hl : (keepL p (l.take k)).length ≤ (l.take k).length := List.length_filter_le _ _
 rw [e] at h
 unfold keepL at h hl ⊢
 rw [List.filter_append] at h
 cases hp : p l[k] with
 | true =>
  rw [List.filter_cons_of_neg (by simp [hp]), List.filter_nil, List.append_nil] at h
  exact ⟨rfl, h⟩
 | false =>
  rw [List.filter_cons_of_pos (by simp [hp]), List.filter_nil] at h
  have := congrArg List.length h
  rw [List.length_append, List.length_singleton] at this
  exfalso
  have h6 : (l.take k).filter (fun x => !p x) ++ [l[k]] = l.take k := h
  have h7 := congrArg (List.filter (fun x => !p x)) h6
  simp only [List.filter_append, List.filter_filter, Bool.and_self] at h7
  rw [List.filter_cons_of_pos (by simp [hp]), List.filter_nil] at h7
  have h8 := congrArg List.length h7
  rw [List.length_append, List.length_singleton] at h8
  omega
theorem cut_one {L : List MSub} {id : Int} {k : Nat} (hk : k < L.length) (h : keepL (subIs id) (L.take (k + 1)) = L.take k) (hd : L.Pairwise (fun a b => a.id ≠ b.id)) : L.take k ++ L.drop (k + 1) = keepL (subIs id) L := by
 obtain ⟨h1, h2⟩ := idx_hit (subIs id) L k hk h
 have e : L = L.take k ++ L[k] :: L.drop (k + 1) := by rw [← List.drop_eq_getElem_cons hk, List.take_append_drop]
 have hid : L[k].id = id := by simpa [subIs] using h1
 have hp : (L[k] :: L.drop (k + 1)).Pairwise (fun a b => a.id ≠ b.id) := by
  rw [← List.drop_eq_getElem_cons hk]
  exact hd.sublist (List.drop_sublist _ _)
 have h3 : keepL (subIs id) (L.drop (k + 1)) = L.drop (k + 1) := by
  unfold keepL
  rw [List.filter_eq_self]
  intro x hx
  have := (List.pairwise_cons.1 hp).1 x hx
  have h4 : subIs id x = false := by
   unfold subIs
   rw [beq_eq_false_iff_ne, ← hid]
   exact fun e => this e.symm
  rw [h4]
  rfl
 unfold keepL at h2 h3 ⊢
 conv => rhs; rw [e]
 rw [List.filter_append, List.filter_cons_of_neg (by simp [h1]), h2, h3]
theorem keep_subs_pl (L : List MSub) (id : Int) : (keepL (subIs id) L).map MSub.pl = (L.map MSub.pl).filter (fun s => !(s.id == id)) := by
 unfold keepL
 rw [List.filter_map]
 rfl
theorem keep_box_pl (L : List MDl) (id : Int) : (keepL (ofSub id) L).map MDl.pl = (L.map MDl.pl).filter (fun s => !(s.sub == id)) := by
 unfold keepL
 rw [List.filter_map]
 rfl
set_option maxHeartbeats 8000000 in
theorem unsub_none (base g : Nat) (h : Hd) (N : NdM) (id : Int) (w : World) (hI : IsNd base w g h N) (hF : NdFit N) (hno : idxFrom (subIs id) N.subs 0 = -1) :
 Calls Tryz.prog 18 #[.pointer (some ⟨g, 0, none⟩), .int .i64 id] w fun e w' => Below w.heap.size w w' ∧ ∃ b n, e = .returned (faultV b) ∧ ErrIs w' 9 n (faultV b) := by
 obtain ⟨A3, c3, hv3, hc3, hC3⟩ := Kd.R_reads hI.rows.sub
 obtain ⟨n, hn⟩ : ∃ n, n = N.subs.length := ⟨_, rfl⟩
 rw [← hn] at hC3
 have y3 := (hI.cell 3).trans (show _ = some (Vs A3 n c3) from by rw [hn, ← hv3]; rfl)
 have HIX := mk0 (fun (W : World) (gi : Nat) (hb : Below w.heap.size w W) (hc : W.cell? ⟨gi, 0, none⟩ = some (.int .i64 id)) => idx_sub id gi A3 n c3 N.subs W (Kd.C_below hC3 hb) (by have := hF.nSub; omega) hc)
 rw [hno] at HIX
 clear hI hF hno hv3 hc3 hC3 hn
 go_enter Tryz.func18, Tryz.ntmps18
 go_upto_region 1 with (fail)
 have hb1 := below_alloc (Below.refl w.heap.size w) (.cells #[.int .i64 id] 3)
 have hk1 := heap_alloc_new w (.cells #[.int .i64 id] 3)
 generalize w.alloc (.cells #[.int .i64 id] 3) = W1 at hb1 hk1 ⊢
 generalize w.heap.size = gi at hk1 ⊢
 have HK := mk0 (And.intro hb1 ((blk_cell hk1 0).trans (show _ = some (Value.int .i64 id) from rfl)))
 have y3' := pw_cell_below hb1 y3
 clear hb1 hk1 y3
 go_wp2_with fail
 refine (HIX.out _ _ HK.out.1 HK.out.2).mono ?_
 rintro e w2 ⟨rfl, hb2⟩
 have HB := mk0 (below_then HK.out.1 HK.out.1.size hb2)
 clear hb2 HK HIX y3'
 go_wp2_with fail
 refine (nfault_calls 9 w2).mono ?_
 rintro e w3 ⟨b, hb, rfl, hFl, hb3⟩
 have HFIN := mk0 (And.intro hFl (below_then HB.out HB.out.size hb3))
 clear hb hFl hb3
 go_wp2
 go_ret
 exact ⟨HFIN.out.2, b, 1, rfl, b, _, _, _, rfl, HFIN.out.1, rfl⟩
def NdM.uns (N : NdM) (id : Int) : NdM := { N with subs := keepL (subIs id) N.subs, inbox := keepL (ofSub id) N.inbox }
set_option maxHeartbeats 8000000 in
theorem unsub_ok (base g k : Nat) (h : Hd) (N : NdM) (id : Int) (w : World) (hI : IsNd base w g h N) (hbase : base ≤ w.heap.size) (hF : NdFit N) (hix : idxFrom (subIs id) N.subs 0 = (k : Int)) (hk : k < N.subs.length) (hcut : N.subs.take k ++ N.subs.drop (k + 1) = keepL (subIs id) N.subs) :
 Calls Tryz.prog 18 #[.pointer (some ⟨g, 0, none⟩), .int .i64 id] w fun e w' => e = .returned .nilIface ∧ ∃ h', IsNd base w' g h' (N.uns id) ∧ Fr base g w h w' h' := by
 obtain ⟨A3, c3, hv3, hc3, hC3⟩ := Kd.R_reads hI.rows.sub
 obtain ⟨n, hn⟩ : ∃ n, n = N.subs.length := ⟨_, rfl⟩
 rw [← hn] at hC3 hk
 obtain ⟨gs, cap, hvf, _, _, _⟩ := Kd.R_form hI.rows.sub (by omega)
 rw [hv3] at hvf
 injection hvf with hvA _ hvc
 subst hvA hvc
 have y3 := (hI.cell 3).trans (show _ = some (Vs (some ⟨gs, 0, none⟩) n c3) from by rw [hn, ← hv3]; rfl)
 have HIX := mk0 (fun (W : World) (gi : Nat) (hb : Below w.heap.size w W) (hc : W.cell? ⟨gi, 0, none⟩ = some (.int .i64 id)) => idx_sub id gi (some ⟨gs, 0, none⟩) n c3 N.subs W (Kd.C_below hC3 hb) (by have := hF.nSub; omega) hc)
 rw [hix] at HIX
 have HF := mk0 hF
 have HV3 := mk0 hv3
 have HS := mk0 hbase
 have HI := mk0 hI
 have HN := mk0 (And.intro hn (And.intro hk hcut))
 have b0 : decide ((k : Int) < 0) = false := decide_eq_false (by omega)
 clear hI hF hix hv3 hc3 hC3 hn hbase hk hcut
 go_enter Tryz.func18, Tryz.ntmps18
 go_upto_region 1 with (fail)
 have hb1 := below_alloc (Below.refl w.heap.size w) (.cells #[.int .i64 id] 3)
 have hk1 := heap_alloc_new w (.cells #[.int .i64 id] 3)
 generalize w.alloc (.cells #[.int .i64 id] 3) = W1 at hb1 hk1 ⊢
 obtain ⟨gi, hgi⟩ : ∃ x, x = w.heap.size := ⟨_, rfl⟩
 rw [← hgi] at hk1 ⊢
 have HGI := mk0 hgi
 have HK := mk0 (And.intro hb1 hk1)
 have y3' := pw_cell_below hb1 y3
 clear hb1 hk1 y3 hgi
 go_wp2_with fail
 refine (HIX.out _ _ HK.out.1 ((blk_cell HK.out.2 0).trans (show _ = some (Value.int .i64 id) from rfl))).mono ?_
 rintro e w2 ⟨rfl, hb2⟩
 have HB := mk0 (below_then HK.out.1 HK.out.1.size hb2)
 have HK2 := mk0 ((hb2.block _ (blk_lt HK.out.2)).trans HK.out.2)
 have y3'' := pw_cell_below hb2 y3'
 have HI2 := mk0 (HI.out.below HB.out)
 have hR2 := HI2.out.rows.sub
 rw [HV3.out, ← HN.out.1] at hR2
 have HD := mk0 (del_sub gs n c3 k base (fun _ => True) N.subs w2 hR2 (by have := HF.out.nSub; have := HN.out.1; omega) HN.out.2.1)
 have hw1 : wrap64 ((k : Int) + 1) = ((k + 1 : Nat) : Int) := by rw [w64 (by omega) (by have := HF.out.nSub; have := HN.out; omega)]; rfl
 clear hb2 HK HIX y3' hR2
 go_wp2_with fail
 rw [hw1]
 refine HD.out.mono ?_
 rintro e w3 ⟨rfl, hR3, hg3⟩
 rw [HN.out.2.2] at hR3
 have hg3' : w2.grownBy w3 h.vsub.ownBlock := by rw [HV3.out]; exact hg3
 have r3 := HI2.out.rows.gsub hg3' hR3
 have k3 := blk_grown HI2.out.blk hg3' (Kd.R_ne HI2.out.rows.sub HI2.out.blk (by decide))
 have f3 := (Fr.of_below (g := g) (h := h) HB.out HS.out).trans (Fr.gsub HI2.out.rows hg3' (Nat.le_trans HS.out HB.out.size))
 have f3 := f3.nsub (v1 := .slice (some ⟨gs, 0, none⟩) (n - 1) c3) (.inl (by rw [HV3.out]; rfl))
 have kk3 := blk_grown HK2.out hg3' (Kd.R_ne HI2.out.rows.sub HK2.out (by decide))
 have y3 := (blk_cell k3 3).trans (show _ = some (Vs (some ⟨gs, 0, none⟩) n c3) from by rw [HN.out.1, ← HV3.out]; rfl)
 have z3 := blk_frozen k3 3
 have i4 := r3.set k3 (by decide) 3 (.slice (some ⟨gs, 0, none⟩) (n - 1) c3)
 have k4 := blk_set k3 3 (.slice (some ⟨gs, 0, none⟩) (n - 1) c3)
 have f4 := f3.trans (Fr.set HI2.out.gb 3 (.slice (some ⟨gs, 0, none⟩) (n - 1) c3))
 have I4 : IsNd base _ g _ { N with subs := keepL (subIs id) N.subs } := IsNd.of k4 rfl HI2.out.gb i4
 have c4 : (w3.setCell ⟨g, 3, none⟩ (.slice (some ⟨gs, 0, none⟩) (n - 1) c3)).heap[gi]? = some (.cells #[.int .i64 id] 3 (0, 0)) := by
  rw [Below.heap_setCell w3 ⟨g, 3, none⟩ _ gi (fun e2 => by have e3 : gi = g := e2; rw [e3, k3] at kk3; injection kk3 with kk3; injection kk3 with _ kk3 _; cases kk3)]
  exact kk3
 have HI4 := mk0 (And.intro I4 (And.intro f4 c4))
 clear r3 k3 f3 kk3 i4 k4 f4 I4 c4 hR3 hg3 hg3' HD HI2 HK2 HB hw1 y3''
 go_upto_region 5 with (fail)
 generalize w3.setCell ⟨g, 3, none⟩ (.slice (some ⟨gs, 0, none⟩) (n - 1) c3) = w4 at HI4 ⊢
 clear y3 z3
 obtain ⟨A7, c7, hv7, _, _⟩ := Kd.R_reads HI4.out.1.rows.box
 have hR7 := HI4.out.1.rows.box
 have y7 := (HI4.out.1.cell 7).trans (show _ = some (Vs A7 N.inbox.length c7) from by rw [← hv7]; rfl)
 have z7 := blk_frozen HI4.out.1.blk 7
 have hne : some gi ≠ (Vs A7 N.inbox.length c7).ownBlock := by
  have := Kd.R_ne hR7 HI4.out.2.2 (by decide)
  rw [hv7] at this
  exact this
 have HV7 := mk0 hv7
 have HDD := mk0 (del_dl id gi base (fun _ => True) _ N.inbox w4 (by rw [hv7] at hR7; exact hR7) (by have := HF.out.nBox; omega) ((blk_cell HI4.out.2.2 0).trans (show _ = some (Value.int .i64 id) from rfl)) hne)
 obtain ⟨n7, hn7⟩ : ∃ n7, n7 = N.inbox.length := ⟨_, rfl⟩
 rw [← hn7] at HDD y7 HV7
 clear hv7 hR7 hne hn7
 go_wp2_with fail
 refine HDD.out.mono ?_
 rintro e w5 ⟨v7, rfl, hR5, hg5, ho5⟩
 have hg5' : w4.grownBy w5 h.vbox.ownBlock := by rw [HV7.out]; exact hg5
 have r5 := RowsOf.gbox HI4.out.1.rows hg5' hR5
 have k5 := blk_grown HI4.out.1.blk hg5' (Kd.R_ne HI4.out.1.rows.box HI4.out.1.blk (by decide))
 have f5 := HI4.out.2.1.trans (Fr.gbox HI4.out.1.rows hg5' (Nat.le_trans HS.out HI4.out.2.1.below.size))
 have f5 := f5.nbox (v1 := v7) (.inl (by rw [ho5]; show _ = h.vbox.ownBlock; rw [HV7.out]))
 have y5 := (blk_cell k5 7).trans (show _ = some (Vs A7 n7 c7) from by rw [← HV7.out]; rfl)
 have z5 := blk_frozen k5 7
 have i6 := r5.set k5 (by decide) 7 v7
 have k6 := blk_set k5 7 v7
 have f6 := f5.trans (Fr.set HI4.out.1.gb 7 v7)
 have I6 : IsNd base _ g _ (N.uns id) := IsNd.of k6 rfl HI4.out.1.gb i6
 have HFIN := mk0 (And.intro I6 f6)
 obtain ⟨A9, c9, rfl, _, _⟩ := Kd.R_reads hR5
 clear r5 k5 f5 i6 k6 f6 I6 hR5 hg5 hg5' ho5 HI4 HDD y7 z7
 go_wp2
 go_ret
 exact ⟨rfl, _, HFIN.out⟩
theorem ids_pl {N : NdM} (h : N.pl.subs.Pairwise (fun a b => a.id ≠ b.id)) : N.subs.Pairwise (fun a b => a.id ≠ b.id) := by
 have h : (N.subs.map MSub.pl).Pairwise (fun a b => a.id ≠ b.id) := h
 rw [List.pairwise_map] at h
 exact h
theorem idx_none (p : MSub → Bool) : ∀ (l : List MSub) (i : Nat), (∀ x ∈ l, p x = false) → idxFrom p l i = -1 := by
 intro l
 induction l with
 | nil => intro i _; rfl
 | cons x r ih =>
  intro i h
  simp only [idxFrom]
  rw [h x List.mem_cons_self, if_neg (by simp)]
  exact ih (i + 1) (fun y hy => h y (List.mem_cons_of_mem x hy))
section
variable {base g : Nat} {w0 w : World} {S : List SA} {lev : Int} {P : Nd}
theorem al_uns_none (al : Al base g w0 w S lev P) (id : Int) (hno : ∀ s ∈ P.subs, s.id ≠ id) :
 Calls Tryz.prog 18 #[ptr g, .int .i64 id] w fun e w' => Below w.heap.size w w' ∧ Al base g w0 w' S lev P ∧ ∃ b n, e = .returned (faultV b) ∧ ErrIs w' 9 n (faultV b) := by
 obtain ⟨h, N, h1, h2, rfl, rfl, hF, hG⟩ := al.nd
 subst h2
 refine (unsub_none base g h N id w h1 hF (idx_none _ _ _ (fun x hx => ?_))).mono ?_
 ·
  have := hno x.pl (List.mem_map.2 ⟨x, hx, rfl⟩)
  unfold subIs
  rw [beq_eq_false_iff_ne]
  exact this
 ·
  rintro e w' ⟨hb, he⟩
  exact ⟨hb, al.keep hb, he⟩
theorem al_uns_ok_k (al : Al base g w0 w S lev P) (id : Int) (hyes : ∃ s ∈ P.subs, s.id = id) (hd : P.subs.Pairwise (fun a b => a.id ≠ b.id)) :
 Calls Tryz.prog 18 #[ptr g, .int .i64 id] w fun e w' => e = .returned .nilIface ∧ Al base g w0 w' S lev (P.unsub id) ∧ KeptN w w' := by
 obtain ⟨h, N, h1, h2, rfl, rfl, hF, hG⟩ := al.nd
 subst h2
 rcases idx_split (subIs id) N.subs 0 with ⟨_, hk⟩ | ⟨k, hi, hk, hs⟩
 ·
  exfalso
  obtain ⟨s, hs, hid⟩ := hyes
  obtain ⟨x, hx, rfl⟩ := List.mem_map.1 hs
  have hx2 : x ∈ keepL (subIs id) N.subs := by rw [hk]; exact hx
  unfold keepL at hx2
  have := (List.mem_filter.1 hx2).2
  have hid : x.id = id := hid
  simp [subIs, hid] at this
 ·
  refine (unsub_ok base g k h N id w h1 al.size hF (by rw [hi, Nat.zero_add]) hk (cut_one hk hs (ids_pl hd))).mono ?_
  rintro e w' ⟨he, h', hI, hf⟩
  refine ⟨he, al.step hf hI ?_ rfl rfl ⟨hF.chk, hF.lev, hF.seq, hF.last, ?_, ?_, ?_, hF.nOpn, hF.evs, ?_, hF.nSent⟩ ⟨hG.seqs, hG.high, hG.seenO, hG.sentO, hG.addr, hG.lost⟩, hf.keptN h1⟩
  ·
   unfold NdM.uns NdM.pl Nd.unsub
   simp only [keep_subs_pl, keep_box_pl]
  ·
   exact Nat.le_trans (List.length_filter_le _ _) hF.nSub
  ·
   exact fun s hs => hF.flt s (List.mem_filter.1 hs).1
  ·
   exact fun s hs => hF.grp s (List.mem_filter.1 hs).1
  ·
   exact Nat.le_trans (List.length_filter_le _ _) hF.nBox
theorem al_uns_ok (al : Al base g w0 w S lev P) (id : Int) (hyes : ∃ s ∈ P.subs, s.id = id) (hd : P.subs.Pairwise (fun a b => a.id ≠ b.id)) :
 Calls Tryz.prog 18 #[ptr g, .int .i64 id] w fun e w' => e = .returned .nilIface ∧ Al base g w0 w' S lev (P.unsub id) := by
 exact (al_uns_ok_k al id hyes hd).mono (fun e w' h => ⟨h.1, h.2.1⟩)
end
def ndG3 (n : Nat) : Nd := (ndG n).tick S1p
def ndG4 (n at_ : Nat) : Nd := (ndG3 n).unsub (at_ : Int)
def ndG5 (n at_ : Nat) : Nd := (ndG4 n at_).poll 100
def ndG6 (n at_ : Nat) : Nd := (ndG5 n at_).sub F09
def ndG7 (n at_ : Nat) : Nd := (ndG6 n at_).pub [⟨3, ⟨#[]⟩⟩] ⟨#[]⟩
def ndG8 (n at_ : Nat) : Nd := (ndG7 n at_).tick S1p
theorem subsF_ids (n : Nat) : (subsF n).Pairwise (fun a b => a.id ≠ b.id) := by
 unfold subsF
 rw [List.pairwise_map]
 exact List.pairwise_lt_range.imp (fun {a b} h => by show ((a : Nat) : Int) + 1 ≠ ((b : Nat) : Int) + 1; omega)
theorem subsF_has (n at_ : Nat) (h1 : 1 ≤ at_) (h2 : at_ ≤ n) : ∃ s ∈ subsF n, s.id = (at_ : Int) := by
 refine ⟨⟨((at_ - 1 : Nat) : Int) + 1, F09⟩, ?_, by show ((at_ - 1 : Nat) : Int) + 1 = at_; omega⟩
 unfold subsF
 exact List.mem_map.2 ⟨at_ - 1, List.mem_range.2 (by omega), rfl⟩
structure GoesF (n at_ : Nat) : Prop where
 w3 : (ndG3 n).inbox.length = n
 has : ∃ s ∈ (ndG3 n).subs, s.id = (at_ : Int)
 ids : (ndG3 n).subs.Pairwise (fun a b => a.id ≠ b.id)
 w4 : ((ndG4 n at_).inbox.length : Int) = (n : Int) - 1
 no4 : ∀ s ∈ (ndG4 n at_).subs, s.id ≠ (at_ : Int)
 no5 : ∀ d ∈ (ndG4 n at_).inbox.take ((ndG4 n at_).polled 100), d.sub ≠ (at_ : Int)
 few : (ndG4 n at_).polled 100 ≤ 100
 room : (ndG5 n at_).subs.length < 16
 last : (ndG5 n at_).last = (n : Int)
 open6 : (ndG6 n at_).opn.length < 8 ∧ (ndG6 n at_).seq < 1073741824
 lost : (ndG n).lost ≤ 900000 ∧ (ndG7 n at_).lost ≤ 900000
 w8 : (ndG8 n at_).inbox.length = n
theorem goesF (n at_ : Nat) (hn : n ≤ 8) (h1 : 1 ≤ at_) (h2 : at_ ≤ n) : GoesF n at_ := by
 have e3 : (ndG3 n).inbox = (subsF n).map (dlG 1) := ndG_tick n hn
 obtain ⟨_, t2, t3, t4⟩ := tickOne (N := ndG n) (q := 1) rfl rfl (subsF_F n) (by show 0 + (subsF n).length ≤ 64; rw [subsF_len]; omega)
 have s3 : (ndG3 n).subs = subsF n := t2
 have l3 : (ndG3 n).last = n := t3
 have q3 : (ndG3 n).seq = 1 := t4
 have o3 : (ndG3 n).opn = [] := rfl
 have hl := filt_ne n at_ h1 h2
 have hbf := box_filt n at_
 have i4 : (ndG4 n at_).inbox = ((subsF n).map (dlG 1)).filter (fun d => !(d.sub == (at_ : Int))) := by
  show (ndG3 n).inbox.filter _ = _
  rw [e3]
 have s4 : (ndG4 n at_).subs = (subsF n).filter (fun s => !(s.id == (at_ : Int))) := by
  show (ndG3 n).subs.filter _ = _
  rw [s3]
 have k4 : (ndG4 n at_).inbox.length = n - 1 := by rw [i4, hbf, hl]
 have p4 : (ndG4 n at_).polled 100 = n - 1 := by show min (100 : Int).toNat _ = _; rw [k4]; show min 100 _ = _; omega
 have i5 : (ndG5 n at_).inbox = [] := by
  show (ndG4 n at_).inbox.drop _ = []
  rw [p4, ← k4, List.drop_length]
 have ln : (ndG n).lost = 0 := rfl
 have lo : ∀ (N : Nd), N.inbox.length + N.subs.length ≤ 64 → N.addr = 2 → N.opn = [evG 1] → (∀ s ∈ N.subs, s.F = F09) → (N.tick S1p).lost = N.lost := fun N hN ha ho hF => by
  have h := arrS_list (S := S1p) (pub := N.addr) (e := evG 1) N.subs (fun s hs => by rw [hF s hs]; exact m3) N.inbox N.lost hN
  have e1 : N.tick S1p = { N.arrive S1p (evG 1) with opn := [] } := by unfold Nd.tick; rw [ho]; rfl
  rw [e1]
  show (arrS S1p N.addr (evG 1) N.subs (N.inbox, N.lost)).2 = _
  rw [h]
 have l7 : (ndG7 n at_).lost = 0 := by
  show (ndG3 n).lost = 0
  exact (lo (ndG n) (by show 0 + (subsF n).length ≤ 64; rw [subsF_len]; omega) rfl rfl (subsF_F n)).trans ln
 have s6 : (ndG6 n at_).subs = (subsF n).filter (fun s => !(s.id == (at_ : Int))) ++ [⟨(n : Int) + 1, F09⟩] := by
  show (ndG4 n at_).subs ++ [⟨(ndG3 n).last + 1, F09⟩] = _
  rw [s4, l3]
 have t8 := (tickOne (N := ndG7 n at_) (q := 2) (show (ndG3 n).addr = 2 from by show ((ndG n).come S1p (ndG n).opn).addr = 2; rw [(come_kept S1p (ndG n).opn (ndG n)).2.2.2.1]; rfl) (by show (ndG3 n).opn ++ [⟨(ndG3 n).seq + 1, _, _⟩] = _; rw [o3, q3]; rfl)
  (by
   show ∀ s ∈ (ndG6 n at_).subs, _; rw [s6]; intro s hs; rcases List.mem_append.1 hs with hs | hs
   ·
    exact subsF_F n s (List.mem_filter.1 hs).1
   ·
    rw [List.mem_singleton.1 hs])
  (by show (ndG5 n at_).inbox.length + (ndG6 n at_).subs.length ≤ 64; rw [i5, s6, List.length_append, hl]; simp; omega)).1
 refine ⟨?_, ?_, ?_, ?_, ?_, ?_, ?_, ?_, ?_, ⟨?_, ?_⟩, ⟨?_, ?_⟩, ?_⟩
 ·
  rw [e3, List.length_map, subsF_len]
 ·
  rw [s3]; exact subsF_has n at_ h1 h2
 ·
  rw [s3]; exact subsF_ids n
 ·
  rw [k4]; omega
 ·
  intro s hs e
  rw [s4] at hs
  have := (List.mem_filter.1 hs).2
  rw [e] at this
  simp at this
 ·
  intro d hd e
  have hd := List.mem_of_mem_take hd
  rw [i4] at hd
  have := (List.mem_filter.1 hd).2
  rw [e] at this
  simp at this
 ·
  rw [p4]; omega
 ·
  show (ndG4 n at_).subs.length < 16
  rw [s4, hl]
  omega
 ·
  exact l3
 ·
  show (ndG3 n).opn.length < 8
  rw [o3]
  decide
 ·
  show (ndG3 n).seq < 1073741824
  rw [q3]
  decide
 ·
  rw [ln]; decide
 ·
  rw [l7]; decide
 ·
  show ((ndG7 n at_).tick S1p).inbox.length = n
  rw [t8]
  show ((ndG5 n at_).inbox ++ (ndG6 n at_).subs.map (dlG 2)).length = n
  rw [i5, s6, List.nil_append, List.length_map, List.length_append, hl]
  simp
  omega
set_option maxHeartbeats 8000000 in
theorem goes_calls (n a : Int) (w : World) (hT : TabI w) (hE : ErrTy w) : Calls Tryz.prog 5 #[.int .i64 n, .int .i64 a] w fun e w' => e = .returned (.bool true) ∧ Below w.heap.size w w' := by
 obtain ⟨xs, hrd, hxs⟩ := rd09
 have HT := mk0 hT
 have HE := mk0 hE
 have HR := mk0 (And.intro hrd hxs)
 clear hT hE hrd hxs
 by_cases h0 : n < 1
 ·
  have b0 : decide (n < 1) = true := decide_eq_true h0
  go_enter Tryz.func5, Tryz.ntmps5
  go_wp2_with fail
  refine (awake_calls w HT.out).mono ?_
  rintro e w2 ⟨rfl, hb⟩
  go_wp2
  go_ret
  exact ⟨rfl, hb⟩
 by_cases h8 : 8 < n
 ·
  have b0 : decide (n < 1) = false := decide_eq_false h0
  have b1 : decide (8 < n) = true := decide_eq_true h8
  go_enter Tryz.func5, Tryz.ntmps5
  go_wp2_with fail
  refine (awake_calls w HT.out).mono ?_
  rintro e w2 ⟨rfl, hb⟩
  go_wp2
  go_ret
  exact ⟨rfl, hb⟩
 by_cases g0 : a < 1
 ·
  have b0 : decide (n < 1) = false := decide_eq_false h0
  have b1 : decide (8 < n) = false := decide_eq_false h8
  have b2 : decide (a < 1) = true := decide_eq_true g0
  go_enter Tryz.func5, Tryz.ntmps5
  go_wp2_with fail
  refine (awake_calls w HT.out).mono ?_
  rintro e w2 ⟨rfl, hb⟩
  go_wp2
  go_ret
  exact ⟨rfl, hb⟩
 by_cases g8 : n < a
 ·
  have b0 : decide (n < 1) = false := decide_eq_false h0
  have b1 : decide (8 < n) = false := decide_eq_false h8
  have b2 : decide (a < 1) = false := decide_eq_false g0
  have b3 : decide (n < a) = true := decide_eq_true g8
  go_enter Tryz.func5, Tryz.ntmps5
  go_wp2_with fail
  refine (awake_calls w HT.out).mono ?_
  rintro e w2 ⟨rfl, hb⟩
  go_wp2
  go_ret
  exact ⟨rfl, hb⟩
 obtain ⟨m, rfl⟩ := Int.eq_ofNat_of_zero_le (show 0 ≤ n by omega)
 obtain ⟨c, rfl⟩ := Int.eq_ofNat_of_zero_le (show 0 ≤ a by omega)
 have b0 : decide ((m : Int) < 1) = false := decide_eq_false h0
 have b1 : decide (8 < (m : Int)) = false := decide_eq_false h8
 have b2 : decide ((c : Int) < 1) = false := decide_eq_false g0
 have b3 : decide ((m : Int) < (c : Int)) = false := decide_eq_false g8
 have d0 : decide (m < 1) = false := decide_eq_false (by omega)
 have d1 : decide (8 < m) = false := decide_eq_false (by omega)
 have d2 : decide (c < 1) = false := decide_eq_false (by omega)
 have d3 : decide (m < c) = false := decide_eq_false (by omega)
 have HM := mk0 (show 1 ≤ m ∧ m ≤ 8 by omega)
 have HF := mk0 (goesF m c (by omega) (by omega) (by omega))
 have w1m : wrap64 ((m : Int) - 1) = (m : Int) - 1 := w64 (by omega) (by omega)
 have w2m : wrap64 ((m : Int) + 1) = (m : Int) + 1 := w64 (by omega) (by omega)
 clear h0 h8 g0 g8
 go_enter Tryz.func5, Tryz.ntmps5
 go_wp2_with fail
 have hb1 := below_alloc (Below.refl w.heap.size w) (.cells #[.string ⟨#[97]⟩, .int .i64 1, .int .i64 0, .int .i64 9] tA)
 have hr1 := lit_attr w ⟨#[97]⟩ 1 0 9
 generalize w.alloc (.cells #[.string ⟨#[97]⟩, .int .i64 1, .int .i64 0, .int .i64 9] tA) = w1 at hb1 hr1 ⊢
 refine (al_new (some ⟨w.heap.size, 0, none⟩) 1 1 S1p 2 2 w.heap.size (fun _ => True) w w1 ⟨by decide, by decide⟩ ⟨by decide, by decide⟩ hr1 hb1.size ck1 (TabI.below HT.out hb1) hb1).mono ?_
 rintro e w2 ⟨g, rfl, al⟩
 generalize w1.heap.size = base at al
 have HA := mk0 (show Al base g w w2 S1p 2 (ndG0 0) from al)
 unfold ptr
 clear al hb1 hr1
 go_wp2_with fail
 go_loopg [7, 8, 9] (m + 1) (fun kk v7 v8 v9 W => ∃ i : Nat, Aside0 (i ≤ m ∧ kk + i = m + 1) ∧ v7 = .int .i64 ((i + 1 : Nat) : Int) ∧ Aside0 (Al base g w W S1p 2 (ndG0 i)))
 case atStart => exact ⟨0, ⟨by omega, by omega⟩, rfl, HA⟩
 case round =>
  clear HA
  obtain ⟨i, HMI, rfl, HA⟩ := hrel
  by_cases hi : i < m
  ·
   have c1 : decide (((i + 1 : Nat) : Int) ≤ (m : Int)) = true := decide_eq_true (by omega)
   have c2 : decide (i + 1 ≤ m) = true := decide_eq_true (by omega)
   have c3 : i + 1 ≤ m := by omega
   have hsb := al_sub_ok HA.out T09 xs (by decide) HR.out.1 (by show (subsF i).length < 16; rw [subsF_len]; have := HM.out; omega) (by show (i : Int) < 1000000; have := HM.out; omega)
   rw [HR.out.2, ndG0_sub] at hsb
   unfold ptr at hsb
   have hsb : Calls Tryz.prog 11 #[.pointer (some ⟨g, 0, none⟩), .string ⟨#[97, 32, 105, 110, 32, 48, 46, 46, 57]⟩] wr fun e w' => e = .returned (.tuple #[.int .i64 ((i + 1 : Nat) : Int), .nilIface]) ∧ Al base g w w' S1p 2 (ndG0 (i + 1)) := hsb
   have HSB := mk0 hsb
   clear hsb
   go_wp2_with fail
   refine HSB.out.mono ?_
   rintro e w3 ⟨rfl, al⟩
   have HA3 := mk0 al
   clear al HSB HA
   go_wp2_with fail
   go_roundg (gk - 1)
   case measure => have := HMI.out; omega
   case rel => exact ⟨i + 1, ⟨by omega, by have := HMI.out; omega⟩, by first | rfl | (rw [w64 (by omega) (by have := HMI.out; have := HM.out; omega)]; rfl), HA3⟩
  ·
   have him : i = m := by have := HMI.out; omega
   subst him
   have c1 : decide (((i + 1 : Nat) : Int) ≤ (i : Int)) = false := decide_eq_false (by omega)
   have c2 : decide (i + 1 ≤ i) = false := decide_eq_false (by omega)
   go_wp2_with fail
   generalize wr = wq at HA ⊢
   have hb4 := below_alloc (Below.refl wq.heap.size wq) (.cells #[.int .i64 3, .string ⟨#[]⟩] tV)
   have hr4 := lit_val wq 3 ⟨#[]⟩
   generalize wq.alloc (.cells #[.int .i64 3, .string ⟨#[]⟩] tV) = w4 at hb4 hr4 ⊢
   have HA4 := mk0 (Al.keep HA.out hb4)
   have HB4 := mk0 hb4
   generalize wq.heap.size = gv at hr4 ⊢
   have hpb := al_pub_ok HA4.out 1 1 _ (fun _ => True) (some ⟨gv, 0, none⟩) [⟨3, ⟨#[]⟩⟩] ⟨#[]⟩ hr4 ev3 (by show (0 : Nat) < 8; omega) (by show (0 : Int) < 1073741824; omega)
   rw [ndG0_pub] at hpb
   refine (show Calls Tryz.prog 12 #[.pointer (some ⟨g, 0, none⟩), .agg #[.slice (some ⟨gv, 0, none⟩) 1 1, .string ⟨#[]⟩]] w4 _ from hpb).mono ?_
   rintro e w5 ⟨rfl, al⟩
   have HA5 := mk0 al
   clear al hpb hb4 hr4 HA4 HB4 HA
   have htk : Calls Tryz.prog 13 #[.pointer (some ⟨g, 0, none⟩), .int .i64 1, .iface tOwn (.int .i64 2)] w5 fun e w' => e = .returned (.tuple #[]) ∧ Al base g w w' S1p 2 (ndG3 i) := al_tick HA5.out 1 2 HF.out.lost.1
   have HTC := mk0 htk
   clear htk
   go_wp2_with fail
   refine HTC.out.mono ?_
   rintro e w6 ⟨rfl, al⟩
   have HA6 := mk0 al
   clear al HTC HA5
   have hwt := al_waits HA6.out
   rw [HF.out.w3] at hwt
   unfold ptr at hwt
   have HWT := mk0 hwt
   clear hwt
   go_wp2_with fail
   refine HWT.out.mono ?_
   rintro e w7 ⟨rfl, rfl⟩
   clear HWT
   have hun := al_uns_ok HA6.out (c : Int) HF.out.has HF.out.ids
   unfold ptr at hun
   have HUN := mk0 (show Calls Tryz.prog 18 #[.pointer (some ⟨g, 0, none⟩), .int .i64 (c : Int)] w7 fun e w' => e = .returned .nilIface ∧ Al base g w w' S1p 2 (ndG4 i c) from hun)
   clear hun
   go_wp2_with fail
   refine HUN.out.mono ?_
   rintro e w8 ⟨rfl, al⟩
   have HA8 := mk0 al
   clear al HUN HA6
   have hwt := al_waits HA8.out
   rw [HF.out.w4] at hwt
   unfold ptr at hwt
   have HWT := mk0 hwt
   clear hwt
   go_wp2_with fail
   refine HWT.out.mono ?_
   rintro e w9 ⟨rfl, rfl⟩
   clear HWT
   have hun := al_uns_none HA8.out (c : Int) HF.out.no4
   unfold ptr at hun
   have HUN := mk0 hun
   clear hun
   go_wp2_with fail
   refine HUN.out.mono ?_
   rintro e w10 ⟨_, al, b, ne, rfl, her⟩
   have HA10 := mk0 al
   have HER := mk0 (And.intro her (ErrTy.below HE.out al.below))
   unfold faultV at HER ⊢
   clear al HUN HA8 her
   go_wp2_with fail
   refine (of_err 9 ne _ w10 HER.out.1 HER.out.2).mono ?_
   rintro e w11 ⟨rfl, hb11⟩
   have HA11 := mk0 (HA10.out.keep hb11)
   clear hb11 HA10 HER
   have hpo := al_poll HA11.out 100
   unfold ptr at hpo
   have HPO := mk0 hpo
   clear hpo
   go_wp2_with fail
   refine HPO.out.mono ?_
   rintro e w12 ⟨A, cc, L, rfl, hR, hL, al⟩
   have HA12 := mk0 (show Al base g w w12 S1p 2 (ndG5 i c) from al)
   have HL := mk0 (And.intro (Kd.R_reads' hR).2.2 (show ∀ x ∈ L, x.sub ≠ (c : Int) from fun x hx => HF.out.no5 x.pl (by rw [← hL]; exact List.mem_map.2 ⟨x, hx, rfl⟩)))
   have hnp := (Kd.R_reads' hR).1
   have hn100 := HF.out.few
   generalize (ndG4 i c).polled 100 = np at hnp hn100 ⊢
   have HNP := mk0 (And.intro hnp hn100)
   clear al hR hL HPO HA11 hnp hn100
   have HB12 := mk0 (Below.refl w12.heap.size w12)
   go_wp2_with fail
   go_loopg [11, 94] (np + 1) (fun kk v11 v94 W => ∃ j : Nat, Aside0 (j ≤ np ∧ kk + j = np + 1) ∧ v94 = .int .i64 (j : Int) ∧ Aside0 (Below w12.heap.size w12 W))
   case atStart => exact ⟨0, ⟨by omega, by omega⟩, rfl, HB12⟩
   case round =>
    clear HB12
    obtain ⟨j, HMJ, rfl, HB⟩ := hrel
    by_cases hj : j < np
    ·
     have e1 : decide ((j : Int) < (np : Int)) = true := decide_eq_true (by omega)
     have e2 : decide (j < np) = true := decide_eq_true (by omega)
     have p1 : (0 : Int) ≤ (j : Int) := by omega
     have p2 : (j : Int) < (np : Int) := by omega
     have hC := Kd.C_below HL.out.1 HB.out
     rw [← HNP.out.1] at hC
     obtain ⟨ad, x, B, b, hA, hx, c0, c1', c2', c3', c4', _⟩ := at_Dl hC j hj
     cases hA
     have hxs : (x.sub == (c : Int)) = false := by rw [beq_eq_false_iff_ne]; exact HL.out.2 x (List.mem_of_getElem? hx)
     clear hx hC
     go_upto_region 19 with (fail)
     have hb7 := below_alloc (Below.refl wr.heap.size wr) (.cells #[.int .i64 x.sub, .int .i64 x.pub, .int .i64 x.seq, .slice B x.V.length b, .string x.pay] tDl)
     have hk7 := heap_alloc_new wr (.cells #[.int .i64 x.sub, .int .i64 x.pub, .int .i64 x.seq, .slice B x.V.length b, .string x.pay] tDl)
     generalize wr.alloc (.cells #[.int .i64 x.sub, .int .i64 x.pub, .int .i64 x.seq, .slice B x.V.length b, .string x.pay] tDl) = W7 at hb7 hk7 ⊢
     have n0_ := mk0 (below_then HB.out HB.out.size hb7)
     have k0 := (blk_cell hk7 0).trans (show _ = some (Value.int .i64 x.sub) from rfl)
     clear HB hb7 hk7 c0 c1' c2' c3' c4'
     have HB := n0_
     clear n0_
     generalize wr.heap.size = gb at k0 ⊢
     go_wp2_with fail
     go_roundg (gk - 1)
     case measure => have := HMJ.out; omega
     case rel => exact ⟨j + 1, ⟨by omega, by have := HMJ.out; omega⟩, by first | rfl | (rw [w64 (by omega) (by have := HMJ.out; have := HNP.out; omega)]; rfl), HB⟩
    ·
     have e1 : decide ((j : Int) < (np : Int)) = false := decide_eq_false (by omega)
     have e2 : decide (j < np) = false := decide_eq_false (by omega)
     have HA13 := mk0 (HA12.out.keep HB.out)
     clear HA12 HB HL
     have hsb := al_sub_ok HA13.out T09 xs (by decide) HR.out.1 HF.out.room (by rw [HF.out.last]; have := HM.out; omega)
     rw [HR.out.2, HF.out.last] at hsb
     unfold ptr at hsb
     have HSB := mk0 (show Calls Tryz.prog 11 #[.pointer (some ⟨g, 0, none⟩), .string ⟨#[97, 32, 105, 110, 32, 48, 46, 46, 57]⟩] wr fun e w' => e = .returned (.tuple #[.int .i64 ((i : Int) + 1), .nilIface]) ∧ Al base g w w' S1p 2 (ndG6 i c) from hsb)
     clear hsb
     go_wp2_with fail
     refine HSB.out.mono ?_
     rintro e w14 ⟨rfl, al⟩
     have HA14 := mk0 al
     clear al HSB HA13
     go_wp2_with fail
     have hb4 := below_alloc (Below.refl w14.heap.size w14) (.cells #[.int .i64 3, .string ⟨#[]⟩] tV)
     have hr4 := lit_val w14 3 ⟨#[]⟩
     generalize w14.alloc (.cells #[.int .i64 3, .string ⟨#[]⟩] tV) = w4 at hb4 hr4 ⊢
     have HA4 := mk0 (Al.keep HA14.out hb4)
     have HB4 := mk0 hb4
     generalize w14.heap.size = gv at hr4 ⊢
     have hpb := al_pub_ok HA4.out 1 1 _ (fun _ => True) (some ⟨gv, 0, none⟩) [⟨3, ⟨#[]⟩⟩] ⟨#[]⟩ hr4 ev3 HF.out.open6.1 HF.out.open6.2
     refine (show Calls Tryz.prog 12 #[.pointer (some ⟨g, 0, none⟩), .agg #[.slice (some ⟨gv, 0, none⟩) 1 1, .string ⟨#[]⟩]] w4 _ from hpb).mono ?_
     rintro e w15 ⟨rfl, al⟩
     have HA15 := mk0 al
     clear al hpb hb4 hr4 HA4 HB4 HA14
     have htk : Calls Tryz.prog 13 #[.pointer (some ⟨g, 0, none⟩), .int .i64 2, .iface tOwn (.int .i64 2)] w15 fun e w' => e = .returned (.tuple #[]) ∧ Al base g w w' S1p 2 (ndG8 i c) := al_tick HA15.out 2 2 HF.out.lost.2
     have HTC := mk0 htk
     clear htk
     go_wp2_with fail
     refine HTC.out.mono ?_
     rintro e w16 ⟨rfl, al⟩
     have HA16 := mk0 al
     clear al HTC HA15
     go_wp2_with fail
     refine (awake_calls w16 (TabI.below HT.out HA16.out.below)).mono ?_
     rintro e w17 ⟨rfl, hb17⟩
     have HA17 := mk0 (HA16.out.keep hb17)
     clear hb17 HA16
     have hwt := al_waits HA17.out
     rw [HF.out.w8] at hwt
     unfold ptr at hwt
     have HWT := mk0 hwt
     clear hwt
     go_wp2_with fail
     refine HWT.out.mono ?_
     rintro e w18 ⟨rfl, rfl⟩
     have HFIN := mk0 HA17.out.below
     clear HWT HA17
     go_wp2
     go_ret
     exact ⟨rfl, HFIN.out⟩
attribute [local go_sem] max_two
structure PollSt (n : Nat) (P : Nd) (got : Nat) (last : Int) : Prop where
 box : P.inbox = (boxP n).drop got
 le : got ≤ (boxP n).length
 low : ∀ d ∈ (boxP n).drop got, last ≤ d.seq
theorem wantP_step (i : Nat) : wantP (i + 1) = wantP i + (if 2 ≤ i ∧ i ≤ 5 then 2 else 1) := by
 unfold wantP
 rw [List.range_succ, List.map_append, List.sum_append]
 simp
theorem wantP_le (i : Nat) : wantP i ≤ 2 * i := by
 induction i with
 | zero => exact Nat.zero_le _
 | succ i ih => rw [wantP_step]; split <;> omega
theorem wrap1 {k : Nat} (h : k ≤ 1000) : wrap64 ((k : Int) + 1) = ((k + 1 : Nat) : Int) := by rw [w64 (by omega) (by omega)]; rfl
theorem wrap2 {k : Nat} (h : k ≤ 900) : wrap64 (wrap64 ((k : Int) + 1) + 1) = ((k + 2 : Nat) : Int) := by rw [wrap1 (show k ≤ 1000 by omega), wrap1 (show k + 1 ≤ 1000 by omega)]
theorem PollSt.start (n : Nat) (h : n ≤ 8) : PollSt n ((ndP n).tick S1p) 0 0 := ⟨rfl, Nat.zero_le _, fun d hd => (boxP_all ⟨n, by omega⟩).2.2 d hd⟩
theorem max0 (k : Int) : Builtin.max2 (.int .i64 k) (.int .i64 0) = pure (.int .i64 ((k.toNat : Nat) : Int)) := by rw [max2_int]; congr 2; split <;> omega
section
variable {n got : Nat} {P : Nd} {last : Int}
theorem PollSt.elem (h : PollSt n P got last) {np j : Nat} {L : List MDl} (hL : L.map MDl.pl = P.inbox.take np) {x : MDl} (hx : L[j]? = some x) : (boxP n)[got + j]? = some x.pl ∧ j < np := by
 have h1 : (L.map MDl.pl)[j]? = some x.pl := by rw [List.getElem?_map, hx]; rfl
 rw [hL, h.box] at h1
 by_cases hj : j < np
 ·
  rw [List.getElem?_take_of_lt hj, List.getElem?_drop] at h1
  exact ⟨h1, hj⟩
 ·
  rw [List.getElem?_take_eq_none (by omega)] at h1
  cases h1
theorem PollSt.next (h : PollSt n P got last) (k : Int) {last' : Int} (hl : ∀ d ∈ (boxP n).drop (got + P.polled k), last' ≤ d.seq) : PollSt n (P.poll k) (got + P.polled k) last' := by
 have hp : P.polled k ≤ P.inbox.length := Nat.min_le_right _ _
 have hb : P.inbox.length = (boxP n).length - got := by rw [h.box, List.length_drop]
 have := h.le
 refine ⟨?_, by omega, hl⟩
 show P.inbox.drop (P.polled k) = _
 rw [h.box, List.drop_drop]
theorem PollSt.step {B : List NDl} (hp : B.Pairwise (fun a b => a.seq ≤ b.seq)) {q : Nat} {y : NDl} (hy : B[q]? = some y) {l : Int} (hl : ∀ d ∈ B.drop q, l ≤ d.seq) : l ≤ y.seq ∧ ∀ d ∈ B.drop (q + 1), y.seq ≤ d.seq := by
 have hlt := (List.getElem?_eq_some_iff.1 hy).1
 have e : B.drop q = y :: B.drop (q + 1) := by
  rw [List.drop_eq_getElem_cons hlt]
  rw [List.getElem?_eq_getElem hlt] at hy
  injection hy with hy
  rw [hy]
 have hp2 : (B.drop q).Pairwise (fun a b => a.seq ≤ b.seq) := hp.sublist (List.drop_sublist _ _)
 rw [e] at hp2 hl
 exact ⟨hl y List.mem_cons_self, (List.pairwise_cons.1 hp2).1⟩
end
set_option maxHeartbeats 8000000 in
theorem polls_calls (n : Int) (A : Option Addr) (m c : Nat) (by_ : List Int) (w : World) (hC : Kd.C (Kd.int .i64) w A m by_) (hT : TabI w) : Calls Tryz.prog 3 #[.int .i64 n, .slice A m c] w fun e w' => e = .returned (.bool true) ∧ Below w.heap.size w w' := by
 obtain ⟨xs, hrd, hxs⟩ := rd09
 obtain ⟨ys, hrd2, hys⟩ := rd25
 have HT := mk0 hT
 have HR := mk0 (And.intro hrd (And.intro hxs (And.intro hrd2 hys)))
 have HCB := mk0 hC
 clear hT hrd hxs hrd2 hys hC
 by_cases h0 : n < 0
 ·
  have b0 : decide (n < 0) = true := decide_eq_true h0
  go_enter Tryz.func3, Tryz.ntmps3
  go_wp2_with fail
  refine (awake_calls w HT.out).mono ?_
  rintro e w2 ⟨rfl, hb⟩
  go_wp2
  go_ret
  exact ⟨rfl, hb⟩
 by_cases h8 : 8 < n
 ·
  have b0 : decide (n < 0) = false := decide_eq_false h0
  have b1 : decide (8 < n) = true := decide_eq_true h8
  go_enter Tryz.func3, Tryz.ntmps3
  go_wp2_with fail
  refine (awake_calls w HT.out).mono ?_
  rintro e w2 ⟨rfl, hb⟩
  go_wp2
  go_ret
  exact ⟨rfl, hb⟩
 by_cases g8 : 20 < m
 ·
  have b0 : decide (n < 0) = false := decide_eq_false h0
  have b1 : decide (8 < n) = false := decide_eq_false h8
  have b2 : decide (20 < (m : Int)) = true := decide_eq_true (by omega)
  have b3 : decide (20 < m) = true := decide_eq_true (by omega)
  go_enter Tryz.func3, Tryz.ntmps3
  go_wp2_with fail
  refine (awake_calls w HT.out).mono ?_
  rintro e w2 ⟨rfl, hb⟩
  go_wp2
  go_ret
  exact ⟨rfl, hb⟩
 obtain ⟨q, rfl⟩ := Int.eq_ofNat_of_zero_le (show 0 ≤ n by omega)
 have b0 : decide ((q : Int) < 0) = false := decide_eq_false h0
 have b1 : decide (8 < (q : Int)) = false := decide_eq_false h8
 have b2 : decide (20 < (m : Int)) = false := decide_eq_false (by omega)
 have d1 : decide (8 < q) = false := decide_eq_false (by omega)
 have d2 : decide (20 < m) = false := decide_eq_false (by omega)
 have HM := mk0 (show q ≤ 8 ∧ m ≤ 20 by omega)
 clear h0 h8 g8
 go_enter Tryz.func3, Tryz.ntmps3
 go_wp2_with fail
 have hb1 := below_alloc (Below.refl w.heap.size w) (.cells #[.string ⟨#[97]⟩, .int .i64 1, .int .i64 0, .int .i64 9] tA)
 have hr1 := lit_attr w ⟨#[97]⟩ 1 0 9
 generalize w.alloc (.cells #[.string ⟨#[97]⟩, .int .i64 1, .int .i64 0, .int .i64 9] tA) = w1 at hb1 hr1 ⊢
 refine (al_new (some ⟨w.heap.size, 0, none⟩) 1 1 S1p 0 1 w.heap.size (fun _ => True) w w1 ⟨by decide, by decide⟩ ⟨by decide, by decide⟩ hr1 hb1.size ck1 (TabI.below HT.out hb1) hb1).mono ?_
 rintro e w2 ⟨g, rfl, al⟩
 generalize w1.heap.size = base at al
 have HA := mk0 al
 unfold ptr
 clear al hb1 hr1
 have hs := al_sub_ok HA.out T09 xs (by decide) HR.out.1 (by show (0 : Nat) < 16; decide) (by show (0 : Int) < 1000000; decide)
 rw [HR.out.2.1] at hs
 unfold ptr at hs
 have HSB := mk0 hs
 clear hs
 go_wp2_with fail
 refine (show Calls Tryz.prog 11 _ _ _ from HSB.out).mono ?_
 rintro e w3 ⟨rfl, al⟩
 have HA3 := mk0 al
 clear al HSB HA
 have hs := al_sub_ok HA3.out T25 ys (by decide) HR.out.2.2.1 (by show (1 : Nat) < 16; decide) (by show (1 : Int) < 1000000; decide)
 rw [HR.out.2.2.2] at hs
 unfold ptr at hs
 have HSB := mk0 hs
 clear hs
 go_wp2_with fail
 refine (show Calls Tryz.prog 11 _ _ _ from HSB.out).mono ?_
 rintro e w4 ⟨rfl, al⟩
 have HA4 := mk0 (show Al base g w w4 S1p 1 (ndP 0) from al)
 clear al HSB HA3
 go_wp2_with fail
 go_loopg [7, 8, 9, 10] (q + 1) (fun kk v7 v8 v9 v10 W => ∃ i : Nat, Aside0 (i ≤ q ∧ kk + i = q + 1) ∧ v8 = .int .i64 (i : Int) ∧ v7 = .int .i64 ((wantP i : Nat) : Int) ∧ Aside0 (Al base g w W S1p 1 (ndP i)))
 case atStart => exact ⟨0, ⟨by omega, by omega⟩, rfl, rfl, HA4⟩
 case round =>
  clear HA4
  obtain ⟨i, HMI, rfl, rfl, HA⟩ := hrel
  by_cases hi : i < q
  ·
   have c1 : decide ((i : Int) < (q : Int)) = true := decide_eq_true (by omega)
   have c2 : decide (i < q) = true := decide_eq_true (by omega)
   have hst := wantP_step i
   have hwl := wantP_le i
   go_wp2_with fail
   have hb4 := below_alloc (Below.refl wr.heap.size wr) (.cells #[.int .i64 (i : Int), .string ⟨#[]⟩] tV)
   have hr4 := lit_val wr (i : Int) ⟨#[]⟩
   generalize wr.alloc (.cells #[.int .i64 (i : Int), .string ⟨#[]⟩] tV) = w4 at hb4 hr4 ⊢
   have HA4 := mk0 (Al.keep HA.out hb4)
   have HB4 := mk0 hb4
   generalize wr.heap.size = gv at hr4 ⊢
   have hpb := al_pub_ok HA4.out 1 1 _ (fun _ => True) (some ⟨gv, 0, none⟩) [⟨(i : Int), ⟨#[]⟩⟩] ⟨#[]⟩ hr4 (evok1 ⟨i, by have := HM.out; omega⟩ (by have := HM.out; show i ≤ 9; omega)) (by show (evsP i).length < 8; unfold evsP; rw [List.length_map, List.length_range]; have := HM.out; omega) (by show (i : Int) < 1073741824; have := HM.out; omega)
   rw [ndP_step] at hpb
   refine (show Calls Tryz.prog 12 #[.pointer (some ⟨g, 0, none⟩), .agg #[.slice (some ⟨gv, 0, none⟩) 1 1, .string ⟨#[]⟩]] w4 _ from hpb).mono ?_
   rintro e w5 ⟨rfl, al⟩
   have HA5 := mk0 al
   have HWI := mk0 (And.intro hst hwl)
   clear al hpb hb4 hr4 HA4 HB4 HA hst hwl
   generalize wantP i = wi at HWI ⊢
   by_cases h2 : 2 ≤ i
   ·
    have c3 : decide (2 ≤ (i : Int)) = true := decide_eq_true (by omega)
    have c4 : decide (2 ≤ i) = true := decide_eq_true (by omega)
    by_cases h5 : i ≤ 5
    ·
     have c5 : decide ((i : Int) ≤ 5) = true := decide_eq_true (by omega)
     have c6 : decide (i ≤ 5) = true := decide_eq_true (by omega)
     have hw := HWI.out.1
     rw [if_pos ⟨h2, h5⟩] at hw
     have HW := mk0 hw
     clear hw
     go_wp2_with fail
     go_roundg (gk - 1)
     case measure => have := HMI.out; omega
     case rel => exact ⟨i + 1, ⟨by omega, by have := HMI.out; omega⟩, by first | rfl | (rw [w64 (by omega) (by have := HM.out; omega)]; rfl), by rw [HW.out]; exact congrArg (Value.int .i64) (wrap2 (by have := HWI.out.2; have := HM.out; omega)), HA5⟩
    ·
     have c5 : decide ((i : Int) ≤ 5) = false := decide_eq_false (by omega)
     have c6 : decide (i ≤ 5) = false := decide_eq_false (by omega)
     have hw := HWI.out.1
     rw [if_neg (fun hh => h5 hh.2)] at hw
     have HW := mk0 hw
     clear hw
     go_wp2_with fail
     go_roundg (gk - 1)
     case measure => have := HMI.out; omega
     case rel => exact ⟨i + 1, ⟨by omega, by have := HMI.out; omega⟩, by first | rfl | (rw [w64 (by omega) (by have := HM.out; omega)]; rfl), by rw [HW.out]; exact congrArg (Value.int .i64) (wrap1 (by have := HWI.out.2; have := HM.out; omega)), HA5⟩
   ·
    have c3 : decide (2 ≤ (i : Int)) = false := decide_eq_false (by omega)
    have c4 : decide (2 ≤ i) = false := decide_eq_false (by omega)
    have hw := HWI.out.1
    rw [if_neg (fun hh => h2 hh.1)] at hw
    have HW := mk0 hw
    clear hw
    go_wp2_with fail
    go_roundg (gk - 1)
    case measure => have := HMI.out; omega
    case rel => exact ⟨i + 1, ⟨by omega, by have := HMI.out; omega⟩, by first | rfl | (rw [w64 (by omega) (by have := HM.out; omega)]; rfl), by rw [HW.out]; exact congrArg (Value.int .i64) (wrap1 (by have := HWI.out.2; have := HM.out; omega)), HA5⟩
  ·
   have hiq : i = q := by have := HMI.out; omega
   subst hiq
   have c1 : decide ((i : Int) < (i : Int)) = false := decide_eq_false (by omega)
   have c2 : decide (i < i) = false := decide_eq_false (by omega)
   have htk : Calls Tryz.prog 13 #[.pointer (some ⟨g, 0, none⟩), .int .i64 1, .iface tOwn (.int .i64 0)] wr fun e w' => e = .returned (.tuple #[]) ∧ Al base g w w' S1p 1 ((ndP i).tick S1p) := al_tick HA.out 1 0 (by show (0 : Int) ≤ 900000; omega)
   have HTC := mk0 htk
   clear htk
   generalize hwn : wantP i = wn
   have HWN := mk0 hwn
   clear hwn
   go_wp2_with fail
   refine HTC.out.mono ?_
   rintro e w6 ⟨rfl, al⟩
   have HA6 := mk0 al
   clear al HTC HA
   go_upto_region 20 with (fail)
   have HE := mk0 (show Kd.R (Kd.int .i64) 3 (w6.alloc (.cells #[] 3)) w6.heap.size (fun _ => True) (.slice (some ⟨w6.heap.size, 0, none⟩) 0 0) [] from Kd.R_of_own (own_lit w6 w6.heap.size 3 .i64 [] (Nat.le_refl _) (by decide)) (fun _ _ => trivial))
   have HBE := mk0 (below_alloc (Below.refl w6.heap.size w6) (.cells #[] 3))
   have HCK := mk0 (Kd.C_below HCB.out ((HA6.out.below).trans (HBE.out.mono HA6.out.below.size)))
   have HLB := mk0 HCB.out.1
   go_wp2_with (first | ((with_reducible refine gate_builtin (b := .append) (xs := #[.tmp 75, .tmp 76]) rfl ?_); at_builtin; go_loud (refine Kd.R_append_row (Value.int .i64) 0 (h1 := fun _ => rfl) (w0 := w6) w6.heap.size rfl (.tmp 75) (.tmp 76) 22 3 (.int .i64 0) 8 rfl Tryz.underlying22 infoI rfl (by decide) (.slice (some ⟨w6.heap.size, 0, none⟩) 0 0) [] by_ A m c (fun _ => True) ?asx ?axx (fun _ _ => trivial) HE.out HCK.out HBE.out HBE.out.size ?aL ?_; (case asx => first | rfl | (go_simp; done) | (go_simp; rfl)); (case axx => first | rfl | (go_simp; done) | (go_simp; rfl)); (case aL => have := HM.out; show (0 + m) * 8 ≤ _; omega); intro v9 w9 ho hb hg hat; obtain ⟨A9, c9, rfl, _, _⟩ := Kd.R_reads ho; have n0_ := mk0 ho; have n1_ := mk0 hb; clear HE HBE HCK ho hb hg hat; have HE := n0_; have HBE := n1_; clear n0_ n1_)) | ((with_reducible refine gate_builtin (b := .append) (xs := #[.tmp 77, .tmp 78]) rfl ?_); at_builtin; go_loud (refine Kd.R_append (Kd.int .i64) (w0 := w6) w6.heap.size rfl (.tmp 77) (.tmp 78) 22 3 (.int .i64 0) 8 rfl Tryz.underlying22 infoI rfl (by decide) (by omega) _ ([] ++ by_) 100 [.int .i64 100] (fun _ => True) (fun _ => False) rfl ?aX ?aP (fun _ hk => hk.elim) ?aF HE.out HBE.out HBE.out.size ?aL ?_; (case aX => first | rfl | (go_simp; done) | (go_simp; rfl)); (case aP => exact rfl); (case aF => exact (fun _ _ => trivial)); (case aL => have := HM.out; have := HLB.out; rw [List.nil_append]; omega); intro v8 w8 ho hb hg hat; obtain ⟨A8, c8, rfl, _, _⟩ := Kd.R_reads ho; obtain ⟨nk, hnk⟩ : ∃ nk, nk = ([] ++ by_ ++ [100]).length := ⟨_, rfl⟩; rw [← hnk] at ho ⊢; have HNK := mk0 hnk; clear hnk; have n0_ := mk0 ho; have n1_ := mk0 hb; clear HE HBE ho hb hg hat; have HE := n0_; have HBE := n1_; clear n0_ n1_)))
   have HA8 := mk0 (HA6.out.keep HBE.out)
   obtain ⟨ks, hks⟩ : ∃ ks, ks = [] ++ by_ ++ [100] := ⟨_, rfl⟩
   rw [← hks] at HE HNK
   have HK := mk0 (show nk = m + 1 ∧ ks[m]? = some 100 from by
    have h1 := HLB.out
    rw [HNK.out, hks, List.nil_append, List.length_append]
    exact ⟨by simp [h1], by rw [List.getElem?_append_right (by omega), h1, Nat.sub_self]; rfl⟩)
   have HP := mk0 (PollSt.start i HM.out.1)
   have HBX := mk0 (boxP_all ⟨i, by have := HM.out; omega⟩)
   clear hks HA6 HBE HLB HNK
   have HZ : Aside0 (0 = nk → 0 = (boxP i).length) := ⟨fun h => by have := HK.out.1; omega⟩
   go_loopg [11, 12, 14, 15, 17, 81] (nk + 1) (fun kk v11 v12 v14 v15 v17 v81 W => ∃ (t got : Nat) (last : Int) (P : Nd), Aside0 (t ≤ nk ∧ kk + t = nk + 1) ∧ v81 = .int .i64 (t : Int) ∧ v11 = .int .i64 (got : Int) ∧ v12 = .int .i64 last ∧ Aside0 (PollSt i P got last) ∧ Aside0 (t = nk → got = (boxP i).length) ∧ Aside0 (Al base g w W S1p 1 P) ∧ Aside0 (Kd.R (Kd.int .i64) 3 W w6.heap.size (fun _ => True) (.slice A8 nk c8) ks))
   case atStart => exact ⟨0, 0, 0, _, ⟨by omega, by omega⟩, rfl, rfl, rfl, HP, HZ, HA8, HE⟩
   case round =>
    clear HP HZ HA8 HE
    obtain ⟨t, got, last, P, HMT, rfl, rfl, rfl, HP, HZ, HA, HE⟩ := hrel
    by_cases ht : t < nk
    ·
     have e1 : decide ((t : Int) < (nk : Int)) = true := decide_eq_true (by omega)
     have e2 : decide (t < nk) = true := decide_eq_true (by omega)
     have p1 : (0 : Int) ≤ (t : Int) := by omega
     have p2 : (t : Int) < (nk : Int) := by omega
     obtain ⟨hnk, _, hCK⟩ := Kd.R_reads' HE.out
     obtain ⟨ad, k, ck, hA, hx, hK, hcc⟩ := at_row hCK t (by rw [← hnk]; exact ht)
     obtain rfl : ck = [.int .i64 k] := hK
     have c0 := hcc 0 _ rfl
     rw [show t * (Kd.int .i64).sz + 0 = t from by show t * 1 + 0 = t; omega] at c0
     cases hA
     obtain ⟨ko, hko⟩ : ∃ z, z + 1 = gk := ⟨gk - 1, by have := HMT.out; omega⟩
     have HKO := mk0 hko
     have HX := mk0 hx
     have mx := max0 k
     obtain ⟨kn, hkn⟩ : ∃ kn, kn = k.toNat := ⟨_, rfl⟩
     rw [← hkn] at mx
     have HKN := mk0 hkn
     clear hkn
     have hpo := al_poll_k HA.out k
     unfold ptr at hpo
     have HPO := mk0 hpo
     clear hko hx hcc hCK hnk hpo
     go_wp2_with fail
     refine HPO.out.mono ?_
     rintro e w9 ⟨A, cc, L, rfl, hR, hL, al, hkn⟩
     have HA9 := mk0 al
     have HE9 := mk0 (hkn.R HE.out (by decide +kernel))
     have HR := mk0 (And.intro (Kd.R_reads' hR) hL)
     have hpk : P.polled k ≤ k.toNat := Nat.min_le_left _ _
     have hpl : P.polled k ≤ 64 := Nat.le_trans (Nat.min_le_right _ _) HA.out.fits.2.2.1
     obtain ⟨np, hnp⟩ : ∃ np, np = P.polled k := ⟨_, rfl⟩
     rw [← hnp] at HR hpk hpl ⊢
     have HNP := mk0 (And.intro hnp (And.intro hpk hpl))
     have e3 : decide ((kn : Int) < (np : Int)) = false := decide_eq_false (by have := HKN.out; omega)
     have e4 : decide (kn < np) = false := decide_eq_false (by have := HKN.out; omega)
     clear al hkn hR hL hpk hpl hnp HPO c0 HA HE
     have HB9 := mk0 (Below.refl w9.heap.size w9)
     have HL9 := mk0 (show ∀ d ∈ (boxP i).drop (got + 0), last ≤ d.seq from HP.out.low)
     go_wp2_with fail
     go_loopg [11, 12, 17, 95] (np + 1) (fun kk v11 v12 v17 v95 W => ∃ (j : Nat) (l : Int), Aside0 (j ≤ np ∧ kk + j = np + 1) ∧ v95 = .int .i64 (j : Int) ∧ v11 = .int .i64 ((got + j : Nat) : Int) ∧ v12 = .int .i64 l ∧ Aside0 (∀ d ∈ (boxP i).drop (got + j), l ≤ d.seq) ∧ Aside0 (Below w9.heap.size w9 W))
     case atStart => exact ⟨0, last, ⟨by omega, by omega⟩, rfl, rfl, rfl, HL9, HB9⟩
     case round =>
      clear HL9 HB9
      obtain ⟨j, l, HMJ, rfl, rfl, rfl, HLO, HB⟩ := hrel
      by_cases hj : j < np
      ·
       have f1 : decide ((j : Int) < (np : Int)) = true := decide_eq_true (by omega)
       have f2 : decide (j < np) = true := decide_eq_true (by omega)
       have r1 : (0 : Int) ≤ (j : Int) := by omega
       have r2 : (j : Int) < (np : Int) := by omega
       have hC := Kd.C_below HR.out.1.2.2 HB.out
       rw [← HR.out.1.1] at hC
       obtain ⟨ad, x, B, b, hA, hx, c0, c1', c2', c3', c4', _⟩ := at_Dl hC j hj
       cases hA
       have hel := HP.out.elem HR.out.2 hx
       have hst := PollSt.step HBX.out.2.1 hel.1 HLO.out
       have hlt : decide (x.seq < l) = false := decide_eq_false (by have : l ≤ x.seq := hst.1; omega)
       have HST := mk0 (show ∀ d ∈ (boxP i).drop (got + (j + 1)), x.seq ≤ d.seq from hst.2)
       have hgj : got + j ≤ 64 := by
        have h1 := HA9.out.fits
        have h2 := (List.getElem?_eq_some_iff.1 hel.1).1
        have h3 := HBX.out.1
        have h4 := wantP_le i
        have h5 : (boxP i).length = wantP i := h3
        have := HM.out
        omega
       have HGJ := mk0 hgj
       clear hx hC hel hst hgj
       go_upto_region 29 with (fail)
       have hb7 := below_alloc (Below.refl wr.heap.size wr) (.cells #[.int .i64 x.sub, .int .i64 x.pub, .int .i64 x.seq, .slice B x.V.length b, .string x.pay] tDl)
       have hk7 := heap_alloc_new wr (.cells #[.int .i64 x.sub, .int .i64 x.pub, .int .i64 x.seq, .slice B x.V.length b, .string x.pay] tDl)
       generalize wr.alloc (.cells #[.int .i64 x.sub, .int .i64 x.pub, .int .i64 x.seq, .slice B x.V.length b, .string x.pay] tDl) = W7 at hb7 hk7 ⊢
       have n0_ := mk0 (below_then HB.out HB.out.size hb7)
       have k2 := (blk_cell hk7 2).trans (show _ = some (Value.int .i64 x.seq) from rfl)
       clear HB hb7 hk7 c0 c1' c2' c3' c4'
       have HB := n0_
       clear n0_
       generalize wr.heap.size = gb at k2 ⊢
       go_wp2_with fail
       go_roundg (gk - 1)
       case measure => have := HMJ.out; omega
       case rel => exact ⟨j + 1, x.seq, ⟨by omega, by have := HMJ.out; omega⟩, by first | rfl | (rw [w64 (by omega) (by have := HMJ.out; have := HNP.out; omega)]; rfl), by first | rfl | exact congrArg (Value.int .i64) (wrap1 (by have := HGJ.out; omega)), rfl, HST, HB⟩
      ·
       have f1 : decide ((j : Int) < (np : Int)) = false := decide_eq_false (by omega)
       have f2 : decide (j < np) = false := decide_eq_false (by omega)
       have hjn : j = np := by have := HMJ.out; omega
       subst hjn
       have HA10 := mk0 (HA9.out.keep HB.out)
       have HE10 := mk0 (Kd.R_below HE9.out HB.out)
       have hnx : PollSt i (P.poll k) (got + j) l := by
        have := HP.out.next k (last' := l) (by rw [← HNP.out.1]; exact HLO.out)
        rwa [← HNP.out.1] at this
       have HP10 := mk0 hnx
       have hz : t + 1 = nk → got + j = (boxP i).length := fun h => by
        have h1 := HK.out
        have h2 : t = m := by omega
        subst h2
        have hk : k = 100 := by
         have := HX.out
         rw [h1.2] at this
         exact (Option.some.inj this).symm
        have h3 : P.inbox.length = (boxP i).length - got := by rw [HP.out.box, List.length_drop]
        have h4 := HNP.out.1
        have h5 : P.polled k = min k.toNat P.inbox.length := rfl
        have h6 := HP.out.le
        have h7 := HBX.out.1
        have h8 := wantP_le i
        have h9 : (boxP i).length = wantP i := h7
        have h10 := HM.out
        rw [h5, hk, h3] at h4
        have h11 : (100 : Int).toNat = 100 := rfl
        rw [h11] at h4
        omega
       have HZ10 := mk0 hz
       clear hnx hz HA9 HE9 HB HLO HR
       go_wp2_with fail
       go_roundg ko
       case measure => have := HKO.out; omega
       case rel => exact ⟨t + 1, got + j, l, P.poll k, ⟨by omega, by have := HMT.out; have := HKO.out; omega⟩, by first | rfl | (rw [w64 (by omega) (by have := HMT.out; have := HK.out; have := HM.out; omega)]; rfl), rfl, rfl, HP10, HZ10, HA10, HE10⟩
    ·
     have e1 : decide ((t : Int) < (nk : Int)) = false := decide_eq_false (by omega)
     have e2 : decide (t < nk) = false := decide_eq_false (by omega)
     have htn : t = nk := by have := HMT.out; omega
     have hg := HZ.out htn
     have hgw : got = wn := by rw [hg, ← HWN.out]; exact HBX.out.1
     have hin : P.inbox.length = 0 := by rw [HP.out.box, List.length_drop, hg, Nat.sub_self]
     subst hgw
     have HIN := mk0 hin
     clear htn hg hin
     go_wp2_with fail
     refine (awake_calls _ (TabI.below HT.out HA.out.below)).mono ?_
     rintro e w17 ⟨rfl, hb17⟩
     have HA17 := mk0 (HA.out.keep hb17)
     clear hb17 HA
     have hwt := al_waits HA17.out
     rw [HIN.out] at hwt
     unfold ptr at hwt
     have HWT := mk0 (show Calls Tryz.prog 15 #[.pointer (some ⟨g, 0, none⟩)] w17 fun e w' => e = .returned (.int .i64 0) ∧ w' = w17 from hwt)
     clear hwt
     go_wp2_with fail
     refine HWT.out.mono ?_
     rintro e w18 ⟨rfl, rfl⟩
     have HFIN := mk0 HA17.out.below
     clear HWT HA17
     go_wp2
     go_ret
     exact ⟨rfl, HFIN.out⟩
end Go.Proofs.YtnmpijbcajclgaaGreatDoor.Mine
end
section
namespace Go.Proofs.YtnmpijbcajclgaaGreatDoor.Mine
theorem all3 : True := by
 have _ := @full_calls
 have _ := @goes_calls
 have _ := @polls_calls
 have _ := @open_calls
 trivial
end Go.Proofs.YtnmpijbcajclgaaGreatDoor.Mine
end
