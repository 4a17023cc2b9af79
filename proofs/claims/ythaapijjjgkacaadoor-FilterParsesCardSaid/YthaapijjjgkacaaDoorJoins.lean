/-
  wigwaglaw06.FilterJoins, walked: true at every input. Condition: errors.errorType holds what its initialiser lays.
-/
import Derived.Test.YthaapijjjgkacaaDoorPlaces
set_option linter.unusedSimpArgs false
set_option linter.unusedVariables false
namespace Go.Proofs.YthaapijjjgkacaaDoor.Mine
open Go.RowKit Go.Proofs.YthaapijjjgkacaaDoorW.PrintWords Go.Proofs.YthaapijjjgkacaaDoorW.PrintLast Go.Proofs.YthaapijjjgkacaaDoorW.PrintMore
open Go.Proofs.YthaapijjjgkacaaDoor.PFilterReads

/-! ### told and Same, what they come to -/
def toQ (x : S46) : S77 := ⟨x.f0, x.f1, x.f2, x.f3, x.f4⟩
theorem told_l0 (l : List S46) (hl : l.length ≤ 1000) (d : Nat) : ∀ (k i : Nat) (acc : List S77), i ≤ l.length → l.length - i = d → d < k → acc.length ≤ i → wigwaglaw06_told.l0 k acc l (l.length : Int) (i : Int) = some (acc ++ (l.drop i).map toQ) := by
  induction d with
  | zero =>
    intro k i acc h0 hd hk ha
    obtain ⟨k, rfl⟩ : ∃ m, k = m + 1 := ⟨k - 1, by omega⟩
    simp only [wigwaglaw06_told.l0]
    rw [if_neg (by omega), List.drop_eq_nil_of_le (by omega)]
    simp
  | succ d ih =>
    intro k i acc h0 hd hk ha
    obtain ⟨k, rfl⟩ : ∃ m, k = m + 1 := ⟨k - 1, by omega⟩
    have hlt : i < l.length := by omega
    simp only [wigwaglaw06_told.l0]
    rw [if_pos (by omega), if_pos (by omega), if_pos (by omega), if_pos (by omega), wrap_in (by omega) (by omega), show (i : Int) + 1 = ((i + 1 : Nat) : Int) by omega]
    have hr : rd_T46 l (i : Int) = l[i] := by simp [rd_T46, List.getD, hlt]
    rw [hr, ih k (i + 1) _ (by omega) (by omega) (by omega) (by simp; omega), List.drop_eq_getElem_cons hlt, List.map_cons, List.append_assoc]
    rfl
theorem told_f (l : List S46) (hl : l.length ≤ 1000) : wigwaglaw06_told.f (l.length + 1) l = some (l.map toQ) := by
  have := told_l0 l hl l.length (l.length + 1) 0 [] (by omega) (by omega) (by omega) (by simp)
  simpa [wigwaglaw06_told.f] using this
theorem same_l0 (l : List S77) (hl : l.length ≤ 2000) (d : Nat) : ∀ (k i : Nat), i ≤ l.length → l.length - i = d → d < k → wigwagref06_Same.l0 k l l (l.length : Int) (i : Int) = some true := by
  induction d with
  | zero =>
    intro k i h0 hd hk
    obtain ⟨k, rfl⟩ : ∃ m, k = m + 1 := ⟨k - 1, by omega⟩
    simp only [wigwagref06_Same.l0]
    rw [if_neg (by omega)]
  | succ d ih =>
    intro k i h0 hd hk
    obtain ⟨k, rfl⟩ : ∃ m, k = m + 1 := ⟨k - 1, by omega⟩
    simp only [wigwagref06_Same.l0]
    rw [if_pos (by omega), if_pos (by omega), if_pos (by omega), if_pos (by omega), wrap_in (by omega) (by omega), show (i : Int) + 1 = ((i + 1 : Nat) : Int) by omega]
    rw [if_neg (by simp)]
    exact ih k (i + 1) (by omega) (by omega) (by omega)
theorem same_f (l : List S77) (hl : l.length ≤ 2000) : wigwagref06_Same.f (l.length + 1) l l = some true := by
  unfold wigwagref06_Same.f
  rw [if_pos rfl]
  exact same_l0 l hl l.length _ 0 (by omega) (by omega) (by omega)
/-- told of a slice of the call's own. -/
theorem told_P (A : Option Addr) (n c : Nat) (l : List S46) (w : World) (hn : l.length = n) (hr : Kd.C k46 w A n l) (hc : n ≤ c) (hl : n ≤ 1000) :
    Calls Tryd.prog 15 #[.slice A n c] w fun e w' => ∃ v : Value, e = .returned v ∧ Kd.R k77 77 w' w.heap.size (fun _ => True) v (l.map toQ) ∧ Below w.heap.size w w' := by
  subst hn
  exact wigwaglaw06_told.calls _ A c l _ w hr hc (told_f l hl)
theorem same_P (A B : Option Addr) (n m c d : Nat) (l : List S77) (w : World) (hn : l.length = n) (hm : l.length = m) (hr : Kd.C k77 w A n l) (hc : n ≤ c) (hr2 : Kd.C k77 w B m l) (hd : m ≤ d) (hl : n ≤ 2000) :
    Calls Tryd.prog 14 #[.slice A n c, .slice B m d] w fun e w' => e = .returned (.bool true) ∧ Below w.heap.size w w' := by
  subst hn
  subst hm
  exact (wigwagref06_Same.calls _ A c l B d l true w hr hc hr2 hd (same_f l hl)).mono fun _ _ ⟨h1, h2⟩ => ⟨h1, h2.below⟩
theorem PS_count : ∀ (n : Nat) (l : List UInt8) (acc xs : List Pr), l.length ≤ n → PS l acc = .inl xs → xs.length ≤ acc.length + l.length + 1
  | n, l, acc, xs, hn, h => by
    rw [PS_eq] at h
    cases hb : (blanksS (predS ⟨l, none⟩).2).bad with
    | some m => rw [hb] at h; cases h
    | none =>
      rw [hb] at h
      simp only at h
      by_cases hs : (blanksS (predS ⟨l, none⟩).2).l = []
      · rw [if_pos hs] at h
        cases h
        simp
      · rw [if_neg hs] at h
        unfold PN at h
        cases ha : (andS (blanksS (predS ⟨l, none⟩).2)).bad with
        | some m => rw [ha] at h; cases h
        | none =>
          rw [ha] at h
          have h1 := andS_lt hb ha
          have h2 := blanksS_le (predS ⟨l, none⟩).2
          have h3 : (predS ⟨l, none⟩).2.l.length ≤ l.length := predS_le (st := ⟨l, none⟩) rfl
          match n with
          | 0 => omega
          | n + 1 =>
            have := PS_count n _ _ _ (by omega) h
            simp at this
            omega
theorem parse_count {s : ByteArray} {xs : List Pr} (h : parseR s = .inl xs) : xs.length ≤ 301 := by
  obtain ⟨h1, h2⟩ := parseR_ok h
  have := PS_count _ _ _ _ (Nat.le_refl _) h2
  rw [bytes_len] at this
  simp at this
  omega
theorem joins_plain (a b : ByteArray) (xs ys : List Pr) (h : parseR a = .inl xs) (h' : parseR b = .inl ys) (ha : a.size ≤ 140) (hb : b.size ≤ 140) : parseR (a ++ sAnd ++ b) = .inl (xs ++ ys) := by
  obtain ⟨h1, h2⟩ := parseR_ok h
  obtain ⟨h3, h4⟩ := parseR_ok h'
  have hsz : (a ++ sAnd ++ b).size = a.size + 5 + b.size := by simp [sAnd, ByteArray.size_append]; rfl
  rw [parseR_PS (by rw [hsz]; omega), bytes_append, bytes_append, List.append_assoc]
  have h5 : bytes sAnd ++ bytes b = 32 :: (97 :: 110 :: 100 :: 32 :: bytes b) := rfl
  rw [h5, PS_ext _ _ _ _ _ (Nat.le_refl _) h2, tailS_and, PS_blank]
  have h6 := PS_acc _ (bytes b) xs [] (Nat.le_refl _)
  rw [List.append_nil, h4] at h6
  rw [h6]

/-- Kd.R_append_rows at a guarded operation whose guard is met. -/
theorem R_append_rows_g {α : Type} {P : Program} {ops : Array Oper} {Q : Exit → Act → World → Prop} {a : Act} {rest : List Oper} {o : Oper} (d : Kd α) {Rr : α → List Value → Prop} {w0 W : World} (base : Nat) (hw : Region.wanted o (yielded ops a.tmps) = true) (s x : Operand) (t e : TypeId) (z : Value) (bytes : Nat)
    (ho : o.op = .call { callee := .builtin .append, args := #[s, x], argTypes := #[t, t] })
    (ht : P.underlying t = some (.slice e)) (hinfo : (P.info? e).map (fun i => (i.zero, i.size, i.bytes)) = some (some z, d.sz, bytes)) (hz : z.cells.size = d.sz) (hs0 : 0 < d.sz) (hb0 : 0 < bytes)
    (v : Value) (xs ys : List α) (A : Option Addr) (m c : Nat) (ok okp : Nat → Prop) (hs : a.eval s = v) (hx : a.eval x = .slice A m c)
    (HO : d.R e W base ok v xs) (HR : ReadsRow Rr d.sz W A m ys) (hKM : ∀ x cs, Rr x cs → d.M W base okp x cs) (hokp : ∀ k, okp k → ok k ∧ some k ≠ v.ownBlock) (hfresh : ∀ k, W.heap.size ≤ k → ok k)
    (HB : Below base w0 W) (hbase : base ≤ W.heap.size) (hl : (xs.length + m) * bytes ≤ 140737488355328)
    (h : ∀ v1 w1, d.R e w1 base ok v1 (xs ++ ys) → Below base w0 w1 → W.grownBy w1 v.ownBlock → (v1.ownBlock = v.ownBlock ∨ ∃ b, v1.ownBlock = some b ∧ W.heap.size ≤ b) → wpList P ops Q rest (a.put o.dst v1) w1) :
    wpList P ops Q (o :: rest) a W := by
  have h1 := Kd.R_append_rows_step (Kc := wpList P ops Q rest) (Q := Q) d base hw s x t e z bytes ho ht hinfo hz hs0 hb0 v xs ys A m c ok okp hs hx HO HR hKM hokp hfresh HB hbase hl h
  rw [if_pos hw] at h1
  unfold wpList
  rw [if_pos hw]
  exact Or.inl h1
theorem k77_flat {W : World} {base : Nat} (x : S77) (cs : List Value) (h : k77.K W x cs) : k77.M W base (fun _ => False) x cs := by rw [k77_open h]; exact k77_mkM _ _ _ x
set_option maxHeartbeats 4000000 in
set_option maxRecDepth 100000 in
theorem joins_calls (s1 s2 : ByteArray) (w : World) (hg : ErrTy w) (hs1 : s1.size ≤ 9223372036854775807) (hs2 : s2.size ≤ 9223372036854775807) : Calls Tryd.prog 4 #[.string s1, .string s2] w fun e w' => e = .returned (.bool true) ∧ Below w.heap.size w w' := by
  have HG := Aside0.mk hg
  have HB := Aside0.mk (Below.refl w.heap.size w)
  clear hg
  go_enter Tryd.func4, Tryd.ntmps4
  go_wp2_with fail
  refine (cut_P s1 140 _ hs1 (by omega)).mono ?_
  rintro e w' ⟨rfl, rfl⟩
  have hle1 := cutB_le s1 140
  generalize cutB s1 140 = a at hle1 ⊢
  go_wp2_with fail
  refine (cut_P s2 140 _ hs2 (by omega)).mono ?_
  rintro e w' ⟨rfl, rfl⟩
  have hle2 := cutB_le s2 140
  generalize cutB s2 140 = b at hle2 ⊢
  go_wp2_with fail
  refine (parse_P a _ (by omega)).mono ?_
  rintro e w1 hp
  cases hr : parseR a with
  | inr z =>
    obtain ⟨at_, c⟩ := z
    obtain ⟨bk, hbl, rfl, hf, hb1⟩ := hp.no hr
    have n_ := Aside0.mk (below_then HB.out HB.out.size hb1)
    clear HB hb1 hp hf hr
    have HB := n_
    clear n_
    go_wp2_with fail
    refine (parse_P b _ (by omega)).mono ?_
    rintro e w2 hp
    cases hr2 : parseR b with
    | inr z =>
      obtain ⟨at2, c2⟩ := z
      obtain ⟨bk2, hbl2, rfl, hf, hb1⟩ := hp.no hr2
      have n_ := Aside0.mk (below_then HB.out HB.out.size hb1)
      clear HB hb1 hf hr2
      have HB := n_
      clear n_
      clear hp
      go_wp2_with fail
      refine (awake_calls _ (ErrTy.below HG.out HB.out)).mono ?_
      rintro e w9 ⟨rfl, hb⟩
      have n_ := Aside0.mk (below_then HB.out HB.out.size hb)
      clear HB hb
      have HB := n_
      clear n_
      go_wp2
      go_ret
      exact ⟨rfl, HB.out⟩
    | inl ys =>
      obtain ⟨v2, rfl, ho2, hb1⟩ := hp.ok hr2
      have n_ := Aside0.mk (below_then HB.out HB.out.size hb1)
      clear HB hb1 ho2 hr2
      have HB := n_
      clear n_
      clear hp
      go_wp2_with fail
      refine (awake_calls _ (ErrTy.below HG.out HB.out)).mono ?_
      rintro e w9 ⟨rfl, hb⟩
      have n_ := Aside0.mk (below_then HB.out HB.out.size hb)
      clear HB hb
      have HB := n_
      clear n_
      go_wp2
      go_ret
      exact ⟨rfl, HB.out⟩
  | inl xs =>
    obtain ⟨v1, rfl, ho, hb1⟩ := hp.ok hr
    have HO1 := Aside0.mk (Kd.R_lower ho HB.out.size)
    have n_ := Aside0.mk (below_then HB.out HB.out.size hb1)
    have HR1 := Aside0.mk hr
    clear HB hb1 ho hr hp
    have HB := n_
    clear n_
    go_wp2_with fail
    refine (parse_P b _ (by omega)).mono ?_
    rintro e w2 hp
    cases hr2 : parseR b with
    | inr z =>
      obtain ⟨at2, c2⟩ := z
      obtain ⟨bk2, hbl2, rfl, hf, hb1⟩ := hp.no hr2
      have n_ := Aside0.mk (below_then HB.out HB.out.size hb1)
      clear HB hb1 hf hr2 HO1
      have HB := n_
      clear n_
      clear hp
      go_wp2_with fail
      refine (awake_calls _ (ErrTy.below HG.out HB.out)).mono ?_
      rintro e w9 ⟨rfl, hb⟩
      have n_ := Aside0.mk (below_then HB.out HB.out.size hb)
      clear HB hb
      have HB := n_
      clear n_
      go_wp2
      go_ret
      exact ⟨rfl, HB.out⟩
    | inl ys =>
      obtain ⟨v2, rfl, ho2, hb1⟩ := hp.ok hr2
      have HO2 := Aside0.mk (Kd.R_lower ho2 HB.out.size)
      have n1_ := Aside0.mk (Kd.R_below HO1.out hb1)
      have n_ := Aside0.mk (below_then HB.out HB.out.size hb1)
      have HR2 := Aside0.mk hr2
      clear HB hb1 ho2 hr2 HO1 hp
      have HB := n_
      have HO1 := n1_
      clear n_ n1_
      go_wp2_with fail
      refine (parse_P (a ++ sAnd ++ b) _ (by have : (a ++ sAnd ++ b).size = a.size + 5 + b.size := (by simp [sAnd, ByteArray.size_append]; rfl); rw [this]; omega)).mono ?_
      rintro e w3 hp
      obtain ⟨v3, rfl, ho3, hb3⟩ := hp.ok (joins_plain a b xs ys HR1.out HR2.out hle1 hle2)
      have hO1 := Kd.R_below HO1.out hb3
      have hO2 := Kd.R_below HO2.out hb3
      obtain ⟨A1, c1, rfl, hc1, hC1⟩ := Kd.R_reads hO1
      obtain ⟨A2, c2, rfl, hc2, hC2⟩ := Kd.R_reads hO2
      obtain ⟨A3, c3, rfl, hc3, hC3⟩ := Kd.R_reads ho3
      have lx : (xs.map toP).length ≤ 301 := by simpa using parse_count HR1.out
      have ly : (ys.map toP).length ≤ 301 := by simpa using parse_count HR2.out
      have lz : ((xs ++ ys).map toP).length = (xs.map toP).length + (ys.map toP).length := by simp
      generalize hn1 : (xs.map toP).length = n1 at *
      generalize hn2 : (ys.map toP).length = n2 at *
      generalize hn3 : ((xs ++ ys).map toP).length = n3 at *
      have N1 := Aside0.mk hn1
      have N2 := Aside0.mk hn2
      have N3 := Aside0.mk hn3
      have LZ := Aside0.mk lz
      clear hn1 hn2 hn3
      have n_ := Aside0.mk (below_then HB.out HB.out.size hb3)
      have D1 := Aside0.mk (And.intro hc1 hC1)
      have D2 := Aside0.mk (And.intro hc2 hC2)
      have D3 := Aside0.mk (And.intro hc3 hC3)
      clear HB hb3 hO1 hO2 ho3 hp hc1 hC1 hc2 hC2 hc3 hC3 HO1 HO2 HR1 HR2 lz
      have HB := n_
      clear n_
      go_wp2_with fail
      refine (awake_calls _ (ErrTy.below HG.out HB.out)).mono ?_
      rintro e w4 ⟨rfl, hb4⟩
      have B4 := Aside0.mk hb4
      have n_ := Aside0.mk (below_then HB.out HB.out.size hb4)
      clear HB hb4
      have HB := n_
      clear n_
      go_wp2_with fail
      refine (told_P A3 n3 c3 _ _ N3.out (Kd.C_below D3.out.2 B4.out) D3.out.1 (by have := LZ.out; omega)).mono ?_
      rintro e w5 ⟨v5, rfl, ho5, hb5⟩
      obtain ⟨A5, c5, rfl, hc5, hC5⟩ := Kd.R_reads ho5
      have hn5 : (((xs ++ ys).map toP).map toQ).length = n3 := by rw [List.length_map]; exact N3.out
      rw [hn5] at hc5 hC5 ⊢
      have N5 := Aside0.mk hn5
      have D5 := Aside0.mk (And.intro hc5 hC5)
      clear hn5 hc5 hC5
      have B5 := Aside0.mk hb5
      have n_ := Aside0.mk (below_then HB.out HB.out.size hb5)
      clear HB hb5 ho5
      have HB := n_
      clear n_
      go_wp2_with fail
      refine (told_P A1 n1 c1 _ _ N1.out (Kd.C_below (Kd.C_below D1.out.2 B4.out) B5.out) D1.out.1 (by omega)).mono ?_
      rintro e w6 ⟨v6, rfl, ho6, hb6⟩
      have HO6 := Aside0.mk ho6
      have B6 := Aside0.mk hb6
      have HB5 := HB
      clear HB hb6 ho6
      go_wp2_with fail
      refine (told_P A2 n2 c2 _ _ N2.out (Kd.C_below (Kd.C_below (Kd.C_below D2.out.2 B4.out) B5.out) B6.out) D2.out.1 (by omega)).mono ?_
      rintro e w7 ⟨v7, rfl, ho7, hb7⟩
      obtain ⟨A7, c7, rfl, hc7, hC7⟩ := Kd.R_reads ho7
      have hn7 : ((ys.map toP).map toQ).length = n2 := by rw [List.length_map]; exact N2.out
      rw [hn7] at hc7 hC7 ⊢
      have N7 := Aside0.mk hn7
      clear hn7
      have D7 := Aside0.mk (And.intro hc7 hC7)
      have n6_ := Aside0.mk (Kd.R_below HO6.out hb7)
      have B57 := Aside0.mk (below_then B6.out B6.out.size hb7)
      clear hb7 ho7 HO6 hc7 hC7
      have HO6 := n6_
      clear n6_
      go_wp2_with ((with_reducible refine gate_builtin (b := .append) (xs := #[.tmp 49, .tmp 51]) rfl ?_); at_builtin; go_loud (refine R_append_rows_g k77 (w0 := w5) w5.heap.size ?hw (.tmp 49) (.tmp 51) 32 77 (.agg #[(.string ⟨#[]⟩), (.int .i64 0), (.int .i64 0), (.int .i64 0), (.string ⟨#[]⟩)]) 56 rfl Tryd.underlying32 info77 rfl (by decide) (by omega) v6 ((xs.map toP).map toQ) ((ys.map toP).map toQ) A7 n2 c7 (fun _ => True) (fun _ => False) rfl rfl ?aO ?aR (fun x cs h => k77_flat x cs h) (fun _ hk => hk.elim) (fun _ _ => trivial) ?aB ?aS ?aL ?_; (case hw => rfl); (case aO => exact HO6.out); (case aR => exact D7.out.2); (case aB => exact B57.out); (case aS => exact B57.out.size); (case aL => rw [List.length_map]; have := N1.out; omega); intro v8 w8 ho8 hb8 hg8 hat8; have HO8 := Aside0.mk ho8; have G8 := Aside0.mk hg8; have HB8 := Aside0.mk hb8; clear ho8 hb8 hg8 hat8))
      obtain ⟨A8, c8, rfl, hc8, hC8⟩ := Kd.R_reads HO8.out
      have hn8 : ((xs.map toP).map toQ ++ (ys.map toP).map toQ).length = n3 := by rw [← N3.out]; simp
      rw [hn8] at hc8 hC8 ⊢
      have N8 := Aside0.mk hn8
      refine (same_P A5 A8 n3 n3 c5 c8 (((xs ++ ys).map toP).map toQ) _ N5.out N5.out (Kd.C_below D5.out.2 HB8.out) D5.out.1 (by rw [List.map_append, List.map_append]; exact hC8) hc8 (by have := LZ.out; omega)).mono ?_
      rintro e w9 ⟨rfl, hb9⟩
      have B9 := Aside0.mk (below_then (below_then HB5.out HB5.out.size HB8.out) (Nat.le_trans HB5.out.size HB8.out.size) hb9)
      clear hb9 hc8 hC8
      go_wp2
      go_ret
      exact ⟨rfl, B9.out⟩
end Go.Proofs.YthaapijjjgkacaaDoor.Mine
