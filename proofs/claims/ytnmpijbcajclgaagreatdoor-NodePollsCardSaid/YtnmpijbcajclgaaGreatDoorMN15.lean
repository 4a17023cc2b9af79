/- Texts of one claim, one behind the other, made short by a program. -/
import Derived.Test.YtnmpijbcajclgaaGreatDoorMN14
import Derived.WalkSpells
set_option linter.unusedSimpArgs false
set_option linter.unusedVariables false
set_option maxRecDepth 100000
section
namespace Go.Proofs.YtnmpijbcajclgaaGreatDoor.Mine
open Go.Maps Go.RowKit YtnmpijbcajclgaaGreatDoorW.PrintWords YtnmpijbcajclgaaGreatDoorW.PrintLast YtnmpijbcajclgaaGreatDoorW.PrintMore
open PNodeAlone
open Value renaming slice → Vs
set_option maxHeartbeats 8000000 in
theorem wanted_nd (base g : Nat) (h : Hd) (N : NdM) (w : World) (hI : IsNd base w g h N) (hF : NdFit N) :
 Calls Tryz.prog 50 #[.pointer (some ⟨g, 0, none⟩)] w fun e w' => ∃ A n c ys, e = .returned (.slice A n c) ∧ n ≤ 10000 ∧ Sm ys ∧ Kd.C Kd.string w' A n ys ∧ Below w.heap.size w w' := by
 obtain ⟨A3, c3, hv3, hc3, hC3⟩ := Kd.R_reads hI.rows.sub
 have HV3 := mk0 hv3
 have HC3 := mk0 hC3
 have HF := mk0 hF
 have y5 := (hI.cell 5).trans (show _ = some (Vs none 0 0) from rfl)
 have y3 := (hI.cell 3).trans (show _ = some (Vs A3 N.subs.length c3) from by rw [← hv3]; rfl)
 clear hI hF hv3 hc3 hC3
 go_enter Tryz.func50, Tryz.ntmps50
 go_wp2_with fail
 refine (groups_nd g _ y5).mono ?_
 rintro e w1 ⟨rfl, rfl⟩
 go_wp2_with fail
 have HB := mk0 (Below.refl w1.heap.size w1)
 have HO : Aside0 (Kd.R Kd.string tS w1 w1.heap.size (fun _ => True) (.slice none 0 0) ([] : List ByteArray)) := ⟨Kd.R_nil _ _ _ _ _⟩
 obtain ⟨n, hn⟩ : ∃ n, n = N.subs.length := ⟨_, rfl⟩
 rw [← hn] at HC3 ⊢
 have HN := mk0 hn
 clear y3 hn
 go_loopg [3, 5, 15] (n + 1) (fun k v3 v5 v15 W => ∃ (i : Nat) (acc : List ByteArray), Aside0 (i ≤ n ∧ k + i = n + 1 ∧ acc.length ≤ 256 * i ∧ Sm acc) ∧ v15 = .int .i64 (i : Int) ∧ Aside0 (Kd.R Kd.string tS W w1.heap.size (fun _ => True) v3 acc) ∧ Aside0 (Below w1.heap.size w1 W))
 case atStart => exact ⟨0, [], ⟨by omega, by omega, by simp, Sm.nil⟩, rfl, HO, HB⟩
 case round =>
  clear HO HB
  obtain ⟨i, acc, HI, rfl, HO, HB⟩ := hrel
  by_cases hi : i < n
  ·
   have b1 : decide ((i : Int) < (n : Int)) = true := decide_eq_true (by omega)
   have b2 : decide (i < n) = true := decide_eq_true (by omega)
   have p1 : (0 : Int) ≤ (i : Int) := by omega
   have p2 : (i : Int) < (n : Int) := by omega
   obtain ⟨ad, x, B, b, D, e, hA, hx, h0, h1, h2, h3, hF, hG⟩ := at_Sub (Kd.C_below HC3.out HB.out) i hi
   cases hA
   have hm : x ∈ N.subs := List.mem_of_getElem? hx
   have HGL := mk0 (HF.out.grp x hm)
   have hG2 := hG.2
   clear hx hF hm hG
   go_upto_region 5 with (fail)
   have ha := below_alloc (Below.refl wr.heap.size wr) (.cells #[.int .i64 x.id, .string x.text, .slice B x.F.length b, .slice D x.G.length e] tSub)
   have hk := heap_alloc_new wr (.cells #[.int .i64 x.id, .string x.text, .slice B x.F.length b, .slice D x.G.length e] tSub)
   have n0_ := mk0 (below_then HB.out HB.out.size ha)
   have n1_ := mk0 (Kd.R_below HO.out ha)
   have HG := mk0 (Kd.C_below hG2 ha)
   clear HB HO h0 h1 h2 h3 hG2
   generalize wr.alloc (.cells #[.int .i64 x.id, .string x.text, .slice B x.F.length b, .slice D x.G.length e] tSub) = W4 at ha hk n0_ n1_ HG ⊢
   have HB := n0_
   have HO := n1_
   clear n0_ n1_ ha
   generalize wr.heap.size = gb at hk ⊢
   have e3 := (blk_cell hk 3).trans (show _ = some (Vs D x.G.length e) from rfl)
   have HL := mk0 (show (acc.length + x.G.length) * 16 ≤ 140737488355328 by have := HI.out; have := HGL.out; have := HF.out.nSub; have := HN.out; omega)
   clear hk
   go_wp2_with ((with_reducible refine gate_builtin (b := .append) (xs := #[.tmp 19, .tmp 21]) rfl ?_); at_builtin; go_loud (refine Kd.R_append_row Value.string ByteArray.empty (w0 := w1) w1.heap.size rfl (.tmp 19) (.tmp 21) 99 9 (.string ⟨#[]⟩) 16 ?ho Tryz.underlying99 infoS rfl (by omega) u3 acc x.G D x.G.length e (fun _ => True) ?hs ?hx (fun _ _ => trivial) HO.out HG.out HB.out HB.out.size ?hl ?_; (case ho => rfl); (case hs => first | rfl | (go_simp; done) | (go_simp; rfl)); (case hx => first | rfl | (go_simp; done) | (go_simp; rfl)); (case hl => have := HL.out; omega); intro v9 w9 ho hb hg hat; have n0_ := mk0 ho; have n1_ := mk0 hb; clear HB HO ho hb hg hat; have HO := n0_; have HB := n1_; clear n0_ n1_))
   go_roundg (gk - 1)
   case measure => have := HI.out; omega
   case rel => exact ⟨i + 1, acc ++ x.G, ⟨by omega, by have := HI.out; omega, by rw [List.length_append]; have := HI.out; have := HGL.out; omega, HI.out.2.2.2.app HGL.out.2⟩, by rw [w64 (by omega) (by have := HF.out.nSub; have := HN.out; omega)]; rfl, HO, HB⟩
  ·
   have b1 : decide ((i : Int) < (n : Int)) = false := decide_eq_false (by omega)
   have b2 : decide (i < n) = false := decide_eq_false (by omega)
   have hal : acc.length ≤ 10000 := by have := HI.out; have := HF.out.nSub; have := HN.out; omega
   obtain ⟨A7, c7, rfl, hc7, hC7⟩ := Kd.R_reads HO.out
   have HL := mk0 hal
   clear hc7 hC7 hal hi
   go_wp2_with fail
   refine (sort_str w1.heap.size _ HO.out (by have := HL.out; omega)).mono ?_
   rintro e w5 ⟨rfl, ⟨ys, hys, hsm, hR5⟩, hg5⟩
   have HSM := mk0 (hsm HI.out.2.2.2)
   have HB5 := mk0 (HB.out.grown hg5 HB.out.size (fun k hk => Kd.R_base HO.out k hk))
   have HR5 := mk0 hR5
   clear hys hsm hR5 hg5 HB HO
   go_wp2_with fail
   refine (compact_str w1.heap.size _ HR5.out (by have := HL.out; omega)).mono ?_
   rintro e w6 ⟨m, zs, rfl, hm, hzs, hsm, hR6, hg6⟩
   have hfin := And.intro (Nat.le_trans hm HL.out) (And.intro (hsm HSM.out) <| And.intro (show Kd.C Kd.string w6 A7 m zs from by have h := (Kd.R_reads' hR6).2.2; rwa [hzs] at h) (HB5.out.grown hg6 HB5.out.size (fun k hk => Kd.R_base HR5.out k hk)))
   clear hm hzs hsm hR6 hg6
   go_wp2
   go_ret
   exact ⟨A7, m, c7, zs, rfl, hfin⟩
theorem infoEv' : (Tryz.prog.info? 127).map (fun i => (i.zero, i.size, i.bytes)) = some (some (.agg #[(.int .i64 0), (.slice none 0 0), (.string ⟨#[]⟩), (.slice none 0 0)]), 4, 72) := by kernel_rfl
def zEv : MEv := ⟨0, [], ⟨#[]⟩, []⟩
def noWant (x : MEv) : Bool := decide ((x.want.length : Int) = 0)
set_option maxHeartbeats 8000000 in
theorem nowant_calls (q : Int) (V : Value) (pay : ByteArray) (D : Option Addr) (m e : Nat) (w : World) :
 Calls Tryz.prog 200 #[.agg #[.int .i64 q, V, .string pay, .slice D m e]] w fun r w' => r = .returned (.bool (decide ((m : Int) = 0))) ∧ Below w.heap.size w w' := by
 go_enter Tryz.func200, Tryz.ntmps200
 have ha := below_alloc (Below.refl w.heap.size w) (.cells #[.int .i64 q, V, .string pay, .slice D m e] tEv)
 have hk := heap_alloc_new w (.cells #[.int .i64 q, V, .string pay, .slice D m e] tEv)
 have e3 := (blk_cell hk 3).trans (show _ = some (Vs D m e) from rfl)
 have HB := mk0 ha
 clear hk ha
 go_wp2
 go_ret
 refine ⟨?_, HB.out⟩
 congr 2
set_option maxHeartbeats 8000000 in
theorem idx_ev (A : Option Addr) (n c : Nat) (L : List MEv) (w : World) (hr : Kd.C kEv w A n L) (hl : n ≤ 100000) :
 Calls Tryz.prog 236 #[.slice A n c, .func (.func 200) #[] #[]] w fun e w' => e = .returned (.int .i64 (idxFrom noWant L 0)) ∧ Below w.heap.size w w' := by
 have HR := mk0 hr
 have HN := mk0 hr.1
 clear hr
 go_enter Tryz.func236, Tryz.ntmps236
 go_wp2_with fail
 go_loopg [5, 8] (n + 1) (fun k v5 v8 W => ∃ i : Nat, Aside0 (i ≤ n ∧ k + i = n + 1 ∧ idxFrom noWant L 0 = idxFrom noWant (L.drop i) i) ∧ v8 = .int .i64 (i : Int) ∧ Aside0 (Below w.heap.size w W))
 case atStart => exact ⟨0, ⟨by omega, by omega, rfl⟩, rfl, ⟨Below.refl _ _⟩⟩
 case round =>
  obtain ⟨i, HM, rfl, HB⟩ := hrel
  by_cases hi : i < n
  ·
   have b1 : decide ((i : Int) < (n : Int)) = true := decide_eq_true (by omega)
   have b2 : decide (i < n) = true := decide_eq_true (by omega)
   have p1 : (0 : Int) ≤ (i : Int) := by omega
   have p2 : (i : Int) < (n : Int) := by omega
   obtain ⟨ad, x, B, b, D, e, hA, hx, h0, h1, h2, h3, hF, hG⟩ := at_Ev (Kd.C_below HR.out HB.out) i hi
   cases hA
   have HD := mk0 (show L.drop i = x :: L.drop (i + 1) from by obtain ⟨hj, e⟩ := List.getElem?_eq_some_iff.1 hx; rw [List.drop_eq_getElem_cons hj, e])
   clear hx hF hG
   go_wp2_with fail
   refine (nowant_calls x.seq (Vs B x.V.length b) x.pay D x.want.length e wr).mono ?_
   rintro r w2 ⟨rfl, hb⟩
   have n_ := mk0 (below_then HB.out HB.out.size hb)
   clear HB hb h0 h1 h2 h3
   have HB := n_
   clear n_
   cases hpx : noWant x with
   | true =>
    have hd : decide ((x.want.length : Int) = 0) = true := hpx
    have HX := mk0 hpx
    rw [hd]
    clear hpx hd
    go_wp2
    go_ret
    exact ⟨by rw [HM.out.2.2, HD.out]; simp [idxFrom, HX.out], HB.out⟩
   | false =>
    have hd : decide ((x.want.length : Int) = 0) = false := hpx
    have HX := mk0 hpx
    rw [hd]
    clear hpx hd
    go_wp2_with fail
    go_roundg (gk - 1)
    case measure => have := HM.out; omega
    case rel => exact ⟨i + 1, ⟨by omega, by have := HM.out; omega, by rw [HM.out.2.2, HD.out]; simp [idxFrom, HX.out]⟩, rfl, HB⟩
  ·
   have b1 : decide ((i : Int) < (n : Int)) = false := decide_eq_false (by omega)
   have b2 : decide (i < n) = false := decide_eq_false (by omega)
   have hend : idxFrom noWant L 0 = -1 := by rw [HM.out.2.2, List.drop_eq_nil_of_le (by have := HN.out; omega)]; rfl
   have HE := mk0 hend
   clear hend
   go_wp2
   go_ret
   exact ⟨by rw [HE.out]; rfl, HB.out⟩
set_option maxHeartbeats 8000000 in
theorem del_ev (base : Nat) (ok : Nat → Prop) (v : Value) (xs : List MEv) (w : World) (hR : Kd.R kEv tEv w base ok v xs) (hl : xs.length ≤ 100000) :
 Calls Tryz.prog 199 #[v, .func (.func 200) #[] #[]] w fun e w' => ∃ v', e = .returned v' ∧ Kd.R kEv tEv w' base ok v' (keepL noWant xs) ∧ w.grownBy w' v.ownBlock ∧ v'.ownBlock = v.ownBlock := by
 obtain ⟨A0, c0, rfl, hc0, hC0⟩ := Kd.R_reads hR
 have HR := mk0 hR
 have HL := mk0 hl
 clear hR hc0 hl
 go_enter Tryz.func199, Tryz.ntmps199
 go_wp2_with fail
 refine (idx_ev A0 xs.length c0 xs w hC0 HL.out).mono ?_
 rintro r w1 ⟨rfl, hb⟩
 have HB := mk0 hb
 clear hb hC0
 rcases idx_split noWant xs 0 with ⟨hi, hk⟩ | ⟨k, hi, hk, hs⟩
 ·
  have HK := mk0 hk
  rw [hi]
  clear hi hk
  go_wp2
  go_ret
  refine ⟨_, rfl, ?_, gby_below (World.grownBy.refl _ _) HB.out, rfl⟩
  rw [HK.out]
  exact Kd.R_below HR.out HB.out
 ·
  rw [hi]
  obtain ⟨g, cap, hv, hg, hglt, hgb⟩ := Kd.R_form HR.out (by omega)
  injection hv with hv1 hv2 hv3
  subst hv1 hv3
  have HDL : Aside0 (DelAt noWant xs xs k (k + 1)) := ⟨DelAt.start hk hs⟩
  have HR1 := mk0 (Kd.R_below HR.out HB.out)
  have HG1 := mk0 (show w.grownBy w1 (some g) from gby_below (World.grownBy.refl _ _) HB.out)
  have hk1 : k < xs.length := hk
  have e0 : ((0 + k : Nat) : Int) = (k : Int) := by omega
  rw [e0]
  obtain ⟨n, hn⟩ : ∃ n, n = xs.length := ⟨_, rfl⟩
  have HN := mk0 hn
  rw [← hn] at HR1 hk1 ⊢
  have hne : ((k : Int) == -1) = false := by rw [beq_eq_false_iff_ne]; omega
  clear hi hk hs hv2 hg hglt hgb hn e0
  go_wp2_with fail
  have HK1 := mk0 hk1
  clear HB HR hk1
  go_loopg [5, 6, 7] (n + 1) (fun kk v5 v6 v7 W => ∃ (i j : Nat) (C : List MEv), Aside0 (DelAt noWant xs C i j ∧ kk + j = n + k + 2 ∧ i < j) ∧ v5 = .int .i64 (i : Int) ∧ v6 = .int .i64 (j : Int) ∧ Aside0 (Kd.R kEv tEv W base ok (.slice (some ⟨g, 0, none⟩) n c0) C) ∧ Aside0 (w.grownBy W (some g)))
  case atStart => exact ⟨k, k + 1, xs, ⟨HDL.out, by omega, by omega⟩, rfl, by rw [w64 (by omega) (by have := HL.out; have := HN.out; have := HK1.out; omega)]; rfl, HR1, HG1⟩
  case round =>
   clear HDL HR1 HG1
   obtain ⟨i, j, C, HM, rfl, rfl, HR, HG⟩ := hrel
   by_cases hi : j < n
   ·
    have b1 : decide ((j : Int) < (n : Int)) = true := decide_eq_true (by omega)
    have b2 : decide (j < n) = true := decide_eq_true (by omega)
    have p1 : (0 : Int) ≤ (j : Int) := by omega
    have p2 : (j : Int) < (n : Int) := by omega
    have hcn := (Kd.R_reads' HR.out).1
    obtain ⟨cj, hcl, hM, hcc, _⟩ := Kd.R_elem HR.out zEv (j : Int) p1 p2
    rw [Int.toNat_natCast] at hM hcc
    have hx : C[j]? = some (C.getD j zEv) := by rw [List.getD_eq_getElem?_getD, List.getElem?_eq_getElem (by omega)]; rfl
    have HX := mk0 (And.intro hx (HM.out.1.at' hx))
    clear hx
    generalize C.getD j zEv = x at hM HX
    obtain ⟨v, u, rfl, hV, hW⟩ := kEv_openM hM
    obtain ⟨B, b, rfl, _, _⟩ := Kd.R_reads hV
    obtain ⟨D, e, rfl, _, _⟩ := Kd.R_reads hW
    have h0 : wr.cell? ⟨g, j * 4, none⟩ = some (Value.int .i64 x.seq) := hcc 0 _ rfl
    have h1 : wr.cell? ⟨g, j * 4 + 1, none⟩ = some (Vs B x.V.length b) := hcc 1 _ rfl
    have h2 : wr.cell? ⟨g, j * 4 + 2, none⟩ = some (Value.string x.pay) := hcc 2 _ rfl
    have h3 : wr.cell? ⟨g, j * 4 + 3, none⟩ = some (Vs D x.want.length e) := hcc 3 _ rfl
    have HMM := mk0 hM
    clear hM hcc hcl hV hW hcn
    go_upto_region 8 with (fail)
    have ha := below_alloc (Below.refl wr.heap.size wr) (.cells #[.int .i64 x.seq, .slice B x.V.length b, .string x.pay, .slice D x.want.length e] tEv)
    have hk := heap_alloc_new wr (.cells #[.int .i64 x.seq, .slice B x.V.length b, .string x.pay, .slice D x.want.length e] tEv)
    have n0_ := mk0 (Kd.R_below HR.out ha)
    have n1_ := mk0 (gby_below HG.out ha)
    have n2_ := mk0 (Kd.M_below HMM.out ha)
    clear HR HG HMM h0 h1 h2 h3
    generalize wr.alloc (.cells #[.int .i64 x.seq, .slice B x.V.length b, .string x.pay, .slice D x.want.length e] tEv) = W4 at ha hk n0_ n1_ n2_ ⊢
    have HR := n0_
    have HG := n1_
    have HMM := n2_
    clear n0_ n1_ n2_ ha
    generalize wr.heap.size = gb at hk ⊢
    have e0 := (blk_cell hk 0).trans (show _ = some (Value.int .i64 x.seq) from rfl)
    have e1 := (blk_cell hk 1).trans (show _ = some (Vs B x.V.length b) from rfl)
    have e2 := (blk_cell hk 2).trans (show _ = some (Value.string x.pay) from rfl)
    have e3 := (blk_cell hk 3).trans (show _ = some (Vs D x.want.length e) from rfl)
    clear hk
    go_wp2_with fail
    refine (nowant_calls x.seq (Vs B x.V.length b) x.pay D x.want.length e W4).mono ?_
    rintro r w2 ⟨rfl, hb⟩
    have n0_ := mk0 (Kd.R_below HR.out hb)
    have n1_ := mk0 (gby_below HG.out hb)
    have n2_ := mk0 (Kd.M_below HMM.out hb)
    replace e0 := (hb.cell (World.block_lt_of_cell? W4 _ e0)).trans e0
    replace e1 := (hb.cell (World.block_lt_of_cell? W4 _ e1)).trans e1
    replace e2 := (hb.cell (World.block_lt_of_cell? W4 _ e2)).trans e2
    replace e3 := (hb.cell (World.block_lt_of_cell? W4 _ e3)).trans e3
    clear HR HG HMM hb
    have HR := n0_
    have HG := n1_
    have HMM := n2_
    clear n0_ n1_ n2_
    cases hpx : noWant x with
    | true =>
     have hd : decide ((x.want.length : Int) = 0) = true := hpx
     have HP := mk0 hpx
     rw [hd]
     clear hpx hd e0 e1 e2 e3
     go_wp2_with fail
     go_roundg (gk - 1)
     case measure => have := HM.out; omega
     case rel => exact ⟨i, j + 1, C, ⟨HM.out.1.skip HX.out.2 HP.out, by have := HM.out.2; omega, by have := HM.out.2; omega⟩, rfl, by rw [w64 (by omega) (by have := HL.out; have := HN.out; omega)]; rfl, HR, HG⟩
    | false =>
     have hd : decide ((x.want.length : Int) = 0) = false := hpx
     have HP := mk0 hpx
     rw [hd]
     clear hpx hd
     have q1 : (0 : Int) ≤ (i : Int) := by omega
     have q2 : (i : Int) < (n : Int) := by have := HM.out.1.le; omega
     obtain ⟨ci, hcl, _, hcc, _⟩ := Kd.R_elem HR.out zEv (i : Int) q1 q2
     have HFM := mk0 (show kEv.M w2 base (fun k => ok k ∧ k ≠ g) x (ci.take 0 ++ [.int .i64 x.seq, .slice B x.V.length b, .string x.pay, .slice D x.want.length e] ++ ci.drop (0 + 4)) from by rw [show List.drop (0 + 4) ci = [] from List.drop_eq_nil_of_le (Nat.le_of_eq hcl)]; exact HMM.out)
     have HON : Aside0 (∀ q ∈ [Value.int .i64 x.seq, .slice B x.V.length b, .string x.pay, .slice D x.want.length e], q.oneCell' = true) := ⟨by intro q hq; simp only [List.mem_cons, List.not_mem_nil, or_false] at hq; rcases hq with rfl | rfl | rfl | rfl <;> rfl⟩
     have HCI := mk0 (And.intro hcl hcc)
     clear hcl hcc HMM
     go_wp2_with ((with_reducible refine gate_ (.store tEv (.tmp 33) (.tmp 32)) rfl ?_); go_loud (refine Kd.R_store kEv (w0 := w2) (o' := i * 4) base rfl rfl tEv (.tmp 33) (.tmp 32) rfl tEv (i : Int) 0 C x (.agg #[.int .i64 x.seq, .slice B x.V.length b, .string x.pay, .slice D x.want.length e]) [.int .i64 x.seq, .slice B x.V.length b, .string x.pay, .slice D x.want.length e] ci ok (fun k => ok k ∧ k ≠ g) ?hp ?hoff ?hx rfl ?ht ?h1 HR.out q1 q2 HCI.out.1 HCI.out.2 ?hj ?hM (fun _ hk => hk) (Below.refl _ _) ?_; (case hp => first | rfl | (go_simp; done) | (go_simp; rfl)); (case hoff => rfl); (case hx => first | rfl | (go_simp; done) | (go_simp; rfl)); (case ht => kernel_rfl); (case h1 => exact HON.out); (case hj => exact Nat.le_refl _); (case hM => exact HFM.out); intro w9 ho hb hg; have n0_ := mk0 ho; have n1_ := mk0 (grownBy_tr HG.out hg); clear HR HG HFM HCI HON ho hb hg; have HR := n0_; have HG := n1_; clear n0_ n1_))
     go_roundg (gk - 1)
     case measure => have := HM.out; omega
     case rel => exact ⟨i + 1, j + 1, C.set i x, ⟨HM.out.1.keep HX.out.2 HP.out, by have := HM.out.2; omega, by have := HM.out.2; omega⟩, by rw [w64 (by omega) (by have := HL.out; have := HN.out; omega)]; rfl, by rw [w64 (by omega) (by have := HL.out; have := HN.out; omega)]; rfl, HR, HG⟩
   ·
    have b1 : decide ((j : Int) < (n : Int)) = false := decide_eq_false (by omega)
    have b2 : decide (j < n) = false := decide_eq_false (by omega)
    have hjn : j = n := by have := HM.out.1.jle; have := HN.out; omega
    subst hjn
    have hij := HM.out.2.2
    obtain ⟨hcn, hc0, _⟩ := Kd.R_reads' HR.out
    obtain ⟨tI, htI, hts, htz⟩ := zero_info infoEv'
    have hS1 : ∀ W : World, (Instr.slice 111 (.slice (some ⟨g, 0, none⟩) j c0) (some (.int .i64 (i : Int))) none none).run Tryz.prog W = .ok (.slice (some ⟨g, i * 4, none⟩) (j - i) (c0 - i)) W := by
     intro W
     rw [cut_from (P := Tryz.prog) 111 tEv .i64 Tryz.underlying111 htI 4 hts (some ⟨g, 0, none⟩) j c0 (i : Int) (by omega) (by omega) W, Int.toNat_natCast, if_neg (by omega)]
     rw [Option.map_some, add_plain]
    have hS2 : ∀ W : World, (Instr.slice 111 (.slice (some ⟨g, 0, none⟩) j c0) none (some (.int .i64 (i : Int))) none).run Tryz.prog W = .ok (.slice (some ⟨g, 0, none⟩) i c0) W := by
     intro W
     rw [cut_to (P := Tryz.prog) 111 tEv .i64 Tryz.underlying111 htI (some ⟨g, 0, none⟩) j c0 (i : Int) (by omega) (by omega) hc0 W, Int.toNat_natCast]
    obtain ⟨hcl, hzl⟩ := clear_own HR.out i hij 111 0 _ (c0 - i) Tryz.underlying111 htz rfl (by decide) (by decide)
    have hCl : ∀ ty, (Builtin.clear_ #[111] ty #[.slice (some ⟨g, i * 4, none⟩) (j - i) (c0 - i)]).run Tryz.prog wr = .ok (.tuple #[]) (wr.setCells g (i * 4) (Builtin.zeroCells (Value.agg #[(.int .i64 0), (.slice none 0 0), (.string ⟨#[]⟩), (.slice none 0 0)]).cells (j - i)).toList) := fun ty => (clear_own HR.out i hij 111 ty _ (c0 - i) Tryz.underlying111 htz rfl (by decide) (by decide)).1
    generalize (Builtin.zeroCells (Value.agg #[(.int .i64 0), (.slice none 0 0), (.string ⟨#[]⟩), (.slice none 0 0)]).cells (j - i)).toList = zc at hCl hzl
    have hfin := R_behind HR.out (Nat.le_of_lt hij) (show C.take i = keepL noWant xs from DelAt.done (by rw [← HN.out]; exact HM.out.1)) zc hzl (by omega)
    have HFIN := mk0 (And.intro hfin.1 (grownBy_tr HG.out hfin.2))
    clear hcl hzl hfin hcn hc0 hij htI htz hts HR HG HM
    go_wp2
    go_ret
    exact ⟨_, rfl, HFIN.out.1, HFIN.out.2, rfl⟩
def isQ (q y : ByteArray) : Bool := y.toList == q.toList
theorem infoS' : (Tryz.prog.info? 9).map (fun i => (i.zero, i.size, i.bytes)) = some (some (.string ⟨#[]⟩), 1, 16) := by kernel_rfl
set_option maxHeartbeats 8000000 in
theorem isq_calls (q y : ByteArray) (gm : Nat) (w : World) (hc : w.cell? ⟨gm, 1, none⟩ = some (.string q)) :
 Calls Tryz.prog 198 #[.string y, .pointer (some ⟨gm, 0, none⟩)] w fun r w' => r = .returned (.bool (isQ q y)) ∧ Below w.heap.size w w' := by
 go_enter Tryz.func198, Tryz.ntmps198
 have HB := mk0 (Below.refl w.heap.size w)
 go_wp2
 go_ret
 refine ⟨?_, HB.out⟩
 congr 2
set_option maxHeartbeats 8000000 in
theorem idx_s (q : ByteArray) (gm : Nat) (A : Option Addr) (n c : Nat) (L : List ByteArray) (w : World) (hr : Kd.C Kd.string w A n L) (hl : n ≤ 100000) (hc : w.cell? ⟨gm, 1, none⟩ = some (.string q)) :
 Calls Tryz.prog 223 #[.slice A n c, .func (.func 198) #[] #[.pointer (some ⟨gm, 0, none⟩)]] w fun e w' => e = .returned (.int .i64 (idxFrom (isQ q) L 0)) ∧ Below w.heap.size w w' := by
 have HR := mk0 hr
 have HN := mk0 hr.1
 have HC := mk0 hc
 clear hr hc
 go_enter Tryz.func223, Tryz.ntmps223
 go_wp2_with fail
 go_loopg [5, 8] (n + 1) (fun k v5 v8 W => ∃ i : Nat, Aside0 (i ≤ n ∧ k + i = n + 1 ∧ idxFrom (isQ q) L 0 = idxFrom (isQ q) (L.drop i) i) ∧ v8 = .int .i64 (i : Int) ∧ Aside0 (Below w.heap.size w W))
 case atStart => exact ⟨0, ⟨by omega, by omega, rfl⟩, rfl, ⟨Below.refl _ _⟩⟩
 case round =>
  obtain ⟨i, HM, rfl, HB⟩ := hrel
  by_cases hi : i < n
  ·
   have b1 : decide ((i : Int) < (n : Int)) = true := decide_eq_true (by omega)
   have b2 : decide (i < n) = true := decide_eq_true (by omega)
   have p1 : (0 : Int) ≤ (i : Int) := by omega
   have p2 : (i : Int) < (n : Int) := by omega
   obtain ⟨ad, x, hA, hx, h0⟩ := at_Str (Kd.C_below HR.out HB.out) i hi
   cases hA
   have HD := mk0 (show L.drop i = x :: L.drop (i + 1) from by obtain ⟨hj, e⟩ := List.getElem?_eq_some_iff.1 hx; rw [List.drop_eq_getElem_cons hj, e])
   clear hx
   go_wp2_with fail
   refine (isq_calls q x gm wr ((HB.out.cell (World.block_lt_of_cell? w _ HC.out)).trans HC.out)).mono ?_
   rintro r w2 ⟨rfl, hb⟩
   have n_ := mk0 (below_then HB.out HB.out.size hb)
   clear HB hb h0
   have HB := n_
   clear n_
   cases hpx : (isQ q) x with
   | true =>
    have HX := mk0 hpx
    clear hpx
    go_wp2
    go_ret
    exact ⟨by rw [HM.out.2.2, HD.out]; simp [idxFrom, HX.out], HB.out⟩
   | false =>
    have HX := mk0 hpx
    clear hpx
    go_wp2_with fail
    go_roundg (gk - 1)
    case measure => have := HM.out; omega
    case rel => exact ⟨i + 1, ⟨by omega, by have := HM.out; omega, by rw [HM.out.2.2, HD.out]; simp [idxFrom, HX.out]⟩, rfl, HB⟩
  ·
   have b1 : decide ((i : Int) < (n : Int)) = false := decide_eq_false (by omega)
   have b2 : decide (i < n) = false := decide_eq_false (by omega)
   have hend : idxFrom (isQ q) L 0 = -1 := by rw [HM.out.2.2, List.drop_eq_nil_of_le (by have := HN.out; omega)]; rfl
   have HE := mk0 hend
   clear hend
   go_wp2
   go_ret
   exact ⟨by rw [HE.out]; rfl, HB.out⟩
set_option maxHeartbeats 8000000 in
theorem del_s (q : ByteArray) (gm : Nat) (base : Nat) (ok : Nat → Prop) (v : Value) (xs : List ByteArray) (w : World) (hR : Kd.R Kd.string tS w base ok v xs) (hl : xs.length ≤ 100000) (hc : w.cell? ⟨gm, 1, none⟩ = some (.string q)) (hne : some gm ≠ v.ownBlock) :
 Calls Tryz.prog 197 #[v, .func (.func 198) #[] #[.pointer (some ⟨gm, 0, none⟩)]] w fun e w' => ∃ v', e = .returned v' ∧ Kd.R Kd.string tS w' base ok v' (keepL (isQ q) xs) ∧ w.grownBy w' v.ownBlock ∧ v'.ownBlock = v.ownBlock := by
 obtain ⟨A0, c0, rfl, hc0, hC0⟩ := Kd.R_reads hR
 have HR := mk0 hR
 have HL := mk0 hl
 have HC := mk0 hc
 have HNE := mk0 hne
 clear hR hc0 hl hc hne
 go_enter Tryz.func197, Tryz.ntmps197
 go_wp2_with fail
 refine (idx_s q gm A0 xs.length c0 xs w hC0 HL.out HC.out).mono ?_
 rintro r w1 ⟨rfl, hb⟩
 have HB := mk0 hb
 clear hb hC0
 rcases idx_split (isQ q) xs 0 with ⟨hi, hk⟩ | ⟨k, hi, hk, hs⟩
 ·
  have HK := mk0 hk
  rw [hi]
  clear hi hk
  go_wp2
  go_ret
  refine ⟨_, rfl, ?_, gby_below (World.grownBy.refl _ _) HB.out, rfl⟩
  rw [HK.out]
  exact Kd.R_below HR.out HB.out
 ·
  rw [hi]
  obtain ⟨g, cap, hv, hg, hglt, hgb⟩ := Kd.R_form HR.out (by omega)
  injection hv with hv1 hv2 hv3
  subst hv1 hv3
  have HDL : Aside0 (DelAt (isQ q) xs xs k (k + 1)) := ⟨DelAt.start hk hs⟩
  have HR1 := mk0 (Kd.R_below HR.out HB.out)
  have HG1 := mk0 (show w.grownBy w1 (some g) from gby_below (World.grownBy.refl _ _) HB.out)
  have hk1 : k < xs.length := hk
  have e0 : ((0 + k : Nat) : Int) = (k : Int) := by omega
  rw [e0]
  obtain ⟨n, hn⟩ : ∃ n, n = xs.length := ⟨_, rfl⟩
  have HN := mk0 hn
  rw [← hn] at HR1 hk1 ⊢
  have hne : ((k : Int) == -1) = false := by rw [beq_eq_false_iff_ne]; omega
  clear hi hk hs hv2 hg hglt hgb hn e0
  go_wp2_with fail
  have HK1 := mk0 hk1
  clear HB HR hk1
  go_loopg [5, 6, 7] (n + 1) (fun kk v5 v6 v7 W => ∃ (i j : Nat) (C : List ByteArray), Aside0 (DelAt (isQ q) xs C i j ∧ kk + j = n + k + 2 ∧ i < j) ∧ v5 = .int .i64 (i : Int) ∧ v6 = .int .i64 (j : Int) ∧ Aside0 (Kd.R Kd.string tS W base ok (.slice (some ⟨g, 0, none⟩) n c0) C) ∧ Aside0 (w.grownBy W (some g)))
  case atStart => exact ⟨k, k + 1, xs, ⟨HDL.out, by omega, by omega⟩, rfl, by rw [w64 (by omega) (by have := HL.out; have := HN.out; have := HK1.out; omega)]; rfl, HR1, HG1⟩
  case round =>
   clear HDL HR1 HG1
   obtain ⟨i, j, C, HM, rfl, rfl, HR, HG⟩ := hrel
   by_cases hi : j < n
   ·
    have b1 : decide ((j : Int) < (n : Int)) = true := decide_eq_true (by omega)
    have b2 : decide (j < n) = true := decide_eq_true (by omega)
    have p1 : (0 : Int) ≤ (j : Int) := by omega
    have p2 : (j : Int) < (n : Int) := by omega
    have hcn := (Kd.R_reads' HR.out).1
    obtain ⟨ad, x, hA, hx, h0⟩ := at_Str (Kd.R_reads' HR.out).2.2 j (by rw [← hcn]; exact hi)
    cases hA
    have HX := mk0 (And.intro hx (HM.out.1.at' hx))
    rw [add_plain] at h0
    have HC1 := mk0 (HG.out.cell HC.out HNE.out)
    clear hx hcn
    go_upto_region 8 with (fail)
    go_wp2_with fail
    refine (isq_calls q x gm wr HC1.out).mono ?_
    rintro r w2 ⟨rfl, hb⟩
    have n0_ := mk0 (Kd.R_below HR.out hb)
    have n1_ := mk0 (gby_below HG.out hb)
    clear HR HG hb h0 HC1
    have HR := n0_
    have HG := n1_
    clear n0_ n1_
    cases hpx : (isQ q) x with
    | true =>
     have HP := mk0 hpx
     clear hpx
     go_wp2_with fail
     go_roundg (gk - 1)
     case measure => have := HM.out; omega
     case rel => exact ⟨i, j + 1, C, ⟨HM.out.1.skip HX.out.2 HP.out, by have := HM.out.2; omega, by have := HM.out.2; omega⟩, rfl, by rw [w64 (by omega) (by have := HL.out; have := HN.out; omega)]; rfl, HR, HG⟩
    | false =>
     have HP := mk0 hpx
     clear hpx
     have q1 : (0 : Int) ≤ (i : Int) := by omega
     have q2 : (i : Int) < (n : Int) := by have := HM.out.1.le; omega
     obtain ⟨ci, hcl, _, hcc, _⟩ := Kd.R_elem HR.out ⟨#[]⟩ (i : Int) q1 q2
     have HFM := mk0 (show Kd.string.M w2 base (fun k => ok k ∧ k ≠ g) x (ci.take 0 ++ [.string x] ++ ci.drop (0 + 1)) from by rw [show List.drop (0 + 1) ci = [] from List.drop_eq_nil_of_le (Nat.le_of_eq hcl)]; exact rfl)
     have HON : Aside0 (∀ q ∈ [Value.string x], q.oneCell' = true) := ⟨by intro q hq; simp only [List.mem_cons, List.not_mem_nil, or_false] at hq; subst hq; rfl⟩
     have HCI := mk0 (And.intro hcl hcc)
     have HOF : Aside0 (i = (i : Int).toNat * Kd.string.sz + 0) := ⟨by rw [Int.toNat_natCast]; show i = i * 1 + 0; omega⟩
     clear hcl hcc
     go_wp2_with ((with_reducible refine gate_ (.store tS (.tmp 33) (.tmp 32)) rfl ?_); go_loud (refine Kd.R_store Kd.string (w0 := w2) (o' := i) base rfl rfl tS (.tmp 33) (.tmp 32) rfl tS (i : Int) 0 C x (.string x) [.string x] ci ok (fun k => ok k ∧ k ≠ g) ?hp ?hoff ?hx rfl ?ht ?h1 HR.out q1 q2 HCI.out.1 HCI.out.2 ?hj ?hM (fun _ hk => hk) (Below.refl _ _) ?_; (case hp => first | rfl | (go_simp; done) | (go_simp; rfl)); (case hoff => exact HOF.out); (case hx => first | rfl | (go_simp; done) | (go_simp; rfl)); (case ht => kernel_rfl); (case h1 => exact HON.out); (case hj => exact Nat.le_refl _); (case hM => exact HFM.out); intro w9 ho hb hg; have n0_ := mk0 ho; have n1_ := mk0 (grownBy_tr HG.out hg); clear HR HG HFM HCI HON ho hb hg; have HR := n0_; have HG := n1_; clear n0_ n1_))
     go_roundg (gk - 1)
     case measure => have := HM.out; omega
     case rel => exact ⟨i + 1, j + 1, C.set i x, ⟨HM.out.1.keep HX.out.2 HP.out, by have := HM.out.2; omega, by have := HM.out.2; omega⟩, by rw [w64 (by omega) (by have := HL.out; have := HN.out; omega)]; rfl, by rw [w64 (by omega) (by have := HL.out; have := HN.out; omega)]; rfl, HR, HG⟩
   ·
    have b1 : decide ((j : Int) < (n : Int)) = false := decide_eq_false (by omega)
    have b2 : decide (j < n) = false := decide_eq_false (by omega)
    have hjn : j = n := by have := HM.out.1.jle; have := HN.out; omega
    subst hjn
    have hij := HM.out.2.2
    obtain ⟨hcn, hc0, _⟩ := Kd.R_reads' HR.out
    obtain ⟨tI, htI, hts, htz⟩ := zero_info infoS'
    have hS1 : ∀ W : World, (Instr.slice 99 (.slice (some ⟨g, 0, none⟩) j c0) (some (.int .i64 (i : Int))) none none).run Tryz.prog W = .ok (.slice (some ⟨g, i, none⟩) (j - i) (c0 - i)) W := by
     intro W
     rw [cut_from (P := Tryz.prog) 99 tS .i64 Tryz.underlying99 htI 1 hts (some ⟨g, 0, none⟩) j c0 (i : Int) (by omega) (by omega) W, Int.toNat_natCast, if_neg (by omega)]
     rw [Option.map_some, add_plain, Nat.mul_one]
    have hS2 : ∀ W : World, (Instr.slice 99 (.slice (some ⟨g, 0, none⟩) j c0) none (some (.int .i64 (i : Int))) none).run Tryz.prog W = .ok (.slice (some ⟨g, 0, none⟩) i c0) W := by
     intro W
     rw [cut_to (P := Tryz.prog) 99 tS .i64 Tryz.underlying99 htI (some ⟨g, 0, none⟩) j c0 (i : Int) (by omega) (by omega) hc0 W, Int.toNat_natCast]
    have kz : i * Kd.string.sz = i := Nat.mul_one i
    obtain ⟨hcl, hzl⟩ := clear_own HR.out i hij 99 0 _ (c0 - i) Tryz.underlying99 htz rfl (by decide) (by decide)
    have hCl : ∀ ty, (Builtin.clear_ #[99] ty #[.slice (some ⟨g, i, none⟩) (j - i) (c0 - i)]).run Tryz.prog wr = .ok (.tuple #[]) (wr.setCells g i (Builtin.zeroCells (Value.string ⟨#[]⟩).cells (j - i)).toList) := fun ty => by have h := (clear_own HR.out i hij 99 ty _ (c0 - i) Tryz.underlying99 htz rfl (by decide) (by decide)).1; rw [kz] at h; exact h
    generalize (Builtin.zeroCells (Value.string ⟨#[]⟩).cells (j - i)).toList = zc at hCl hzl
    have hfin := R_behind HR.out (Nat.le_of_lt hij) (show C.take i = keepL (isQ q) xs from DelAt.done (by rw [← HN.out]; exact HM.out.1)) zc hzl (by omega)
    rw [kz] at hfin
    have HFIN := mk0 (And.intro hfin.1 (grownBy_tr HG.out hfin.2))
    clear hcl hzl hfin kz hcn hc0 hij htI htz hts HR HG HM
    go_wp2
    go_ret
    exact ⟨_, rfl, HFIN.out.1, HFIN.out.2, rfl⟩
theorem wrap_u64' (n : Nat) (h : n < 18446744073709551616) : IntKind.u64.wrap (n : Int) = (n : Int) := by rw [IntKind.wrap_u64]; omega
theorem or_odd (x : Int) : Go.bits .and .u64 (Go.bits .or .u64 x 1) 1 = 1 := by
 show IntKind.u64.wrap (((BitVec.ofInt 64 (IntKind.u64.wrap ((BitVec.ofInt 64 x ||| BitVec.ofInt 64 1).toNat : Int))) &&& BitVec.ofInt 64 1).toNat : Int) = 1
 rw [wrap_u64' _ (BitVec.ofInt 64 x ||| BitVec.ofInt 64 1).isLt, BitVec.ofInt_natCast, BitVec.ofNat_toNat, BitVec.setWidth_eq]
 have : (BitVec.ofInt 64 x ||| BitVec.ofInt 64 1) &&& BitVec.ofInt 64 1 = 1#64 := by
  have e1 : BitVec.ofInt 64 1 = 1#64 := by decide
  rw [e1]
  ext i hi
  simp only [BitVec.getElem_and, BitVec.getElem_or]
  cases (BitVec.ofInt 64 x)[i] <;> simp
 rw [this]
 decide
theorem one_odd : Go.bits .and .u64 1 1 = 1 := by decide
theorem keyA {a : Int} (h : 0 ≤ a ∧ a < 32) : keyOf Tryz.prog 3 (kI a) = some (.int .i64 a) := keyInt (by simp [Lit.wf, IntKind.min, IntKind.max, IntKind.signed, IntKind.bits]; omega)
theorem zeroOne (w : World) : (zeroValue 353).run Tryz.prog w = .ok (.agg #[.int .i64 0, .int .u64 0]) w := by kernel_rfl
def NdM.saw (N : NdM) (q : Int) : NdM := { N with seen := some q }
set_option maxHeartbeats 8000000 in
theorem come_twice (base g : Nat) (h : Hd) (N : NdM) (q : Int) (w : World) (hI : IsNd base w g h N) (ha : 0 ≤ N.addr ∧ N.addr < 32) (hq : 1 ≤ q ∧ q ≤ 1073741824) (hs : N.seen = some q) :
 Calls Tryz.prog 222 #[.pointer (some ⟨g, 6, none⟩), .int .i64 N.addr, .int .i64 q] w fun e w' => e = .returned (.tuple #[.int .i64 2, .nilIface]) ∧ Below w.heap.size w w' := by
 obtain ⟨b, c0, n, hvm, hbb, hM, hn, hodd⟩ := (hI.rows.seen.yes q hs).is
 have y6 := (hI.cell 6).trans (show _ = some (Value.map (some b)) from by rw [← hvm]; rfl)
 have hlk : (Instr.lookup 108 (.map (some b)) (.int .i64 N.addr) false).run Tryz.prog w = .ok (.agg #[.int .i64 q, .int .u64 c0]) w := by
  have := hM.look1 lawInt Tryz.underlying108 (zeroOne w) (keyA ha)
  rw [if_pos rfl] at this
  exact this
 obtain ⟨l0, hl0⟩ : ∃ x, x = q := ⟨_, rfl⟩
 rw [← hl0] at hlk
 have HOD := mk0 hodd
 have HL0 := mk0 hl0
 clear hl0 hI hs hvm hbb hM hn hodd
 have c1 : decide (N.addr < 0) = false := decide_eq_false (by omega)
 have c2 : decide (32 ≤ N.addr) = false := decide_eq_false (by omega)
 have c3 : decide (q < 1) = false := decide_eq_false (by omega)
 have c4 : decide (1073741824 < q) = false := decide_eq_false (by omega)
 have HSB := mk0 (show wrap64 (q - l0) = q - l0 from w64 (by have := HL0.out; omega) (by have := HL0.out; omega))
 clear ha hq
 have hqm : ∀ (w : World) (r : Option Nat), (binOp .eql 108 (.map r) (.map none)).run Tryz.prog w = .ok (.bool r.isNone) w := fun w r => run_eql_map_nil w _ _ _ r Tryz.underlying108
 go_enter Tryz.func222, Tryz.ntmps222
 go_upto_region 4 with (fail)
 have HB := mk0 (below_alloc (Below.refl w.heap.size w) (.cells #[.int .i64 l0, .int .u64 c0] 353))
 have HK := mk0 (heap_alloc_new w (.cells #[.int .i64 l0, .int .u64 c0] 353))
 generalize w.alloc (.cells #[.int .i64 l0, .int .u64 c0] 353) = W1 at HB HK ⊢
 obtain ⟨g1, hg1⟩ : ∃ x, x = w.heap.size := ⟨_, rfl⟩
 rw [← hg1] at HK ⊢
 have HG1 := mk0 hg1
 clear hg1 c1 c2 c3 c4
 have e0 := (blk_cell HK.out 0).trans (show _ = some (Value.int .i64 l0) from rfl)
 have e1 := (blk_cell HK.out 1).trans (show _ = some (Value.int .u64 c0) from rfl)
 have f0 := blk_frozen HK.out 0
 have f1 := blk_frozen HK.out 1
 have hz : wrap64 (q - l0) = 0 := by rw [HSB.out]; have := HL0.out; omega
 have ho := HOD.out
 go_wp2
 go_ret2
 exact ⟨rfl, HB.out⟩
theorem R_turn {α : Type} {d : Kd α} {e b' : Nat} {ok : Nat → Prop} {w w1 : World} {v : Value} {xs : List α} {b : Nat} {es : Array MapEntry} {cl : Nat} (h : Kd.R d e w b' ok v xs) (hm : w.heap[b]? = some (Obj.map es cl)) (hg : w.grownBy w1 (some b)) : Kd.R d e w1 b' ok v xs :=
 Kd.R_mono (Kd.R_move (Kd.R_bound h) (fun k hk => hg.block k hk.2.2.1 (fun e => by
  obtain rfl := Option.some.inj e
  obtain ⟨_, _, _, q, _, cells, hc⟩ := hk
  rw [hm] at hc
  cases hc))) (fun _ hk => hk.1)
theorem saw_fin {base g b n : Nat} {h : Hd} {N : NdM} {q cc : Int} {f : Int → Option Value} {w w1 : World} (hr : RowsOf base w h N) (hk : w.heap[g]? = some (.cells (ndCells { h with vm := .map (some b) } N) tN (0, 0))) (hM : MapIs Tryz.prog 3 kI w1 b n (upd f N.addr (some (.agg #[.int .i64 q, .int .u64 cc])))) {es : Array MapEntry} {cl : Nat} (ho : w.heap[b]? = some (Obj.map es cl)) (hg : w.grownBy w1 (some b)) (hbb : base ≤ b) (hbl : h.bl ≠ b) (hf : ∀ x, x ≠ N.addr → f x = none) (hn : (n : Int) ≤ q) (hodd : Go.bits .and .u64 cc 1 = 1) (hgb : base ≤ g) :
 IsNd base w1 g { h with vm := .map (some b) } (N.saw q) := by
 have e : upd f N.addr (some (.agg #[.int .i64 q, .int .u64 cc])) = (fun x => if x = N.addr then some (.agg #[.int .i64 q, .int .u64 cc]) else none) := by
  funext x
  unfold upd
  by_cases hx : x = N.addr
  ·
   rw [if_pos hx, if_pos hx]
  ·
   rw [if_neg hx, if_neg hx, hf x hx]
 rw [e] at hM
 have hgne : g ≠ b := by
  rintro rfl
  rw [hk] at ho
  cases ho
 refine ⟨(hg.block g (blk_lt hk) (fun e => hgne (Option.some.inj e))).trans hk, hgb, ⟨R_turn hr.sch ho hg, R_turn hr.sub ho hg, ⟨fun hs => (by cases hs), fun q' hq' => ⟨b, cc, n, rfl, hbb, ?_, ?_, hodd⟩⟩, R_turn hr.box ho hg, R_turn hr.opn ho hg, ⟨hr.lnk.1.block (hg.block h.bl hr.lnk.1.lt (fun e => hbl (Option.some.inj e))), hr.lnk.2.1, fun e => hbl (by injection e with e; injection e with e; exact e.symm)⟩, R_turn hr.sent ho hg⟩⟩
 ·
  injection hq' with hq'
  subst hq'
  exact hM
 ·
  injection hq' with hq'
  subst hq'
  exact hn
set_option maxHeartbeats 8000000 in
theorem come_more (base g : Nat) (h : Hd) (N : NdM) (q l : Int) (w : World) (hI : IsNd base w g h N) (hbase : base ≤ w.heap.size) (ha : 0 ≤ N.addr ∧ N.addr < 32) (hq : 1 ≤ q ∧ q ≤ 1073741824) (hs : N.seen = some l) (hl : 0 ≤ l ∧ l < q) :
 Calls Tryz.prog 222 #[.pointer (some ⟨g, 6, none⟩), .int .i64 N.addr, .int .i64 q] w fun e w' => e = .returned (.tuple #[.int .i64 1, .nilIface]) ∧ ∃ h', IsNd base w' g h' (N.saw q) ∧ Fr base g w h w' h' := by
 obtain ⟨b, c0, n, hvm, hbb, hM, hn, hodd⟩ := (hI.rows.seen.yes l hs).is
 have y6 := (hI.cell 6).trans (show _ = some (Value.map (some b)) from by rw [← hvm]; rfl)
 have hlk : (Instr.lookup 108 (.map (some b)) (.int .i64 N.addr) false).run Tryz.prog w = .ok (.agg #[.int .i64 l, .int .u64 c0]) w := by
  have := hM.look1 lawInt Tryz.underlying108 (zeroOne w) (keyA ha)
  rw [if_pos rfl] at this
  exact this
 obtain ⟨l0, hl0⟩ : ∃ x, x = l := ⟨_, rfl⟩
 rw [← hl0] at hlk
 have HL0 := mk0 (show l0 = l ∧ 0 ≤ l ∧ l < q ∧ q ≤ 1073741824 from ⟨hl0, hl.1, hl.2, hq.2⟩)
 have HI := mk0 hI
 have HM := mk0 (And.intro hM (And.intro hbb hn))
 have HVM := mk0 hvm
 have HBS := mk0 hbase
 have HKA := mk0 (keyA ha)
 clear hl0 hI hs hvm hbb hM hn hodd hl hbase
 have c1 : decide (N.addr < 0) = false := decide_eq_false (by omega)
 have c2 : decide (32 ≤ N.addr) = false := decide_eq_false (by omega)
 have c3 : decide (q < 1) = false := decide_eq_false (by omega)
 have c4 : decide (1073741824 < q) = false := decide_eq_false (by omega)
 have HSB := mk0 (show wrap64 (q - l0) = q - l0 from w64 (by have := HL0.out; omega) (by have := HL0.out; omega))
 clear ha hq
 have hqm : ∀ (w : World) (r : Option Nat), (binOp .eql 108 (.map r) (.map none)).run Tryz.prog w = .ok (.bool r.isNone) w := fun w r => run_eql_map_nil w _ _ _ r Tryz.underlying108
 go_enter Tryz.func222, Tryz.ntmps222
 go_upto_region 4 with (fail)
 have HB := mk0 (below_alloc (Below.refl w.heap.size w) (.cells #[.int .i64 l0, .int .u64 c0] 353))
 have HK := mk0 (heap_alloc_new w (.cells #[.int .i64 l0, .int .u64 c0] 353))
 generalize w.alloc (.cells #[.int .i64 l0, .int .u64 c0] 353) = W1 at HB HK ⊢
 obtain ⟨g1, hg1⟩ : ∃ x, x = w.heap.size := ⟨_, rfl⟩
 rw [← hg1] at HK ⊢
 have HG1 := mk0 hg1
 clear hg1 c1 c2 c3 c4
 have e0 := (blk_cell HK.out 0).trans (show _ = some (Value.int .i64 l0) from rfl)
 have e1 := (blk_cell HK.out 1).trans (show _ = some (Value.int .u64 c0) from rfl)
 have f0 := blk_frozen HK.out 0
 have f1 := blk_frozen HK.out 1
 have z1 : decide (0 < wrap64 (q - l0)) = true := by rw [HSB.out]; exact decide_eq_true (by have := HL0.out; omega)
 have z3 : decide (0 ≤ wrap64 (q - l0)) = true := by rw [HSB.out]; exact decide_eq_true (by have := HL0.out; omega)
 have z4 : 0 ≤ wrap64 (q - l0) := by rw [HSB.out]; have := HL0.out; omega
 by_cases h64 : wrap64 (q - l0) < 64
 ·
  have z2 := decide_eq_true h64
  clear h64
  go_upto_region 15 with (fail)
  have hk3 := blk_set (blk_set HK.out 1 (.int .u64 (bits BinOp.or IntKind.u64 (IntKind.u64.wrap (c0 * 2 ^ min (wrap64 (q - l0)).toNat 64)) 1))) 0 (.int .i64 q)
  have hb3 := below_set (j := 0) (v := .int .i64 q) (below_set (j := 1) (v := .int .u64 (bits BinOp.or IntKind.u64 (IntKind.u64.wrap (c0 * 2 ^ min (wrap64 (q - l0)).toNat 64)) 1)) HB.out (Nat.le_of_eq HG1.out.symm)) (Nat.le_of_eq HG1.out.symm)
  have HOc := mk0 (show Go.bits .and .u64 (bits BinOp.or IntKind.u64 (IntKind.u64.wrap (c0 * 2 ^ min (wrap64 (q - l0)).toNat 64)) 1) 1 = 1 from or_odd _)
  generalize (bits BinOp.or IntKind.u64 (IntKind.u64.wrap (c0 * 2 ^ min (wrap64 (q - l0)).toNat 64)) 1) = cc at hk3 hb3 HOc ⊢
  have HK3 : Aside0 (_ = some (Obj.cells #[.int .i64 q, .int .u64 cc] 353 (0, 0))) := ⟨hk3.trans rfl⟩
  have HB3 := mk0 hb3
  clear HK HB e0 e1 f0 f1 hk3 hb3
  generalize (W1.setCell ⟨g1, 1, none⟩ (.int .u64 cc)).setCell ⟨g1, 0, none⟩ (.int .i64 q) = W3 at HK3 HB3 ⊢
  have e0 := (blk_cell HK3.out 0).trans (show _ = some (Value.int .i64 q) from rfl)
  have e1 := (blk_cell HK3.out 1).trans (show _ = some (Value.int .u64 cc) from rfl)
  have HI3 := mk0 (HI.out.below HB3.out)
  have y6 := (HI3.out.cell 6).trans (show _ = some (Value.map (some b)) from by rw [← HVM.out]; rfl)
  obtain ⟨W6, hrun, hM6, hgr⟩ := MapIs.store (w := W3.drew) ((HM.out.1.below HB3.out).block rfl) lawInt (fun _ _ e => by injection e) Tryz.underlying108 (by unfold maxLen; have := HM.out.2.2; have := HL0.out; omega) HKA.out (.agg #[.int .i64 q, .int .u64 cc])
  have hup : (Instr.mapUpdate 108 (.map (some b)) (.int .i64 N.addr) (.agg #[.int .i64 q, .int .u64 cc])).run Tryz.prog W3.drew = .ok () W6 := hrun
  obtain ⟨es, cl, hobj⟩ := (HM.out.1.below HB3.out).at
  have hd := below_drew (Below.refl W3.heap.size W3)
  have hfr := (Fr.of_below (g := g) (h := h) (below_drew HB3.out) HBS.out).trans (Fr.grown (g := g) (h := h) hgr (Nat.le_trans HBS.out HB3.out.size) (fun k hk => ⟨.inr (.inr (.inr (.inr (.inr (by rw [HVM.out, hk]))))), by injection hk with hk; rw [← hk]; exact HM.out.2.1⟩))
  have hh : { h with vm := .map (some b) } = h := by rw [← HVM.out]
  have hnd := saw_fin (n := n + 1) (cc := cc) (HI3.out.rows.below hd) (by rw [hh]; exact HI3.out.blk) hM6 hobj hgr HM.out.2.1 (fun e => HI.out.rows.lnk.2.2 (by rw [HVM.out, e])) (fun x hx => if_neg hx) (by have := HM.out.2.2; have := HL0.out; omega) HOc.out HI.out.gb
  rw [hh] at hnd
  have hfin := And.intro hnd hfr
  clear hrun hM6 hgr hobj hd hfr hh hnd
  go_upto_region 17 with (fail)
  go_region_with (fail)
  all_goals
   go_wp2
   go_ret2
   exact ⟨rfl, h, hfin⟩
 ·
  have z2 := decide_eq_false h64
  clear h64
  go_upto_region 15 with (fail)
  have hk3 := blk_set (blk_set HK.out 1 (.int .u64 (1 : Int))) 0 (.int .i64 q)
  have hb3 := below_set (j := 0) (v := .int .i64 q) (below_set (j := 1) (v := .int .u64 (1 : Int)) HB.out (Nat.le_of_eq HG1.out.symm)) (Nat.le_of_eq HG1.out.symm)
  have HOc := mk0 (show Go.bits .and .u64 (1 : Int) 1 = 1 from one_odd)
  skip
  have HK3 : Aside0 (_ = some (Obj.cells #[.int .i64 q, .int .u64 1] 353 (0, 0))) := ⟨hk3.trans rfl⟩
  have HB3 := mk0 hb3
  clear HK HB e0 e1 f0 f1 hk3 hb3
  generalize (W1.setCell ⟨g1, 1, none⟩ (.int .u64 1)).setCell ⟨g1, 0, none⟩ (.int .i64 q) = W3 at HK3 HB3 ⊢
  have e0 := (blk_cell HK3.out 0).trans (show _ = some (Value.int .i64 q) from rfl)
  have e1 := (blk_cell HK3.out 1).trans (show _ = some (Value.int .u64 1) from rfl)
  have HI3 := mk0 (HI.out.below HB3.out)
  have y6 := (HI3.out.cell 6).trans (show _ = some (Value.map (some b)) from by rw [← HVM.out]; rfl)
  obtain ⟨W6, hrun, hM6, hgr⟩ := MapIs.store (w := W3.drew) ((HM.out.1.below HB3.out).block rfl) lawInt (fun _ _ e => by injection e) Tryz.underlying108 (by unfold maxLen; have := HM.out.2.2; have := HL0.out; omega) HKA.out (.agg #[.int .i64 q, .int .u64 1])
  have hup : (Instr.mapUpdate 108 (.map (some b)) (.int .i64 N.addr) (.agg #[.int .i64 q, .int .u64 1])).run Tryz.prog W3.drew = .ok () W6 := hrun
  obtain ⟨es, cl, hobj⟩ := (HM.out.1.below HB3.out).at
  have hd := below_drew (Below.refl W3.heap.size W3)
  have hfr := (Fr.of_below (g := g) (h := h) (below_drew HB3.out) HBS.out).trans (Fr.grown (g := g) (h := h) hgr (Nat.le_trans HBS.out HB3.out.size) (fun k hk => ⟨.inr (.inr (.inr (.inr (.inr (by rw [HVM.out, hk]))))), by injection hk with hk; rw [← hk]; exact HM.out.2.1⟩))
  have hh : { h with vm := .map (some b) } = h := by rw [← HVM.out]
  have hnd := saw_fin (n := n + 1) (cc := 1) (HI3.out.rows.below hd) (by rw [hh]; exact HI3.out.blk) hM6 hobj hgr HM.out.2.1 (fun e => HI.out.rows.lnk.2.2 (by rw [HVM.out, e])) (fun x hx => if_neg hx) (by have := HM.out.2.2; have := HL0.out; omega) HOc.out HI.out.gb
  rw [hh] at hnd
  have hfin := And.intro hnd hfr
  clear hrun hM6 hgr hobj hd hfr hh hnd
  go_upto_region 17 with (fail)
  go_region_with (fail)
  all_goals
   go_wp2
   go_ret2
   exact ⟨rfl, h, hfin⟩
set_option maxHeartbeats 8000000 in
theorem come_first (base g : Nat) (h : Hd) (N : NdM) (q : Int) (w : World) (hI : IsNd base w g h N) (hbase : base ≤ w.heap.size) (ha : 0 ≤ N.addr ∧ N.addr < 32) (hq : 1 ≤ q ∧ q ≤ 1073741824) (hs : N.seen = none) :
 Calls Tryz.prog 222 #[.pointer (some ⟨g, 6, none⟩), .int .i64 N.addr, .int .i64 q] w fun e w' => e = .returned (.tuple #[.int .i64 1, .nilIface]) ∧ ∃ h', IsNd base w' g h' (N.saw q) ∧ Fr base g w h w' h' := by
 have hvm := hI.rows.seen.no hs
 have y6 := (hI.cell 6).trans (show _ = some (Value.map none) from by rw [← hvm]; rfl)
 have hlk0 : (Instr.lookup 108 (.map none) (.int .i64 N.addr) false).run Tryz.prog w = .ok (.agg #[.int .i64 0, .int .u64 0]) w := Maps.look_nil false lawInt Tryz.underlying108 (zeroOne w) (keyA ha)
 obtain ⟨l0, hl0⟩ : ∃ x : Int, x = 0 := ⟨_, rfl⟩
 obtain ⟨c0, hc0⟩ : ∃ x : Int, x = 0 := ⟨_, rfl⟩
 have hlk : (Instr.lookup 108 (.map none) (.int .i64 N.addr) false).run Tryz.prog w = .ok (.agg #[.int .i64 l0, .int .u64 c0]) w := by rw [hl0, hc0]; exact hlk0
 have HL0 := mk0 (show l0 = 0 ∧ 1 ≤ q ∧ q ≤ 1073741824 from ⟨hl0, hq⟩)
 have HI := mk0 hI
 have HVM := mk0 hvm
 have HBS := mk0 hbase
 have HKA := mk0 (keyA ha)
 clear hlk0 hl0 hc0 hI hs hvm hbase
 have c1 : decide (N.addr < 0) = false := decide_eq_false (by omega)
 have c2 : decide (32 ≤ N.addr) = false := decide_eq_false (by omega)
 have c3 : decide (q < 1) = false := decide_eq_false (by omega)
 have c4 : decide (1073741824 < q) = false := decide_eq_false (by omega)
 have HSB := mk0 (show wrap64 (q - l0) = q - l0 from w64 (by have := HL0.out; omega) (by have := HL0.out; omega))
 clear ha hq
 have hqm : ∀ (w : World) (r : Option Nat), (binOp .eql 108 (.map r) (.map none)).run Tryz.prog w = .ok (.bool r.isNone) w := fun w r => run_eql_map_nil w _ _ _ r Tryz.underlying108
 go_enter Tryz.func222, Tryz.ntmps222
 go_upto_region 4 with (fail)
 have HB := mk0 (below_alloc (Below.refl w.heap.size w) (.cells #[.int .i64 l0, .int .u64 c0] 353))
 have HK := mk0 (heap_alloc_new w (.cells #[.int .i64 l0, .int .u64 c0] 353))
 generalize w.alloc (.cells #[.int .i64 l0, .int .u64 c0] 353) = W1 at HB HK ⊢
 obtain ⟨g1, hg1⟩ : ∃ x, x = w.heap.size := ⟨_, rfl⟩
 rw [← hg1] at HK ⊢
 have HG1 := mk0 hg1
 clear hg1 c1 c2 c3 c4
 have e0 := (blk_cell HK.out 0).trans (show _ = some (Value.int .i64 l0) from rfl)
 have e1 := (blk_cell HK.out 1).trans (show _ = some (Value.int .u64 c0) from rfl)
 have f0 := blk_frozen HK.out 0
 have f1 := blk_frozen HK.out 1
 have z1 : decide (0 < wrap64 (q - l0)) = true := by rw [HSB.out]; exact decide_eq_true (by have := HL0.out; omega)
 have z3 : decide (0 ≤ wrap64 (q - l0)) = true := by rw [HSB.out]; exact decide_eq_true (by have := HL0.out; omega)
 have z4 : 0 ≤ wrap64 (q - l0) := by rw [HSB.out]; have := HL0.out; omega
 by_cases h64 : wrap64 (q - l0) < 64
 ·
  have z2 := decide_eq_true h64
  clear h64
  go_upto_region 15 with (fail)
  have hk3 := blk_set (blk_set HK.out 1 (.int .u64 (bits BinOp.or IntKind.u64 (IntKind.u64.wrap (c0 * 2 ^ min (wrap64 (q - l0)).toNat 64)) 1))) 0 (.int .i64 q)
  have hb3 := below_set (j := 0) (v := .int .i64 q) (below_set (j := 1) (v := .int .u64 (bits BinOp.or IntKind.u64 (IntKind.u64.wrap (c0 * 2 ^ min (wrap64 (q - l0)).toNat 64)) 1)) HB.out (Nat.le_of_eq HG1.out.symm)) (Nat.le_of_eq HG1.out.symm)
  have HOc := mk0 (show Go.bits .and .u64 (bits BinOp.or IntKind.u64 (IntKind.u64.wrap (c0 * 2 ^ min (wrap64 (q - l0)).toNat 64)) 1) 1 = 1 from or_odd _)
  generalize (bits BinOp.or IntKind.u64 (IntKind.u64.wrap (c0 * 2 ^ min (wrap64 (q - l0)).toNat 64)) 1) = cc at hk3 hb3 HOc ⊢
  have HK3 : Aside0 (_ = some (Obj.cells #[.int .i64 q, .int .u64 cc] 353 (0, 0))) := ⟨hk3.trans rfl⟩
  have HB3 := mk0 hb3
  clear HK HB e0 e1 f0 f1 hk3 hb3
  generalize (W1.setCell ⟨g1, 1, none⟩ (.int .u64 cc)).setCell ⟨g1, 0, none⟩ (.int .i64 q) = W3 at HK3 HB3 ⊢
  have e0 := (blk_cell HK3.out 0).trans (show _ = some (Value.int .i64 q) from rfl)
  have e1 := (blk_cell HK3.out 1).trans (show _ = some (Value.int .u64 cc) from rfl)
  have HI3 := mk0 (HI.out.below HB3.out)
  have y6 := (HI3.out.cell 6).trans (show _ = some (Value.map none) from by rw [← HVM.out]; rfl)
  have f6 := blk_frozen HI3.out.blk 6
  have hmm := @run_makeMap Tryz.prog
  have hbm := below_alloc (Below.refl W3.heap.size W3) (Obj.map #[] 0)
  have y6m := pw_cell_below hbm y6
  have hgm := (hbm.block g (blk_lt HI3.out.blk)).trans HI3.out.blk
  have f6m := blk_frozen hgm 6
  go_upto_region 17 with (fail)
  have hmi := MapIs.made (P := Tryz.prog) (k := 3) (kv := kI) W3
  have hm0 : (W3.alloc (Obj.map #[] 0)).heap[W3.heap.size]? = some (Obj.map #[] 0) := heap_alloc_new W3 _
  have HB4 := mk0 (below_then HB3.out HB3.out.size hbm)
  have hge := (hbm.block g1 (blk_lt HK3.out)).trans HK3.out
  obtain ⟨b, hbeq⟩ : ∃ b, b = W3.heap.size := ⟨_, rfl⟩
  have hbg : b ≠ g := by have := blk_lt HI3.out.blk; omega
  have hbg1 : g1 ≠ g := by have := HG1.out; have := blk_lt HI.out.blk; omega
  have hbbl : h.bl ≠ b := by have := HI3.out.rows.lnk.1.lt; omega
  have hbb : base ≤ b := by have := HB3.out.size; have := HBS.out; omega
  have HBN := mk0 (show w.heap.size ≤ b by have := HB3.out.size; omega)
  rw [← hbeq] at hmi hm0 ⊢
  clear y6 f6 y6m f6m hmm hbeq
  generalize W3.alloc (Obj.map #[] 0) = W4 at hbm hgm hmi hm0 HB4 hge ⊢
  have hk5 := blk_set hgm 6 (.map (some b))
  have hr5 := (HI3.out.rows.below hbm).set hgm (by decide) 6 (.map (some b))
  have hf5 := (Fr.of_below (g := g) (h := h) HB4.out HBS.out).trans (Fr.set (h := h) (w := W4) HI.out.gb 6 (.map (some b)))
  have hge5 := (Below.heap_setCell W4 ⟨g, 6, none⟩ (.map (some b)) g1 hbg1).trans hge
  have hm5 := (Below.heap_setCell W4 ⟨g, 6, none⟩ (.map (some b)) b hbg).trans hm0
  have hmi5 := hmi.block (Below.heap_setCell W4 ⟨g, 6, none⟩ (.map (some b)) b hbg)
  clear hbm hgm hmi hm0 hge
  generalize W4.setCell ⟨g, 6, none⟩ (.map (some b)) = W5 at hk5 hr5 hf5 hge5 hm5 hmi5 ⊢
  have e0 := (blk_cell hge5 0).trans (show _ = some (Value.int .i64 q) from rfl)
  have e1 := (blk_cell hge5 1).trans (show _ = some (Value.int .u64 cc) from rfl)
  have y6 := (blk_cell hk5 6).trans (show _ = some (Value.map (some b)) from rfl)
  obtain ⟨W6, hrun, hM6, hgr⟩ := MapIs.store (w := W5.drew) (hmi5.block rfl) lawInt (fun _ _ e => by injection e) Tryz.underlying108 (by decide) HKA.out (.agg #[.int .i64 q, .int .u64 cc])
  have hup : (Instr.mapUpdate 108 (.map (some b)) (.int .i64 N.addr) (.agg #[.int .i64 q, .int .u64 cc])).run Tryz.prog W5.drew = .ok () W6 := hrun
  have hd := below_drew (Below.refl W5.heap.size W5)
  have hfr0 := (hf5.trans (Fr.of_below hd (Nat.le_trans HBS.out hf5.below.size)))
  have hfr : Fr base g w h W6 { h with vm := .map (some b) } := (show Fr base g w h W6 h from ⟨hfr0.below.grown hgr (Nat.le_trans HBS.out hf5.below.size) (fun k hk => by injection hk with hk; omega), fun k hk hn => (hgr.block k (Nat.lt_of_lt_of_le hk hfr0.below.size) (fun e => by injection e with e; have := HBN.out; omega)).trans (hfr0.keep k hk hn), hfr0.own⟩).nvm (.inr HBN.out)
  have hnd := saw_fin (h := h) (N := N) (n := 1) (cc := cc) (hr5.below hd) (by exact hk5) hM6 hm5 hgr hbb hbbl (fun x hx => rfl) (by have := HL0.out; omega) HOc.out HI.out.gb
  have hfin := And.intro hnd hfr
  clear hrun hM6 hgr hd hfr0 hfr hnd hr5 hf5 hm5 hmi5
  go_region_with (fail)
  all_goals
   go_wp2
   go_ret2
   exact ⟨rfl, _, hfin⟩
 ·
  have z2 := decide_eq_false h64
  clear h64
  go_upto_region 15 with (fail)
  have hk3 := blk_set (blk_set HK.out 1 (.int .u64 (1 : Int))) 0 (.int .i64 q)
  have hb3 := below_set (j := 0) (v := .int .i64 q) (below_set (j := 1) (v := .int .u64 (1 : Int)) HB.out (Nat.le_of_eq HG1.out.symm)) (Nat.le_of_eq HG1.out.symm)
  have HOc := mk0 (show Go.bits .and .u64 (1 : Int) 1 = 1 from one_odd)
  skip
  have HK3 : Aside0 (_ = some (Obj.cells #[.int .i64 q, .int .u64 1] 353 (0, 0))) := ⟨hk3.trans rfl⟩
  have HB3 := mk0 hb3
  clear HK HB e0 e1 f0 f1 hk3 hb3
  generalize (W1.setCell ⟨g1, 1, none⟩ (.int .u64 1)).setCell ⟨g1, 0, none⟩ (.int .i64 q) = W3 at HK3 HB3 ⊢
  have e0 := (blk_cell HK3.out 0).trans (show _ = some (Value.int .i64 q) from rfl)
  have e1 := (blk_cell HK3.out 1).trans (show _ = some (Value.int .u64 1) from rfl)
  have HI3 := mk0 (HI.out.below HB3.out)
  have y6 := (HI3.out.cell 6).trans (show _ = some (Value.map none) from by rw [← HVM.out]; rfl)
  have f6 := blk_frozen HI3.out.blk 6
  have hmm := @run_makeMap Tryz.prog
  have hbm := below_alloc (Below.refl W3.heap.size W3) (Obj.map #[] 0)
  have y6m := pw_cell_below hbm y6
  have hgm := (hbm.block g (blk_lt HI3.out.blk)).trans HI3.out.blk
  have f6m := blk_frozen hgm 6
  go_upto_region 17 with (fail)
  have hmi := MapIs.made (P := Tryz.prog) (k := 3) (kv := kI) W3
  have hm0 : (W3.alloc (Obj.map #[] 0)).heap[W3.heap.size]? = some (Obj.map #[] 0) := heap_alloc_new W3 _
  have HB4 := mk0 (below_then HB3.out HB3.out.size hbm)
  have hge := (hbm.block g1 (blk_lt HK3.out)).trans HK3.out
  obtain ⟨b, hbeq⟩ : ∃ b, b = W3.heap.size := ⟨_, rfl⟩
  have hbg : b ≠ g := by have := blk_lt HI3.out.blk; omega
  have hbg1 : g1 ≠ g := by have := HG1.out; have := blk_lt HI.out.blk; omega
  have hbbl : h.bl ≠ b := by have := HI3.out.rows.lnk.1.lt; omega
  have hbb : base ≤ b := by have := HB3.out.size; have := HBS.out; omega
  have HBN := mk0 (show w.heap.size ≤ b by have := HB3.out.size; omega)
  rw [← hbeq] at hmi hm0 ⊢
  clear y6 f6 y6m f6m hmm hbeq
  generalize W3.alloc (Obj.map #[] 0) = W4 at hbm hgm hmi hm0 HB4 hge ⊢
  have hk5 := blk_set hgm 6 (.map (some b))
  have hr5 := (HI3.out.rows.below hbm).set hgm (by decide) 6 (.map (some b))
  have hf5 := (Fr.of_below (g := g) (h := h) HB4.out HBS.out).trans (Fr.set (h := h) (w := W4) HI.out.gb 6 (.map (some b)))
  have hge5 := (Below.heap_setCell W4 ⟨g, 6, none⟩ (.map (some b)) g1 hbg1).trans hge
  have hm5 := (Below.heap_setCell W4 ⟨g, 6, none⟩ (.map (some b)) b hbg).trans hm0
  have hmi5 := hmi.block (Below.heap_setCell W4 ⟨g, 6, none⟩ (.map (some b)) b hbg)
  clear hbm hgm hmi hm0 hge
  generalize W4.setCell ⟨g, 6, none⟩ (.map (some b)) = W5 at hk5 hr5 hf5 hge5 hm5 hmi5 ⊢
  have e0 := (blk_cell hge5 0).trans (show _ = some (Value.int .i64 q) from rfl)
  have e1 := (blk_cell hge5 1).trans (show _ = some (Value.int .u64 1) from rfl)
  have y6 := (blk_cell hk5 6).trans (show _ = some (Value.map (some b)) from rfl)
  obtain ⟨W6, hrun, hM6, hgr⟩ := MapIs.store (w := W5.drew) (hmi5.block rfl) lawInt (fun _ _ e => by injection e) Tryz.underlying108 (by decide) HKA.out (.agg #[.int .i64 q, .int .u64 1])
  have hup : (Instr.mapUpdate 108 (.map (some b)) (.int .i64 N.addr) (.agg #[.int .i64 q, .int .u64 1])).run Tryz.prog W5.drew = .ok () W6 := hrun
  have hd := below_drew (Below.refl W5.heap.size W5)
  have hfr0 := (hf5.trans (Fr.of_below hd (Nat.le_trans HBS.out hf5.below.size)))
  have hfr : Fr base g w h W6 { h with vm := .map (some b) } := (show Fr base g w h W6 h from ⟨hfr0.below.grown hgr (Nat.le_trans HBS.out hf5.below.size) (fun k hk => by injection hk with hk; omega), fun k hk hn => (hgr.block k (Nat.lt_of_lt_of_le hk hfr0.below.size) (fun e => by injection e with e; have := HBN.out; omega)).trans (hfr0.keep k hk hn), hfr0.own⟩).nvm (.inr HBN.out)
  have hnd := saw_fin (h := h) (N := N) (n := 1) (cc := 1) (hr5.below hd) (by exact hk5) hM6 hm5 hgr hbb hbbl (fun x hx => rfl) (by have := HL0.out; omega) HOc.out HI.out.gb
  have hfin := And.intro hnd hfr
  clear hrun hM6 hgr hd hfr0 hfr hnd hr5 hf5 hm5 hmi5
  go_region_with (fail)
  all_goals
   go_wp2
   go_ret2
   exact ⟨rfl, _, hfin⟩
end Go.Proofs.YtnmpijbcajclgaaGreatDoor.Mine
end
