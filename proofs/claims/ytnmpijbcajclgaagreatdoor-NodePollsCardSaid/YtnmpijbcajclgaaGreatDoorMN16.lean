/- Texts of one claim, one behind the other, made short by a program. -/
import Derived.Test.YtnmpijbcajclgaaGreatDoorMN15
import Derived.Deep.RegionLaw
set_option linter.unusedSimpArgs false
set_option linter.unusedVariables false
set_option maxRecDepth 100000
section
namespace Go.Proofs.YtnmpijbcajclgaaGreatDoor.Mine
open Go.Maps Go.RowKit YtnmpijbcajclgaaGreatDoorW.PrintWords YtnmpijbcajclgaaGreatDoorW.PrintLast YtnmpijbcajclgaaGreatDoorW.PrintMore
open PNodeAlone
open Value renaming slice → Vs
def msgC (kind : Int) (grp : ByteArray) (pub q hops : Int) (E : Option Addr) (k c : Nat) (pay : ByteArray) : Array Value := #[.int .i64 kind, .string grp, .bool false, .slice none 0 0, .int .i64 pub, .int .i64 q, .int .i64 hops, .slice E k c, .string pay]
abbrev tM : Nat := 141
theorem infoDl : (Tryz.prog.info? 46).map (fun i => (i.zero, i.size, i.bytes)) = some (some (.agg #[(.int .i64 0), (.int .i64 0), (.int .i64 0), (.slice none 0 0), (.string ⟨#[]⟩)]), 5, 64) := by kernel_rfl
set_option maxHeartbeats 8000000 in
theorem arrive_twice (base g k c : Nat) (h : Hd) (N : NdM) (kind q hops : Int) (grp pay : ByteArray) (E : Option Addr) (w : World) (hI : IsNd base w g h N) (ha : 0 ≤ N.addr ∧ N.addr < 32) (hq : 1 ≤ q ∧ q ≤ 1073741824) (hs : N.seen = some q) :
 Calls Tryz.prog 165 #[.pointer (some ⟨g, 0, none⟩), .agg (msgC kind grp N.addr q hops E k c pay)] w fun e w' => e = .returned (.tuple #[]) ∧ Below w.heap.size w w' := by
 have HI := mk0 hI
 have HCM := mk0 (fun W (hb : Below w.heap.size w W) => come_twice base g h N q W (hI.below hb) ha hq hs)
 clear hI hs
 unfold msgC
 go_enter Tryz.func165, Tryz.ntmps165
 go_upto_region 1 with (fail)
 have HB := mk0 (below_alloc (Below.refl w.heap.size w) (.cells (msgC kind grp N.addr q hops E k c pay) tM))
 have HK := mk0 (heap_alloc_new w (.cells (msgC kind grp N.addr q hops E k c pay) tM))
 unfold msgC at HB HK
 generalize w.alloc (.cells #[.int .i64 kind, .string grp, .bool false, .slice none 0 0, .int .i64 N.addr, .int .i64 q, .int .i64 hops, .slice E k c, .string pay] tM) = W1 at HB HK ⊢
 generalize w.heap.size = gm at HK ⊢
 have m4 := (blk_cell HK.out 4).trans (show _ = some (Value.int .i64 N.addr) from rfl)
 have m5 := (blk_cell HK.out 5).trans (show _ = some (Value.int .i64 q) from rfl)
 go_region_held3 (fun X => X.cell? ⟨gm, 4, none⟩ = some (.int .i64 N.addr) ∧ X.cell? ⟨gm, 5, none⟩ = some (.int .i64 q)) (go_keep) (first
  | (go_at_call 222; (with_reducible refine (HCM.out _ ?tb).mono ?_); (case tb => (with_reducible repeat (first | exact HB.out | apply pw_below_drewN | apply below_drew1 | apply below_drew))); rintro e wx ⟨rfl, hbx⟩; have n0_ := mk0 (below_then (below_drew HB.out) (below_drew HB.out).size hbx); have z0 := pw_cell_below hbx m4; have z1 := pw_cell_below hbx m5; clear HB hbx; have HB := n0_; clear n0_))
 go_wp2
 first | go_end0 | ((try simp only [Exit.inBlock, Exit.then]); refine bodyPost_ret (results_none rfl _ _ _) rfl ?_)
 exact ⟨rfl, HB.out⟩
def NdM.arr (N : NdM) (q : Int) (B : List MDl) (L : Int) : NdM := { N with seen := some q, inbox := B, lost := L }
def ArrTo (N : NdM) (q : Int) (V : List SV) (pay : ByteArray) (r : List MSub) (B : List MDl) (L : Int) : Prop :=
 arrS N.S N.addr ⟨q, V, pay⟩ (r.map MSub.pl) (B.map MDl.pl, L) = arrS N.S N.addr ⟨q, V, pay⟩ (N.subs.map MSub.pl) (N.inbox.map MDl.pl, N.lost)
theorem arr_step {N : NdM} {q : Int} {V : List SV} {pay : ByteArray} {i : Nat} {x : MSub} {B : List MDl} {L : Int} (hx : N.subs[i]? = some x) (h : ArrTo N q V pay (N.subs.drop i) B L) :
 ArrTo N q V pay (N.subs.drop (i + 1)) (if matchB N.S x.F V pay = true then (if B.length < 64 then B ++ [⟨x.id, N.addr, q, V, pay⟩] else B) else B) (if matchB N.S x.F V pay = true then (if B.length < 64 then L else L + 1) else L) := by
 unfold ArrTo at h ⊢
 rw [← h]
 have hl : i < N.subs.length := (List.getElem?_eq_some_iff.1 hx).1
 have he : N.subs.drop i = x :: N.subs.drop (i + 1) := by
  rw [List.drop_eq_getElem_cons hl]
  rw [List.getElem?_eq_getElem hl] at hx
  injection hx with hx
  rw [hx]
 rw [he, List.map_cons]
 show _ = arrS N.S N.addr ⟨q, V, pay⟩ ((N.subs.drop (i + 1)).map MSub.pl) (if matchB N.S x.F V pay = true then (if (B.map MDl.pl).length < 64 then (B.map MDl.pl ++ [⟨x.id, N.addr, q, V, pay⟩], L) else (B.map MDl.pl, L + 1)) else (B.map MDl.pl, L))
 rw [List.length_map]
 by_cases h1 : matchB N.S x.F V pay = true
 ·
  rw [if_pos h1, if_pos h1, if_pos h1]
  by_cases h2 : B.length < 64
  ·
   rw [if_pos h2, if_pos h2, if_pos h2, List.map_append]
   rfl
  ·
   rw [if_neg h2, if_neg h2, if_neg h2]
 ·
  rw [if_neg h1, if_neg h1, if_neg h1]
set_option maxHeartbeats 8000000 in
theorem arrive_new (base g k c : Nat) (h : Hd) (N : NdM) (kind q hops : Int) (grp pay : ByteArray) (E : Option Addr) (V : List SV) (w : World) (hI : IsNd base w g h N) (hbase : base ≤ w.heap.size) (hF : NdFit N) (ha : 0 ≤ N.addr ∧ N.addr < 32) (hq : 1 ≤ q ∧ q ≤ 1073741824) (hs : ∀ l, N.seen = some l → 0 ≤ l ∧ l < q) (hV : Kd.R kVa tV w base (fun _ => True) (.slice E k c) V) (heb : evBad N.S V pay = none) (hlo : 0 ≤ N.lost ∧ N.lost ≤ 1000000) :
 Calls Tryz.prog 165 #[.pointer (some ⟨g, 0, none⟩), .agg (msgC kind grp N.addr q hops E k c pay)] w fun e w' => e = .returned (.tuple #[]) ∧ ∃ h' B L, IsNd base w' g h' (N.arr q B L) ∧ Fr base g w h w' h' ∧ ArrTo N q V pay [] B L ∧ B.length ≤ 64 := by
 have HI := mk0 hI
 have HBS := mk0 hbase
 have HF := mk0 hF
 have HV := mk0 hV
 have HEB := mk0 heb
 have HLO := mk0 hlo
 have HCM := mk0 (fun W (hb : Below w.heap.size w W) => (show Calls Tryz.prog 222 #[.pointer (some ⟨g, 6, none⟩), .int .i64 N.addr, .int .i64 q] W fun e w' => e = .returned (.tuple #[.int .i64 1, .nilIface]) ∧ ∃ h', IsNd base w' g h' (N.saw q) ∧ Fr base g W h w' h' from by
  cases hsn : N.seen with
  | none => exact come_first base g h N q W (hI.below hb) (Nat.le_trans hbase hb.size) ha hq hsn
  | some l => exact come_more base g h N q l W (hI.below hb) (Nat.le_trans hbase hb.size) ha hq hsn (hs l hsn)))
 clear hI hs hbase hF hV heb hlo ha
 unfold msgC
 go_enter Tryz.func165, Tryz.ntmps165
 go_upto_region 1 with (fail)
 have HB := mk0 (below_alloc (Below.refl w.heap.size w) (.cells (msgC kind grp N.addr q hops E k c pay) tM))
 have HK := mk0 (heap_alloc_new w (.cells (msgC kind grp N.addr q hops E k c pay) tM))
 have hs1 : (w.alloc (.cells (msgC kind grp N.addr q hops E k c pay) tM)).heap.size = w.heap.size + 1 := by show (w.heap.push _).size = _; exact Array.size_push _
 unfold msgC at HB HK hs1
 generalize w.alloc (.cells #[.int .i64 kind, .string grp, .bool false, .slice none 0 0, .int .i64 N.addr, .int .i64 q, .int .i64 hops, .slice E k c, .string pay] tM) = W1 at HB HK hs1 ⊢
 obtain ⟨gm, hgm⟩ : ∃ x, x = w.heap.size := ⟨_, rfl⟩
 rw [← hgm] at HK hs1 ⊢
 have HOF := mk0 (Off.new (w1 := W1) HI.out (Nat.le_of_eq hgm.symm) (by omega))
 have HGM := mk0 hgm
 clear hgm hs1
 have m4 := (blk_cell HK.out 4).trans (show _ = some (Value.int .i64 N.addr) from rfl)
 have m5 := (blk_cell HK.out 5).trans (show _ = some (Value.int .i64 q) from rfl)
 go_region_held3 (fun X => X.cell? ⟨gm, 4, none⟩ = some (.int .i64 N.addr) ∧ X.cell? ⟨gm, 5, none⟩ = some (.int .i64 q)) (go_keep) (first
  | (go_at_call 222; (with_reducible refine (HCM.out _ ?tb).mono ?_); (case tb => (with_reducible repeat (first | exact HB.out | apply pw_below_drewN | apply below_drew1 | apply below_drew))); rintro e wx ⟨rfl, h1, hI1, hF1⟩; have hof := Off.keep (w := W1.drew) HOF.out hF1; have hk := Off.blk (w := W1.drew) HOF.out hF1 HK.out; have z0 := (blk_cell hk 4).trans (show _ = some (Value.int .i64 N.addr) from rfl); have z1 := (blk_cell hk 5).trans (show _ = some (Value.int .i64 q) from rfl); have HFR := mk0 ((Fr.of_below (below_drew HB.out) HBS.out).trans hF1); have HV1 := mk0 (hF1.R (HI.out.below (below_drew HB.out)) (Kd.R_below HV.out (below_drew HB.out)) (by decide +kernel)); clear HB HK HOF hF1; have HOF := mk0 hof; have HK := mk0 hk; have HI1 := mk0 hI1; clear hof hk hI1))
 obtain ⟨A3, c3, hv3, hc3, _⟩ := Kd.R_reads HI1.out.rows.sub
 have HV3 := mk0 hv3
 have y3 := (HI1.out.cell 3).trans (show _ = some (Vs A3 N.subs.length c3) from by rw [show N.subs.length = (N.saw q).subs.length from rfl, ← hv3]; rfl)
 obtain ⟨n, hn⟩ : ∃ n, n = N.subs.length := ⟨_, rfl⟩
 rw [← hn] at y3
 have HN := mk0 hn
 clear hv3 hc3 HCM HV z0 z1 m4 m5 hn
 go_wp2_with fail
 clear y3
 go_loopg [7, 8, 40] (n + 1) (fun kk v7 v8 v40 W => ∃ (i : Nat) (hh : Hd) (B : List MDl) (L : Int), Aside0 (i ≤ n ∧ kk + i = n + 1 ∧ B.length ≤ 64 ∧ 0 ≤ L ∧ L ≤ N.lost + i) ∧ v40 = .int .i64 (i : Int) ∧ Aside0 (IsNd base W g hh (N.arr q B L) ∧ hh.vsub = h1.vsub) ∧ Aside0 (Fr base g w h W hh) ∧ Aside0 (ArrTo N q V pay (N.subs.drop i) B L) ∧ Aside0 (Off W hh g gm ∧ W.heap[gm]? = some (.cells #[.int .i64 kind, .string grp, .bool false, .slice none 0 0, .int .i64 N.addr, .int .i64 q, .int .i64 hops, .slice E k c, .string pay] tM (0, 0))) ∧ Aside0 (Kd.R kVa tV W base (fun _ => True) (.slice E k c) V))
 case atStart => exact ⟨0, h1, N.inbox, N.lost, ⟨by omega, by omega, HF.out.nBox, HLO.out.1, by omega⟩, rfl, ⟨HI1.out, rfl⟩, HFR, ⟨rfl⟩, ⟨HOF.out, HK.out⟩, HV1⟩
 case round =>
  clear HI1 HFR HOF HK HV1
  obtain ⟨i, hh, B, L, HNM, rfl, HND, HFR, HAT, HOK, HVW⟩ := hrel
  by_cases hi : i < n
  ·
   have b1 : decide ((i : Int) < (n : Int)) = true := decide_eq_true (by omega)
   have b2 : decide (i < n) = true := decide_eq_true (by omega)
   have p1 : (0 : Int) ≤ (i : Int) := by omega
   have p2 : (i : Int) < (n : Int) := by omega
   have hsub : Kd.R kSub tSub wr base (fun _ => True) (.slice A3 n c3) N.subs := by
    have h9 := HND.out.1.rows.sub
    rw [HND.out.2, HV3.out, show (N.saw q).subs.length = n from HN.out.symm] at h9
    exact h9
   have hC := (Kd.R_reads' hsub).2.2
   rw [← HN.out] at hC
   obtain ⟨ad, x, Bf, b, D, e, hA, hx, k0, k1, k2, k3, hFx, hGx⟩ := at_Sub hC i hi
   cases hA
   have HX := mk0 (And.intro hx (And.intro hFx (HF.out.flt x (List.mem_of_getElem? hx))))
   clear hx hFx hGx hC hsub
   go_upto_region 8 with (fail)
   have hba := below_alloc (Below.refl wr.heap.size wr) (.cells #[.int .i64 x.id, .string x.text, .slice Bf x.F.length b, .slice D x.G.length e] tSub)
   have hkS := heap_alloc_new wr (.cells #[.int .i64 x.id, .string x.text, .slice Bf x.F.length b, .slice D x.G.length e] tSub)
   have hs2 : (wr.alloc (.cells #[.int .i64 x.id, .string x.text, .slice Bf x.F.length b, .slice D x.G.length e] tSub)).heap.size = wr.heap.size + 1 := by show (wr.heap.push _).size = _; exact Array.size_push _
   have HCF := mk0 (Kd.C_below HX.out.2.1.2 hba)
   have hofs : ∀ W, wr.heap.size + 1 ≤ W.heap.size → Off W hh g wr.heap.size := fun W hW => Off.new HND.out.1 (Nat.le_refl _) (by omega)
   have n0_ := mk0 (And.intro (HND.out.1.below hba) HND.out.2)
   have n1_ := mk0 (HFR.out.then hba HBS.out)
   have n2_ := mk0 (And.intro (HOK.out.1.below hba) ((hba.block _ (blk_lt HOK.out.2)).trans HOK.out.2))
   have n3_ := mk0 (Kd.R_below HVW.out hba)
   clear HND HFR HOK HVW
   have HND := n0_
   have HFR := n1_
   have HOK := n2_
   have HVW := n3_
   clear n0_ n1_ n2_ n3_
   clear k0 k1 k2 k3
   generalize wr.alloc (.cells #[.int .i64 x.id, .string x.text, .slice Bf x.F.length b, .slice D x.G.length e] tSub) = W4 at hba hkS hs2 HCF HND HFR HOK HVW ⊢
   generalize wr.heap.size = gs at hba hkS hs2 hofs ⊢
   have HKS := mk0 hkS
   have HOS := mk0 (hofs W4 (Nat.le_of_eq hs2.symm))
   clear hba hkS hs2 hofs
   obtain ⟨A0, c0, hvS, hcS, hCS⟩ := Kd.R_reads HND.out.1.rows.sch
   have y2 := (HND.out.1.cell 2).trans (show _ = some (Vs A0 N.S.length c0) from by rw [show N.S.length = (N.arr q B L).S.length from rfl, ← hvS]; rfl)
   have s2 := (blk_cell HKS.out 2).trans (show _ = some (Vs Bf x.F.length b) from rfl)
   have m7 := (blk_cell HOK.out.2 7).trans (show _ = some (Vs E k c) from rfl)
   have m8 := (blk_cell HOK.out.2 8).trans (show _ = some (Value.string pay) from rfl)
   obtain ⟨hk0, hkc, hCV⟩ := Kd.R_reads' HVW.out
   have HMC := mk0 (fun qq : BelowP W4 => match_calls A0 Bf E N.S.length x.F.length c0 b k c N.S x.F V pay qq.w rfl rfl hk0.symm (Kd.C_below hCS qq.h) (Kd.C_below HCF.out qq.h) (by have h9 := hCV; rw [← hk0] at h9; exact Kd.C_below h9 qq.h) (by have := (checkBad_none HF.out.chk).2.1; omega) (by have := (fok HF.out.chk HX.out.2.2).1; omega) HX.out.2.1.1)
   unfold encE at HMC
   have q2 : ∀ qq : BelowP W4, qq.w.cell? _ = _ := fun qq => qq.cell y2
   have q3 : ∀ qq : BelowP W4, qq.w.cell? _ = _ := fun qq => qq.cell s2
   have q4 : ∀ qq : BelowP W4, qq.w.cell? _ = _ := fun qq => qq.cell m7
   have q5 : ∀ qq : BelowP W4, qq.w.cell? _ = _ := fun qq => qq.cell m8
   have HST : Aside0 (ArrTo N q V pay (N.subs.drop (i + 1)) (if matchB N.S x.F V pay = true then (if B.length < 64 then B ++ [⟨x.id, N.addr, q, V, pay⟩] else B) else B) (if matchB N.S x.F V pay = true then (if B.length < 64 then L else L + 1) else L)) := ⟨arr_step HX.out.1 HAT.out⟩
   clear hvS hcS hCS hk0 hkc hCV y2 s2 m7 m8 HAT
   cases hmt : matchB N.S x.F V pay with
   | false =>
    rw [hmt] at HMC
    have HAT : Aside0 (ArrTo N q V pay (N.subs.drop (i + 1)) B L) := ⟨by have h9 := HST.out; rw [hmt] at h9; exact h9⟩
    clear hmt HST
    refine wp_region_quiet_below (by kernel_rfl) (by kernel_rfl) ?_
    repeat (quiet_step ((go_at_call 168; (with_reducible refine Calls.below_of (HMC.out _)))))
    refine wpQuiet_nil ?_
    rintro _ ⟨pq, rfl⟩
    obtain ⟨W5, hW5, hb5⟩ : ∃ W, W = pq.w ∧ Below W4.heap.size W4 W := ⟨_, rfl, pq.h⟩
    rw [← hW5]
    clear hW5 HMC
    have n0_ := mk0 (And.intro (HND.out.1.below hb5) HND.out.2)
    have n1_ := mk0 (HFR.out.then hb5 HBS.out)
    have n2_ := mk0 (And.intro (HOK.out.1.below hb5) ((hb5.block _ (blk_lt HOK.out.2)).trans HOK.out.2))
    have n3_ := mk0 (Kd.R_below HVW.out hb5)
    clear HND HFR HOK HVW
    have HND := n0_
    have HFR := n1_
    have HOK := n2_
    have HVW := n3_
    clear n0_ n1_ n2_ n3_
    clear hb5 q2 q3 q4 q5 pq
    go_wp2_with fail
    go_roundg (gk - 1)
    case measure => have := HNM.out; omega
    case rel => exact ⟨i + 1, _, B, L, ⟨by omega, by have := HNM.out; omega, HNM.out.2.2.1, by have := HNM.out; omega, by have := HNM.out; omega⟩, by rw [w64 (by omega) (by have := HF.out.nSub; have := HN.out; omega)]; rfl, HND, HFR, HAT, HOK, HVW⟩
   | true =>
    rw [hmt] at HMC
    refine wp_region_quiet_below (by kernel_rfl) (by kernel_rfl) ?_
    repeat (quiet_step ((go_at_call 168; (with_reducible refine Calls.below_of (HMC.out _)))))
    refine wpQuiet_nil ?_
    rintro _ ⟨pq, rfl⟩
    obtain ⟨W5, hW5, hb5⟩ : ∃ W, W = pq.w ∧ Below W4.heap.size W4 W := ⟨_, rfl, pq.h⟩
    rw [← hW5]
    clear hW5 HMC
    have n0_ := mk0 (And.intro (HND.out.1.below hb5) HND.out.2)
    have n1_ := mk0 (HFR.out.then hb5 HBS.out)
    have n2_ := mk0 (And.intro (HOK.out.1.below hb5) ((hb5.block _ (blk_lt HOK.out.2)).trans HOK.out.2))
    have n3_ := mk0 (Kd.R_below HVW.out hb5)
    clear HND HFR HOK HVW
    have HND := n0_
    have HFR := n1_
    have HOK := n2_
    have HVW := n3_
    clear n0_ n1_ n2_ n3_
    have n0_ := mk0 ((hb5.block _ (blk_lt HKS.out)).trans HKS.out)
    have n1_ := mk0 (HOS.out.below hb5)
    clear HKS HOS hb5 q2 q3 q4 q5 pq HCF
    have HKS := n0_
    have HOS := n1_
    clear n0_ n1_
    obtain ⟨A7, c7, hv7, hc7, _⟩ := Kd.R_reads HND.out.1.rows.box
    have HV7 := mk0 (show hh.vbox = .slice A7 B.length c7 from hv7)
    have y7 := (HND.out.1.cell 7).trans (show _ = some (Vs A7 B.length c7) from by rw [← HV7.out]; rfl)
    clear hv7 hc7
    by_cases hB : B.length < 64
    ·
     have d1 : decide (64 ≤ B.length) = false := decide_eq_false (by omega)
     have d2 : decide ((64 : Int) ≤ (B.length : Int)) = false := decide_eq_false (by omega)
     have HAT : Aside0 (ArrTo N q V pay (N.subs.drop (i + 1)) (B ++ [⟨x.id, N.addr, q, V, pay⟩]) L) := ⟨by have h9 := HST.out; rw [hmt, if_pos rfl, if_pos rfl, if_pos hB, if_pos hB] at h9; exact h9⟩
     have HB64 := mk0 hB
     clear hmt HST hB
     have s0 := (blk_cell HKS.out 0).trans (show _ = some (Value.int .i64 x.id) from rfl)
     have m4 := (blk_cell HOK.out.2 4).trans (show _ = some (Value.int .i64 N.addr) from rfl)
     have m5 := (blk_cell HOK.out.2 5).trans (show _ = some (Value.int .i64 q) from rfl)
     have m7 := (blk_cell HOK.out.2 7).trans (show _ = some (Vs E k c) from rfl)
     have m8 := (blk_cell HOK.out.2 8).trans (show _ = some (Value.string pay) from rfl)
     go_upto_region 12 with (fail)
     have hba := below_alloc (Below.refl W5.heap.size W5) (.cells #[.int .i64 x.id, .int .i64 N.addr, .int .i64 q, .slice E k c, .string pay] tDl)
     have hkD := heap_alloc_new W5 (.cells #[.int .i64 x.id, .int .i64 N.addr, .int .i64 q, .slice E k c, .string pay] tDl)
     have hs2 : (W5.alloc (.cells #[.int .i64 x.id, .int .i64 N.addr, .int .i64 q, .slice E k c, .string pay] tDl)).heap.size = W5.heap.size + 1 := by show (W5.heap.push _).size = _; exact Array.size_push _
     have hgd : w.heap.size ≤ W5.heap.size ∧ gm < W5.heap.size := ⟨HFR.out.below.size, HOK.out.1.2⟩
     have hofs : ∀ W, W5.heap.size + 1 ≤ W.heap.size → Off W hh g W5.heap.size := fun W hW => Off.new HND.out.1 (Nat.le_refl _) (by omega)
     have n0_ := mk0 (And.intro (HND.out.1.below hba) HND.out.2)
     have n1_ := mk0 (HFR.out.then hba HBS.out)
     have n2_ := mk0 (And.intro (HOK.out.1.below hba) ((hba.block _ (blk_lt HOK.out.2)).trans HOK.out.2))
     have n3_ := mk0 (Kd.R_below HVW.out hba)
     clear HND HFR HOK HVW
     have HND := n0_
     have HFR := n1_
     have HOK := n2_
     have HVW := n3_
     clear n0_ n1_ n2_ n3_
     clear s0 m4 m5 m7 m8 y7 d1 d2
     generalize W5.alloc (.cells #[.int .i64 x.id, .int .i64 N.addr, .int .i64 q, .slice E k c, .string pay] tDl) = W6 at hba hkD hs2 HND HFR HOK HVW ⊢
     generalize W5.heap.size = gd at hba hkD hs2 hofs hgd ⊢
     have HOD := mk0 (hofs W6 (Nat.le_of_eq hs2.symm))
     have HKD := mk0 hkD
     have HGD := mk0 hgd
     have m7 := (blk_cell HOK.out.2 7).trans (show _ = some (Vs E k c) from rfl)
     clear hba hkD hs2 hofs hgd HKS HOS
     have hk4 : k ≤ 1000000 := by have := evBad_len HEB.out; have := (checkBad_none HF.out.chk).2.1; have := (Kd.R_reads' HVW.out).1; omega
     go_wp2_with fail
     refine (clV.row (base := base) (Nat.le_trans HBS.out HFR.out.below.size) HVW.out hk4 (by decide)).mono ?_
     rintro e w7 ⟨A4, c4, rfl, hR7, hge7, hb7⟩
     have n0_ := mk0 (And.intro (HND.out.1.below hb7) HND.out.2)
     have n1_ := mk0 (HFR.out.then hb7 HBS.out)
     have n2_ := mk0 (And.intro (HOK.out.1.below hb7) ((hb7.block _ (blk_lt HOK.out.2)).trans HOK.out.2))
     have n3_ := mk0 (Kd.R_below HVW.out hb7)
     clear HND HFR HOK HVW
     have HND := n0_
     have HFR := n1_
     have HOK := n2_
     have HVW := n3_
     clear n0_ n1_ n2_ n3_
     have n0_ := mk0 ((hb7.block _ (blk_lt HKD.out)).trans HKD.out)
     have n1_ := mk0 (HOD.out.below hb7)
     have HR7 := mk0 hR7
     clear HKD HOD hb7 hR7 hge7 m7 hk4
     have HKD := n0_
     have HOD := n1_
     clear n0_ n1_
     have d3 := (blk_cell HKD.out 3).trans (show _ = some (Vs E k c) from rfl)
     have f3 := blk_frozen HKD.out 3
     go_upto_region 13 with (fail)
     have kd8 : (w7.setCell ⟨gd, 3, none⟩ (.slice A4 k c4)).heap[gd]? = some (.cells #[.int .i64 x.id, .int .i64 N.addr, .int .i64 q, .slice A4 k c4, .string pay] tDl (0, 0)) := by simpa using blk_set HKD.out 3 (.slice A4 k c4)
     have HND8 := mk0 (And.intro (HND.out.1.offset HOD.out HKD.out (by decide) 3 (.slice A4 k c4)) HND.out.2)
     have HFR8 := mk0 (HFR.out.setNew HBS.out (p := ⟨gd, 3, none⟩) HGD.out.1 (.slice A4 k c4))
     have HOK8 := mk0 (And.intro (show Off (w7.setCell ⟨gd, 3, none⟩ (.slice A4 k c4)) hh g gm from ⟨HOK.out.1.1, by have h9 := HOK.out.1.2; simpa [World.setCell] using h9⟩) ((Below.heap_setCell w7 ⟨gd, 3, none⟩ (.slice A4 k c4) gm (Nat.ne_of_lt HGD.out.2)).trans HOK.out.2))
     have HVW8 := mk0 (Kd.R_set HVW.out HKD.out (by decide +kernel) 3 (.slice A4 k c4))
     have HR8 := mk0 (Kd.R_apartR (Kd.R_set HR7.out HKD.out (by decide +kernel) 3 (.slice A4 k c4)) HND8.out.1.rows.box (by decide +kernel))
     clear HND HFR HOK HVW HR7 HKD HOD d3 f3
     generalize w7.setCell ⟨gd, 3, none⟩ (.slice A4 k c4) = W8 at kd8 HND8 HFR8 HOK8 HVW8 HR8 ⊢
     have t0 := (blk_cell kd8 0).trans (show _ = some (Value.int .i64 x.id) from rfl)
     have t1 := (blk_cell kd8 1).trans (show _ = some (Value.int .i64 N.addr) from rfl)
     have t2 := (blk_cell kd8 2).trans (show _ = some (Value.int .i64 q) from rfl)
     have t3 := (blk_cell kd8 3).trans (show _ = some (Vs A4 k c4) from rfl)
     have t4 := (blk_cell kd8 4).trans (show _ = some (Value.string pay) from rfl)
     have y7 := (HND8.out.1.cell 7).trans (show _ = some (Vs A7 B.length c7) from by rw [← HV7.out]; rfl)
     have y7a : (W8.alloc (Obj.cells #[.int .i64 x.id, .int .i64 N.addr, .int .i64 q, .slice A4 k c4, .string pay] 46)).cell? ⟨g, 7, none⟩ = some (.slice A7 B.length c7) := pw_cell_below (below_alloc (Below.refl _ _) _) y7
     have HP8 := mk0 (kDl_mkM (x := ⟨x.id, N.addr, q, V, pay⟩) (Kd.R_drew HR8.out))
     clear kd8
     go_region_law (refine Kd.R_append_step kDl (w0 := W8) (W := W8.drew) base ?hw (.tmp 86) (.tmp 88) 43 tDl (.agg #[(.int .i64 0), (.int .i64 0), (.int .i64 0), (.slice none 0 0), (.string ⟨#[]⟩)]) 64 ?ho Tryz.underlying43 infoDl rfl (by decide) (by omega) hh.vbox B ⟨x.id, N.addr, q, V, pay⟩ [.int .i64 x.id, .int .i64 N.addr, .int .i64 q, .slice A4 k c4, .string pay] (fun _ => True) (fun k => True ∧ some k ≠ hh.vbox.ownBlock) ?aV ?aX HP8.out (fun _ hk => hk) ?aF (Kd.R_drew HND8.out.1.rows.box) (below_drew (Below.refl base W8)) (Nat.le_trans HBS.out HFR8.out.below.size) ?aL ?_; (case ho => rfl); (case hw => first | rfl | (simp [Region.wanted])); (case aV => exact HV7.out.symm); (case aX => first | rfl | (go_simp; done) | (go_simp; rfl)); (case aF => exact (fun _ _ => trivial)); (case aL => have := HB64.out; omega); intro v9 w9 ho hb hg hat; have k9 := blk_grown (w := W8.drew) HND8.out.1.blk hg (Kd.R_ne (w := W8.drew) (Kd.R_drew HND8.out.1.rows.box) HND8.out.1.blk (by decide)); obtain ⟨A9, c9, rfl, hc9, hC9⟩ := Kd.R_reads ho; have y7' := (blk_cell k9 7).trans (show _ = some (Vs A7 B.length c7) from by rw [← HV7.out]; rfl); have f7' := blk_frozen k9 7)
     all_goals
      have k10 := blk_set k9 7 (.slice A9 (B ++ [(⟨x.id, N.addr, q, V, pay⟩ : MDl)]).length c9)
      have rd := HND8.out.1.rows.below (below_drew (Below.refl W8.heap.size W8))
      have r10 := (rd.gbox hg ho).set k9 (by decide) 7 (.slice A9 (B ++ [(⟨x.id, N.addr, q, V, pay⟩ : MDl)]).length c9)
      have fA := (Fr.of_below (g := g) (h := hh) (below_drew (Below.refl W8.heap.size W8)) (Nat.le_trans HBS.out HFR8.out.below.size)).trans (Fr.gbox rd hg (Nat.le_trans HBS.out HFR8.out.below.size))
      have f10 := (fA.nbox (v1 := .slice A9 (B ++ [(⟨x.id, N.addr, q, V, pay⟩ : MDl)]).length c9) (NewAt.from (Nat.le_refl _) hat)).trans (Fr.set (h := { hh with vbox := .slice A9 (B ++ [(⟨x.id, N.addr, q, V, pay⟩ : MDl)]).length c9 }) HND8.out.1.gb 7 (.slice A9 (B ++ [(⟨x.id, N.addr, q, V, pay⟩ : MDl)]).length c9))
      have hlen : (B ++ [(⟨x.id, N.addr, q, V, pay⟩ : MDl)]).length = B.length + 1 := by simp
      rw [hlen] at k10 r10 f10
      have HND := mk0 (And.intro (IsNd.of (N := N.arr q (B ++ [⟨x.id, N.addr, q, V, pay⟩]) L) (h := { hh with vbox := .slice A9 (B.length + 1) c9 }) k10 rfl HND8.out.1.gb ⟨r10.sch, r10.sub, r10.seen, r10.box, r10.opn, r10.lnk, r10.sent⟩) (show ({ hh with vbox := .slice A9 (B.length + 1) c9 } : Hd).vsub = h1.vsub from HND8.out.2))
      have HFR := mk0 (HFR8.out.trans f10)
      have HOK := mk0 (And.intro (HOK8.out.1.keep f10) (HOK8.out.1.blk f10 HOK8.out.2))
      have HVW := mk0 (f10.R HND8.out.1 HVW8.out (by decide +kernel))
      have HL1 := mk0 (show (B ++ [(⟨x.id, N.addr, q, V, pay⟩ : MDl)]).length ≤ 64 by rw [hlen]; have := HB64.out; omega)
      clear k9 ho hb hg hat hc9 hC9 y7' f7' rd r10 fA f10 k10 hlen y7a y7 t0 t1 t2 t3 t4 HND8 HFR8 HOK8 HVW8 HR8 HP8
      go_wp2_with fail
      go_roundg (gk - 1)
      case measure => have := HNM.out; omega
      case rel => exact ⟨i + 1, _, (B ++ [⟨x.id, N.addr, q, V, pay⟩]), L, ⟨by omega, by have := HNM.out; omega, HL1.out, by have := HNM.out; omega, by have := HNM.out; omega⟩, by rw [w64 (by omega) (by have := HF.out.nSub; have := HN.out; omega)]; rfl, HND, HFR, HAT, HOK, HVW⟩
    ·
     have d1 : decide (64 ≤ B.length) = true := decide_eq_true (by omega)
     have d2 : decide ((64 : Int) ≤ (B.length : Int)) = true := decide_eq_true (by omega)
     have HAT : Aside0 (ArrTo N q V pay (N.subs.drop (i + 1)) B (wrap64 (L + 1))) := ⟨by have h9 := HST.out; rw [hmt, if_pos rfl, if_pos rfl, if_neg hB, if_neg hB] at h9; rw [w64 (by have := HNM.out; omega) (by have := HNM.out; have := HLO.out; have := HF.out.nSub; have := HN.out; omega)]; exact h9⟩
     have HSW := mk0 (show wrap64 (L + 1) = L + 1 from w64 (by have := HNM.out; omega) (by have := HNM.out; have := HLO.out; have := HF.out.nSub; have := HN.out; omega))
     clear hmt HST hB
     have y12 := (HND.out.1.cell 12).trans (show _ = some (Value.int .i64 L) from rfl)
     have f12 := blk_frozen HND.out.1.blk 12
     go_wp2_with fail
     have f10 := Fr.set (base := base) (g := g) (h := hh) (w := W5) HND.out.1.gb 12 (.int .i64 (wrap64 (L + 1)))
     have r10 := HND.out.1.rows.set HND.out.1.blk (by decide) 12 (.int .i64 (wrap64 (L + 1)))
     have n0_ := mk0 (And.intro (IsNd.of (N := N.arr q B (wrap64 (L + 1))) (h := hh) (blk_set HND.out.1.blk 12 (.int .i64 (wrap64 (L + 1)))) rfl HND.out.1.gb ⟨r10.sch, r10.sub, r10.seen, r10.box, r10.opn, r10.lnk, r10.sent⟩) HND.out.2)
     have n1_ := mk0 (HFR.out.trans f10)
     have n2_ := mk0 (And.intro (HOK.out.1.keep f10) (HOK.out.1.blk f10 HOK.out.2))
     have n3_ := mk0 (f10.R HND.out.1 HVW.out (by decide +kernel))
     clear HND HFR HOK HVW f10 r10 y12 f12 y7
     have HND := n0_
     have HFR := n1_
     have HOK := n2_
     have HVW := n3_
     clear n0_ n1_ n2_ n3_
     go_roundg (gk - 1)
     case measure => have := HNM.out; omega
     case rel => exact ⟨i + 1, _, B, (wrap64 (L + 1)), ⟨by omega, by have := HNM.out; omega, HNM.out.2.2.1, by have := HNM.out; have := HSW.out; omega, by have := HNM.out; have := HSW.out; omega⟩, by rw [w64 (by omega) (by have := HF.out.nSub; have := HN.out; omega)]; rfl, HND, HFR, HAT, HOK, HVW⟩
  ·
   have b1 : decide ((i : Int) < (n : Int)) = false := decide_eq_false (by omega)
   have b2 : decide (i < n) = false := decide_eq_false (by omega)
   have hat := HAT.out
   rw [List.drop_eq_nil_of_le (by have := HN.out; omega)] at hat
   have hfin := And.intro HND.out.1 (And.intro HFR.out (And.intro hat HNM.out.2.2.1))
   clear hat
   go_wp2
   first | go_end0 | ((try simp only [Exit.inBlock, Exit.then]); refine bodyPost_ret (results_none rfl _ _ _) rfl ?_)
   exact ⟨rfl, hh, B, L, hfin⟩
def MEv.cf (q : Int) (grp : ByteArray) (x : MEv) : MEv := if x.seq = q then { x with want := keepL (isQ grp) x.want } else x
def confL (q : Int) (grp : ByteArray) (L : List MEv) : List MEv := keepL noWant (L.map (MEv.cf q grp))
def cfAt (q : Int) (grp : ByteArray) (L : List MEv) (i : Nat) : List MEv := (L.take i).map (MEv.cf q grp) ++ L.drop i
theorem cfAt_get {q : Int} {grp : ByteArray} {L : List MEv} {i : Nat} {x : MEv} (h : (cfAt q grp L i)[i]? = some x) (hi : i < L.length) : L[i]? = some x := by
 unfold cfAt at h
 rw [List.getElem?_append_right (by rw [List.length_map, List.length_take]; omega), List.length_map, List.length_take, Nat.min_eq_left (by omega), Nat.sub_self, List.getElem?_drop, Nat.add_zero] at h
 exact h
theorem cfAt_set {q : Int} {grp : ByteArray} {L : List MEv} {i : Nat} {x : MEv} (h : L[i]? = some x) : (cfAt q grp L i).set i (MEv.cf q grp x) = cfAt q grp L (i + 1) := by
 have hi := (List.getElem?_eq_some_iff.1 h).1
 unfold cfAt
 rw [List.set_append_right _ _ (by rw [List.length_map, List.length_take]; omega), List.length_map, List.length_take, Nat.min_eq_left (by omega), Nat.sub_self, take_snoc h, List.map_append, List.append_assoc]
 congr 1
 have he : L.drop i = x :: L.drop (i + 1) := by obtain ⟨hj, e⟩ := List.getElem?_eq_some_iff.1 h; rw [List.drop_eq_getElem_cons hj, e]
 rw [he]
 rfl
theorem cfAt_keep {q : Int} {grp : ByteArray} {L : List MEv} {i : Nat} {x : MEv} (h : L[i]? = some x) (hq : x.seq ≠ q) : cfAt q grp L i = cfAt q grp L (i + 1) := by
 rw [← cfAt_set h, show MEv.cf q grp x = x from if_neg hq]
 refine (List.ext_getElem? fun j => ?_)
 rw [List.getElem?_set]
 by_cases hj : i = j
 ·
  subst hj
  have hi := (List.getElem?_eq_some_iff.1 h).1
  have hl : i < (cfAt q grp L i).length := by unfold cfAt; simp; omega
  rw [if_pos rfl, if_pos hl]
  unfold cfAt
  rw [List.getElem?_append_right (by rw [List.length_map, List.length_take]; omega), List.length_map, List.length_take, Nat.min_eq_left (by omega), Nat.sub_self, List.getElem?_drop, Nat.add_zero, h]
 ·
  rw [if_neg hj]
theorem cfAt_all {q : Int} {grp : ByteArray} {L : List MEv} : cfAt q grp L L.length = L.map (MEv.cf q grp) := by unfold cfAt; simp
theorem cfAt_len {q : Int} {grp : ByteArray} {L : List MEv} {i : Nat} (hi : i ≤ L.length) : (cfAt q grp L i).length = L.length := by unfold cfAt; simp; omega
theorem opn_want {base g gr n c : Nat} {w w1 : World} {h : Hd} {N : NdM} (r : IsNd base w g h N) (hv : h.vopn = .slice (some ⟨gr, 0, none⟩) n c) (hs : base ≤ w.heap.size) (hb : Below w.heap.size w w1) {i : Nat} {x : MEv} (hx : N.opn[i]? = some x) {v' : Value} {G : List ByteArray} (hG : Kd.R Kd.string tS w1 base (fun _ => True) v' G) :
 IsNd base (w1.setCell ⟨gr, i * 4 + 3, none⟩ v') g h { N with opn := N.opn.set i { x with want := G } } ∧ Fr base g w h (w1.setCell ⟨gr, i * 4 + 3, none⟩ v') h := by
 have r1 := r.below hb
 have hR := r1.rows.opn
 rw [hv] at hR
 have hn := (Kd.R_reads' hR).1
 have hi : i < N.opn.length := (List.getElem?_eq_some_iff.1 hx).1
 obtain ⟨ci, hcl, hM, hcc, _⟩ := Kd.R_elem hR zEv (i : Int) (by omega) (by omega)
 rw [Int.toNat_natCast] at hM hcc
 have hxx : N.opn.getD i zEv = x := by rw [List.getD_eq_getElem?_getD, hx]; rfl
 rw [hxx] at hM
 obtain ⟨v, u, rfl, hV, hW⟩ := kEv_openM hM
 obtain ⟨cur, hgb, _⟩ := R_room hR
 have hG' := Kd.R_types hG hgb (by decide +kernel)
 have hMM : kEv.M w1 base (fun k => True ∧ k ≠ gr) { x with want := G } ([.int .i64 x.seq, v, .string x.pay, u].take 3 ++ [v'] ++ [.int .i64 x.seq, v, .string x.pay, u].drop (3 + 1)) := kEv_mkM hV hG'
 obtain ⟨h1, h2⟩ := Kd.R_seg hR (i : Int) (by omega) (by omega) hcl hcc (j := 3) (seg := [v']) (Nat.le_refl _) hMM (fun _ hk => hk)
 rw [Int.toNat_natCast] at h1 h2
 have hset : w1.setCells gr (i * kEv.sz + 3) [v'] = w1.setCell ⟨gr, i * 4 + 3, none⟩ v' := rfl
 rw [hset] at h1 h2
 have how : h.vopn.ownBlock = some gr := by rw [hv]; rfl
 rw [← how] at h2
 rw [← hv] at h1
 have r2 := r1.rows.gopn h2 h1
 refine ⟨⟨?_, r1.gb, r2⟩, (Fr.of_below hb hs).trans (Fr.gopn r1.rows h2 (Nat.le_trans hs hb.size))⟩
 rw [Below.heap_setCell w1 ⟨gr, i * 4 + 3, none⟩ v' g (fun e => by
  have hz := r1.blk
  rw [e, hgb] at hz
  injection hz with hz
  injection hz with _ hz
  revert hz
  decide +kernel)]
 exact r1.blk
set_option maxHeartbeats 8000000 in
theorem confirm_calls (base g k c : Nat) (h : Hd) (N : NdM) (kind q hops : Int) (grp pay : ByteArray) (E : Option Addr) (w : World) (hI : IsNd base w g h N) (hs : base ≤ w.heap.size) (hl : N.opn.length ≤ 8) (hw : ∀ e ∈ N.opn, e.want.length ≤ 36) :
 Calls Tryz.prog 139 #[.pointer (some ⟨g, 0, none⟩), .agg (msgC kind grp N.addr q hops E k c pay)] w fun e w' => e = .returned (.tuple #[]) ∧ ∃ h', IsNd base w' g h' { N with opn := confL q grp N.opn } ∧ Fr base g w h w' h' := by
 have HS := mk0 hs
 have HL := mk0 (And.intro hl hw)
 have hI1 := hI.below (below_alloc (Below.refl w.heap.size w) (.cells (msgC kind grp N.addr q hops E k c pay) tM))
 have hF1 := Fr.of_below (g := g) (h := h) (below_alloc (Below.refl w.heap.size w) (.cells (msgC kind grp N.addr q hops E k c pay) tM)) hs
 clear hI hl hw
 unfold msgC
 go_enter Tryz.func139, Tryz.ntmps139
 go_upto_region 1 with (fail)
 have HND : Aside0 (IsNd base _ g h N) := ⟨hI1⟩
 have HFR : Aside0 (Fr base g w h _ h) := ⟨hF1⟩
 have HK := mk0 (heap_alloc_new w (.cells (msgC kind grp N.addr q hops E k c pay) tM))
 have HSM : Aside0 (base ≤ w.heap.size) := HS
 clear hI1 hF1
 unfold msgC at HND HFR HK
 generalize w.alloc (.cells #[.int .i64 kind, .string grp, .bool false, .slice none 0 0, .int .i64 N.addr, .int .i64 q, .int .i64 hops, .slice E k c, .string pay] tM) = W1 at HND HFR HK ⊢
 generalize w.heap.size = gm at HK ⊢
 have m1 := (blk_cell HK.out 1).trans (show _ = some (Value.string grp) from rfl)
 have m4 := (blk_cell HK.out 4).trans (show _ = some (Value.int .i64 N.addr) from rfl)
 have m5 := (blk_cell HK.out 5).trans (show _ = some (Value.int .i64 q) from rfl)
 obtain ⟨A8, c8, hv8, hc8, hC8⟩ := Kd.R_reads HND.out.rows.opn
 obtain ⟨n, hn⟩ : ∃ n, n = N.opn.length := ⟨_, rfl⟩
 rw [← hn] at hv8 hc8 hC8
 have HN := mk0 hn
 have HV8 := mk0 hv8
 have y0 := (HND.out.cell 0).trans (show _ = some (Value.int .i64 N.addr) from rfl)
 have y8 := (HND.out.cell 8).trans (show _ = some (Vs A8 n c8) from by rw [← hv8]; rfl)
 clear hv8 hc8 hC8 hn
 go_region
 go_wp2_with fail
 go_loopg [4, 17] (n + 1) (fun kk v4 v17 W => ∃ (i : Nat) (C : List MEv), Aside0 (i ≤ n ∧ kk + i = n + 1 ∧ C = cfAt q grp N.opn i) ∧ v17 = .int .i64 (i : Int) ∧ Aside0 (IsNd base W g h { N with opn := C } ∧ Fr base g w h W h) ∧ Aside0 (W.heap[gm]? = some (.cells #[.int .i64 kind, .string grp, .bool false, .slice none 0 0, .int .i64 N.addr, .int .i64 q, .int .i64 hops, .slice E k c, .string pay] tM (0, 0))))
 case atStart =>
  refine ⟨0, N.opn, ⟨by omega, by omega, rfl⟩, rfl, ⟨HND.out.below ?h1, HFR.out.then ?h2 HS.out⟩, ⟨(Below.block (?h3 : Below W1.heap.size W1 _) gm (blk_lt HK.out)).trans HK.out⟩⟩
  all_goals (with_reducible repeat (first | exact Below.refl _ _ | apply pw_below_drewN | apply below_drew1 | apply below_drew))
 case round =>
  obtain ⟨i, C, HM, rfl, HW, HKW⟩ := hrel
  by_cases hi : i < n
  ·
   have b1 : decide ((i : Int) < (n : Int)) = true := decide_eq_true (by omega)
   have b2 : decide (i < n) = true := decide_eq_true (by omega)
   have p1 : (0 : Int) ≤ (i : Int) := by omega
   have p2 : (i : Int) < (n : Int) := by omega
   have hcl : C.length = n := by rw [HM.out.2.2, cfAt_len (by have := HN.out; omega)]; exact HN.out.symm
   have hR : Kd.R kEv tEv wr base (fun _ => True) (.slice A8 n c8) C := by have h := HW.out.1.rows.opn; rw [HV8.out] at h; exact h
   have hC := (Kd.R_reads' hR).2.2
   obtain ⟨gr, cap, hsl, hgr, hglt, cells, hgc⟩ := Kd.R_form hR (by omega)
   injection hsl with hs1 hs2 hs3
   subst hs1 hs3
   obtain ⟨ci, hci, hM, hcc, _⟩ := Kd.R_elem hR zEv (i : Int) p1 p2
   rw [Int.toNat_natCast] at hM hcc
   have hx : C[i]? = some (C.getD i zEv) := by rw [List.getD_eq_getElem?_getD, List.getElem?_eq_getElem (by omega)]; rfl
   generalize C.getD i zEv = x at hM hx
   obtain ⟨vV, vW, rfl, hV, hW⟩ := kEv_openM hM
   obtain ⟨D, e, rfl, _, _⟩ := Kd.R_reads hW
   have h0 : wr.cell? ⟨gr, i * 4, none⟩ = some (Value.int .i64 x.seq) := hcc 0 _ rfl
   have h3 : wr.cell? ⟨gr, i * 4 + 3, none⟩ = some (Vs D x.want.length e) := hcc 3 _ rfl
   have HWW := mk0 (Kd.R_mono hW (ok' := fun _ => True) (fun _ _ => trivial))
   have HGC := mk0 hgc
   have m1 := (blk_cell HKW.out 1).trans (show _ = some (Value.string grp) from rfl)
   have m5 := (blk_cell HKW.out 5).trans (show _ = some (Value.int .i64 q) from rfl)
   have y8 := (HW.out.1.cell 8).trans (show _ = some (Vs (some ⟨gr, 0, none⟩) n c8) from by rw [← HV8.out]; rfl)
   have hxs : N.opn[i]? = some x := cfAt_get (HM.out.2.2 ▸ hx) (by have := HN.out; omega)
   have HX := mk0 (And.intro hx hxs)
   clear hx hxs hR hM hV hW hcc hci hgr hglt hgc hcl hs2 hC
   go_wp2_with fail
   go_region
   by_cases hq : x.seq = q
   ·
    have hb : (x.seq == q) = true := beq_iff_eq.2 hq
    have HQ := mk0 hq
    clear hq
    go_wp2_with fail
    have hbd : Below wr.heap.size wr wr.drew := below_drew (Below.refl _ _)
    have HND5 := mk0 (And.intro (HW.out.1.below hbd) (HW.out.2.then hbd HS.out))
    have HKW5 := mk0 ((hbd.block gm (blk_lt HKW.out)).trans HKW.out)
    have HGC5 := mk0 ((hbd.block gr (blk_lt HGC.out)).trans HGC.out)
    have HWW5 := mk0 (Kd.R_below HWW.out hbd)
    have m1' := pw_cell_below hbd m1
    have y8' := pw_cell_below hbd y8
    have h3' := pw_cell_below hbd h3
    clear hbd m1 y8 h3 h0 m5 HW HKW HGC HWW hb
    generalize wr.drew = W5 at HND5 HKW5 HGC5 HWW5 m1' y8' h3' ⊢
    have HWL := mk0 (HL.out.2 x (List.mem_of_getElem? HX.out.2))
    have HCL := mk0 (fun (W : World) (hb : Below W5.heap.size W5 W) => clS.row (base := base) (Nat.le_trans (Nat.le_trans HS.out HND5.out.2.below.size) hb.size) (Kd.R_below HWW5.out hb) (by have := HWL.out; omega) (by decide))
    go_region_law (first
     | (go_simp; go_at_call 72; (with_reducible refine (HCL.out _ (below_drew (Below.refl _ _))).mono ?_); rintro e' wx ⟨A', c', rfl, hRx, hge, hbx⟩; have n_ := below_then (below_drew (Below.refl W5.heap.size W5)) (Nat.le_refl _) hbx; have m1x := pw_cell_below n_ m1'; have y8x := pw_cell_below n_ y8'; have h3x := pw_cell_below n_ h3'; have HRX := mk0 (And.intro hRx (And.intro (show ∀ k1, (Vs A' x.want.length c').ownBlock = some k1 → W5.heap.size ≤ k1 from hge) n_)); have fx := blk_frozen ((n_.block gr (blk_lt HGC5.out)).trans HGC5.out) (i * 4 + 3); clear hRx hge hbx n_)
     | (go_simp; go_at_call 197; (with_reducible refine (del_s grp gm base (fun _ => True) _ x.want wx HRX.out.1 (by have := HWL.out; omega) m1x (fun e1 => by have := HRX.out.2.1 _ e1.symm; have := blk_lt HKW5.out; omega)).mono ?_); rintro e' wy ⟨v', rfl, hRy, hgy, hoy⟩; obtain ⟨A9, c9, rfl, _, _⟩ := Kd.R_reads hRy; have n_ := HRX.out.2.2.grown hgy HRX.out.2.2.size (fun k1 hk1 => HRX.out.2.1 k1 hk1); have y8y := pw_cell_below n_ y8'; have h3y := pw_cell_below n_ h3'; have fy := blk_frozen ((n_.block gr (blk_lt HGC5.out)).trans HGC5.out) (i * 4 + 3); have HRY := mk0 (And.intro hRy n_); clear hRy hgy hoy n_))
    all_goals
     have hw9 := opn_want HND5.out.1 HV8.out (Nat.le_trans HS.out HND5.out.2.below.size) HRY.out.2 (i := i) (x := x) HX.out.1 HRY.out.1
     have HN9 := mk0 (And.intro hw9.1 (HND5.out.2.trans hw9.2))
     have hk9 := (HRY.out.2.block gm (blk_lt HKW5.out)).trans HKW5.out
     have hne : gm ≠ gr := fun e1 => by
      have hz := HKW5.out
      rw [e1, HGC5.out] at hz
      injection hz with hz
      injection hz with _ hz
      revert hz
      decide +kernel
     have HK9 := mk0 ((Below.heap_setCell wy ⟨gr, i * 4 + 3, none⟩ (.slice A9 (keepL (isQ grp) x.want).length c9) gm hne).trans hk9)
     clear hw9 hk9 hne HRY fy y8y h3y HND5 HKW5 HGC5 HWW5 HCL HRX fx y8x h3x m1x y8' h3' m1' HWL
     generalize wy.setCell ⟨gr, i * 4 + 3, none⟩ (.slice A9 (keepL (isQ grp) x.want).length c9) = W9 at HN9 HK9 ⊢
     go_wp2_with fail
     go_roundg (gk - 1)
     case measure => have := HM.out; omega
     case rel =>
      refine ⟨i + 1, _, ⟨by omega, by have := HM.out; omega, ?_⟩, by rw [w64 (by omega) (by have := HL.out.1; have := HN.out; omega)]; rfl, HN9, HK9⟩
      rw [← cfAt_set HX.out.2, show MEv.cf q grp x = { x with want := keepL (isQ grp) x.want } from if_pos HQ.out, ← HM.out.2.2]
   ·
    have hb : (x.seq == q) = false := beq_eq_false_iff_ne.2 hq
    have HQ := mk0 hq
    clear hq
    go_wp2_with fail
    go_roundg (gk - 1)
    case measure => have := HM.out; omega
    case rel =>
     have hbd : Below wr.heap.size wr wr.drew := below_drew (Below.refl _ _)
     refine ⟨i + 1, C, ⟨by omega, by have := HM.out; omega, ?_⟩, by rw [w64 (by omega) (by have := HL.out.1; have := HN.out; omega)]; rfl, ⟨HW.out.1.below hbd, HW.out.2.then hbd HS.out⟩, ⟨(hbd.block gm (blk_lt HKW.out)).trans HKW.out⟩⟩
     rw [HM.out.2.2]
     exact cfAt_keep HX.out.2 HQ.out
  ·
   have b1 : decide ((i : Int) < (n : Int)) = false := decide_eq_false (by omega)
   have b2 : decide (i < n) = false := decide_eq_false (by omega)
   have hR : Kd.R kEv tEv wr base (fun _ => True) h.vopn C := HW.out.1.rows.opn
   have hin : i = N.opn.length := by have := HM.out; have := HN.out; omega
   have hcl : C.length = n := by rw [HM.out.2.2, cfAt_len (by omega)]; exact HN.out.symm
   have hCC : C = N.opn.map (MEv.cf q grp) := by rw [HM.out.2.2, hin, cfAt_all]
   have y8 := (HW.out.1.cell 8).trans (show _ = some (Vs A8 n c8) from by rw [← HV8.out]; rfl)
   have f8 := blk_frozen HW.out.1.blk 8
   rw [HV8.out] at hR
   have HDE := mk0 (fun (W : World) (hb : Below wr.heap.size wr W) => del_ev base (fun _ => True) _ C W (Kd.R_below hR hb) (by have := HL.out.1; have := HN.out; omega))
   have HCC := mk0 hCC
   clear hCC hcl hin hR hi
   go_wp2_with fail
   refine (HDE.out wr (Below.refl _ _)).mono ?_
   rintro r w2 ⟨v', rfl, hR2, hg2, ho2⟩
   obtain ⟨A9, c9, rfl, _, _⟩ := Kd.R_reads hR2
   have how : (Vs A8 n c8).ownBlock = h.vopn.ownBlock := by rw [HV8.out]
   rw [how] at hg2 ho2
   have k9 := blk_grown HW.out.1.blk hg2 (Kd.R_ne HW.out.1.rows.opn HW.out.1.blk (by decide))
   have r9 := HW.out.1.rows.gopn hg2 hR2
   have k10 := blk_set k9 8 (.slice A9 (keepL noWant C).length c9)
   have r10 := r9.set k9 (by decide) 8 (.slice A9 (keepL noWant C).length c9)
   have f10 := ((HW.out.2.trans (Fr.gopn HW.out.1.rows hg2 (Nat.le_trans HS.out HW.out.2.below.size))).nopn (v1 := .slice A9 (keepL noWant C).length c9) (.inl ho2)).trans (Fr.set HW.out.1.gb 8 (.slice A9 (keepL noWant C).length c9))
   have y8' := (blk_cell k9 8).trans (show _ = some (Vs A8 n c8) from by rw [← HV8.out]; rfl)
   have f8' := blk_frozen k9 8
   have HFIN : Aside0 (∃ h', IsNd base (w2.setCell ⟨g, 8, none⟩ (.slice A9 (keepL noWant C).length c9)) g h' { N with opn := confL q grp N.opn } ∧ Fr base g w h (w2.setCell ⟨g, 8, none⟩ (.slice A9 (keepL noWant C).length c9)) h') := ⟨⟨_, by
    have hz : confL q grp N.opn = keepL noWant C := by unfold confL; rw [HCC.out]
    rw [hz]
    exact IsNd.of k10 rfl HW.out.1.gb ⟨r10.sch, r10.sub, r10.seen, r10.box, r10.opn, r10.lnk, r10.sent⟩, f10⟩⟩
   clear hR2 hg2 ho2 how k9 r9 k10 r10 f10 HW HDE
   go_wp2
   first | go_end0 | ((try simp only [Exit.inBlock, Exit.then]); refine bodyPost_ret (results_none rfl _ _ _) rfl ?_)
   exact ⟨rfl, HFIN.out⟩
end Go.Proofs.YtnmpijbcajclgaaGreatDoor.Mine
end
section
namespace Go.Proofs.YtnmpijbcajclgaaGreatDoor.PNodeAlone
open Go.RowKit Go.Proofs.YtnmpijbcajclgaaGreatDoorW.PrintWords Go.Proofs.YtnmpijbcajclgaaGreatDoorW.PrintLast Go.Proofs.YtnmpijbcajclgaaGreatDoorW.PrintMore
attribute [local go_sem] max2_int min2_int max_two min_two max_three min_three max_four min_four
theorem eqA272 (d : Nat) (w : World) (x0 y0 : ByteArray) (x1 y1 : Int) (x2 y2 : Int) :
 (Op.equalIn (d + 2) 272 (.agg #[.string x0, .int .i64 x1, .int .i64 x2]) (.agg #[.string y0, .int .i64 y1, .int .i64 y2])).run Tryz.prog w = .ok (x0.toList == y0.toList && (x1 == y1 && (x2 == y2))) w := by
 refine eqA_of Tryz.underlying272 (by kernel_rfl) ?_
 refine eqf_cons (by rfl) (by go_simp; rfl) (by go_simp; rfl) (by go_simp) ?_
 refine eqf_cons (by rfl) (by go_simp; rfl) (by go_simp; rfl) (by go_simp) ?_
 exact eqf_last (by rfl) (by go_simp; rfl) (by go_simp; rfl) (by go_simp)
attribute [local go_sem] max2_int min2_int max_two min_two max_three min_three max_four min_four
attribute [local go_sem high] eqA272
def node_spread_221.l0 : Nat → List (S272) → Int → Int → ByteArray → Int → Int → Option (Int)
 | 0, _, _, _, _, _, _ => none
 | k + 1, x0, x7, x8, x379000, x379001, x379002 => if x8 < x7 then (if 0 ≤ x8 then (if x8 < (x0.length : Int) then (if (x379000.toList == (((rd_T272 x0 x8).f0).toList) && (x379001 == ((rd_T272 x0 x8).f1) && (x379002 == ((rd_T272 x0 x8).f2)))) = true then (some x8) else (node_spread_221.l0 k x0 x7 (wrap64 (x8 + 1)) x379000 x379001 x379002)) else (none)) else (none)) else (some (-1))
def node_spread_221.f (k : Nat) (l0 : List (S272)) (a1_0 : ByteArray) (a1_1 : Int) (a1_2 : Int) : Option (Int) := node_spread_221.l0 k l0 (l0.length : Int) 0 a1_0 a1_1 a1_2
theorem node_spread_221.mono_l : ∀ k, (∀ y0 y1 y2 y3 y4 y5, LeO (node_spread_221.l0 k y0 y1 y2 y3 y4 y5) (node_spread_221.l0 (k + 1) y0 y1 y2 y3 y4 y5))
 | 0 => fun _ _ _ _ _ _ r h => by simp [node_spread_221.l0] at h
 | k + 1 => by
  have ih0 := node_spread_221.mono_l k
  ·
   intro y0 y1 y2 y3 y4 y5
   unfold node_spread_221.l0
   repeat' first
   | (with_reducible exact ih0 _ _ _ _ _ _)
   | (with_reducible exact LeO.refl _)
   | (with_reducible exact LeO.none _)
   | (with_reducible refine LeO.ite ?_ ?_)
   | (with_reducible refine LeO.bind ?_ (fun _ => ?_))
   | exact ih0 _ _ _ _ _ _
   | exact LeO.none _
   | refine LeO.ite ?_ ?_
   | refine LeO.bind ?_ (fun _ => ?_)
theorem node_spread_221.mono : ∀ a0 a1 a2 a3 k, LeO (node_spread_221.f k a0 a1 a2 a3) (node_spread_221.f (k + 1) a0 a1 a2 a3) := by
 intro a0 a1 a2 a3 k
 have ih0 := node_spread_221.mono_l k
 unfold node_spread_221.f
 repeat' first
  | (with_reducible exact ih0 _ _ _ _ _ _)
  | (with_reducible exact LeO.refl _)
  | (with_reducible exact LeO.none _)
  | (with_reducible refine LeO.ite ?_ ?_)
  | (with_reducible refine LeO.bind ?_ (fun _ => ?_))
  | exact ih0 _ _ _ _ _ _
  | exact LeO.none _
  | refine LeO.ite ?_ ?_
  | refine LeO.bind ?_ (fun _ => ?_)
set_option maxHeartbeats 8000000 in
theorem node_spread_221.calls (k : Nat) (A0 : Option Addr) (c0 : Nat) (l0 : List (S272)) (a1_0 : ByteArray) (a1_1 : Int) (a1_2 : Int) (r : Int) (w : World) (hr0 : Kd.C k272 w A0 l0.length l0) (hc0 : l0.length ≤ c0) (h : node_spread_221.f k l0 a1_0 a1_1 a1_2 = some r) :
 Calls Tryz.prog 221 #[.slice A0 l0.length c0, .agg #[.string a1_0, .int .i64 a1_1, .int .i64 a1_2]] w fun e w' => e = .returned (.int .i64 r) ∧ Below w.heap.size w w' := by
 have hu272 := Tryz.underlying272
 have HR0 := mk0 hr0
 have HC0 := mk0 hc0
 clear hr0 hc0
 have HB := mk0 (Below.refl w.heap.size w)
 have H : (node_spread_221.l0 k l0 (l0.length : Int) 0 a1_0 a1_1 a1_2) = some r := h
 clear h
 have H' := mk0 H
 clear H
 go_enter Tryz.func221, Tryz.ntmps221
 go_wp2_with (first | ((with_reducible refine gate_dst (N := 3) rfl ?_); refine box_event ?hg (N := 3) ?hd (cs := #[.string a1_0, .int .i64 a1_1, .int .i64 a1_2]) (t := 272) ?hr ?_; (case hd => rfl); (case hg => rfl); (case hr => first | (go_simp; done) | (go_simp; rfl)); intro gb378 hg w3 hbox hb; have n0_ := mk0 (below_step (by repeat (first | (with_reducible first | exact HB.out | apply below_alloc | apply pw_below_drewN | apply below_drew1) | exact HB.out)) hb); have n1_ := mk0 (hbox); have n2_ := mk0 ((by rw [hg]; exact (below_size (by repeat (first | (with_reducible first | exact HB.out | apply below_alloc | apply pw_below_drewN | apply below_drew1) | exact HB.out))) : w.heap.size ≤ gb378)); have n3_ := mk0 ((by rw [hg]; exact (below_size (by repeat (first | (with_reducible first | exact HB.out | apply below_alloc | apply pw_below_drewN | apply below_drew1) | exact HB.out))) : w.heap.size ≤ gb378)); clear HB; have HB := n0_; have BK378 := n1_; have GW378 := n2_; have GE378 := n3_; clear n0_ n1_ n2_ n3_; clear hb hbox hg))
 repeat (go_quiet (first | ((with_reducible refine gate_dst (N := 3) rfl ?_); refine box_event ?hg (N := 3) ?hd (cs := #[.string a1_0, .int .i64 a1_1, .int .i64 a1_2]) (t := 272) ?hr ?_; (case hd => rfl); (case hg => rfl); (case hr => first | (go_simp; done) | (go_simp; rfl)); intro gb378 hg w3 hbox hb; have n0_ := mk0 (below_step (by repeat (first | (with_reducible first | exact HB.out | apply below_alloc | apply pw_below_drewN | apply below_drew1) | exact HB.out)) hb); have n1_ := mk0 (hbox); have n2_ := mk0 ((by rw [hg]; exact (below_size (by repeat (first | (with_reducible first | exact HB.out | apply below_alloc | apply pw_below_drewN | apply below_drew1) | exact HB.out))) : w.heap.size ≤ gb378)); have n3_ := mk0 ((by rw [hg]; exact (below_size (by repeat (first | (with_reducible first | exact HB.out | apply below_alloc | apply pw_below_drewN | apply below_drew1) | exact HB.out))) : w.heap.size ≤ gb378)); clear HB; have HB := n0_; have BK378 := n1_; have GW378 := n2_; have GE378 := n3_; clear n0_ n1_ n2_ n3_; clear hb hbox hg)); try go_wp2_with (first | ((with_reducible refine gate_dst (N := 3) rfl ?_); refine box_event ?hg (N := 3) ?hd (cs := #[.string a1_0, .int .i64 a1_1, .int .i64 a1_2]) (t := 272) ?hr ?_; (case hd => rfl); (case hg => rfl); (case hr => first | (go_simp; done) | (go_simp; rfl)); intro gb378 hg w3 hbox hb; have n0_ := mk0 (below_step (by repeat (first | (with_reducible first | exact HB.out | apply below_alloc | apply pw_below_drewN | apply below_drew1) | exact HB.out)) hb); have n1_ := mk0 (hbox); have n2_ := mk0 ((by rw [hg]; exact (below_size (by repeat (first | (with_reducible first | exact HB.out | apply below_alloc | apply pw_below_drewN | apply below_drew1) | exact HB.out))) : w.heap.size ≤ gb378)); have n3_ := mk0 ((by rw [hg]; exact (below_size (by repeat (first | (with_reducible first | exact HB.out | apply below_alloc | apply pw_below_drewN | apply below_drew1) | exact HB.out))) : w.heap.size ≤ gb378)); clear HB; have HB := n0_; have BK378 := n1_; have GW378 := n2_; have GE378 := n3_; clear n0_ n1_ n2_ n3_; clear hb hbox hg)))
 go_loopg [8] k (fun kq v8 w' => ∃ (x8_1 : Int), v8 = .int .i64 x8_1 ∧ Aside0 (node_spread_221.l0 kq l0 (l0.length : Int) x8_1 a1_0 a1_1 a1_2 = some r) ∧ Aside0 (kq ≤ k) ∧ Aside0 (w'.heap[gb378]? = some (.cells #[.string a1_0, .int .i64 a1_1, .int .i64 a1_2] 272 (0, 0))) ∧ Aside0 (Below w.heap.size w w'))
 case atStart => exact ⟨(0), (by first | rfl | (simp; done) | (simp [*]; done)), H', ⟨Nat.le_refl _⟩, ⟨by (with_reducible repeat (first | refine blk_drewN ?_ _ | refine blk_drew ?_ | refine blk_alloc ?_ _)); exact BK378.out⟩, ⟨by repeat (first | (with_reducible first | exact HB.out | apply below_alloc | apply pw_below_drewN | apply below_drew1 | refine below_set ?_ GE378.out) | exact HB.out)⟩⟩
 case round =>
  clear H'
  try clear c2
  try clear p2
  obtain ⟨x8_1, rfl, HA, HK1, BK378, HB⟩ := hrel
  cases gk with
  | zero => exact absurd HA.out (by simp [node_spread_221.l0])
  | succ k1 =>
   have H := HA.out
   clear HA
   simp only [node_spread_221.l0] at H
   by_cases c4 : x8_1 < (l0.length : Int)
   ·
    rw [if_pos c4] at H
    have c4b0 : decide (x8_1 < (l0.length : Int)) = true := decide_eq_true c4
    clear c4
    by_cases c5 : 0 ≤ x8_1
    ·
     rw [if_pos c5] at H
     have c5b0 : decide (0 ≤ x8_1) = true := decide_eq_true c5
     clear c5
     by_cases c6 : x8_1 < (l0.length : Int)
     ·
      rw [if_pos c6] at H
      have c6b0 : decide (x8_1 < (l0.length : Int)) = true := decide_eq_true c6
      clear c6
      by_cases c7 : (a1_0.toList == (((rd_T272 l0 x8_1).f0).toList) && (a1_1 == ((rd_T272 l0 x8_1).f1) && (a1_2 == ((rd_T272 l0 x8_1).f2)))) = true
      ·
       rw [if_pos c7] at H
       have c7b0 : (a1_0.toList == (((rd_T272 l0 x8_1).f0).toList) && (a1_1 == ((rd_T272 l0 x8_1).f1) && (a1_2 == ((rd_T272 l0 x8_1).f2)))) = true := c7
       (try (have c7b1 : decide (a1_0.toList = (((rd_T272 l0 x8_1).f0).toList) && (a1_1 == ((rd_T272 l0 x8_1).f1) && (a1_2 == ((rd_T272 l0 x8_1).f2)))) = true := by simpa using c7))
       (try (have c7b2 : (a1_0.toList == (((rd_T272 l0 x8_1).f0).toList) && (a1_1 == ((rd_T272 l0 x8_1).f1) && (a1_2 == ((rd_T272 l0 x8_1).f2)))) = true := by simpa using c7))
       clear c7
       obtain rfl := Option.some.inj H
       have hcz8_0 : wr.cell? ⟨gb378, 0, none⟩ = some (.string a1_0) := (blk_cell BK378.out 0).trans rfl
       have hcz8_1 : wr.cell? ⟨gb378, 1, none⟩ = some (.int .i64 a1_1) := (blk_cell BK378.out 1).trans rfl
       have hcz8_2 : wr.cell? ⟨gb378, 2, none⟩ = some (.int .i64 a1_2) := (blk_cell BK378.out 2).trans rfl
       have hfz8_0 := blk_frozen BK378.out 0
       have hfz8_1 := blk_frozen BK378.out 1
       have hfz8_2 := blk_frozen BK378.out 2
       have p379 : 0 ≤ (x8_1 : Int) := of_decide_eq_true (by first | (with_reducible assumption) | assumption)
       have q379 : x8_1 < (l0.length : Int) := of_decide_eq_true (by first | (with_reducible assumption) | assumption)
       obtain ⟨ad379, e379, hx379_0, hx379_1, hx379_2⟩ := at_T272 HR0.out x8_1 p379 q379
       cases e379
       replace hx379_0 := (HB.out.cell (World.block_lt_of_cell? w _ hx379_0)).trans hx379_0
       replace hx379_1 := (HB.out.cell (World.block_lt_of_cell? w _ hx379_1)).trans hx379_1
       replace hx379_2 := (HB.out.cell (World.block_lt_of_cell? w _ hx379_2)).trans hx379_2
       replace p379 := eq_true p379
       replace q379 := eq_true q379
       go_wp2
       repeat (go_quiet (fail); try go_wp2)
       go_ret
       exact ⟨by first | rfl | (simp [errW_none, errW_some] <;> rfl) | (simp [*, errW_none, errW_some] <;> rfl), by repeat (first | (with_reducible first | exact HB.out | apply below_alloc | apply pw_below_drewN | apply below_drew1 | refine below_set ?_ GE378.out) | exact HB.out)⟩
      ·
       rw [if_neg c7] at H
       have c7b0 : (a1_0.toList == (((rd_T272 l0 x8_1).f0).toList) && (a1_1 == ((rd_T272 l0 x8_1).f1) && (a1_2 == ((rd_T272 l0 x8_1).f2)))) = false := by simpa using c7
       (try (have c7b1 : decide (a1_0.toList = (((rd_T272 l0 x8_1).f0).toList) && (a1_1 == ((rd_T272 l0 x8_1).f1) && (a1_2 == ((rd_T272 l0 x8_1).f2)))) = false := by simpa using c7))
       (try (have c7b2 : (a1_0.toList == (((rd_T272 l0 x8_1).f0).toList) && (a1_1 == ((rd_T272 l0 x8_1).f1) && (a1_2 == ((rd_T272 l0 x8_1).f2)))) = false := by simpa using c7))
       (try (have c7b3 : ¬ (a1_0.toList = (((rd_T272 l0 x8_1).f0).toList) && (a1_1 == ((rd_T272 l0 x8_1).f1) && (a1_2 == ((rd_T272 l0 x8_1).f2)))) := by simpa using c7))
       clear c7
       have H' := mk0 H
       clear H
       have hcz9_0 : wr.cell? ⟨gb378, 0, none⟩ = some (.string a1_0) := (blk_cell BK378.out 0).trans rfl
       have hcz9_1 : wr.cell? ⟨gb378, 1, none⟩ = some (.int .i64 a1_1) := (blk_cell BK378.out 1).trans rfl
       have hcz9_2 : wr.cell? ⟨gb378, 2, none⟩ = some (.int .i64 a1_2) := (blk_cell BK378.out 2).trans rfl
       have hfz9_0 := blk_frozen BK378.out 0
       have hfz9_1 := blk_frozen BK378.out 1
       have hfz9_2 := blk_frozen BK378.out 2
       have p379 : 0 ≤ (x8_1 : Int) := of_decide_eq_true (by first | (with_reducible assumption) | assumption)
       have q379 : x8_1 < (l0.length : Int) := of_decide_eq_true (by first | (with_reducible assumption) | assumption)
       obtain ⟨ad379, e379, hx379_0, hx379_1, hx379_2⟩ := at_T272 HR0.out x8_1 p379 q379
       cases e379
       replace hx379_0 := (HB.out.cell (World.block_lt_of_cell? w _ hx379_0)).trans hx379_0
       replace hx379_1 := (HB.out.cell (World.block_lt_of_cell? w _ hx379_1)).trans hx379_1
       replace hx379_2 := (HB.out.cell (World.block_lt_of_cell? w _ hx379_2)).trans hx379_2
       replace p379 := eq_true p379
       replace q379 := eq_true q379
       go_wp2
       repeat (go_quiet (fail); try go_wp2)
       go_roundg k1
       case measure => have := HK1.out; omega
       case rel => exact ⟨(wrap64 (x8_1 + 1)), (by first | rfl | (simp; done) | (simp [*]; done)), H', ⟨by have := HK1.out; omega⟩, ⟨by (with_reducible repeat (first | refine blk_drewN ?_ _ | refine blk_drew ?_ | refine blk_alloc ?_ _)); exact BK378.out⟩, ⟨by repeat (first | (with_reducible first | exact HB.out | apply below_alloc | apply pw_below_drewN | apply below_drew1 | refine below_set ?_ GE378.out) | exact HB.out)⟩⟩
     ·
      rw [if_neg c6] at H
      exact absurd H (by simp)
    ·
     rw [if_neg c5] at H
     exact absurd H (by simp)
   ·
    rw [if_neg c4] at H
    have c4b0 : decide (x8_1 < (l0.length : Int)) = false := decide_eq_false c4
    clear c4
    obtain rfl := Option.some.inj H
    go_wp2
    repeat (go_quiet (fail); try go_wp2)
    go_ret
    exact ⟨by first | rfl | (simp [errW_none, errW_some] <;> rfl) | (simp [*, errW_none, errW_some] <;> rfl), by repeat (first | (with_reducible first | exact HB.out | apply below_alloc | apply pw_below_drewN | apply below_drew1 | refine below_set ?_ GE378.out) | exact HB.out)⟩
def node_spread_163.f (k : Nat) (l0 : List (S272)) (a1_0 : ByteArray) (a1_1 : Int) (a1_2 : Int) : Option (Bool) := (node_spread_221.f k l0 a1_0 a1_1 a1_2).bind fun t381 => (some (decide (t381 ≥ 0)))
theorem node_spread_163.mono : ∀ a0 a1 a2 a3 k, LeO (node_spread_163.f k a0 a1 a2 a3) (node_spread_163.f (k + 1) a0 a1 a2 a3) := by
 intro a0 a1 a2 a3 k
 unfold node_spread_163.f
 repeat' first
  | (with_reducible exact node_spread_221.mono _ _ _ _ _)
  | (with_reducible exact LeO.refl _)
  | (with_reducible exact LeO.none _)
  | (with_reducible refine LeO.ite ?_ ?_)
  | (with_reducible refine LeO.bind ?_ (fun _ => ?_))
  | exact node_spread_221.mono _ _ _ _ _
  | exact LeO.none _
  | refine LeO.ite ?_ ?_
  | refine LeO.bind ?_ (fun _ => ?_)
set_option maxHeartbeats 8000000 in
theorem node_spread_163.calls (k : Nat) (A0 : Option Addr) (c0 : Nat) (l0 : List (S272)) (a1_0 : ByteArray) (a1_1 : Int) (a1_2 : Int) (r : Bool) (w : World) (hr0 : Kd.C k272 w A0 l0.length l0) (hc0 : l0.length ≤ c0) (h : node_spread_163.f k l0 a1_0 a1_1 a1_2 = some r) :
 Calls Tryz.prog 163 #[.slice A0 l0.length c0, .agg #[.string a1_0, .int .i64 a1_1, .int .i64 a1_2]] w fun e w' => e = .returned (.bool r) ∧ Below w.heap.size w w' := by
 have hu272 := Tryz.underlying272
 have HR0 := mk0 hr0
 have HC0 := mk0 hc0
 clear hr0 hc0
 have HB := mk0 (Below.refl w.heap.size w)
 have H : ((node_spread_221.f k l0 a1_0 a1_1 a1_2).bind fun t381 => (some (decide (t381 ≥ 0)))) = some r := h
 clear h
 replace H := Option.bind_eq_some_iff.mp H
 obtain ⟨t381, A30, H⟩ := H
 replace H : (some (decide (t381 ≥ 0))) = some r := H
 have A3 := mk0 A30
 clear A30
 obtain rfl := Option.some.inj H
 go_enter Tryz.func163, Tryz.ntmps163
 go_wp2_with (first | ((with_reducible refine gate_dst (N := 3) rfl ?_); refine box_event ?hg (N := 3) ?hd (cs := #[.string a1_0, .int .i64 a1_1, .int .i64 a1_2]) (t := 272) ?hr ?_; (case hd => rfl); (case hg => rfl); (case hr => first | (go_simp; done) | (go_simp; rfl)); intro gb380 hg w4 hbox hb; have n0_ := mk0 (below_step (by repeat (first | (with_reducible first | exact HB.out | apply below_alloc | apply pw_below_drewN | apply below_drew1) | exact HB.out)) hb); have n1_ := mk0 (hbox); have n2_ := mk0 ((by rw [hg]; exact (below_size (by repeat (first | (with_reducible first | exact HB.out | apply below_alloc | apply pw_below_drewN | apply below_drew1) | exact HB.out))) : w.heap.size ≤ gb380)); have n3_ := mk0 ((by rw [hg]; exact (below_size (by repeat (first | (with_reducible first | exact HB.out | apply below_alloc | apply pw_below_drewN | apply below_drew1) | exact HB.out))) : w.heap.size ≤ gb380)); clear HB; have HB := n0_; have BK380 := n1_; have GW380 := n2_; have GE380 := n3_; clear n0_ n1_ n2_ n3_; clear hb hbox hg; have hcz5_0 : w4.cell? ⟨gb380, 0, none⟩ = some (.string a1_0) := (blk_cell BK380.out 0).trans rfl; have hcz5_1 : w4.cell? ⟨gb380, 1, none⟩ = some (.int .i64 a1_1) := (blk_cell BK380.out 1).trans rfl; have hcz5_2 : w4.cell? ⟨gb380, 2, none⟩ = some (.int .i64 a1_2) := (blk_cell BK380.out 2).trans rfl; have hfz5_0 := blk_frozen BK380.out 0; have hfz5_1 := blk_frozen BK380.out 1; have hfz5_2 := blk_frozen BK380.out 2) | ((with_reducible refine gate_callee (f := 221) rfl ?_); refine goesL_ (some 7) rfl rfl Tryz.func221 (by kernel_rfl) rfl #[.slice A0 l0.length c0, .agg #[.string a1_0, .int .i64 a1_1, .int .i64 a1_2]] rfl (by (try simp only [List.map_toArray, List.map_cons, List.map_nil]); first | done | rfl | (simp only [List.length_drop, List.length_take]; rfl)) ?_; (with_reducible refine (node_spread_221.calls k _ _ l0 a1_0 a1_1 a1_2 t381 _ ?side1 ?side2 A3.out).mono ?_); (case side1 => repeat (first | exact (Kd.C_below HR0.out HB.out) | (with_reducible refine Kd.C_alloc ?_ _) | (with_reducible refine Kd.C_drewN ?_ _) | (with_reducible refine Kd.C_drew ?_))); (case side2 => exact HC0.out); rintro e w6 ⟨rfl, hb⟩; refine ⟨_, rfl, ?_⟩; have n0_ := mk0 (blk_below (g := gb380) (o := .cells #[.string a1_0, .int .i64 a1_1, .int .i64 a1_2] 272 (0, 0)) (by (with_reducible repeat (first | refine blk_drewN ?_ _ | refine blk_drew ?_ | refine blk_alloc ?_ _)); exact BK380.out) hb); have n1_ := mk0 (below_step (by repeat (first | (with_reducible first | exact HB.out | apply below_alloc | apply pw_below_drewN | apply below_drew1 | refine below_set ?_ GE380.out) | exact HB.out)) hb); clear BK380; clear HB; have BK380 := n0_; have HB := n1_; clear n0_ n1_; (try clear hb); (try clear hb2); (try clear hk); (try clear hi)))
 go_ret
 exact ⟨by first | rfl | (simp [errW_none, errW_some] <;> rfl) | (simp [*, errW_none, errW_some] <;> rfl), by repeat (first | (with_reducible first | exact HB.out | apply below_alloc | apply pw_below_drewN | apply below_drew1 | refine below_set ?_ GE380.out) | exact HB.out)⟩
end Go.Proofs.YtnmpijbcajclgaaGreatDoor.PNodeAlone
end
section
namespace Go.Proofs.YtnmpijbcajclgaaGreatDoor.Mine
open Go.Maps Go.RowKit YtnmpijbcajclgaaGreatDoorW.PrintWords YtnmpijbcajclgaaGreatDoorW.PrintLast YtnmpijbcajclgaaGreatDoorW.PrintMore
open PNodeAlone
theorem C_map {α β : Type} {d : Kd α} {d' : Kd β} (f : α → β) {w : World} (hsz : d.sz = d'.sz) (hK : ∀ x cs, d.K w x cs → d'.K w (f x) cs) {A : Option Addr} {n : Nat} {xs : List α} (h : Kd.C d w A n xs) : Kd.C d' w A n (xs.map f) := by
 refine ⟨by rw [List.length_map]; exact h.1, h.2.1, fun hp => ?_⟩
 obtain ⟨ad, e, hc⟩ := h.2.2 hp
 refine ⟨ad, e, fun i p hi => ?_⟩
 rw [List.getElem?_map, Option.map_eq_some_iff] at hi
 obtain ⟨x, hx, rfl⟩ := hi
 obtain ⟨cs, h1, h2, h3⟩ := hc i x hx
 exact ⟨cs, by rw [← hsz]; exact h1, hK x cs h2, by rw [← hsz]; exact h3⟩
def MSp.s (x : MSp) : S272 := ⟨x.grp, x.pub, x.seq⟩
theorem spr_none (grp : ByteArray) (pub q : Int) (xs : List S272) (hl : xs.length ≤ 600) (hno : ∀ s ∈ xs, ¬ (grp = s.f0 ∧ pub = s.f1 ∧ q = s.f2)) : ∀ (k i : Nat), i ≤ xs.length → i + k = xs.length + 1 → node_spread_221.l0 k xs (xs.length : Int) (i : Int) grp pub q = some (-1)
 | 0, i, h0, h => by
  omega
 | k + 1, i, h0, h => by
  rw [node_spread_221.l0]
  by_cases hi : i < xs.length
  ·
   have hm := hno _ (List.getElem_mem hi)
   have hr : rd_T272 xs (i : Int) = xs[i] := by
    unfold rd_T272
    rw [Int.toNat_natCast, List.getD_eq_getElem?_getD, List.getElem?_eq_getElem hi]
    rfl
   rw [if_pos (by omega), if_pos (by omega), if_pos (by omega), hr, if_neg ?_, show wrap64 ((i : Int) + 1) = ((i + 1 : Nat) : Int) from by unfold wrap64; omega]
   ·
    exact spr_none grp pub q xs hl hno k (i + 1) (by omega) (by omega)
   ·
    intro he
    simp only [Bool.and_eq_true, beq_iff_eq] at he
    exact hm ⟨by have h1 := he.1; simp only [Go.Lib.toList_data] at h1; exact ByteArray.ext (Array.toList_inj.1 h1), he.2.1, he.2.2⟩
  ·
   rw [if_neg (by omega)]
theorem spread_no (A : Option Addr) (c : Nat) (xs : List MSp) (grp : ByteArray) (pub q : Int) (w : World) (hC : Kd.C kSp w A xs.length xs) (hc : xs.length ≤ c) (hl : xs.length ≤ 600) (hno : ∀ s ∈ xs, ¬ (grp = s.grp ∧ pub = s.pub ∧ q = s.seq)) :
 Calls Tryz.prog 163 #[.slice A xs.length c, .agg #[.string grp, .int .i64 pub, .int .i64 q]] w fun e w' => e = .returned (.bool false) ∧ Below w.heap.size w w' := by
 have hm := C_map (d' := k272) MSp.s rfl (fun x cs hx => by rw [kSp_open hx]; exact k272_mk w x.s) hC
 have hlen : (xs.map MSp.s).length = xs.length := List.length_map _
 have h := node_spread_163.calls (xs.length + 1) A c (xs.map MSp.s) grp pub q false w (by rw [hlen]; exact hm) (by rw [hlen]; exact hc) (by
  unfold node_spread_163.f node_spread_221.f
  have hz := spr_none grp pub q (xs.map MSp.s) (by omega) (fun s hs => by
   obtain ⟨x, hx, rfl⟩ := List.mem_map.1 hs
   exact hno x hx) (xs.length + 1) 0 (Nat.zero_le _) (by omega)
  rw [show (((0 : Nat) : Int)) = 0 from rfl] at hz
  rw [hz]
  rfl)
 rwa [hlen] at h
theorem spr_some (grp : ByteArray) (pub q : Int) (xs : List S272) (hl : xs.length ≤ 600) : ∀ (k i : Nat), i ≤ xs.length → i + k = xs.length + 1 → (∃ j, i ≤ j ∧ ∃ h : j < xs.length, grp = xs[j].f0 ∧ pub = xs[j].f1 ∧ q = xs[j].f2) → ∃ r : Nat, node_spread_221.l0 k xs (xs.length : Int) (i : Int) grp pub q = some (r : Int)
 | 0, i, h0, h, _ => by
  omega
 | k + 1, i, h0, h, hj => by
  obtain ⟨j, hij, hjl, e0, e1, e2⟩ := hj
  rw [node_spread_221.l0]
  have hi : i < xs.length := by omega
  have hr : rd_T272 xs (i : Int) = xs[i] := by
   unfold rd_T272
   rw [Int.toNat_natCast, List.getD_eq_getElem?_getD, List.getElem?_eq_getElem hi]
   rfl
  rw [if_pos (by omega), if_pos (by omega), if_pos (by omega), hr]
  split
  ·
   exact ⟨i, rfl⟩
  ·
   rename_i hm
   rw [show wrap64 ((i : Int) + 1) = ((i + 1 : Nat) : Int) from by unfold wrap64; omega]
   refine spr_some grp pub q xs hl k (i + 1) (by omega) (by omega) ⟨j, ?_, hjl, e0, e1, e2⟩
   rcases Nat.lt_or_ge i j with h3 | h3
   ·
    exact h3
   ·
    have : i = j := by omega
    subst this
    exact absurd (by rw [← e0, ← e1, ← e2]; simp) hm
theorem spread_yes (A : Option Addr) (c : Nat) (xs : List MSp) (grp : ByteArray) (pub q : Int) (w : World) (hC : Kd.C kSp w A xs.length xs) (hc : xs.length ≤ c) (hl : xs.length ≤ 600) (hy : ∃ s ∈ xs, grp = s.grp ∧ pub = s.pub ∧ q = s.seq) :
 Calls Tryz.prog 163 #[.slice A xs.length c, .agg #[.string grp, .int .i64 pub, .int .i64 q]] w fun e w' => e = .returned (.bool true) ∧ Below w.heap.size w w' := by
 have hm := C_map (d' := k272) MSp.s rfl (fun x cs hx => by rw [kSp_open hx]; exact k272_mk w x.s) hC
 have hlen : (xs.map MSp.s).length = xs.length := List.length_map _
 obtain ⟨s, hs, e0, e1, e2⟩ := hy
 obtain ⟨j, hj, rfl⟩ := List.getElem_of_mem hs
 obtain ⟨r, hz⟩ := spr_some grp pub q (xs.map MSp.s) (by omega) (xs.length + 1) 0 (by omega) (by omega) ⟨j, Nat.zero_le _, by omega, by rw [List.getElem_map]; exact e0, by rw [List.getElem_map]; exact e1, by rw [List.getElem_map]; exact e2⟩
 have h := node_spread_163.calls (xs.length + 1) A c (xs.map MSp.s) grp pub q true w (by rw [hlen]; exact hm) (by rw [hlen]; exact hc) (by
  unfold node_spread_163.f node_spread_221.f
  rw [show (((0 : Nat) : Int)) = 0 from rfl] at hz
  rw [hz]
  exact congrArg some (decide_eq_true (by omega)))
 rwa [hlen] at h
end Go.Proofs.YtnmpijbcajclgaaGreatDoor.Mine
end
