/-
  Texts of this claim, one behind the other: what each one proves, and its conditions, stand at its head.
-/
import Derived.Test.YtlokmijoaocofaaMT4
set_option linter.unusedSimpArgs false
set_option linter.unusedVariables false
section
/-
  BoardGone walked: true. Conditions: what an argument is (lengths that a program can hold).
-/
namespace Go.Proofs.Ytlokmijoaocofaa.Mine
open Go.Maps Go.RowKit Go.Proofs.YtlokmijoaocofaaW.PrintWords Go.Proofs.YtlokmijoaocofaaW.PrintLast Go.Proofs.YtlokmijoaocofaaW.PrintMore
open Go.Proofs.Ytlokmijoaocofaa.PBoardAgain
theorem CW_kept {base : Nat} {w w' : World} (hk : Kept base w w') {A : Option Addr} {n : Nat} {L : List SW} (h : Kd.C kW w A n L) : Kd.C kW w' A n L :=
  ⟨h.1, h.2.1, fun hn => by
    obtain ⟨ad, e, hc⟩ := h.2.2 hn
    refine ⟨ad, e, fun j p hj => ?_⟩
    obtain ⟨cs, h1, h2, h3⟩ := hc j p hj
    obtain rfl := k43_open h2
    exact ⟨_, h1, k43_mk w' p, fun i u hi => hk.cell (h3 i u hi)⟩⟩
theorem eqA43 (d : Nat) (w : World) (x0 y0 x1 y1 : Int) :
    (Op.equalIn (d + 2) 43 (.agg #[.int .i64 x0, .int .i64 x1]) (.agg #[.int .i64 y0, .int .i64 y1])).run Try.prog w = .ok (x0 == y0 && x1 == y1) w := by
  refine eqA_of Try.underlying43 (by kernel_rfl) ?_
  refine eqf_cons (by rfl) (by go_simp; rfl) (by go_simp; rfl) (by go_simp) ?_
  exact eqf_last (by rfl) (by go_simp; rfl) (by go_simp; rfl) (by go_simp)
attribute [local go_sem high] eqA43
set_option maxHeartbeats 8000000 in
set_option maxRecDepth 100000 in
theorem boardGone_calls (A E AA : Option Addr) (n c m d na ca : Nat) (nn : Int) (S : List SA) (L : List SV) (acts : List ActR) (pay : ByteArray) (w : World) (hn : S.length = n) (hr : Kd.C k65 w A n S) (hc : n ≤ c) (hnm : ∀ p ∈ S, p.f0.size ≤ 9223372036854775807) (hn2 : n ≤ 9223372036854775807)
    (hac : ActsIs w AA na acts)
    (hm : L.length = m) (hr2 : Kd.C k63 w E m L) (hd : m ≤ d) (hmm : ∀ p ∈ L, p.f1.size ≤ 9223372036854775807) (hpay : pay.size ≤ 9223372036854775807) (hm2 : m ≤ 9223372036854775807) :
    Calls Try.prog 6 #[.slice A n c, .slice AA na ca, encE E m d pay, .int .i64 nn] w fun e w' => e = .returned (.bool true) ∧ Below w.heap.size w w' := by
  have HE0 := Aside0.mk (fun W (hb : Below w.heap.size w W) => attrs_calls A n c S W hn (Kd.C_below hr hb) hc hnm hn2)
  have HE2 := Aside0.mk (fun W (hb : Below w.heap.size w W) => event5_calls E m d L pay W hm (Kd.C_below hr2 hb) hd hmm hpay hm2)
  have HL1 := Aside0.mk (show (attrsOf S).length ≤ 6 by unfold attrsOf; simp; omega)
  have HL2 := Aside0.mk (show (evOf L).length ≤ 6 by unfold evOf; simp; omega)
  generalize cutB pay 210 = p1 at HE2
  generalize attrsOf S = S1 at HE0 HL1
  generalize evOf L = V1 at HE2 HL2
  clear hn hr hc hnm hn2 hm hr2 hd hmm hpay hm2
  unfold encE at HE2 ⊢
  have HAC := Aside0.mk hac
  clear hac
  go_enter Try.func6, Try.ntmps6
  go_wp2_with fail
  have hba := below_alloc (Below.refl w.heap.size w) (.cells #[.slice E m d, .string pay] 24)
  have ka := heap_alloc_new w (.cells #[.slice E m d, .string pay] 24)
  generalize w.alloc (.cells #[.slice E m d, .string pay] 24) = wa at hba ka ⊢
  refine (HE0.out wa hba).mono ?_
  rintro e wb ⟨v0, v1, rfl, hR0, hR1, hbb⟩
  obtain ⟨A1, c1, rfl, hc1, hC1⟩ := Kd.R_reads hR0
  have HR0 := Aside0.mk hR0
  have HB := Aside0.mk (below_then hba hba.size hbb)
  have HKA := Aside0.mk ((hbb.block _ (blk_lt ka)).trans ka)
  clear hba ka hR0 hR1 hbb
  have y0 := (blk_cell HKA.out 0).trans (show _ = some (Value.slice E m d) from rfl)
  have y1 := (blk_cell HKA.out 1).trans (show _ = some (Value.string pay) from rfl)
  go_wp2_with fail
  refine (HE2.out wb HB.out).mono ?_
  rintro e wc ⟨v2, v3, rfl, hR2, hR3, hbc⟩
  obtain ⟨E1, c2, rfl, hc2, hC2⟩ := Kd.R_reads hR2
  obtain ⟨a1, o1, hA1⟩ := R_at HR0.out
  obtain ⟨a2, o2, hE1⟩ := R_at hR2
  have n1 := Aside0.mk (below_then HB.out HB.out.size hbc)
  have HCA := Aside0.mk (And.intro hc1 (And.intro (Kd.C_below hC1 hbc) hA1))
  have HCE := Aside0.mk (And.intro hc2 (And.intro hC2 hE1))
  clear HB HKA HR0 hR2 hR3 hbc hc1 hC1 hA1 hc2 hC2 hE1 y0 y1
  have HB := n1
  clear n1
  obtain ⟨m1, hm1⟩ : ∃ n, n = S1.length := ⟨_, rfl⟩
  obtain ⟨m2, hm2⟩ : ∃ n, n = V1.length := ⟨_, rfl⟩
  rw [← hm1] at HCA HL1 ⊢
  rw [← hm2] at HCE HL2 ⊢
  have HM1 := Aside0.mk hm1
  have HM2 := Aside0.mk hm2
  clear hm1 hm2
  go_upto_region 3 with (fail)
  have hbd := below_alloc (Below.refl wc.heap.size wc) (.cells #[.slice E1 m2 c2, .string p1] 24)
  have kx := heap_alloc_new wc (.cells #[.slice E1 m2 c2, .string p1] 24)
  have n1 := Aside0.mk (below_then HB.out HB.out.size hbd)
  have n2 := Aside0.mk (And.intro HCA.out.1 (And.intro (Kd.C_below HCA.out.2.1 hbd) HCA.out.2.2))
  have n3 := Aside0.mk (And.intro HCE.out.1 (And.intro (Kd.C_below HCE.out.2.1 hbd) HCE.out.2.2))
  generalize wc.alloc (.cells #[.slice E1 m2 c2, .string p1] 24) = wd at kx n1 n2 n3 ⊢
  generalize wc.heap.size = gx at kx ⊢
  clear hbd HB HCA HCE
  have HB := n1
  have HCA := n2
  have HCE := n3
  have HKX := Aside0.mk kx
  clear n1 n2 n3 kx
  go_wp2_with fail
  refine (new_calls w.heap.size a1 o1 m1 c1 A1 S1 wd HM1.out.symm (by rcases HCA.out.2.2 with h | h; exact Or.inl h; exact Or.inr h) HCA.out.2.1 (by have := HL1.out; omega) HCA.out.1 HB.out.size).mono ?_
  rintro e we ⟨hbe, hp⟩
  have n1 := Aside0.mk (below_then HB.out HB.out.size hbe)
  have n3 := Aside0.mk (And.intro HCE.out.1 (And.intro (Kd.C_below HCE.out.2.1 hbe) HCE.out.2.2))
  have n4 := Aside0.mk ((hbe.block _ (blk_lt HKX.out)).trans HKX.out)
  clear HB HCA HCE HKX hbe HE0 HE2
  have HB := n1
  have HCE := n3
  have HKX := n4
  clear n1 n3 n4
  rcases hp with ⟨i, hck, b1, rfl, hf⟩ | ⟨hck, g, hg, rfl, hbd⟩
  · skip
    clear hck hf
    go_wp2_with fail
    refine (awake_calls _).mono ?_
    rintro e w8 ⟨rfl, hb8⟩
    have hfin := below_then HB.out HB.out.size hb8
    clear hb8
    go_wp2
    try go_ret
    exact ⟨rfl, hfin⟩
  · have HBD := Aside0.mk hbd
    have HCK := Aside0.mk hck
    clear hbd hck
    have HEG := Aside0.mk (show Bd.empty.evs = (fun _ => none) ∧ Bd.empty.got = (fun _ => false) from ⟨rfl, rfl⟩)
    go_upto_region 7 with (fail)
    go_loopg [15] 41 (fun k v15 W => ∃ (i : Nat) (B : Bd), Aside0 (i ≤ na ∧ i ≤ 40 ∧ k + i = 41) ∧ v15 = .int .i64 (i : Int) ∧ Aside0 (Below w.heap.size w W) ∧ Aside0 (IsBd w.heap.size W g S1 B i) ∧ Aside0 (B.evs = (fun _ => none) ∧ B.got = (fun _ => false)) ∧ Aside0 (m2 ≤ c2 ∧ Kd.C k63 W E1 m2 V1 ∧ (E1 = some ⟨a2, o2, none⟩ ∨ m2 = 0)) ∧ Aside0 (W.heap[gx]? = some (.cells #[.slice E1 m2 c2, .string p1] 24 (0, 0))))
    case atStart => exact ⟨0, Bd.empty, ⟨by omega, by omega, by omega⟩, rfl, HB, HBD, HEG, HCE, HKX⟩
    case round =>
      clear HB HBD HEG HCE HKX
      obtain ⟨i, B, HI, rfl, HB, HBD, HEG, HCE, HKX⟩ := hrel
      by_cases hi : i < na
      · have b1 : decide ((i : Int) < (na : Int)) = true := decide_eq_true (by omega)
        have b2 : decide (i < na) = true := decide_eq_true (by omega)
        have p1' : (0 : Int) ≤ (i : Int) := by omega
        have p2' : (i : Int) < (na : Int) := by omega
        by_cases h40 : i < 40
        · have b3 : decide ((i : Int) < 40) = true := decide_eq_true (by omega)
          have b4 : decide (i < 40) = true := decide_eq_true (by omega)
          obtain ⟨ad, ac, hA, hget, hok, c0, _, _, c3, c4, c5, _, _⟩ := at_act (HAC.out.below HB.out) i hi
          subst hA
          rw [Int.toNat_natCast] at c0 c3 c4 c5
          by_cases hk : ac.kind = 2
          · have o1 : (ac.kind == 2) = true := by simpa using hk
            have HCT := Aside0.mk (fun W => show Calls Try.prog 13 #[.string ac.text, .int .i64 300] W (fun e w' => e = .returned (.string (cutB ac.text 300)) ∧ W = w') from cut_P ac.text 300 W (by have := hok.text; have : maxLen = 9223372036854775807 := rfl; omega) (by omega))
            have HT := Aside0.mk (cutB_le ac.text 300)
            generalize cutB ac.text 300 = s1 at HCT HT
            have HSC := Aside0.mk (sub_any w.heap.size g i (ac.node, ac.sub) S1 B s1 wr.drew (HBD.out.below (below_drew (Below.refl _ _))) HB.out.size (by omega) ⟨hok.node, hok.sub⟩ (by have := HT.out; omega))
            clear hok hget hk
            go_wp2_with fail
            go_region_held3 (fun X => X.cell? ⟨(ad.add (i * 8)).block, (ad.add (i * 8)).off + 3, none⟩ = some (.int .i64 ac.node) ∧ X.cell? ⟨(ad.add (i * 8)).block, (ad.add (i * 8)).off + 4, none⟩ = some (.int .i64 ac.sub) ∧ X.cell? ⟨(ad.add (i * 8)).block, (ad.add (i * 8)).off + 5, none⟩ = some (.string ac.text)) (go_keep) (first
              | (go_at_call 13; (with_reducible refine (HCT.out _).mono ?_); rintro e w9 ⟨rfl, rfl⟩)
              | (go_at_call 12; (with_reducible refine HSC.out.mono ?_); rintro e w9 ⟨v9, B9, rfl, hk9, hbd9, he9, hg9⟩; have c3' := hk9.cell (show wr.drew.cell? _ = _ from c3); have c4' := hk9.cell (show wr.drew.cell? _ = _ from c4); have c5' := hk9.cell (show wr.drew.cell? _ = _ from c5)))
            all_goals
              have n1 := Aside0.mk (HB.out.trans ((below_drew (Below.refl w.heap.size _)).trans hk9.1))
              have n4 := Aside0.mk (hk9.2 _ _ _ _ (show wr.drew.heap[gx]? = _ from HKX.out))
              have n3 := Aside0.mk (And.intro HCE.out.1 (And.intro (CV_kept hk9 (Kd.C_drew HCE.out.2.1)) HCE.out.2.2))
              have n5 := Aside0.mk (show B9.evs = (fun _ => none) ∧ B9.got = (fun _ => false) from ⟨he9.trans HEG.out.1, hg9.trans HEG.out.2⟩)
              have n2 := Aside0.mk hbd9
              clear HSC HCT c0 c3 c4 c5
              go_wp2_with fail
              go_roundg (gk - 1)
              case measure => have := HI.out; omega
              case rel => exact ⟨i + 1, B9, ⟨by omega, by omega, by have := HI.out; omega⟩, rfl, n1, n2, n5, n3, n4⟩
          · have o1 : (ac.kind == 2) = false := by simpa using hk
            go_wp2_with fail
            go_roundg (gk - 1)
            case measure => have := HI.out; omega
            case rel => exact ⟨i + 1, B, ⟨by omega, by omega, by have := HI.out; omega⟩, rfl, HB, ⟨HBD.out.mono (by omega)⟩, HEG, HCE, HKX⟩
        · have b3 : decide ((i : Int) < 40) = false := decide_eq_false (by omega)
          have b4 : decide (i < 40) = false := decide_eq_false (by omega)
          -- behind the calls: B, evs none, got none, i at most 40
          have HBD40 := Aside0.mk (HBD.out.mono (M := 40) HI.out.2.1)
          clear HBD
          have HBD := HBD40
          clear HBD40
          have y0 := (blk_cell HKX.out 0).trans (show _ = some (Value.slice E1 m2 c2) from rfl)
          have y1 := (blk_cell HKX.out 1).trans (show _ = some (Value.string p1) from rfl)
          have HPB := Aside0.mk (publish_calls w.heap.size g 40 a2 o2 m2 c2 (5, 5) S1 B E1 V1 p1 wr HBD.out HB.out.size (by decide) ⟨by decide, by decide⟩ HM2.out.symm (by rcases HCE.out.2.2 with h | h; exact Or.inl h; exact Or.inr h) HCE.out.2.1 (checkBad_none HCK.out).1)
          unfold encE at HPB
          by_cases hp1 : pubC S1 B (5, 5) V1 p1 = 0
          · go_wp2_with fail
            refine HPB.out.mono ?_
            rintro e w12 ⟨hk5, hp⟩
            obtain ⟨rfl, hbd5⟩ : e = .returned .nilIface ∧ IsBd w.heap.size w12 g S1 (B.pub (5, 5) V1 p1) 41 := by
              rcases hp with ⟨h0, _⟩ | ⟨_, h1, h2⟩
              · exact absurd hp1 h0
              · exact ⟨h1, h2⟩
            clear hp HPB y0 y1
            -- behind a board's method (hk5 : Kept .., hbd5 : IsBd .. W ..)
            have n1 := Aside0.mk (HB.out.trans hk5.1)
            have n2 := Aside0.mk hbd5
            have n4 := Aside0.mk (hk5.2 _ _ _ _ HKX.out)
            have n3 := Aside0.mk (And.intro HCE.out.1 (And.intro (CV_kept hk5 HCE.out.2.1) HCE.out.2.2))
            clear HB HBD HCE HKX hk5 hbd5
            have HB := n1
            have HBD := n2
            have HCE := n3
            have HKX := n4
            clear n1 n2 n3 n4
            have HEV := Aside0.mk (evs_pub B (5, 5) V1 p1)
            clear hp1
            generalize B.pub (5, 5) V1 p1 = Bp at HBD HEV
            go_wp2_with fail
            refine (due_calls w.heap.size g 41 (5, 5) S1 Bp w12 HBD.out (by decide) ⟨by decide, by decide⟩).mono ?_
            rintro e w13 ⟨hb13, hp⟩
            obtain ⟨vL, L1, rfl, hoL, hdL⟩ : ∃ v L, e = .returned (.tuple #[v, .nilIface]) ∧ w13.ownsRow w12.heap.size tW 2 v L.length (flatW L) ∧ DueList (dueB S1 Bp (5, 5) V1 p1) 41 L := by
              rcases hp with ⟨h0, _⟩ | ⟨V9, p9, h0, v, L, h1, h2, h3⟩
              · rw [HEV.out] at h0; cases h0
              · rw [HEV.out] at h0
                injection h0 with h0
                injection h0 with h5 h6
                subst h5
                subst h6
                exact ⟨v, L, h1, h2, h3⟩
            clear hp
            have HL := Aside0.mk hdL
            have hRL := R_of_own hoL (ok := fun _ => True) (fun _ _ => trivial)
            obtain ⟨AL, cL, rfl, _, hCL⟩ := Kd.R_reads hRL
            have hk5 := Kept.of hb13 HB.out.size
            have hbd5 := HBD.out.below hb13
            clear hb13 hoL hRL hdL
            -- behind a board's method (hk5 : Kept .., hbd5 : IsBd .. W ..)
            have n1 := Aside0.mk (HB.out.trans hk5.1)
            have n2 := Aside0.mk hbd5
            have n4 := Aside0.mk (hk5.2 _ _ _ _ HKX.out)
            have n3 := Aside0.mk (And.intro HCE.out.1 (And.intro (CV_kept hk5 HCE.out.2.1) HCE.out.2.2))
            clear HB HBD HCE HKX hk5 hbd5
            have HB := n1
            have HBD := n2
            have HCE := n3
            have HKX := n4
            clear n1 n2 n3 n4
            go_wp2_with fail
            refine (gone_calls w.heap.size g 41 nn S1 Bp w13 HBD.out (by decide)).mono ?_
            rintro e w14 ⟨hk5, hbd5, r, rfl, _⟩
            have HCL := Aside0.mk (CW_kept hk5 hCL)
            clear hCL
            -- behind a board's method (hk5 : Kept .., hbd5 : IsBd .. W ..)
            have n1 := Aside0.mk (HB.out.trans hk5.1)
            have n2 := Aside0.mk hbd5
            have n4 := Aside0.mk (hk5.2 _ _ _ _ HKX.out)
            have n3 := Aside0.mk (And.intro HCE.out.1 (And.intro (CV_kept hk5 HCE.out.2.1) HCE.out.2.2))
            clear HB HBD HCE HKX hk5 hbd5
            have HB := n1
            have HBD := n2
            have HCE := n3
            have HKX := n4
            clear n1 n2 n3 n4
            go_wp2_with fail
            refine (due_calls w.heap.size g 41 (5, 5) S1 (Bp.gone nn) w14 HBD.out (by decide) ⟨by decide, by decide⟩).mono ?_
            rintro e w15 ⟨hb15, hp⟩
            obtain ⟨vM, L2, rfl, hoM, hdM⟩ : ∃ v L, e = .returned (.tuple #[v, .nilIface]) ∧ w15.ownsRow w14.heap.size tW 2 v L.length (flatW L) ∧ DueList (dueB S1 (Bp.gone nn) (5, 5) V1 p1) 41 L := by
              have HEV2 : (Bp.gone nn).evs (5, 5) = some (V1, p1) := HEV.out
              rcases hp with ⟨h0, _⟩ | ⟨V9, p9, h0, v, L, h1, h2, h3⟩
              · rw [HEV2] at h0; cases h0
              · rw [HEV2] at h0
                injection h0 with h0
                injection h0 with h5 h6
                subst h5
                subst h6
                exact ⟨v, L, h1, h2, h3⟩
            clear hp
            have hL2 := list_gone HL.out hdM
            have hlen1 := HL.out.len
            subst hL2
            have hRM := R_of_own hoM (ok := fun _ => True) (fun _ _ => trivial)
            obtain ⟨AM, cM, rfl, _, hCM⟩ := Kd.R_reads hRM
            have hk5 := Kept.of hb15 HB.out.size
            have hbd5 := HBD.out.below hb15
            have n1 := Aside0.mk (Kd.C_below HCL.out hb15)
            clear HCL
            have HCL := n1
            have HCM := Aside0.mk hCM
            clear hb15 hoM hRM hdM hCM n1
            -- behind a board's method (hk5 : Kept .., hbd5 : IsBd .. W ..)
            have n1 := Aside0.mk (HB.out.trans hk5.1)
            have n2 := Aside0.mk hbd5
            have n4 := Aside0.mk (hk5.2 _ _ _ _ HKX.out)
            have n3 := Aside0.mk (And.intro HCE.out.1 (And.intro (CV_kept hk5 HCE.out.2.1) HCE.out.2.2))
            clear HB HBD HCE HKX hk5 hbd5
            have HB := n1
            have HBD := n2
            have HCE := n3
            have HKX := n4
            clear n1 n2 n3 n4
            clear HBD HCE HKX HEV HL HCK HM1 HM2 HL1 HL2 HEG HI
            obtain ⟨nL, hnL⟩ : ∃ n, n = L1.length := ⟨_, rfl⟩
            have HNL := Aside0.mk (And.intro hnL hlen1)
            rw [← hnL] at HCL ⊢
            obtain ⟨LF, hLF⟩ : ∃ L, L = L1.filter (otherB nn) := ⟨_, rfl⟩
            have HLF := Aside0.mk hLF
            rw [← hLF] at HCM ⊢
            obtain ⟨nM, hnM⟩ : ∃ n, n = LF.length := ⟨_, rfl⟩
            have HNM := Aside0.mk hnM
            have HNB := Aside0.mk (show nM ≤ 41 by
              have h1 := List.length_filter_le (otherB nn) L1
              have h2 := HNL.out
              rw [← HLF.out, ← hnM] at h1
              omega)
            rw [← hnM] at HCM ⊢
            clear hnL hlen1 hLF hnM
            go_upto_region 19 with (fail)
            have HBW := Aside0.mk (below_alloc (Below.refl w15.heap.size w15) (.cells #[] tW))
            have HO := Aside0.mk (show Kd.R kW tW (w15.alloc (.cells #[] tW)) w15.heap.size (fun _ => True) (.slice (some ⟨w15.heap.size, 0, none⟩) 0 0) ((L1.take 0).filter (otherB nn)) from ⟨fun _ _ => trivial, [], World.ownsRow_lit (base := w15.heap.size) (e := tW) (size := 2) w15 #[] 0 (Nat.le_refl _) (by decide) rfl, Reps.none _ _⟩)
            generalize w15.alloc (.cells #[] tW) = w16 at HO HBW ⊢
            generalize Value.slice (some ⟨w15.heap.size, 0, none⟩) 0 0 = v20 at HO ⊢
            go_upto_region 20 with (fail)
            go_loopg [20, 22, 112] (nL + 1) (fun k v20 v22 v112 W => ∃ i : Nat, Aside0 (i ≤ nL ∧ k + i = nL + 1) ∧ v112 = .int .i64 (i : Int) ∧ Aside0 (Kd.R kW tW W w15.heap.size (fun _ => True) v20 ((L1.take i).filter (otherB nn))) ∧ Aside0 (Below w15.heap.size w15 W))
            case atStart => exact ⟨0, ⟨by omega, by omega⟩, rfl, HO, HBW⟩
            case round =>
              clear HO HBW
              obtain ⟨i, HI, rfl, HO, HBW⟩ := hrel
              by_cases hi : i < nL
              · have b1 : decide ((i : Int) < (nL : Int)) = true := decide_eq_true (by omega)
                have b2 : decide (i < nL) = true := decide_eq_true (by omega)
                have p1' : (0 : Int) ≤ (i : Int) := by omega
                have p2' : (i : Int) < (nL : Int) := by omega
                obtain ⟨ad, e, h0, h1⟩ := at_T43 (Kd.C_below HCL.out HBW.out) (i : Int) p1' p2'
                cases e
                obtain ⟨y, hy⟩ : ∃ y, L1[i]? = some y := ⟨_, List.getElem?_eq_getElem (by have := HNL.out.1; omega)⟩
                have hrd : rd_T43 L1 (i : Int) = y := by show L1.getD (i : Int).toNat _ = y; rw [Int.toNat_natCast, List.getD_eq_getElem?_getD, hy]; rfl
                rw [hrd, Int.toNat_natCast] at h0 h1
                have HFS := Aside0.mk (filt_step (otherB nn) L1 i y hy)
                have HFL := Aside0.mk (show ((L1.take i).filter (otherB nn)).length ≤ 41 by
                  have h1 := List.length_filter_le (otherB nn) (L1.take i)
                  have h2 : (L1.take i).length ≤ L1.length := by simp; omega
                  have := HNL.out
                  omega)
                clear hy hrd
                obtain ⟨yf, yg⟩ := y
                go_upto_region 22 with (fail)
                have kw := heap_alloc_new wr (.cells #[.int .i64 yf, .int .i64 yg] tW)
                have n1 := Aside0.mk (below_alloc HBW.out (.cells #[.int .i64 yf, .int .i64 yg] tW))
                have n2 := Aside0.mk (Kd.R_alloc HO.out (.cells #[.int .i64 yf, .int .i64 yg] tW))
                clear HO HBW h0 h1
                generalize wr.alloc (.cells #[.int .i64 yf, .int .i64 yg] tW) = w2 at kw n1 n2 ⊢
                generalize wr.heap.size = gw at kw ⊢
                have HBW := n1
                have HO := n2
                have z0 := (blk_cell kw 0).trans (show _ = some (Value.int .i64 yf) from rfl)
                have z1 := (blk_cell kw 1).trans (show _ = some (Value.int .i64 yg) from rfl)
                clear n1 n2 kw
                by_cases hyn : yf = nn
                · have o1 : (yf == nn) = true := by simpa using hyn
                  have HQ := Aside0.mk (show otherB nn ⟨yf, yg⟩ = false by show (!(yf == nn)) = false; rw [o1]; rfl)
                  clear hyn
                  go_wp2_with fail
                  go_roundg (gk - 1)
                  case measure => have := HI.out; omega
                  case rel => exact ⟨i + 1, ⟨by omega, by have := HI.out; omega⟩, (by have := HNL.out; rw [wrap_in (by omega) (by omega), show (i : Int) + 1 = ((i + 1 : Nat) : Int) by omega]), ⟨by rw [HFS.out, HQ.out]; exact HO.out⟩, HBW⟩
                · have o1 : (yf == nn) = false := by simpa using hyn
                  have HQ := Aside0.mk (show otherB nn ⟨yf, yg⟩ = true by show (!(yf == nn)) = true; rw [o1]; rfl)
                  clear hyn
                  go_wp2_with ((with_reducible refine gate_builtin (b := .append) (xs := #[.tmp 120, .tmp 122]) rfl ?_); at_builtin; go_loud (refine Kd.R_append kW (w0 := w15) w15.heap.size rfl (.tmp 120) (.tmp 122) 49 43 (.agg #[(.int .i64 0), (.int .i64 0)]) 16 rfl Try.underlying49 info43 rfl (by decide) (by omega) _ _ (⟨yf, yg⟩ : SW) [.int .i64 yf, .int .i64 yg] (fun _ => True) (fun _ => False) rfl ?aX ?aP (fun _ hk => hk.elim) ?aF HO.out HBW.out HBW.out.size ?aL ?_; (case aX => first | rfl | (go_simp; done) | (go_simp; rfl)); (case aP => exact k43_mkM _ _ _ ⟨yf, yg⟩); (case aF => exact (fun _ _ => trivial)); (case aL => have := HFL.out; omega); intro v9 w9 ho hb hg hat; go_frame))
                  go_roundg (gk - 1)
                  case measure => have := HI.out; omega
                  case rel => exact ⟨i + 1, ⟨by omega, by have := HI.out; omega⟩, (by have := HNL.out; rw [wrap_in (by omega) (by omega), show (i : Int) + 1 = ((i + 1 : Nat) : Int) by omega]), ⟨by rw [HFS.out, HQ.out]; exact ho⟩, ⟨hb⟩⟩
              · have b1 : decide ((i : Int) < (nL : Int)) = false := decide_eq_false (by omega)
                have b2 : decide (i < nL) = false := decide_eq_false (by omega)
                have hR := HO.out
                rw [List.take_of_length_le (by have := HNL.out.1; omega), ← HLF.out] at hR
                obtain ⟨A20, c20, rfl, _, hC20⟩ := Kd.R_reads hR
                rw [← HNM.out] at hC20 ⊢
                have HC20 := Aside0.mk hC20
                have n1 := Aside0.mk (Kd.C_below HCM.out HBW.out)
                have n2 := Aside0.mk (below_then HB.out HB.out.size HBW.out)
                clear HCM HB hR hC20 HO HBW HCL HI hi
                have HCM := n1
                have HB := n2
                clear n1 n2
                go_upto_region 28 with (fail)
                go_loopg [23, 132] (nM + 1) (fun k v23 v132 W => ∃ i : Nat, Aside0 (i ≤ nM ∧ k + i = nM + 1) ∧ v132 = .int .i64 (i : Int) ∧ Aside0 (Below wr.heap.size wr W))
                case atStart => exact ⟨0, ⟨by omega, by omega⟩, rfl, ⟨Below.refl _ _⟩⟩
                case round =>
                  obtain ⟨i, HI, rfl, HBW⟩ := hrel
                  by_cases hi : i < nM
                  · have b3 : decide ((i : Int) < (nM : Int)) = true := decide_eq_true (by omega)
                    have b4 : decide (i < nM) = true := decide_eq_true (by omega)
                    have p1' : (0 : Int) ≤ (i : Int) := by omega
                    have p2' : (i : Int) < (nM : Int) := by omega
                    obtain ⟨ad1, ea, h0, h1⟩ := at_T43 (Kd.C_below HCM.out HBW.out) (i : Int) p1' p2'
                    obtain ⟨ad2, eb, h2, h3⟩ := at_T43 (Kd.C_below HC20.out HBW.out) (i : Int) p1' p2'
                    cases ea
                    cases eb
                    rw [Int.toNat_natCast] at h0 h1 h2 h3
                    generalize rd_T43 LF (i : Int) = y at h0 h1 h2 h3
                    obtain ⟨yf, yg⟩ := y
                    have q0 : ∀ q : BelowP wr, q.w.cell? (ad1.add (i * 2)) = some (.int .i64 yf) := fun q => q.cell h0
                    have q1 : ∀ q : BelowP wr, q.w.cell? ⟨(ad1.add (i * 2)).block, (ad1.add (i * 2)).off + 1, none⟩ = some (.int .i64 yg) := fun q => q.cell h1
                    have q2 : ∀ q : BelowP wr, q.w.cell? (ad2.add (i * 2)) = some (.int .i64 yf) := fun q => q.cell h2
                    have q3 : ∀ q : BelowP wr, q.w.cell? ⟨(ad2.add (i * 2)).block, (ad2.add (i * 2)).off + 1, none⟩ = some (.int .i64 yg) := fun q => q.cell h3
                    clear h0 h1 h2 h3
                    have hu43 := Try.underlying43
                    have o1 : (yf == yf && yg == yg) = true := by simp
                    go_wp2_with fail
                    refine wp_region_quiet_below (by kernel_rfl) (by kernel_rfl) ?_
                    repeat ((with_reducible refine wpQuiet_step (fun K hK => ?_)); go_simp; first | ((with_reducible refine hK _ ?_); clear hK K) | ((with_reducible apply Exists.intro); (with_reducible refine ⟨fun _ => ?_, hK _ ?_⟩); (fail); clear hK K))
                    with_reducible refine wpQuiet_nil ?_
                    rintro _ ⟨pq, rfl⟩
                    clear q0 q1 q2 q3 hu43
                    have HBQ := Aside0.mk (below_then HBW.out HBW.out.size pq.h)
                    clear HBW
                    go_wp2_with fail
                    go_roundg (gk - 1)
                    case measure => have := HI.out; omega
                    case rel => exact ⟨i + 1, ⟨by omega, by have := HI.out; omega⟩, (by have := HNB.out; rw [wrap_in (by omega) (by omega), show (i : Int) + 1 = ((i + 1 : Nat) : Int) by omega]), HBQ⟩
                  · have b3 : decide ((i : Int) < (nM : Int)) = false := decide_eq_false (by omega)
                    have b4 : decide (i < nM) = false := decide_eq_false (by omega)
                    have HB2 := Aside0.mk (below_then HB.out HB.out.size HBW.out)
                    clear HB HBW HI hi
                    go_wp2_with fail
                    refine (awake_calls _).mono ?_
                    rintro e w8 ⟨rfl, hb8⟩
                    have hfin := below_then HB2.out HB2.out.size hb8
                    clear hb8
                    go_wp2
                    try go_ret
                    exact ⟨rfl, hfin⟩
          · go_wp2_with fail
            refine HPB.out.mono ?_
            rintro e w12 ⟨hk5, hp⟩
            obtain ⟨bp, np, rfl, _⟩ : ErrE w12 (pubC S1 B (5, 5) V1 p1) e := by
              rcases hp with ⟨_, h1, _⟩ | ⟨h0, _⟩
              · exact h1
              · exact absurd h0 hp1
            have HBW := Aside0.mk (HB.out.trans hk5.1)
            clear hk5 hp HPB y0 y1 hp1
            go_wp2_with fail
            refine (awake_calls _).mono ?_
            rintro e w8 ⟨rfl, hb8⟩
            have hfin := below_then HBW.out HBW.out.size hb8
            clear hb8
            go_wp2
            try go_ret
            exact ⟨rfl, hfin⟩
      · have b1 : decide ((i : Int) < (na : Int)) = false := decide_eq_false (by omega)
        have b2 : decide (i < na) = false := decide_eq_false (by omega)
        -- behind the calls: B, evs none, got none, i at most 40
        have HBD40 := Aside0.mk (HBD.out.mono (M := 40) HI.out.2.1)
        clear HBD
        have HBD := HBD40
        clear HBD40
        have y0 := (blk_cell HKX.out 0).trans (show _ = some (Value.slice E1 m2 c2) from rfl)
        have y1 := (blk_cell HKX.out 1).trans (show _ = some (Value.string p1) from rfl)
        have HPB := Aside0.mk (publish_calls w.heap.size g 40 a2 o2 m2 c2 (5, 5) S1 B E1 V1 p1 wr HBD.out HB.out.size (by decide) ⟨by decide, by decide⟩ HM2.out.symm (by rcases HCE.out.2.2 with h | h; exact Or.inl h; exact Or.inr h) HCE.out.2.1 (checkBad_none HCK.out).1)
        unfold encE at HPB
        by_cases hp1 : pubC S1 B (5, 5) V1 p1 = 0
        · go_wp2_with fail
          refine HPB.out.mono ?_
          rintro e w12 ⟨hk5, hp⟩
          obtain ⟨rfl, hbd5⟩ : e = .returned .nilIface ∧ IsBd w.heap.size w12 g S1 (B.pub (5, 5) V1 p1) 41 := by
            rcases hp with ⟨h0, _⟩ | ⟨_, h1, h2⟩
            · exact absurd hp1 h0
            · exact ⟨h1, h2⟩
          clear hp HPB y0 y1
          -- behind a board's method (hk5 : Kept .., hbd5 : IsBd .. W ..)
          have n1 := Aside0.mk (HB.out.trans hk5.1)
          have n2 := Aside0.mk hbd5
          have n4 := Aside0.mk (hk5.2 _ _ _ _ HKX.out)
          have n3 := Aside0.mk (And.intro HCE.out.1 (And.intro (CV_kept hk5 HCE.out.2.1) HCE.out.2.2))
          clear HB HBD HCE HKX hk5 hbd5
          have HB := n1
          have HBD := n2
          have HCE := n3
          have HKX := n4
          clear n1 n2 n3 n4
          have HEV := Aside0.mk (evs_pub B (5, 5) V1 p1)
          clear hp1
          generalize B.pub (5, 5) V1 p1 = Bp at HBD HEV
          go_wp2_with fail
          refine (due_calls w.heap.size g 41 (5, 5) S1 Bp w12 HBD.out (by decide) ⟨by decide, by decide⟩).mono ?_
          rintro e w13 ⟨hb13, hp⟩
          obtain ⟨vL, L1, rfl, hoL, hdL⟩ : ∃ v L, e = .returned (.tuple #[v, .nilIface]) ∧ w13.ownsRow w12.heap.size tW 2 v L.length (flatW L) ∧ DueList (dueB S1 Bp (5, 5) V1 p1) 41 L := by
            rcases hp with ⟨h0, _⟩ | ⟨V9, p9, h0, v, L, h1, h2, h3⟩
            · rw [HEV.out] at h0; cases h0
            · rw [HEV.out] at h0
              injection h0 with h0
              injection h0 with h5 h6
              subst h5
              subst h6
              exact ⟨v, L, h1, h2, h3⟩
          clear hp
          have HL := Aside0.mk hdL
          have hRL := R_of_own hoL (ok := fun _ => True) (fun _ _ => trivial)
          obtain ⟨AL, cL, rfl, _, hCL⟩ := Kd.R_reads hRL
          have hk5 := Kept.of hb13 HB.out.size
          have hbd5 := HBD.out.below hb13
          clear hb13 hoL hRL hdL
          -- behind a board's method (hk5 : Kept .., hbd5 : IsBd .. W ..)
          have n1 := Aside0.mk (HB.out.trans hk5.1)
          have n2 := Aside0.mk hbd5
          have n4 := Aside0.mk (hk5.2 _ _ _ _ HKX.out)
          have n3 := Aside0.mk (And.intro HCE.out.1 (And.intro (CV_kept hk5 HCE.out.2.1) HCE.out.2.2))
          clear HB HBD HCE HKX hk5 hbd5
          have HB := n1
          have HBD := n2
          have HCE := n3
          have HKX := n4
          clear n1 n2 n3 n4
          go_wp2_with fail
          refine (gone_calls w.heap.size g 41 nn S1 Bp w13 HBD.out (by decide)).mono ?_
          rintro e w14 ⟨hk5, hbd5, r, rfl, _⟩
          have HCL := Aside0.mk (CW_kept hk5 hCL)
          clear hCL
          -- behind a board's method (hk5 : Kept .., hbd5 : IsBd .. W ..)
          have n1 := Aside0.mk (HB.out.trans hk5.1)
          have n2 := Aside0.mk hbd5
          have n4 := Aside0.mk (hk5.2 _ _ _ _ HKX.out)
          have n3 := Aside0.mk (And.intro HCE.out.1 (And.intro (CV_kept hk5 HCE.out.2.1) HCE.out.2.2))
          clear HB HBD HCE HKX hk5 hbd5
          have HB := n1
          have HBD := n2
          have HCE := n3
          have HKX := n4
          clear n1 n2 n3 n4
          go_wp2_with fail
          refine (due_calls w.heap.size g 41 (5, 5) S1 (Bp.gone nn) w14 HBD.out (by decide) ⟨by decide, by decide⟩).mono ?_
          rintro e w15 ⟨hb15, hp⟩
          obtain ⟨vM, L2, rfl, hoM, hdM⟩ : ∃ v L, e = .returned (.tuple #[v, .nilIface]) ∧ w15.ownsRow w14.heap.size tW 2 v L.length (flatW L) ∧ DueList (dueB S1 (Bp.gone nn) (5, 5) V1 p1) 41 L := by
            have HEV2 : (Bp.gone nn).evs (5, 5) = some (V1, p1) := HEV.out
            rcases hp with ⟨h0, _⟩ | ⟨V9, p9, h0, v, L, h1, h2, h3⟩
            · rw [HEV2] at h0; cases h0
            · rw [HEV2] at h0
              injection h0 with h0
              injection h0 with h5 h6
              subst h5
              subst h6
              exact ⟨v, L, h1, h2, h3⟩
          clear hp
          have hL2 := list_gone HL.out hdM
          have hlen1 := HL.out.len
          subst hL2
          have hRM := R_of_own hoM (ok := fun _ => True) (fun _ _ => trivial)
          obtain ⟨AM, cM, rfl, _, hCM⟩ := Kd.R_reads hRM
          have hk5 := Kept.of hb15 HB.out.size
          have hbd5 := HBD.out.below hb15
          have n1 := Aside0.mk (Kd.C_below HCL.out hb15)
          clear HCL
          have HCL := n1
          have HCM := Aside0.mk hCM
          clear hb15 hoM hRM hdM hCM n1
          -- behind a board's method (hk5 : Kept .., hbd5 : IsBd .. W ..)
          have n1 := Aside0.mk (HB.out.trans hk5.1)
          have n2 := Aside0.mk hbd5
          have n4 := Aside0.mk (hk5.2 _ _ _ _ HKX.out)
          have n3 := Aside0.mk (And.intro HCE.out.1 (And.intro (CV_kept hk5 HCE.out.2.1) HCE.out.2.2))
          clear HB HBD HCE HKX hk5 hbd5
          have HB := n1
          have HBD := n2
          have HCE := n3
          have HKX := n4
          clear n1 n2 n3 n4
          clear HBD HCE HKX HEV HL HCK HM1 HM2 HL1 HL2 HEG HI
          obtain ⟨nL, hnL⟩ : ∃ n, n = L1.length := ⟨_, rfl⟩
          have HNL := Aside0.mk (And.intro hnL hlen1)
          rw [← hnL] at HCL ⊢
          obtain ⟨LF, hLF⟩ : ∃ L, L = L1.filter (otherB nn) := ⟨_, rfl⟩
          have HLF := Aside0.mk hLF
          rw [← hLF] at HCM ⊢
          obtain ⟨nM, hnM⟩ : ∃ n, n = LF.length := ⟨_, rfl⟩
          have HNM := Aside0.mk hnM
          have HNB := Aside0.mk (show nM ≤ 41 by
            have h1 := List.length_filter_le (otherB nn) L1
            have h2 := HNL.out
            rw [← HLF.out, ← hnM] at h1
            omega)
          rw [← hnM] at HCM ⊢
          clear hnL hlen1 hLF hnM
          go_upto_region 19 with (fail)
          have HBW := Aside0.mk (below_alloc (Below.refl w15.heap.size w15) (.cells #[] tW))
          have HO := Aside0.mk (show Kd.R kW tW (w15.alloc (.cells #[] tW)) w15.heap.size (fun _ => True) (.slice (some ⟨w15.heap.size, 0, none⟩) 0 0) ((L1.take 0).filter (otherB nn)) from ⟨fun _ _ => trivial, [], World.ownsRow_lit (base := w15.heap.size) (e := tW) (size := 2) w15 #[] 0 (Nat.le_refl _) (by decide) rfl, Reps.none _ _⟩)
          generalize w15.alloc (.cells #[] tW) = w16 at HO HBW ⊢
          generalize Value.slice (some ⟨w15.heap.size, 0, none⟩) 0 0 = v20 at HO ⊢
          go_upto_region 20 with (fail)
          go_loopg [20, 22, 112] (nL + 1) (fun k v20 v22 v112 W => ∃ i : Nat, Aside0 (i ≤ nL ∧ k + i = nL + 1) ∧ v112 = .int .i64 (i : Int) ∧ Aside0 (Kd.R kW tW W w15.heap.size (fun _ => True) v20 ((L1.take i).filter (otherB nn))) ∧ Aside0 (Below w15.heap.size w15 W))
          case atStart => exact ⟨0, ⟨by omega, by omega⟩, rfl, HO, HBW⟩
          case round =>
            clear HO HBW
            obtain ⟨i, HI, rfl, HO, HBW⟩ := hrel
            by_cases hi : i < nL
            · have b1 : decide ((i : Int) < (nL : Int)) = true := decide_eq_true (by omega)
              have b2 : decide (i < nL) = true := decide_eq_true (by omega)
              have p1' : (0 : Int) ≤ (i : Int) := by omega
              have p2' : (i : Int) < (nL : Int) := by omega
              obtain ⟨ad, e, h0, h1⟩ := at_T43 (Kd.C_below HCL.out HBW.out) (i : Int) p1' p2'
              cases e
              obtain ⟨y, hy⟩ : ∃ y, L1[i]? = some y := ⟨_, List.getElem?_eq_getElem (by have := HNL.out.1; omega)⟩
              have hrd : rd_T43 L1 (i : Int) = y := by show L1.getD (i : Int).toNat _ = y; rw [Int.toNat_natCast, List.getD_eq_getElem?_getD, hy]; rfl
              rw [hrd, Int.toNat_natCast] at h0 h1
              have HFS := Aside0.mk (filt_step (otherB nn) L1 i y hy)
              have HFL := Aside0.mk (show ((L1.take i).filter (otherB nn)).length ≤ 41 by
                have h1 := List.length_filter_le (otherB nn) (L1.take i)
                have h2 : (L1.take i).length ≤ L1.length := by simp; omega
                have := HNL.out
                omega)
              clear hy hrd
              obtain ⟨yf, yg⟩ := y
              go_upto_region 22 with (fail)
              have kw := heap_alloc_new wr (.cells #[.int .i64 yf, .int .i64 yg] tW)
              have n1 := Aside0.mk (below_alloc HBW.out (.cells #[.int .i64 yf, .int .i64 yg] tW))
              have n2 := Aside0.mk (Kd.R_alloc HO.out (.cells #[.int .i64 yf, .int .i64 yg] tW))
              clear HO HBW h0 h1
              generalize wr.alloc (.cells #[.int .i64 yf, .int .i64 yg] tW) = w2 at kw n1 n2 ⊢
              generalize wr.heap.size = gw at kw ⊢
              have HBW := n1
              have HO := n2
              have z0 := (blk_cell kw 0).trans (show _ = some (Value.int .i64 yf) from rfl)
              have z1 := (blk_cell kw 1).trans (show _ = some (Value.int .i64 yg) from rfl)
              clear n1 n2 kw
              by_cases hyn : yf = nn
              · have o1 : (yf == nn) = true := by simpa using hyn
                have HQ := Aside0.mk (show otherB nn ⟨yf, yg⟩ = false by show (!(yf == nn)) = false; rw [o1]; rfl)
                clear hyn
                go_wp2_with fail
                go_roundg (gk - 1)
                case measure => have := HI.out; omega
                case rel => exact ⟨i + 1, ⟨by omega, by have := HI.out; omega⟩, (by have := HNL.out; rw [wrap_in (by omega) (by omega), show (i : Int) + 1 = ((i + 1 : Nat) : Int) by omega]), ⟨by rw [HFS.out, HQ.out]; exact HO.out⟩, HBW⟩
              · have o1 : (yf == nn) = false := by simpa using hyn
                have HQ := Aside0.mk (show otherB nn ⟨yf, yg⟩ = true by show (!(yf == nn)) = true; rw [o1]; rfl)
                clear hyn
                go_wp2_with ((with_reducible refine gate_builtin (b := .append) (xs := #[.tmp 120, .tmp 122]) rfl ?_); at_builtin; go_loud (refine Kd.R_append kW (w0 := w15) w15.heap.size rfl (.tmp 120) (.tmp 122) 49 43 (.agg #[(.int .i64 0), (.int .i64 0)]) 16 rfl Try.underlying49 info43 rfl (by decide) (by omega) _ _ (⟨yf, yg⟩ : SW) [.int .i64 yf, .int .i64 yg] (fun _ => True) (fun _ => False) rfl ?aX ?aP (fun _ hk => hk.elim) ?aF HO.out HBW.out HBW.out.size ?aL ?_; (case aX => first | rfl | (go_simp; done) | (go_simp; rfl)); (case aP => exact k43_mkM _ _ _ ⟨yf, yg⟩); (case aF => exact (fun _ _ => trivial)); (case aL => have := HFL.out; omega); intro v9 w9 ho hb hg hat; go_frame))
                go_roundg (gk - 1)
                case measure => have := HI.out; omega
                case rel => exact ⟨i + 1, ⟨by omega, by have := HI.out; omega⟩, (by have := HNL.out; rw [wrap_in (by omega) (by omega), show (i : Int) + 1 = ((i + 1 : Nat) : Int) by omega]), ⟨by rw [HFS.out, HQ.out]; exact ho⟩, ⟨hb⟩⟩
            · have b1 : decide ((i : Int) < (nL : Int)) = false := decide_eq_false (by omega)
              have b2 : decide (i < nL) = false := decide_eq_false (by omega)
              have hR := HO.out
              rw [List.take_of_length_le (by have := HNL.out.1; omega), ← HLF.out] at hR
              obtain ⟨A20, c20, rfl, _, hC20⟩ := Kd.R_reads hR
              rw [← HNM.out] at hC20 ⊢
              have HC20 := Aside0.mk hC20
              have n1 := Aside0.mk (Kd.C_below HCM.out HBW.out)
              have n2 := Aside0.mk (below_then HB.out HB.out.size HBW.out)
              clear HCM HB hR hC20 HO HBW HCL HI hi
              have HCM := n1
              have HB := n2
              clear n1 n2
              go_upto_region 28 with (fail)
              go_loopg [23, 132] (nM + 1) (fun k v23 v132 W => ∃ i : Nat, Aside0 (i ≤ nM ∧ k + i = nM + 1) ∧ v132 = .int .i64 (i : Int) ∧ Aside0 (Below wr.heap.size wr W))
              case atStart => exact ⟨0, ⟨by omega, by omega⟩, rfl, ⟨Below.refl _ _⟩⟩
              case round =>
                obtain ⟨i, HI, rfl, HBW⟩ := hrel
                by_cases hi : i < nM
                · have b3 : decide ((i : Int) < (nM : Int)) = true := decide_eq_true (by omega)
                  have b4 : decide (i < nM) = true := decide_eq_true (by omega)
                  have p1' : (0 : Int) ≤ (i : Int) := by omega
                  have p2' : (i : Int) < (nM : Int) := by omega
                  obtain ⟨ad1, ea, h0, h1⟩ := at_T43 (Kd.C_below HCM.out HBW.out) (i : Int) p1' p2'
                  obtain ⟨ad2, eb, h2, h3⟩ := at_T43 (Kd.C_below HC20.out HBW.out) (i : Int) p1' p2'
                  cases ea
                  cases eb
                  rw [Int.toNat_natCast] at h0 h1 h2 h3
                  generalize rd_T43 LF (i : Int) = y at h0 h1 h2 h3
                  obtain ⟨yf, yg⟩ := y
                  have q0 : ∀ q : BelowP wr, q.w.cell? (ad1.add (i * 2)) = some (.int .i64 yf) := fun q => q.cell h0
                  have q1 : ∀ q : BelowP wr, q.w.cell? ⟨(ad1.add (i * 2)).block, (ad1.add (i * 2)).off + 1, none⟩ = some (.int .i64 yg) := fun q => q.cell h1
                  have q2 : ∀ q : BelowP wr, q.w.cell? (ad2.add (i * 2)) = some (.int .i64 yf) := fun q => q.cell h2
                  have q3 : ∀ q : BelowP wr, q.w.cell? ⟨(ad2.add (i * 2)).block, (ad2.add (i * 2)).off + 1, none⟩ = some (.int .i64 yg) := fun q => q.cell h3
                  clear h0 h1 h2 h3
                  have hu43 := Try.underlying43
                  have o1 : (yf == yf && yg == yg) = true := by simp
                  go_wp2_with fail
                  refine wp_region_quiet_below (by kernel_rfl) (by kernel_rfl) ?_
                  repeat ((with_reducible refine wpQuiet_step (fun K hK => ?_)); go_simp; first | ((with_reducible refine hK _ ?_); clear hK K) | ((with_reducible apply Exists.intro); (with_reducible refine ⟨fun _ => ?_, hK _ ?_⟩); (fail); clear hK K))
                  with_reducible refine wpQuiet_nil ?_
                  rintro _ ⟨pq, rfl⟩
                  clear q0 q1 q2 q3 hu43
                  have HBQ := Aside0.mk (below_then HBW.out HBW.out.size pq.h)
                  clear HBW
                  go_wp2_with fail
                  go_roundg (gk - 1)
                  case measure => have := HI.out; omega
                  case rel => exact ⟨i + 1, ⟨by omega, by have := HI.out; omega⟩, (by have := HNB.out; rw [wrap_in (by omega) (by omega), show (i : Int) + 1 = ((i + 1 : Nat) : Int) by omega]), HBQ⟩
                · have b3 : decide ((i : Int) < (nM : Int)) = false := decide_eq_false (by omega)
                  have b4 : decide (i < nM) = false := decide_eq_false (by omega)
                  have HB2 := Aside0.mk (below_then HB.out HB.out.size HBW.out)
                  clear HB HBW HI hi
                  go_wp2_with fail
                  refine (awake_calls _).mono ?_
                  rintro e w8 ⟨rfl, hb8⟩
                  have hfin := below_then HB2.out HB2.out.size hb8
                  clear hb8
                  go_wp2
                  try go_ret
                  exact ⟨rfl, hfin⟩
        · go_wp2_with fail
          refine HPB.out.mono ?_
          rintro e w12 ⟨hk5, hp⟩
          obtain ⟨bp, np, rfl, _⟩ : ErrE w12 (pubC S1 B (5, 5) V1 p1) e := by
            rcases hp with ⟨_, h1, _⟩ | ⟨h0, _⟩
            · exact h1
            · exact absurd h0 hp1
          have HBW := Aside0.mk (HB.out.trans hk5.1)
          clear hk5 hp HPB y0 y1 hp1
          go_wp2_with fail
          refine (awake_calls _).mono ?_
          rintro e w8 ⟨rfl, hb8⟩
          have hfin := below_then HBW.out HBW.out.size hb8
          clear hb8
          go_wp2
          try go_ret
          exact ⟨rfl, hfin⟩
end Go.Proofs.Ytlokmijoaocofaa.Mine
end
section
/-
  BoardOnce walked: true. Conditions: what an argument is (lengths that a program can hold).
-/
namespace Go.Proofs.Ytlokmijoaocofaa.Mine
open Go.Maps Go.RowKit Go.Proofs.YtlokmijoaocofaaW.PrintWords Go.Proofs.YtlokmijoaocofaaW.PrintLast Go.Proofs.YtlokmijoaocofaaW.PrintMore
open Go.Proofs.Ytlokmijoaocofaa.PBoardAgain
set_option maxHeartbeats 8000000 in
set_option maxRecDepth 100000 in
theorem boardOnce_calls (A E AA : Option Addr) (n c m d na ca : Nat) (S : List SA) (L : List SV) (acts : List ActR) (pay : ByteArray) (w : World) (hn : S.length = n) (hr : Kd.C k65 w A n S) (hc : n ≤ c) (hnm : ∀ p ∈ S, p.f0.size ≤ 9223372036854775807) (hn2 : n ≤ 9223372036854775807)
    (hac : ActsIs w AA na acts)
    (hm : L.length = m) (hr2 : Kd.C k63 w E m L) (hd : m ≤ d) (hmm : ∀ p ∈ L, p.f1.size ≤ 9223372036854775807) (hpay : pay.size ≤ 9223372036854775807) (hm2 : m ≤ 9223372036854775807) :
    Calls Try.prog 5 #[.slice A n c, .slice AA na ca, encE E m d pay] w fun e w' => e = .returned (.bool true) ∧ Below w.heap.size w w' := by
  have HE0 := Aside0.mk (fun W (hb : Below w.heap.size w W) => attrs_calls A n c S W hn (Kd.C_below hr hb) hc hnm hn2)
  have HE2 := Aside0.mk (fun W (hb : Below w.heap.size w W) => event5_calls E m d L pay W hm (Kd.C_below hr2 hb) hd hmm hpay hm2)
  have HL1 := Aside0.mk (show (attrsOf S).length ≤ 6 by unfold attrsOf; simp; omega)
  have HL2 := Aside0.mk (show (evOf L).length ≤ 6 by unfold evOf; simp; omega)
  generalize cutB pay 210 = p1 at HE2
  generalize attrsOf S = S1 at HE0 HL1
  generalize evOf L = V1 at HE2 HL2
  clear hn hr hc hnm hn2 hm hr2 hd hmm hpay hm2
  unfold encE at HE2 ⊢
  have HAC := Aside0.mk hac
  clear hac
  go_enter Try.func5, Try.ntmps5
  go_wp2_with fail
  have hba := below_alloc (Below.refl w.heap.size w) (.cells #[.slice E m d, .string pay] 24)
  have ka := heap_alloc_new w (.cells #[.slice E m d, .string pay] 24)
  generalize w.alloc (.cells #[.slice E m d, .string pay] 24) = wa at hba ka ⊢
  refine (HE0.out wa hba).mono ?_
  rintro e wb ⟨v0, v1, rfl, hR0, hR1, hbb⟩
  obtain ⟨A1, c1, rfl, hc1, hC1⟩ := Kd.R_reads hR0
  have HR0 := Aside0.mk hR0
  have HB := Aside0.mk (below_then hba hba.size hbb)
  have HKA := Aside0.mk ((hbb.block _ (blk_lt ka)).trans ka)
  clear hba ka hR0 hR1 hbb
  have y0 := (blk_cell HKA.out 0).trans (show _ = some (Value.slice E m d) from rfl)
  have y1 := (blk_cell HKA.out 1).trans (show _ = some (Value.string pay) from rfl)
  go_wp2_with fail
  refine (HE2.out wb HB.out).mono ?_
  rintro e wc ⟨v2, v3, rfl, hR2, hR3, hbc⟩
  obtain ⟨E1, c2, rfl, hc2, hC2⟩ := Kd.R_reads hR2
  obtain ⟨a1, o1, hA1⟩ := R_at HR0.out
  obtain ⟨a2, o2, hE1⟩ := R_at hR2
  have n1 := Aside0.mk (below_then HB.out HB.out.size hbc)
  have HCA := Aside0.mk (And.intro hc1 (And.intro (Kd.C_below hC1 hbc) hA1))
  have HCE := Aside0.mk (And.intro hc2 (And.intro hC2 hE1))
  clear HB HKA HR0 hR2 hR3 hbc hc1 hC1 hA1 hc2 hC2 hE1 y0 y1
  have HB := n1
  clear n1
  obtain ⟨m1, hm1⟩ : ∃ n, n = S1.length := ⟨_, rfl⟩
  obtain ⟨m2, hm2⟩ : ∃ n, n = V1.length := ⟨_, rfl⟩
  rw [← hm1] at HCA HL1 ⊢
  rw [← hm2] at HCE HL2 ⊢
  have HM1 := Aside0.mk hm1
  have HM2 := Aside0.mk hm2
  clear hm1 hm2
  go_upto_region 3 with (fail)
  have hbd := below_alloc (Below.refl wc.heap.size wc) (.cells #[.slice E1 m2 c2, .string p1] 24)
  have kx := heap_alloc_new wc (.cells #[.slice E1 m2 c2, .string p1] 24)
  have n1 := Aside0.mk (below_then HB.out HB.out.size hbd)
  have n2 := Aside0.mk (And.intro HCA.out.1 (And.intro (Kd.C_below HCA.out.2.1 hbd) HCA.out.2.2))
  have n3 := Aside0.mk (And.intro HCE.out.1 (And.intro (Kd.C_below HCE.out.2.1 hbd) HCE.out.2.2))
  generalize wc.alloc (.cells #[.slice E1 m2 c2, .string p1] 24) = wd at kx n1 n2 n3 ⊢
  generalize wc.heap.size = gx at kx ⊢
  clear hbd HB HCA HCE
  have HB := n1
  have HCA := n2
  have HCE := n3
  have HKX := Aside0.mk kx
  clear n1 n2 n3 kx
  go_wp2_with fail
  refine (new_calls w.heap.size a1 o1 m1 c1 A1 S1 wd HM1.out.symm (by rcases HCA.out.2.2 with h | h; exact Or.inl h; exact Or.inr h) HCA.out.2.1 (by have := HL1.out; omega) HCA.out.1 HB.out.size).mono ?_
  rintro e we ⟨hbe, hp⟩
  have n1 := Aside0.mk (below_then HB.out HB.out.size hbe)
  have n3 := Aside0.mk (And.intro HCE.out.1 (And.intro (Kd.C_below HCE.out.2.1 hbe) HCE.out.2.2))
  have n4 := Aside0.mk ((hbe.block _ (blk_lt HKX.out)).trans HKX.out)
  clear HB HCA HCE HKX hbe HE0 HE2
  have HB := n1
  have HCE := n3
  have HKX := n4
  clear n1 n3 n4
  rcases hp with ⟨i, hck, b1, rfl, hf⟩ | ⟨hck, g, hg, rfl, hbd⟩
  · skip
    clear hck hf
    go_wp2_with fail
    refine (awake_calls _).mono ?_
    rintro e w8 ⟨rfl, hb8⟩
    have hfin := below_then HB.out HB.out.size hb8
    clear hb8
    go_wp2
    try go_ret
    exact ⟨rfl, hfin⟩
  · have HBD := Aside0.mk hbd
    have HCK := Aside0.mk hck
    clear hbd hck
    have HEG := Aside0.mk (show Bd.empty.evs = (fun _ => none) ∧ Bd.empty.got = (fun _ => false) from ⟨rfl, rfl⟩)
    go_upto_region 7 with (fail)
    go_loopg [13, 14] 41 (fun k v13 v14 W => ∃ (i : Nat) (B : Bd), Aside0 (i ≤ na ∧ i ≤ 40 ∧ k + i = 41) ∧ v13 = .int .i64 (i : Int) ∧ Aside0 (Below w.heap.size w W) ∧ Aside0 (IsBd w.heap.size W g S1 B i) ∧ Aside0 (B.evs = (fun _ => none) ∧ B.got = (fun _ => false)) ∧ Aside0 (m2 ≤ c2 ∧ Kd.C k63 W E1 m2 V1 ∧ (E1 = some ⟨a2, o2, none⟩ ∨ m2 = 0)) ∧ Aside0 (W.heap[gx]? = some (.cells #[.slice E1 m2 c2, .string p1] 24 (0, 0))))
    case atStart => exact ⟨0, Bd.empty, ⟨by omega, by omega, by omega⟩, rfl, HB, HBD, HEG, HCE, HKX⟩
    case round =>
      clear HB HBD HEG HCE HKX
      obtain ⟨i, B, HI, rfl, HB, HBD, HEG, HCE, HKX⟩ := hrel
      by_cases hi : i < na
      · have b1 : decide ((i : Int) < (na : Int)) = true := decide_eq_true (by omega)
        have b2 : decide (i < na) = true := decide_eq_true (by omega)
        have p1' : (0 : Int) ≤ (i : Int) := by omega
        have p2' : (i : Int) < (na : Int) := by omega
        by_cases h40 : i < 40
        · have b3 : decide ((i : Int) < 40) = true := decide_eq_true (by omega)
          have b4 : decide (i < 40) = true := decide_eq_true (by omega)
          obtain ⟨ad, ac, hA, hget, hok, c0, c1', c2', c3, c4, c5, c6, c7⟩ := at_act (HAC.out.below HB.out) i hi
          subst hA
          rw [Int.toNat_natCast] at c0 c1' c2' c3 c4 c5 c6 c7
          go_upto_region 10 with (fail)
          -- the goal stands behind W.alloc: new names for that world (w2), the block (gn): HKN
          have hbn := below_alloc (Below.refl (wr).heap.size (wr)) (.cells #[.int .i64 ac.kind, .int .i64 ac.pub, .int .i64 ac.seq, .int .i64 ac.node, .int .i64 ac.sub, .string ac.text, .slice ac.A ac.n ac.c, .string ac.pay] 55)
          have HKN := Aside0.mk (heap_alloc_new (wr) (.cells #[.int .i64 ac.kind, .int .i64 ac.pub, .int .i64 ac.seq, .int .i64 ac.node, .int .i64 ac.sub, .string ac.text, .slice ac.A ac.n ac.c, .string ac.pay] 55))
          have n1 := Aside0.mk (below_then HB.out HB.out.size hbn)
          have n2 := Aside0.mk (HBD.out.below hbn)
          have n4 := Aside0.mk ((hbn.block _ (blk_lt HKX.out)).trans HKX.out)
          have n3 := Aside0.mk (And.intro HCE.out.1 (And.intro (Kd.C_below HCE.out.2.1 hbn) HCE.out.2.2))
          clear HB HBD HCE HKX hbn
          have HB := n1
          have HBD := n2
          have HCE := n3
          have HKX := n4
          clear n1 n2 n3 n4
          generalize (wr).alloc (.cells #[.int .i64 ac.kind, .int .i64 ac.pub, .int .i64 ac.seq, .int .i64 ac.node, .int .i64 ac.sub, .string ac.text, .slice ac.A ac.n ac.c, .string ac.pay] 55) = w2 at HB HBD HCE HKX HKN  ⊢
          generalize (wr).heap.size = gn at HKN ⊢
          have z0 := (blk_cell HKN.out 0).trans (show _ = some (Value.int .i64 ac.kind) from rfl)
          have z3 := (blk_cell HKN.out 3).trans (show _ = some (Value.int .i64 ac.node) from rfl)
          have z4 := (blk_cell HKN.out 4).trans (show _ = some (Value.int .i64 ac.sub) from rfl)
          have z5 := (blk_cell HKN.out 5).trans (show _ = some (Value.string ac.text) from rfl)
          clear c0 c1' c2' c3 c4 c5 c6 c7 hget
          by_cases hk : ac.kind = 2
          · have o1 : (ac.kind == 2) = true := by simpa using hk
            have o2 : (ac.kind == 3) = false := by rw [hk]; rfl
            have HCT := Aside0.mk (fun W => show Calls Try.prog 13 #[.string ac.text, .int .i64 300] W (fun e w' => e = .returned (.string (cutB ac.text 300)) ∧ W = w') from cut_P ac.text 300 W (by have := hok.text; have : maxLen = 9223372036854775807 := rfl; omega) (by omega))
            have HT := Aside0.mk (cutB_le ac.text 300)
            generalize cutB ac.text 300 = s1 at HCT HT
            have HSC := Aside0.mk (sub_any w.heap.size g i (ac.node, ac.sub) S1 B s1 w2.drew (HBD.out.below (below_drew (Below.refl _ _))) HB.out.size (by omega) ⟨hok.node, hok.sub⟩ (by have := HT.out; omega))
            clear hok hk
            go_wp2_with fail
            go_region_held3 (fun X => X.cell? ⟨gn, 3, none⟩ = some (.int .i64 ac.node) ∧ X.cell? ⟨gn, 4, none⟩ = some (.int .i64 ac.sub) ∧ X.cell? ⟨gn, 5, none⟩ = some (.string ac.text)) (go_keep) (first
              | (go_at_call 13; (with_reducible refine (HCT.out _).mono ?_); rintro e w9 ⟨rfl, rfl⟩)
              | (go_at_call 12; (with_reducible refine HSC.out.mono ?_); rintro e w9 ⟨v9, B9, rfl, hk9, hbd9, he9, hg9⟩; have c0' := hk9.cell (show w2.drew.cell? _ = _ from z0); have c3' := hk9.cell (show w2.drew.cell? _ = _ from z3); have c4' := hk9.cell (show w2.drew.cell? _ = _ from z4); have c5' := hk9.cell (show w2.drew.cell? _ = _ from z5)))
            all_goals
              have n1 := Aside0.mk (HB.out.trans ((below_drew (Below.refl w.heap.size _)).trans hk9.1))
              have n4 := Aside0.mk (hk9.2 _ _ _ _ (show w2.drew.heap[gx]? = _ from HKX.out))
              have n3 := Aside0.mk (And.intro HCE.out.1 (And.intro (CV_kept hk9 (Kd.C_drew HCE.out.2.1)) HCE.out.2.2))
              have n5 := Aside0.mk (show B9.evs = (fun _ => none) ∧ B9.got = (fun _ => false) from ⟨he9.trans HEG.out.1, hg9.trans HEG.out.2⟩)
              have n2 := Aside0.mk hbd9
              clear HSC HCT z0 z3 z4 z5
              go_wp2_with fail
              go_roundg (gk - 1)
              case measure => have := HI.out; omega
              case rel => exact ⟨i + 1, B9, ⟨by omega, by omega, by have := HI.out; omega⟩, rfl, n1, n2, n5, n3, n4⟩
          · have o1 : (ac.kind == 2) = false := by simpa using hk
            by_cases hk3 : ac.kind = 3
            · have o2 : (ac.kind == 3) = true := by simpa using hk3
              have HSC := Aside0.mk (unsub_any w.heap.size g i (ac.node, ac.sub) S1 B w2 HBD.out HB.out.size ⟨hok.node, hok.sub⟩)
              clear hok hk hk3
              go_wp2_with fail
              refine HSC.out.mono ?_
              rintro e w9 ⟨v9, B9, rfl, hk9, hbd9, he9, hg9⟩
              have n1 := Aside0.mk (HB.out.trans hk9.1)
              have n4 := Aside0.mk (hk9.2 _ _ _ _ HKX.out)
              have n3 := Aside0.mk (And.intro HCE.out.1 (And.intro (CV_kept hk9 HCE.out.2.1) HCE.out.2.2))
              have n5 := Aside0.mk (show B9.evs = (fun _ => none) ∧ B9.got = (fun _ => false) from ⟨he9.trans HEG.out.1, hg9.trans HEG.out.2⟩)
              have n2 := Aside0.mk (hbd9.mono (M := i + 1) (by omega))
              clear HSC z0 z3 z4 z5
              go_wp2_with fail
              go_roundg (gk - 1)
              case measure => have := HI.out; omega
              case rel => exact ⟨i + 1, B9, ⟨by omega, by omega, by have := HI.out; omega⟩, rfl, n1, n2, n5, n3, n4⟩
            · have o2 : (ac.kind == 3) = false := by simpa using hk3
              go_wp2_with fail
              go_roundg (gk - 1)
              case measure => have := HI.out; omega
              case rel => exact ⟨i + 1, B, ⟨by omega, by omega, by have := HI.out; omega⟩, rfl, HB, ⟨HBD.out.mono (by omega)⟩, HEG, HCE, HKX⟩
        · have b3 : decide ((i : Int) < 40) = false := decide_eq_false (by omega)
          have b4 : decide (i < 40) = false := decide_eq_false (by omega)
          have HBD40 := Aside0.mk (HBD.out.mono (M := 40) HI.out.2.1)
          clear HBD
          have HBD := HBD40
          clear HBD40
          have y0 := (blk_cell HKX.out 0).trans (show _ = some (Value.slice E1 m2 c2) from rfl)
          have y1 := (blk_cell HKX.out 1).trans (show _ = some (Value.string p1) from rfl)
          have HPB := Aside0.mk (publish_calls w.heap.size g 40 a2 o2 m2 c2 (1, 1) S1 B E1 V1 p1 wr HBD.out HB.out.size (by decide) ⟨by decide, by decide⟩ HM2.out.symm (by rcases HCE.out.2.2 with h | h; exact Or.inl h; exact Or.inr h) HCE.out.2.1 (checkBad_none HCK.out).1)
          unfold encE at HPB
          have HE0 := Aside0.mk (show B.evs (1, 1) = none by rw [HEG.out.1])
          rcases pubC_03 (S := S1) (V := V1) (p := p1) HE0.out with hp1 | hp1
          · go_wp2_with fail
            refine HPB.out.mono ?_
            rintro e w12 ⟨hk5, hp⟩
            obtain ⟨rfl, hbd5⟩ : e = .returned .nilIface ∧ IsBd w.heap.size w12 g S1 (B.pub (1, 1) V1 p1) 41 := by
              rcases hp with ⟨h0, _⟩ | ⟨_, h1, h2⟩
              · exact absurd hp1 h0
              · exact ⟨h1, h2⟩
            clear hp HPB y0 y1
            -- behind a board's method (hk5 : Kept .., hbd5 : IsBd .. W ..)
            have n1 := Aside0.mk (HB.out.trans hk5.1)
            have n2 := Aside0.mk hbd5
            have n4 := Aside0.mk (hk5.2 _ _ _ _ HKX.out)
            have n3 := Aside0.mk (And.intro HCE.out.1 (And.intro (CV_kept hk5 HCE.out.2.1) HCE.out.2.2))
            clear HB HBD HCE HKX hk5 hbd5
            have HB := n1
            have HBD := n2
            have HCE := n3
            have HKX := n4
            clear n1 n2 n3 n4
            have HPA := Aside0.mk (pubC_again hp1)
            have HEV := Aside0.mk (evs_pub B (1, 1) V1 p1)
            clear hp1 HE0 HEG
            generalize B.pub (1, 1) V1 p1 = Bp at HBD HEV HPA
            go_wp2_with fail
            refine (due_calls w.heap.size g 41 (1, 1) S1 Bp w12 HBD.out (by decide) ⟨by decide, by decide⟩).mono ?_
            rintro e w13 ⟨hb13, hp⟩
            obtain ⟨vL, L1, rfl, hoL, hdL⟩ : ∃ v L, e = .returned (.tuple #[v, .nilIface]) ∧ w13.ownsRow w12.heap.size tW 2 v L.length (flatW L) ∧ DueList (dueB S1 Bp (1, 1) V1 p1) 41 L := by
              rcases hp with ⟨h0, _⟩ | ⟨V9, p9, h0, v, L, h1, h2, h3⟩
              · rw [HEV.out] at h0; cases h0
              · rw [HEV.out] at h0
                injection h0 with h0
                injection h0 with h5 h6
                subst h5
                subst h6
                exact ⟨v, L, h1, h2, h3⟩
            clear hp
            have HL := Aside0.mk hdL
            have hRL := R_of_own hoL (ok := fun _ => True) (fun _ _ => trivial)
            obtain ⟨AL, cL, rfl, _, hCL⟩ := Kd.R_reads hRL
            have hk5 := Kept.of hb13 HB.out.size
            have hbd5 := HBD.out.below hb13
            have HCL := Aside0.mk hCL
            clear hb13 hoL hRL hdL hCL
            -- behind a board's method (hk5 : Kept .., hbd5 : IsBd .. W ..)
            have n1 := Aside0.mk (HB.out.trans hk5.1)
            have n2 := Aside0.mk hbd5
            have n4 := Aside0.mk (hk5.2 _ _ _ _ HKX.out)
            have n3 := Aside0.mk (And.intro HCE.out.1 (And.intro (CV_kept hk5 HCE.out.2.1) HCE.out.2.2))
            clear HB HBD HCE HKX hk5 hbd5
            have HB := n1
            have HBD := n2
            have HCE := n3
            have HKX := n4
            clear n1 n2 n3 n4
            have hlen1 := HL.out.len
            obtain ⟨nL, hnL⟩ : ∃ n, n = L1.length := ⟨_, rfl⟩
            have HNL := Aside0.mk (And.intro hnL hlen1)
            rw [← hnL] at HCL ⊢
            clear hnL hlen1 HI
            have HSE := Aside0.mk (show sameEv V1 p1 V1 p1 = true by unfold sameEv; rw [sameL_refl]; simp)
            have n1 := Aside0.mk (show IsBd w.heap.size w13 g S1 (Bp.gave (1, 1) (L1.take 0)) 41 by rw [List.take_zero, gave_nil]; exact HBD.out)
            clear HBD
            have HBD := n1
            clear n1
            go_upto_region 22 with (fail)
            go_loopg [21, 22, 118] (nL + 1) (fun k v21 v22 v118 W => ∃ j : Nat, Aside0 (j ≤ nL ∧ k + j = nL + 1) ∧ v118 = .int .i64 (j : Int) ∧ Aside0 (Below w.heap.size w W) ∧ Aside0 (IsBd w.heap.size W g S1 (Bp.gave (1, 1) (L1.take j)) (41 + j)) ∧ Aside0 (m2 ≤ c2 ∧ Kd.C k63 W E1 m2 V1 ∧ (E1 = some ⟨a2, o2, none⟩ ∨ m2 = 0)) ∧ Aside0 (W.heap[gx]? = some (.cells #[.slice E1 m2 c2, .string p1] 24 (0, 0))) ∧ Aside0 (Kd.C kW W AL nL L1))
            case atStart => exact ⟨0, ⟨by omega, by omega⟩, rfl, HB, HBD, HCE, HKX, HCL⟩
            case round =>
              clear HB HBD HCE HKX HCL
              obtain ⟨j, HI, rfl, HB, HBD, HCE, HKX, HCL⟩ := hrel
              by_cases hi : j < nL
              · have b1 : decide ((j : Int) < (nL : Int)) = true := decide_eq_true (by omega)
                have b2 : decide (j < nL) = true := decide_eq_true (by omega)
                have p1' : (0 : Int) ≤ (j : Int) := by omega
                have p2' : (j : Int) < (nL : Int) := by omega
                obtain ⟨ad, e, h0, h1⟩ := at_T43 HCL.out (j : Int) p1' p2'
                subst e
                obtain ⟨y, hy⟩ : ∃ y, L1[j]? = some y := ⟨_, List.getElem?_eq_getElem (by have := HNL.out.1; omega)⟩
                have hrd : rd_T43 L1 (j : Int) = y := by show L1.getD (j : Int).toNat _ = y; rw [Int.toNat_natCast, List.getD_eq_getElem?_getD, hy]; rfl
                rw [hrd, Int.toNat_natCast] at h0 h1
                have HGN := Aside0.mk (gave_next HL.out HEV.out hy HSE.out)
                have HTS := Aside0.mk (show L1.take (j + 1) = L1.take j ++ [y] by
                  have hl : j < L1.length := (List.getElem?_eq_some_iff.1 hy).1
                  rw [List.take_succ_eq_append_getElem hl, (List.getElem?_eq_some_iff.1 hy).2])
                clear hy hrd
                obtain ⟨yf, yg⟩ := y
                go_upto_region 24 with (fail)
                have n5 := Aside0.mk (Kd.C_below HCL.out (below_alloc (Below.refl wr.heap.size wr) (.cells #[.int .i64 yf, .int .i64 yg] 43)))
                -- the goal stands behind W.alloc: new names for that world (w2), the block (gn): HKN
                have hbn := below_alloc (Below.refl (wr).heap.size (wr)) (.cells #[.int .i64 yf, .int .i64 yg] 43)
                have HKN := Aside0.mk (heap_alloc_new (wr) (.cells #[.int .i64 yf, .int .i64 yg] 43))
                have n1 := Aside0.mk (below_then HB.out HB.out.size hbn)
                have n2 := Aside0.mk (HBD.out.below hbn)
                have n4 := Aside0.mk ((hbn.block _ (blk_lt HKX.out)).trans HKX.out)
                have n3 := Aside0.mk (And.intro HCE.out.1 (And.intro (Kd.C_below HCE.out.2.1 hbn) HCE.out.2.2))
                clear HB HBD HCE HKX hbn
                have HB := n1
                have HBD := n2
                have HCE := n3
                have HKX := n4
                clear n1 n2 n3 n4
                generalize (wr).alloc (.cells #[.int .i64 yf, .int .i64 yg] 43) = w2 at HB HBD HCE HKX HKN n5 ⊢
                generalize (wr).heap.size = gn at HKN ⊢
                clear HCL h0 h1
                have HCL := n5
                clear n5
                have z0 := (blk_cell HKN.out 0).trans (show _ = some (Value.int .i64 yf) from rfl)
                have z1 := (blk_cell HKN.out 1).trans (show _ = some (Value.int .i64 yg) from rfl)
                have x0 := (blk_cell HKX.out 0).trans (show _ = some (Value.slice E1 m2 c2) from rfl)
                have x1 := (blk_cell HKX.out 1).trans (show _ = some (Value.string p1) from rfl)
                go_upto_region 25 with (fail)
                have n5 := Aside0.mk (Kd.C_below HCL.out (below_alloc (Below.refl w2.heap.size w2) (.cells #[.int .i64 yg, .int .i64 1, .int .i64 1, .slice E1 m2 c2, .string p1] 58)))
                have n6 := Aside0.mk (((below_alloc (Below.refl w2.heap.size w2) (.cells #[.int .i64 yg, .int .i64 1, .int .i64 1, .slice E1 m2 c2, .string p1] 58)).block _ (blk_lt HKN.out)).trans HKN.out)
                -- the goal stands behind W.alloc: new names for that world (w2), the block (gn): HKN
                have hbn := below_alloc (Below.refl (w2).heap.size (w2)) (.cells #[.int .i64 yg, .int .i64 1, .int .i64 1, .slice E1 m2 c2, .string p1] 58)
                have HKD := Aside0.mk (heap_alloc_new (w2) (.cells #[.int .i64 yg, .int .i64 1, .int .i64 1, .slice E1 m2 c2, .string p1] 58))
                have n1 := Aside0.mk (below_then HB.out HB.out.size hbn)
                have n2 := Aside0.mk (HBD.out.below hbn)
                have n4 := Aside0.mk ((hbn.block _ (blk_lt HKX.out)).trans HKX.out)
                have n3 := Aside0.mk (And.intro HCE.out.1 (And.intro (Kd.C_below HCE.out.2.1 hbn) HCE.out.2.2))
                clear HB HBD HCE HKX hbn
                have HB := n1
                have HBD := n2
                have HCE := n3
                have HKX := n4
                clear n1 n2 n3 n4
                generalize (w2).alloc (.cells #[.int .i64 yg, .int .i64 1, .int .i64 1, .slice E1 m2 c2, .string p1] 58) = w3 at HB HBD HCE HKX HKD n5 n6 ⊢
                generalize (w2).heap.size = gd at HKD ⊢
                clear HCL HKN z0 z1 x0 x1
                have HCL := n5
                have HKN := n6
                clear n5 n6
                have z0 := (blk_cell HKN.out 0).trans (show _ = some (Value.int .i64 yf) from rfl)
                have d0 := (blk_cell HKD.out 0).trans (show _ = some (Value.int .i64 yg) from rfl)
                have d1 := (blk_cell HKD.out 1).trans (show _ = some (Value.int .i64 1) from rfl)
                have d2 := (blk_cell HKD.out 2).trans (show _ = some (Value.int .i64 1) from rfl)
                have d3 := (blk_cell HKD.out 3).trans (show _ = some (Value.slice E1 m2 c2) from rfl)
                have d4 := (blk_cell HKD.out 4).trans (show _ = some (Value.string p1) from rfl)
                have HG1 := Aside0.mk ((give_calls w.heap.size g (41 + j) a2 o2 m2 c2 (yf, yg) (1, 1) S1 (Bp.gave (1, 1) (L1.take j)) E1 V1 p1 w3 HBD.out HB.out.size (by have := HNL.out; omega) HGN.out.1 ⟨by decide, by decide⟩ HM2.out.symm HCE.out.1 HCE.out.2.1).mono (fun e w' hp => show e = .returned .nilIface ∧ Kept w.heap.size w3 w' ∧ IsBd w.heap.size w' g S1 (Bp.gave (1, 1) (L1.take (j + 1))) (41 + (j + 1)) from by
                  obtain ⟨hk, hp⟩ := hp
                  rcases hp with ⟨h0, _⟩ | ⟨_, h1, h2⟩
                  · exact absurd HGN.out.2.1 h0
                  · refine ⟨h1, hk, ?_⟩
                    rw [HTS.out, ← gave_snoc]
                    exact h2))
                dsimp only at HG1
                go_wp2_with fail
                refine HG1.out.mono ?_
                rintro e w4 ⟨rfl, hk5, hbd5⟩
                clear HG1
                have n5 := Aside0.mk (CW_kept hk5 HCL.out)
                have n6 := Aside0.mk (hk5.2 _ _ _ _ HKN.out)
                have n7 := Aside0.mk (hk5.2 _ _ _ _ HKD.out)
                -- behind a board's method (hk5 : Kept .., hbd5 : IsBd .. W ..)
                have n1 := Aside0.mk (HB.out.trans hk5.1)
                have n2 := Aside0.mk hbd5
                have n4 := Aside0.mk (hk5.2 _ _ _ _ HKX.out)
                have n3 := Aside0.mk (And.intro HCE.out.1 (And.intro (CV_kept hk5 HCE.out.2.1) HCE.out.2.2))
                clear HB HBD HCE HKX hk5 hbd5
                have HB := n1
                have HBD := n2
                have HCE := n3
                have HKX := n4
                clear n1 n2 n3 n4
                clear HCL HKN HKD z0 d0 d1 d2 d3 d4
                have HCL := n5
                have HKN := n6
                have HKD := n7
                clear n5 n6 n7
                have z0 := (blk_cell HKN.out 0).trans (show _ = some (Value.int .i64 yf) from rfl)
                have d0 := (blk_cell HKD.out 0).trans (show _ = some (Value.int .i64 yg) from rfl)
                have d1 := (blk_cell HKD.out 1).trans (show _ = some (Value.int .i64 1) from rfl)
                have d2 := (blk_cell HKD.out 2).trans (show _ = some (Value.int .i64 1) from rfl)
                have d3 := (blk_cell HKD.out 3).trans (show _ = some (Value.slice E1 m2 c2) from rfl)
                have d4 := (blk_cell HKD.out 4).trans (show _ = some (Value.string p1) from rfl)
                have HG1 := Aside0.mk ((give_calls w.heap.size g (41 + (j + 1)) a2 o2 m2 c2 (yf, yg) (1, 1) S1 (Bp.gave (1, 1) (L1.take (j + 1))) E1 V1 p1 w4 HBD.out HB.out.size (by have := HNL.out; omega) HGN.out.1 ⟨by decide, by decide⟩ HM2.out.symm HCE.out.1 HCE.out.2.1).mono (fun e w' hp => show ∃ b n, e = .returned (.iface 103 (.pointer (some ⟨b, 0, none⟩))) ∧ ErrIs w' 5 n (.iface 103 (.pointer (some ⟨b, 0, none⟩))) ∧ Kept w.heap.size w4 w' ∧ IsBd w.heap.size w' g S1 (Bp.gave (1, 1) (L1.take (j + 1))) (41 + (j + 1)) from by
                  obtain ⟨hk, hp⟩ := hp
                  have h5 := HGN.out.2.2
                  rcases hp with ⟨_, ⟨b, n, h1, h2⟩, h3⟩ | ⟨h0, _⟩
                  · have h6 : giveC S1 (Bp.gave (1, 1) (L1.take (j + 1))) (yf, yg) (1, 1) V1 p1 = 5 := h5
                    rw [h6] at h2
                    exact ⟨b, n, h1, h2, hk, h3⟩
                  · have h6 : giveC S1 (Bp.gave (1, 1) (L1.take (j + 1))) (yf, yg) (1, 1) V1 p1 = 5 := h5
                    rw [h6] at h0
                    exact absurd h0 (by decide)))
                dsimp only at HG1
                go_wp2_with fail
                refine HG1.out.mono ?_
                rintro e w5 ⟨bE, nE, rfl, hei, hk5, hbd5⟩
                have HEI := Aside0.mk hei
                clear HG1 hei
                have n5 := Aside0.mk (CW_kept hk5 HCL.out)
                -- behind a board's method (hk5 : Kept .., hbd5 : IsBd .. W ..)
                have n1 := Aside0.mk (HB.out.trans hk5.1)
                have n2 := Aside0.mk hbd5
                have n4 := Aside0.mk (hk5.2 _ _ _ _ HKX.out)
                have n3 := Aside0.mk (And.intro HCE.out.1 (And.intro (CV_kept hk5 HCE.out.2.1) HCE.out.2.2))
                clear HB HBD HCE HKX hk5 hbd5
                have HB := n1
                have HBD := n2
                have HCE := n3
                have HKX := n4
                clear n1 n2 n3 n4
                clear HCL HKN HKD z0 d0 d1 d2 d3 d4
                have HCL := n5
                clear n5
                go_wp2_with fail
                refine (is_err 5 5 nE _ _ HEI.out).mono ?_
                rintro e w6 ⟨rfl, rfl⟩
                go_wp2_with fail
                go_roundg (gk - 1)
                case measure => have := HI.out; omega
                case rel => exact ⟨j + 1, ⟨by omega, by have := HI.out; omega⟩, (by have := HNL.out; rw [wrap_in (by omega) (by omega), show (j : Int) + 1 = ((j + 1 : Nat) : Int) by omega]), HB, HBD, HCE, HKX, HCL⟩
              · have b1 : decide ((j : Int) < (nL : Int)) = false := decide_eq_false (by omega)
                have b2 : decide (j < nL) = false := decide_eq_false (by omega)
                have n1 := HBD.out
                rw [List.take_of_length_le (by have := HNL.out.1; omega)] at n1
                have HBD1 := Aside0.mk (n1.mono (M := 82) (by have := HNL.out; have := HI.out; omega))
                clear HBD n1 HCL HI hi
                have HBD := HBD1
                clear HBD1
                go_wp2_with fail
                refine (due_calls w.heap.size g 82 (1, 1) S1 (Bp.gave (1, 1) L1) wr HBD.out (by decide) ⟨by decide, by decide⟩).mono ?_
                rintro e w13 ⟨hb13, hp⟩
                obtain ⟨vM, L2, rfl, hoM, hdM⟩ : ∃ v L, e = .returned (.tuple #[v, .nilIface]) ∧ w13.ownsRow wr.heap.size tW 2 v L.length (flatW L) ∧ DueList (dueB S1 (Bp.gave (1, 1) L1) (1, 1) V1 p1) 82 L := by
                  have HEV2 : (Bp.gave (1, 1) L1).evs (1, 1) = some (V1, p1) := HEV.out
                  rcases hp with ⟨h0, _⟩ | ⟨V9, p9, h0, v, L, h1, h2, h3⟩
                  · rw [HEV2] at h0; cases h0
                  · rw [HEV2] at h0
                    injection h0 with h0
                    injection h0 with h5 h6
                    subst h5
                    subst h6
                    exact ⟨v, L, h1, h2, h3⟩
                have hL2 := gave_all HL.out hdM
                subst hL2
                obtain ⟨AM, cM, rfl⟩ := own_shape hoM
                have hk5 := Kept.of hb13 HB.out.size
                have hbd5 := HBD.out.below hb13
                clear hb13 hp hoM hdM
                -- behind a board's method (hk5 : Kept .., hbd5 : IsBd .. W ..)
                have n1 := Aside0.mk (HB.out.trans hk5.1)
                have n2 := Aside0.mk hbd5
                have n4 := Aside0.mk (hk5.2 _ _ _ _ HKX.out)
                have n3 := Aside0.mk (And.intro HCE.out.1 (And.intro (CV_kept hk5 HCE.out.2.1) HCE.out.2.2))
                clear HB HBD HCE HKX hk5 hbd5
                have HB := n1
                have HBD := n2
                have HCE := n3
                have HKX := n4
                clear n1 n2 n3 n4
                go_wp2_with fail
                refine (awake_calls _).mono ?_
                rintro e w14 ⟨rfl, hb14⟩
                have hk5 := Kept.of hb14 HB.out.size
                have hbd5 := HBD.out.below hb14
                clear hb14
                -- behind a board's method (hk5 : Kept .., hbd5 : IsBd .. W ..)
                have n1 := Aside0.mk (HB.out.trans hk5.1)
                have n2 := Aside0.mk hbd5
                have n4 := Aside0.mk (hk5.2 _ _ _ _ HKX.out)
                have n3 := Aside0.mk (And.intro HCE.out.1 (And.intro (CV_kept hk5 HCE.out.2.1) HCE.out.2.2))
                clear HB HBD HCE HKX hk5 hbd5
                have HB := n1
                have HBD := n2
                have HCE := n3
                have HKX := n4
                clear n1 n2 n3 n4
                have HPB := Aside0.mk ((publish_calls w.heap.size g 82 a2 o2 m2 c2 (1, 1) S1 (Bp.gave (1, 1) L1) E1 V1 p1 w14 HBD.out HB.out.size (by decide) ⟨by decide, by decide⟩ HM2.out.symm (by rcases HCE.out.2.2 with h | h; exact Or.inl h; exact Or.inr h) HCE.out.2.1 (checkBad_none HCK.out).1).mono (fun e w' hp => show ∃ b n, e = .returned (.iface 103 (.pointer (some ⟨b, 0, none⟩))) ∧ ErrIs w' 5 n (.iface 103 (.pointer (some ⟨b, 0, none⟩))) ∧ Kept w.heap.size w14 w' from by
                  obtain ⟨hk, hp⟩ := hp
                  have h6 : pubC S1 (Bp.gave (1, 1) L1) (1, 1) V1 p1 = 5 := HPA.out
                  rcases hp with ⟨_, ⟨b, n, h1, h2⟩, h3⟩ | ⟨h0, _⟩
                  · rw [h6] at h2
                    exact ⟨b, n, h1, h2, hk⟩
                  · rw [h6] at h0
                    exact absurd h0 (by decide)))
                unfold encE at HPB
                have x0 := (blk_cell HKX.out 0).trans (show _ = some (Value.slice E1 m2 c2) from rfl)
                have x1 := (blk_cell HKX.out 1).trans (show _ = some (Value.string p1) from rfl)
                go_wp2_with fail
                refine HPB.out.mono ?_
                rintro e w15 ⟨bp, np, rfl, hei, hk5⟩
                have hfin := HB.out.trans hk5.1
                have HEI := Aside0.mk hei
                clear HPB x0 x1 hei hk5
                go_wp2_with fail
                refine (is_err 5 5 np _ _ HEI.out).mono ?_
                rintro e w16 ⟨rfl, rfl⟩
                go_wp2
                try go_ret
                exact ⟨rfl, hfin⟩
          · go_wp2_with fail
            refine HPB.out.mono ?_
            rintro e w12 ⟨hk5, hp⟩
            obtain ⟨bp, np, rfl, hei, hbd5⟩ : ∃ b n, e = .returned (.iface 103 (.pointer (some ⟨b, 0, none⟩))) ∧ ErrIs w12 3 n (.iface 103 (.pointer (some ⟨b, 0, none⟩))) ∧ IsBd w.heap.size w12 g S1 B 40 := by
              rw [hp1] at hp
              rcases hp with ⟨_, ⟨b, n, h1, h2⟩, h3⟩ | ⟨h0, _⟩
              · exact ⟨b, n, h1, h2, h3⟩
              · exact absurd h0 (by decide)
            have HEI := Aside0.mk hei
            clear hei hp HPB y0 y1 hp1
            -- behind a board's method (hk5 : Kept .., hbd5 : IsBd .. W ..)
            have n1 := Aside0.mk (HB.out.trans hk5.1)
            have n2 := Aside0.mk hbd5
            have n4 := Aside0.mk (hk5.2 _ _ _ _ HKX.out)
            have n3 := Aside0.mk (And.intro HCE.out.1 (And.intro (CV_kept hk5 HCE.out.2.1) HCE.out.2.2))
            clear HB HBD HCE HKX hk5 hbd5
            have HB := n1
            have HBD := n2
            have HCE := n3
            have HKX := n4
            clear n1 n2 n3 n4
            go_wp2_with fail
            refine (due_calls w.heap.size g 40 (1, 1) S1 B w12 HBD.out (by decide) ⟨by decide, by decide⟩).mono ?_
            rintro e w13 ⟨hb13, hp⟩
            obtain ⟨bq, nq, rfl, hej⟩ : ∃ b n, e = .returned (.tuple #[.slice none 0 0, .iface 103 (.pointer (some ⟨b, 0, none⟩))]) ∧ ErrIs w13 9 n (.iface 103 (.pointer (some ⟨b, 0, none⟩))) := by
              rcases hp with ⟨_, b, n, h1, h2⟩ | ⟨V9, p9, h0, _⟩
              · exact ⟨b, n, h1, h2⟩
              · rw [HE0.out] at h0; cases h0
            have HE1 := Aside0.mk (ErrIs.kept (Kept.of (base := w.heap.size) hb13 HB.out.size) HEI.out)
            have HE2' := Aside0.mk hej
            have HB13 := Aside0.mk (below_then HB.out HB.out.size hb13)
            clear hb13 hp hej HEI HB HBD HCE HKX
            go_wp2_with fail
            refine (awake_calls _).mono ?_
            rintro e w14 ⟨rfl, hb14⟩
            have HE3 := Aside0.mk (ErrIs.kept (Kept.of (base := w.heap.size) hb14 HB13.out.size) HE1.out)
            have HE4 := Aside0.mk (ErrIs.kept (Kept.of (base := w.heap.size) hb14 HB13.out.size) HE2'.out)
            have hfin := below_then HB13.out HB13.out.size hb14
            clear hb14 HE1 HE2'
            go_wp2_with fail
            refine (is_err 3 3 np _ _ HE3.out).mono ?_
            rintro e w15 ⟨rfl, rfl⟩
            go_wp2_with fail
            refine (is_err 9 9 nq _ _ HE4.out).mono ?_
            rintro e w16 ⟨rfl, rfl⟩
            go_wp2
            try go_ret
            exact ⟨rfl, hfin⟩
      · have b1 : decide ((i : Int) < (na : Int)) = false := decide_eq_false (by omega)
        have b2 : decide (i < na) = false := decide_eq_false (by omega)
        have HBD40 := Aside0.mk (HBD.out.mono (M := 40) HI.out.2.1)
        clear HBD
        have HBD := HBD40
        clear HBD40
        have y0 := (blk_cell HKX.out 0).trans (show _ = some (Value.slice E1 m2 c2) from rfl)
        have y1 := (blk_cell HKX.out 1).trans (show _ = some (Value.string p1) from rfl)
        have HPB := Aside0.mk (publish_calls w.heap.size g 40 a2 o2 m2 c2 (1, 1) S1 B E1 V1 p1 wr HBD.out HB.out.size (by decide) ⟨by decide, by decide⟩ HM2.out.symm (by rcases HCE.out.2.2 with h | h; exact Or.inl h; exact Or.inr h) HCE.out.2.1 (checkBad_none HCK.out).1)
        unfold encE at HPB
        have HE0 := Aside0.mk (show B.evs (1, 1) = none by rw [HEG.out.1])
        rcases pubC_03 (S := S1) (V := V1) (p := p1) HE0.out with hp1 | hp1
        · go_wp2_with fail
          refine HPB.out.mono ?_
          rintro e w12 ⟨hk5, hp⟩
          obtain ⟨rfl, hbd5⟩ : e = .returned .nilIface ∧ IsBd w.heap.size w12 g S1 (B.pub (1, 1) V1 p1) 41 := by
            rcases hp with ⟨h0, _⟩ | ⟨_, h1, h2⟩
            · exact absurd hp1 h0
            · exact ⟨h1, h2⟩
          clear hp HPB y0 y1
          -- behind a board's method (hk5 : Kept .., hbd5 : IsBd .. W ..)
          have n1 := Aside0.mk (HB.out.trans hk5.1)
          have n2 := Aside0.mk hbd5
          have n4 := Aside0.mk (hk5.2 _ _ _ _ HKX.out)
          have n3 := Aside0.mk (And.intro HCE.out.1 (And.intro (CV_kept hk5 HCE.out.2.1) HCE.out.2.2))
          clear HB HBD HCE HKX hk5 hbd5
          have HB := n1
          have HBD := n2
          have HCE := n3
          have HKX := n4
          clear n1 n2 n3 n4
          have HPA := Aside0.mk (pubC_again hp1)
          have HEV := Aside0.mk (evs_pub B (1, 1) V1 p1)
          clear hp1 HE0 HEG
          generalize B.pub (1, 1) V1 p1 = Bp at HBD HEV HPA
          go_wp2_with fail
          refine (due_calls w.heap.size g 41 (1, 1) S1 Bp w12 HBD.out (by decide) ⟨by decide, by decide⟩).mono ?_
          rintro e w13 ⟨hb13, hp⟩
          obtain ⟨vL, L1, rfl, hoL, hdL⟩ : ∃ v L, e = .returned (.tuple #[v, .nilIface]) ∧ w13.ownsRow w12.heap.size tW 2 v L.length (flatW L) ∧ DueList (dueB S1 Bp (1, 1) V1 p1) 41 L := by
            rcases hp with ⟨h0, _⟩ | ⟨V9, p9, h0, v, L, h1, h2, h3⟩
            · rw [HEV.out] at h0; cases h0
            · rw [HEV.out] at h0
              injection h0 with h0
              injection h0 with h5 h6
              subst h5
              subst h6
              exact ⟨v, L, h1, h2, h3⟩
          clear hp
          have HL := Aside0.mk hdL
          have hRL := R_of_own hoL (ok := fun _ => True) (fun _ _ => trivial)
          obtain ⟨AL, cL, rfl, _, hCL⟩ := Kd.R_reads hRL
          have hk5 := Kept.of hb13 HB.out.size
          have hbd5 := HBD.out.below hb13
          have HCL := Aside0.mk hCL
          clear hb13 hoL hRL hdL hCL
          -- behind a board's method (hk5 : Kept .., hbd5 : IsBd .. W ..)
          have n1 := Aside0.mk (HB.out.trans hk5.1)
          have n2 := Aside0.mk hbd5
          have n4 := Aside0.mk (hk5.2 _ _ _ _ HKX.out)
          have n3 := Aside0.mk (And.intro HCE.out.1 (And.intro (CV_kept hk5 HCE.out.2.1) HCE.out.2.2))
          clear HB HBD HCE HKX hk5 hbd5
          have HB := n1
          have HBD := n2
          have HCE := n3
          have HKX := n4
          clear n1 n2 n3 n4
          have hlen1 := HL.out.len
          obtain ⟨nL, hnL⟩ : ∃ n, n = L1.length := ⟨_, rfl⟩
          have HNL := Aside0.mk (And.intro hnL hlen1)
          rw [← hnL] at HCL ⊢
          clear hnL hlen1 HI
          have HSE := Aside0.mk (show sameEv V1 p1 V1 p1 = true by unfold sameEv; rw [sameL_refl]; simp)
          have n1 := Aside0.mk (show IsBd w.heap.size w13 g S1 (Bp.gave (1, 1) (L1.take 0)) 41 by rw [List.take_zero, gave_nil]; exact HBD.out)
          clear HBD
          have HBD := n1
          clear n1
          go_upto_region 22 with (fail)
          go_loopg [21, 22, 118] (nL + 1) (fun k v21 v22 v118 W => ∃ j : Nat, Aside0 (j ≤ nL ∧ k + j = nL + 1) ∧ v118 = .int .i64 (j : Int) ∧ Aside0 (Below w.heap.size w W) ∧ Aside0 (IsBd w.heap.size W g S1 (Bp.gave (1, 1) (L1.take j)) (41 + j)) ∧ Aside0 (m2 ≤ c2 ∧ Kd.C k63 W E1 m2 V1 ∧ (E1 = some ⟨a2, o2, none⟩ ∨ m2 = 0)) ∧ Aside0 (W.heap[gx]? = some (.cells #[.slice E1 m2 c2, .string p1] 24 (0, 0))) ∧ Aside0 (Kd.C kW W AL nL L1))
          case atStart => exact ⟨0, ⟨by omega, by omega⟩, rfl, HB, HBD, HCE, HKX, HCL⟩
          case round =>
            clear HB HBD HCE HKX HCL
            obtain ⟨j, HI, rfl, HB, HBD, HCE, HKX, HCL⟩ := hrel
            by_cases hi : j < nL
            · have b1 : decide ((j : Int) < (nL : Int)) = true := decide_eq_true (by omega)
              have b2 : decide (j < nL) = true := decide_eq_true (by omega)
              have p1' : (0 : Int) ≤ (j : Int) := by omega
              have p2' : (j : Int) < (nL : Int) := by omega
              obtain ⟨ad, e, h0, h1⟩ := at_T43 HCL.out (j : Int) p1' p2'
              subst e
              obtain ⟨y, hy⟩ : ∃ y, L1[j]? = some y := ⟨_, List.getElem?_eq_getElem (by have := HNL.out.1; omega)⟩
              have hrd : rd_T43 L1 (j : Int) = y := by show L1.getD (j : Int).toNat _ = y; rw [Int.toNat_natCast, List.getD_eq_getElem?_getD, hy]; rfl
              rw [hrd, Int.toNat_natCast] at h0 h1
              have HGN := Aside0.mk (gave_next HL.out HEV.out hy HSE.out)
              have HTS := Aside0.mk (show L1.take (j + 1) = L1.take j ++ [y] by
                have hl : j < L1.length := (List.getElem?_eq_some_iff.1 hy).1
                rw [List.take_succ_eq_append_getElem hl, (List.getElem?_eq_some_iff.1 hy).2])
              clear hy hrd
              obtain ⟨yf, yg⟩ := y
              go_upto_region 24 with (fail)
              have n5 := Aside0.mk (Kd.C_below HCL.out (below_alloc (Below.refl wr.heap.size wr) (.cells #[.int .i64 yf, .int .i64 yg] 43)))
              -- the goal stands behind W.alloc: new names for that world (w2), the block (gn): HKN
              have hbn := below_alloc (Below.refl (wr).heap.size (wr)) (.cells #[.int .i64 yf, .int .i64 yg] 43)
              have HKN := Aside0.mk (heap_alloc_new (wr) (.cells #[.int .i64 yf, .int .i64 yg] 43))
              have n1 := Aside0.mk (below_then HB.out HB.out.size hbn)
              have n2 := Aside0.mk (HBD.out.below hbn)
              have n4 := Aside0.mk ((hbn.block _ (blk_lt HKX.out)).trans HKX.out)
              have n3 := Aside0.mk (And.intro HCE.out.1 (And.intro (Kd.C_below HCE.out.2.1 hbn) HCE.out.2.2))
              clear HB HBD HCE HKX hbn
              have HB := n1
              have HBD := n2
              have HCE := n3
              have HKX := n4
              clear n1 n2 n3 n4
              generalize (wr).alloc (.cells #[.int .i64 yf, .int .i64 yg] 43) = w2 at HB HBD HCE HKX HKN n5 ⊢
              generalize (wr).heap.size = gn at HKN ⊢
              clear HCL h0 h1
              have HCL := n5
              clear n5
              have z0 := (blk_cell HKN.out 0).trans (show _ = some (Value.int .i64 yf) from rfl)
              have z1 := (blk_cell HKN.out 1).trans (show _ = some (Value.int .i64 yg) from rfl)
              have x0 := (blk_cell HKX.out 0).trans (show _ = some (Value.slice E1 m2 c2) from rfl)
              have x1 := (blk_cell HKX.out 1).trans (show _ = some (Value.string p1) from rfl)
              go_upto_region 25 with (fail)
              have n5 := Aside0.mk (Kd.C_below HCL.out (below_alloc (Below.refl w2.heap.size w2) (.cells #[.int .i64 yg, .int .i64 1, .int .i64 1, .slice E1 m2 c2, .string p1] 58)))
              have n6 := Aside0.mk (((below_alloc (Below.refl w2.heap.size w2) (.cells #[.int .i64 yg, .int .i64 1, .int .i64 1, .slice E1 m2 c2, .string p1] 58)).block _ (blk_lt HKN.out)).trans HKN.out)
              -- the goal stands behind W.alloc: new names for that world (w2), the block (gn): HKN
              have hbn := below_alloc (Below.refl (w2).heap.size (w2)) (.cells #[.int .i64 yg, .int .i64 1, .int .i64 1, .slice E1 m2 c2, .string p1] 58)
              have HKD := Aside0.mk (heap_alloc_new (w2) (.cells #[.int .i64 yg, .int .i64 1, .int .i64 1, .slice E1 m2 c2, .string p1] 58))
              have n1 := Aside0.mk (below_then HB.out HB.out.size hbn)
              have n2 := Aside0.mk (HBD.out.below hbn)
              have n4 := Aside0.mk ((hbn.block _ (blk_lt HKX.out)).trans HKX.out)
              have n3 := Aside0.mk (And.intro HCE.out.1 (And.intro (Kd.C_below HCE.out.2.1 hbn) HCE.out.2.2))
              clear HB HBD HCE HKX hbn
              have HB := n1
              have HBD := n2
              have HCE := n3
              have HKX := n4
              clear n1 n2 n3 n4
              generalize (w2).alloc (.cells #[.int .i64 yg, .int .i64 1, .int .i64 1, .slice E1 m2 c2, .string p1] 58) = w3 at HB HBD HCE HKX HKD n5 n6 ⊢
              generalize (w2).heap.size = gd at HKD ⊢
              clear HCL HKN z0 z1 x0 x1
              have HCL := n5
              have HKN := n6
              clear n5 n6
              have z0 := (blk_cell HKN.out 0).trans (show _ = some (Value.int .i64 yf) from rfl)
              have d0 := (blk_cell HKD.out 0).trans (show _ = some (Value.int .i64 yg) from rfl)
              have d1 := (blk_cell HKD.out 1).trans (show _ = some (Value.int .i64 1) from rfl)
              have d2 := (blk_cell HKD.out 2).trans (show _ = some (Value.int .i64 1) from rfl)
              have d3 := (blk_cell HKD.out 3).trans (show _ = some (Value.slice E1 m2 c2) from rfl)
              have d4 := (blk_cell HKD.out 4).trans (show _ = some (Value.string p1) from rfl)
              have HG1 := Aside0.mk ((give_calls w.heap.size g (41 + j) a2 o2 m2 c2 (yf, yg) (1, 1) S1 (Bp.gave (1, 1) (L1.take j)) E1 V1 p1 w3 HBD.out HB.out.size (by have := HNL.out; omega) HGN.out.1 ⟨by decide, by decide⟩ HM2.out.symm HCE.out.1 HCE.out.2.1).mono (fun e w' hp => show e = .returned .nilIface ∧ Kept w.heap.size w3 w' ∧ IsBd w.heap.size w' g S1 (Bp.gave (1, 1) (L1.take (j + 1))) (41 + (j + 1)) from by
                obtain ⟨hk, hp⟩ := hp
                rcases hp with ⟨h0, _⟩ | ⟨_, h1, h2⟩
                · exact absurd HGN.out.2.1 h0
                · refine ⟨h1, hk, ?_⟩
                  rw [HTS.out, ← gave_snoc]
                  exact h2))
              dsimp only at HG1
              go_wp2_with fail
              refine HG1.out.mono ?_
              rintro e w4 ⟨rfl, hk5, hbd5⟩
              clear HG1
              have n5 := Aside0.mk (CW_kept hk5 HCL.out)
              have n6 := Aside0.mk (hk5.2 _ _ _ _ HKN.out)
              have n7 := Aside0.mk (hk5.2 _ _ _ _ HKD.out)
              -- behind a board's method (hk5 : Kept .., hbd5 : IsBd .. W ..)
              have n1 := Aside0.mk (HB.out.trans hk5.1)
              have n2 := Aside0.mk hbd5
              have n4 := Aside0.mk (hk5.2 _ _ _ _ HKX.out)
              have n3 := Aside0.mk (And.intro HCE.out.1 (And.intro (CV_kept hk5 HCE.out.2.1) HCE.out.2.2))
              clear HB HBD HCE HKX hk5 hbd5
              have HB := n1
              have HBD := n2
              have HCE := n3
              have HKX := n4
              clear n1 n2 n3 n4
              clear HCL HKN HKD z0 d0 d1 d2 d3 d4
              have HCL := n5
              have HKN := n6
              have HKD := n7
              clear n5 n6 n7
              have z0 := (blk_cell HKN.out 0).trans (show _ = some (Value.int .i64 yf) from rfl)
              have d0 := (blk_cell HKD.out 0).trans (show _ = some (Value.int .i64 yg) from rfl)
              have d1 := (blk_cell HKD.out 1).trans (show _ = some (Value.int .i64 1) from rfl)
              have d2 := (blk_cell HKD.out 2).trans (show _ = some (Value.int .i64 1) from rfl)
              have d3 := (blk_cell HKD.out 3).trans (show _ = some (Value.slice E1 m2 c2) from rfl)
              have d4 := (blk_cell HKD.out 4).trans (show _ = some (Value.string p1) from rfl)
              have HG1 := Aside0.mk ((give_calls w.heap.size g (41 + (j + 1)) a2 o2 m2 c2 (yf, yg) (1, 1) S1 (Bp.gave (1, 1) (L1.take (j + 1))) E1 V1 p1 w4 HBD.out HB.out.size (by have := HNL.out; omega) HGN.out.1 ⟨by decide, by decide⟩ HM2.out.symm HCE.out.1 HCE.out.2.1).mono (fun e w' hp => show ∃ b n, e = .returned (.iface 103 (.pointer (some ⟨b, 0, none⟩))) ∧ ErrIs w' 5 n (.iface 103 (.pointer (some ⟨b, 0, none⟩))) ∧ Kept w.heap.size w4 w' ∧ IsBd w.heap.size w' g S1 (Bp.gave (1, 1) (L1.take (j + 1))) (41 + (j + 1)) from by
                obtain ⟨hk, hp⟩ := hp
                have h5 := HGN.out.2.2
                rcases hp with ⟨_, ⟨b, n, h1, h2⟩, h3⟩ | ⟨h0, _⟩
                · have h6 : giveC S1 (Bp.gave (1, 1) (L1.take (j + 1))) (yf, yg) (1, 1) V1 p1 = 5 := h5
                  rw [h6] at h2
                  exact ⟨b, n, h1, h2, hk, h3⟩
                · have h6 : giveC S1 (Bp.gave (1, 1) (L1.take (j + 1))) (yf, yg) (1, 1) V1 p1 = 5 := h5
                  rw [h6] at h0
                  exact absurd h0 (by decide)))
              dsimp only at HG1
              go_wp2_with fail
              refine HG1.out.mono ?_
              rintro e w5 ⟨bE, nE, rfl, hei, hk5, hbd5⟩
              have HEI := Aside0.mk hei
              clear HG1 hei
              have n5 := Aside0.mk (CW_kept hk5 HCL.out)
              -- behind a board's method (hk5 : Kept .., hbd5 : IsBd .. W ..)
              have n1 := Aside0.mk (HB.out.trans hk5.1)
              have n2 := Aside0.mk hbd5
              have n4 := Aside0.mk (hk5.2 _ _ _ _ HKX.out)
              have n3 := Aside0.mk (And.intro HCE.out.1 (And.intro (CV_kept hk5 HCE.out.2.1) HCE.out.2.2))
              clear HB HBD HCE HKX hk5 hbd5
              have HB := n1
              have HBD := n2
              have HCE := n3
              have HKX := n4
              clear n1 n2 n3 n4
              clear HCL HKN HKD z0 d0 d1 d2 d3 d4
              have HCL := n5
              clear n5
              go_wp2_with fail
              refine (is_err 5 5 nE _ _ HEI.out).mono ?_
              rintro e w6 ⟨rfl, rfl⟩
              go_wp2_with fail
              go_roundg (gk - 1)
              case measure => have := HI.out; omega
              case rel => exact ⟨j + 1, ⟨by omega, by have := HI.out; omega⟩, (by have := HNL.out; rw [wrap_in (by omega) (by omega), show (j : Int) + 1 = ((j + 1 : Nat) : Int) by omega]), HB, HBD, HCE, HKX, HCL⟩
            · have b1 : decide ((j : Int) < (nL : Int)) = false := decide_eq_false (by omega)
              have b2 : decide (j < nL) = false := decide_eq_false (by omega)
              have n1 := HBD.out
              rw [List.take_of_length_le (by have := HNL.out.1; omega)] at n1
              have HBD1 := Aside0.mk (n1.mono (M := 82) (by have := HNL.out; have := HI.out; omega))
              clear HBD n1 HCL HI hi
              have HBD := HBD1
              clear HBD1
              go_wp2_with fail
              refine (due_calls w.heap.size g 82 (1, 1) S1 (Bp.gave (1, 1) L1) wr HBD.out (by decide) ⟨by decide, by decide⟩).mono ?_
              rintro e w13 ⟨hb13, hp⟩
              obtain ⟨vM, L2, rfl, hoM, hdM⟩ : ∃ v L, e = .returned (.tuple #[v, .nilIface]) ∧ w13.ownsRow wr.heap.size tW 2 v L.length (flatW L) ∧ DueList (dueB S1 (Bp.gave (1, 1) L1) (1, 1) V1 p1) 82 L := by
                have HEV2 : (Bp.gave (1, 1) L1).evs (1, 1) = some (V1, p1) := HEV.out
                rcases hp with ⟨h0, _⟩ | ⟨V9, p9, h0, v, L, h1, h2, h3⟩
                · rw [HEV2] at h0; cases h0
                · rw [HEV2] at h0
                  injection h0 with h0
                  injection h0 with h5 h6
                  subst h5
                  subst h6
                  exact ⟨v, L, h1, h2, h3⟩
              have hL2 := gave_all HL.out hdM
              subst hL2
              obtain ⟨AM, cM, rfl⟩ := own_shape hoM
              have hk5 := Kept.of hb13 HB.out.size
              have hbd5 := HBD.out.below hb13
              clear hb13 hp hoM hdM
              -- behind a board's method (hk5 : Kept .., hbd5 : IsBd .. W ..)
              have n1 := Aside0.mk (HB.out.trans hk5.1)
              have n2 := Aside0.mk hbd5
              have n4 := Aside0.mk (hk5.2 _ _ _ _ HKX.out)
              have n3 := Aside0.mk (And.intro HCE.out.1 (And.intro (CV_kept hk5 HCE.out.2.1) HCE.out.2.2))
              clear HB HBD HCE HKX hk5 hbd5
              have HB := n1
              have HBD := n2
              have HCE := n3
              have HKX := n4
              clear n1 n2 n3 n4
              go_wp2_with fail
              refine (awake_calls _).mono ?_
              rintro e w14 ⟨rfl, hb14⟩
              have hk5 := Kept.of hb14 HB.out.size
              have hbd5 := HBD.out.below hb14
              clear hb14
              -- behind a board's method (hk5 : Kept .., hbd5 : IsBd .. W ..)
              have n1 := Aside0.mk (HB.out.trans hk5.1)
              have n2 := Aside0.mk hbd5
              have n4 := Aside0.mk (hk5.2 _ _ _ _ HKX.out)
              have n3 := Aside0.mk (And.intro HCE.out.1 (And.intro (CV_kept hk5 HCE.out.2.1) HCE.out.2.2))
              clear HB HBD HCE HKX hk5 hbd5
              have HB := n1
              have HBD := n2
              have HCE := n3
              have HKX := n4
              clear n1 n2 n3 n4
              have HPB := Aside0.mk ((publish_calls w.heap.size g 82 a2 o2 m2 c2 (1, 1) S1 (Bp.gave (1, 1) L1) E1 V1 p1 w14 HBD.out HB.out.size (by decide) ⟨by decide, by decide⟩ HM2.out.symm (by rcases HCE.out.2.2 with h | h; exact Or.inl h; exact Or.inr h) HCE.out.2.1 (checkBad_none HCK.out).1).mono (fun e w' hp => show ∃ b n, e = .returned (.iface 103 (.pointer (some ⟨b, 0, none⟩))) ∧ ErrIs w' 5 n (.iface 103 (.pointer (some ⟨b, 0, none⟩))) ∧ Kept w.heap.size w14 w' from by
                obtain ⟨hk, hp⟩ := hp
                have h6 : pubC S1 (Bp.gave (1, 1) L1) (1, 1) V1 p1 = 5 := HPA.out
                rcases hp with ⟨_, ⟨b, n, h1, h2⟩, h3⟩ | ⟨h0, _⟩
                · rw [h6] at h2
                  exact ⟨b, n, h1, h2, hk⟩
                · rw [h6] at h0
                  exact absurd h0 (by decide)))
              unfold encE at HPB
              have x0 := (blk_cell HKX.out 0).trans (show _ = some (Value.slice E1 m2 c2) from rfl)
              have x1 := (blk_cell HKX.out 1).trans (show _ = some (Value.string p1) from rfl)
              go_wp2_with fail
              refine HPB.out.mono ?_
              rintro e w15 ⟨bp, np, rfl, hei, hk5⟩
              have hfin := HB.out.trans hk5.1
              have HEI := Aside0.mk hei
              clear HPB x0 x1 hei hk5
              go_wp2_with fail
              refine (is_err 5 5 np _ _ HEI.out).mono ?_
              rintro e w16 ⟨rfl, rfl⟩
              go_wp2
              try go_ret
              exact ⟨rfl, hfin⟩
        · go_wp2_with fail
          refine HPB.out.mono ?_
          rintro e w12 ⟨hk5, hp⟩
          obtain ⟨bp, np, rfl, hei, hbd5⟩ : ∃ b n, e = .returned (.iface 103 (.pointer (some ⟨b, 0, none⟩))) ∧ ErrIs w12 3 n (.iface 103 (.pointer (some ⟨b, 0, none⟩))) ∧ IsBd w.heap.size w12 g S1 B 40 := by
            rw [hp1] at hp
            rcases hp with ⟨_, ⟨b, n, h1, h2⟩, h3⟩ | ⟨h0, _⟩
            · exact ⟨b, n, h1, h2, h3⟩
            · exact absurd h0 (by decide)
          have HEI := Aside0.mk hei
          clear hei hp HPB y0 y1 hp1
          -- behind a board's method (hk5 : Kept .., hbd5 : IsBd .. W ..)
          have n1 := Aside0.mk (HB.out.trans hk5.1)
          have n2 := Aside0.mk hbd5
          have n4 := Aside0.mk (hk5.2 _ _ _ _ HKX.out)
          have n3 := Aside0.mk (And.intro HCE.out.1 (And.intro (CV_kept hk5 HCE.out.2.1) HCE.out.2.2))
          clear HB HBD HCE HKX hk5 hbd5
          have HB := n1
          have HBD := n2
          have HCE := n3
          have HKX := n4
          clear n1 n2 n3 n4
          go_wp2_with fail
          refine (due_calls w.heap.size g 40 (1, 1) S1 B w12 HBD.out (by decide) ⟨by decide, by decide⟩).mono ?_
          rintro e w13 ⟨hb13, hp⟩
          obtain ⟨bq, nq, rfl, hej⟩ : ∃ b n, e = .returned (.tuple #[.slice none 0 0, .iface 103 (.pointer (some ⟨b, 0, none⟩))]) ∧ ErrIs w13 9 n (.iface 103 (.pointer (some ⟨b, 0, none⟩))) := by
            rcases hp with ⟨_, b, n, h1, h2⟩ | ⟨V9, p9, h0, _⟩
            · exact ⟨b, n, h1, h2⟩
            · rw [HE0.out] at h0; cases h0
          have HE1 := Aside0.mk (ErrIs.kept (Kept.of (base := w.heap.size) hb13 HB.out.size) HEI.out)
          have HE2' := Aside0.mk hej
          have HB13 := Aside0.mk (below_then HB.out HB.out.size hb13)
          clear hb13 hp hej HEI HB HBD HCE HKX
          go_wp2_with fail
          refine (awake_calls _).mono ?_
          rintro e w14 ⟨rfl, hb14⟩
          have HE3 := Aside0.mk (ErrIs.kept (Kept.of (base := w.heap.size) hb14 HB13.out.size) HE1.out)
          have HE4 := Aside0.mk (ErrIs.kept (Kept.of (base := w.heap.size) hb14 HB13.out.size) HE2'.out)
          have hfin := below_then HB13.out HB13.out.size hb14
          clear hb14 HE1 HE2'
          go_wp2_with fail
          refine (is_err 3 3 np _ _ HE3.out).mono ?_
          rintro e w15 ⟨rfl, rfl⟩
          go_wp2_with fail
          refine (is_err 9 9 nq _ _ HE4.out).mono ?_
          rintro e w16 ⟨rfl, rfl⟩
          go_wp2
          try go_ret
          exact ⟨rfl, hfin⟩
end Go.Proofs.Ytlokmijoaocofaa.Mine
end
