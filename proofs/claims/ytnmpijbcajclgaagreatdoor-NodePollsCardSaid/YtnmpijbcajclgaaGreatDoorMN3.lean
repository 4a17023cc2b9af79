/- Texts of one claim, one behind the other, made short by a program. -/
import Derived.Test.YtnmpijbcajclgaaGreatDoorMN2
import Derived.Test.YtnmpijbcajclgaaGreatDoorProg
set_option linter.unusedSimpArgs false
set_option linter.unusedVariables false
set_option maxRecDepth 100000
section
namespace Go.Proofs.YtnmpijbcajclgaaGreatDoor.PNodeAlone
open Go.RowKit Go.Proofs.YtnmpijbcajclgaaGreatDoorW.PrintWords Go.Proofs.YtnmpijbcajclgaaGreatDoorW.PrintLast Go.Proofs.YtnmpijbcajclgaaGreatDoorW.PrintMore
attribute [local go_sem] max2_int min2_int max_two min_two max_three min_three max_four min_four
def errW : Option Int → Value
 | none => .nilIface
 | some c => .iface 49 (.int .i64 c)
theorem errW_none : errW none = .nilIface := rfl
theorem errW_some (c : Int) : errW (some c) = .iface 49 (.int .i64 c) := rfl
theorem info5 : (Tryz.prog.info? 5).map (fun i => (i.zero, i.size, i.bytes)) = some (some (.int .u8 0), 1, 1) := by kernel_rfl
theorem info194 : (Tryz.prog.info? 194).map (fun i => (i.zero, i.size, i.bytes)) = some (some (.agg #[(.int .i64 0), (.int .i64 0)]), 2, 16) := by kernel_rfl
structure S194 where
 f0 : Int
 f1 : Int
def z194 : S194 := ⟨(0 : Int), (0 : Int)⟩
def k194 : Kd S194 := Kd.iso (Kd.pair (Kd.int .i64) (Kd.int .i64)) (fun x : S194 => (x.f0, x.f1))
theorem k194_open {w : World} {x : S194} {cs : List Value} (h : k194.K w x cs) : cs = [.int .i64 x.f0, .int .i64 x.f1] := by
 obtain ⟨_, _, rfl, rfl, rfl⟩ := h
 exact rfl
theorem k194_mkM (w : World) (base : Nat) (ok : Nat → Prop) (x : S194)  : k194.M w base ok x [.int .i64 x.f0, .int .i64 x.f1] := ⟨[.int .i64 x.f0], [.int .i64 x.f1], rfl, rfl, rfl⟩
def rd_T194 (xs : List S194) (i : Int) : S194 := xs.getD i.toNat z194
theorem at_T194 {w : World} {A : Option Addr} {n : Nat} {xs : List S194} (h : Kd.C k194 w A n xs) (i : Int) (h0 : 0 ≤ i) (h1 : i < n) : ∃ ad , A = some ad ∧ w.cell? (ad.add (i.toNat * 2)) = some (.int .i64 (rd_T194 xs i).f0) ∧ w.cell? ⟨(ad.add (i.toNat * 2)).block, (ad.add (i.toNat * 2)).off + 1, none⟩ = some (.int .i64 (rd_T194 xs i).f1) := by
 obtain ⟨ad, c, e, _, hK, hc0⟩ := Kd.C_get h z194 i h0 h1
 have hc : ∀ j u, c[j]? = some u → w.cell? (ad.add (i.toNat * 2 + j)) = some u := hc0
 obtain rfl := k194_open hK
 exact ⟨ad, e, hc 0 _ rfl, by rw [← add_field _ _ 1 (by omega)]; exact hc 1 _ rfl⟩
structure S168 where
 f0 : ByteArray
 f1 : Int
 f2 : Int
 f3 : Int
 f4 : ByteArray
def z168 : S168 := ⟨(⟨#[]⟩ : ByteArray), (0 : Int), (0 : Int), (0 : Int), (⟨#[]⟩ : ByteArray)⟩
def k168 : Kd S168 := Kd.iso (Kd.pair Kd.string (Kd.pair (Kd.int .i64) (Kd.pair (Kd.int .i64) (Kd.pair (Kd.int .i64) Kd.string)))) (fun x : S168 => (x.f0, x.f1, x.f2, x.f3, x.f4))
theorem k168_open {w : World} {x : S168} {cs : List Value} (h : k168.K w x cs) : cs = [.string x.f0, .int .i64 x.f1, .int .i64 x.f2, .int .i64 x.f3, .string x.f4] := by
 obtain ⟨_, _, rfl, rfl, ⟨_, _, rfl, rfl, ⟨_, _, rfl, rfl, ⟨_, _, rfl, rfl, rfl⟩⟩⟩⟩ := h
 exact rfl
theorem k168_mkM (w : World) (base : Nat) (ok : Nat → Prop) (x : S168)  : k168.M w base ok x [.string x.f0, .int .i64 x.f1, .int .i64 x.f2, .int .i64 x.f3, .string x.f4] := ⟨[.string x.f0], [.int .i64 x.f1, .int .i64 x.f2, .int .i64 x.f3, .string x.f4], rfl, rfl, ⟨[.int .i64 x.f1], [.int .i64 x.f2, .int .i64 x.f3, .string x.f4], rfl, rfl, ⟨[.int .i64 x.f2], [.int .i64 x.f3, .string x.f4], rfl, rfl, ⟨[.int .i64 x.f3], [.string x.f4], rfl, rfl, rfl⟩⟩⟩⟩
def rd_T168 (xs : List S168) (i : Int) : S168 := xs.getD i.toNat z168
theorem at_T168 {w : World} {A : Option Addr} {n : Nat} {xs : List S168} (h : Kd.C k168 w A n xs) (i : Int) (h0 : 0 ≤ i) (h1 : i < n) : ∃ ad , A = some ad ∧ w.cell? (ad.add (i.toNat * 5)) = some (.string (rd_T168 xs i).f0) ∧ w.cell? ⟨(ad.add (i.toNat * 5)).block, (ad.add (i.toNat * 5)).off + 1, none⟩ = some (.int .i64 (rd_T168 xs i).f1) ∧ w.cell? ⟨(ad.add (i.toNat * 5)).block, (ad.add (i.toNat * 5)).off + 2, none⟩ = some (.int .i64 (rd_T168 xs i).f2) ∧ w.cell? ⟨(ad.add (i.toNat * 5)).block, (ad.add (i.toNat * 5)).off + 3, none⟩ = some (.int .i64 (rd_T168 xs i).f3) ∧ w.cell? ⟨(ad.add (i.toNat * 5)).block, (ad.add (i.toNat * 5)).off + 4, none⟩ = some (.string (rd_T168 xs i).f4) := by
 obtain ⟨ad, c, e, _, hK, hc0⟩ := Kd.C_get h z168 i h0 h1
 have hc : ∀ j u, c[j]? = some u → w.cell? (ad.add (i.toNat * 5 + j)) = some u := hc0
 obtain rfl := k168_open hK
 exact ⟨ad, e, hc 0 _ rfl, by rw [← add_field _ _ 1 (by omega)]; exact hc 1 _ rfl, by rw [← add_field _ _ 2 (by omega)]; exact hc 2 _ rfl, by rw [← add_field _ _ 3 (by omega)]; exact hc 3 _ rfl, by rw [← add_field _ _ 4 (by omega)]; exact hc 4 _ rfl⟩
structure S134 where
 f0 : ByteArray
 f1 : Int
 f2 : (List ByteArray)
 f3 : Bool
 f4 : Int
structure S272 where
 f0 : ByteArray
 f1 : Int
 f2 : Int
def z272 : S272 := ⟨(⟨#[]⟩ : ByteArray), (0 : Int), (0 : Int)⟩
def k272 : Kd S272 := Kd.iso (Kd.pair Kd.string (Kd.pair (Kd.int .i64) (Kd.int .i64))) (fun x : S272 => (x.f0, x.f1, x.f2))
theorem k272_open {w : World} {x : S272} {cs : List Value} (h : k272.K w x cs) : cs = [.string x.f0, .int .i64 x.f1, .int .i64 x.f2] := by
 obtain ⟨_, _, rfl, rfl, ⟨_, _, rfl, rfl, rfl⟩⟩ := h
 exact rfl
theorem k272_mk (w : World) (x : S272)  : k272.K w x [.string x.f0, .int .i64 x.f1, .int .i64 x.f2] := ⟨[.string x.f0], [.int .i64 x.f1, .int .i64 x.f2], rfl, rfl, ⟨[.int .i64 x.f1], [.int .i64 x.f2], rfl, rfl, rfl⟩⟩
def rd_T272 (xs : List S272) (i : Int) : S272 := xs.getD i.toNat z272
theorem at_T272 {w : World} {A : Option Addr} {n : Nat} {xs : List S272} (h : Kd.C k272 w A n xs) (i : Int) (h0 : 0 ≤ i) (h1 : i < n) : ∃ ad , A = some ad ∧ w.cell? (ad.add (i.toNat * 3)) = some (.string (rd_T272 xs i).f0) ∧ w.cell? ⟨(ad.add (i.toNat * 3)).block, (ad.add (i.toNat * 3)).off + 1, none⟩ = some (.int .i64 (rd_T272 xs i).f1) ∧ w.cell? ⟨(ad.add (i.toNat * 3)).block, (ad.add (i.toNat * 3)).off + 2, none⟩ = some (.int .i64 (rd_T272 xs i).f2) := by
 obtain ⟨ad, c, e, _, hK, hc0⟩ := Kd.C_get h z272 i h0 h1
 have hc : ∀ j u, c[j]? = some u → w.cell? (ad.add (i.toNat * 3 + j)) = some u := hc0
 obtain rfl := k272_open hK
 exact ⟨ad, e, hc 0 _ rfl, by rw [← add_field _ _ 1 (by omega)]; exact hc 1 _ rfl, by rw [← add_field _ _ 2 (by omega)]; exact hc 2 _ rfl⟩
structure S37 where
 f0 : Int
 f1 : ByteArray
def z37 : S37 := ⟨(0 : Int), (⟨#[]⟩ : ByteArray)⟩
def k37 : Kd S37 := Kd.iso (Kd.pair (Kd.int .i64) Kd.string) (fun x : S37 => (x.f0, x.f1))
theorem k37_open {w : World} {x : S37} {cs : List Value} (h : k37.K w x cs) : cs = [.int .i64 x.f0, .string x.f1] := by
 obtain ⟨_, _, rfl, rfl, rfl⟩ := h
 exact rfl
theorem k37_openM {w : World} {base : Nat} {ok : Nat → Prop} {x : S37} {cs : List Value} (h : k37.M w base ok x cs) : cs = [.int .i64 x.f0, .string x.f1] := by
 obtain ⟨_, _, rfl, rfl, rfl⟩ := h
 exact rfl
theorem k37_mkM (w : World) (base : Nat) (ok : Nat → Prop) (x : S37)  : k37.M w base ok x [.int .i64 x.f0, .string x.f1] := ⟨[.int .i64 x.f0], [.string x.f1], rfl, rfl, rfl⟩
def rd_T37 (xs : List S37) (i : Int) : S37 := xs.getD i.toNat z37
theorem at_T37 {w : World} {A : Option Addr} {n : Nat} {xs : List S37} (h : Kd.C k37 w A n xs) (i : Int) (h0 : 0 ≤ i) (h1 : i < n) : ∃ ad , A = some ad ∧ w.cell? (ad.add (i.toNat * 2)) = some (.int .i64 (rd_T37 xs i).f0) ∧ w.cell? ⟨(ad.add (i.toNat * 2)).block, (ad.add (i.toNat * 2)).off + 1, none⟩ = some (.string (rd_T37 xs i).f1) := by
 obtain ⟨ad, c, e, _, hK, hc0⟩ := Kd.C_get h z37 i h0 h1
 have hc : ∀ j u, c[j]? = some u → w.cell? (ad.add (i.toNat * 2 + j)) = some u := hc0
 obtain rfl := k37_open hK
 exact ⟨ad, e, hc 0 _ rfl, by rw [← add_field _ _ 1 (by omega)]; exact hc 1 _ rfl⟩
structure S30 where
 f0 : ByteArray
 f1 : Int
 f2 : Int
 f3 : Int
def z30 : S30 := ⟨(⟨#[]⟩ : ByteArray), (0 : Int), (0 : Int), (0 : Int)⟩
def k30 : Kd S30 := Kd.iso (Kd.pair Kd.string (Kd.pair (Kd.int .i64) (Kd.pair (Kd.int .i64) (Kd.int .i64)))) (fun x : S30 => (x.f0, x.f1, x.f2, x.f3))
theorem k30_open {w : World} {x : S30} {cs : List Value} (h : k30.K w x cs) : cs = [.string x.f0, .int .i64 x.f1, .int .i64 x.f2, .int .i64 x.f3] := by
 obtain ⟨_, _, rfl, rfl, ⟨_, _, rfl, rfl, ⟨_, _, rfl, rfl, rfl⟩⟩⟩ := h
 exact rfl
theorem k30_openM {w : World} {base : Nat} {ok : Nat → Prop} {x : S30} {cs : List Value} (h : k30.M w base ok x cs) : cs = [.string x.f0, .int .i64 x.f1, .int .i64 x.f2, .int .i64 x.f3] := by
 obtain ⟨_, _, rfl, rfl, ⟨_, _, rfl, rfl, ⟨_, _, rfl, rfl, rfl⟩⟩⟩ := h
 exact rfl
theorem k30_mkM (w : World) (base : Nat) (ok : Nat → Prop) (x : S30)  : k30.M w base ok x [.string x.f0, .int .i64 x.f1, .int .i64 x.f2, .int .i64 x.f3] := ⟨[.string x.f0], [.int .i64 x.f1, .int .i64 x.f2, .int .i64 x.f3], rfl, rfl, ⟨[.int .i64 x.f1], [.int .i64 x.f2, .int .i64 x.f3], rfl, rfl, ⟨[.int .i64 x.f2], [.int .i64 x.f3], rfl, rfl, rfl⟩⟩⟩
def rd_T30 (xs : List S30) (i : Int) : S30 := xs.getD i.toNat z30
theorem at_T30 {w : World} {A : Option Addr} {n : Nat} {xs : List S30} (h : Kd.C k30 w A n xs) (i : Int) (h0 : 0 ≤ i) (h1 : i < n) : ∃ ad , A = some ad ∧ w.cell? (ad.add (i.toNat * 4)) = some (.string (rd_T30 xs i).f0) ∧ w.cell? ⟨(ad.add (i.toNat * 4)).block, (ad.add (i.toNat * 4)).off + 1, none⟩ = some (.int .i64 (rd_T30 xs i).f1) ∧ w.cell? ⟨(ad.add (i.toNat * 4)).block, (ad.add (i.toNat * 4)).off + 2, none⟩ = some (.int .i64 (rd_T30 xs i).f2) ∧ w.cell? ⟨(ad.add (i.toNat * 4)).block, (ad.add (i.toNat * 4)).off + 3, none⟩ = some (.int .i64 (rd_T30 xs i).f3) := by
 obtain ⟨ad, c, e, _, hK, hc0⟩ := Kd.C_get h z30 i h0 h1
 have hc : ∀ j u, c[j]? = some u → w.cell? (ad.add (i.toNat * 4 + j)) = some u := hc0
 obtain rfl := k30_open hK
 exact ⟨ad, e, hc 0 _ rfl, by rw [← add_field _ _ 1 (by omega)]; exact hc 1 _ rfl, by rw [← add_field _ _ 2 (by omega)]; exact hc 2 _ rfl, by rw [← add_field _ _ 3 (by omega)]; exact hc 3 _ rfl⟩
structure S155 where
 f0 : ByteArray
 f1 : Int
 f2 : Int
 f3 : Int
structure S231 where
 f0 : ByteArray
 f1 : Int
 f2 : Int
 f3 : Int
 f4 : ByteArray
structure S162 where
 f0 : Int
 f1 : (List S231)
structure S163 where
 f0 : Int
 f1 : ByteArray
structure S90 where
 f0 : Int
 f1 : (List S163)
 f2 : ByteArray
structure S92 where
 f0 : Int
 f1 : S90
attribute [local go_sem] max2_int min2_int max_two min_two max_three min_three max_four min_four
def wigwaglaw01_Cut.f (a0 : ByteArray) (a1 : Int) : Option (ByteArray) := if (a0.size : Int) > a1 then (if 0 ≤ a1 then (if a1 ≤ (a0.size : Int) then (some (a0.extract 0 (a1 : Int).toNat)) else (none)) else (none)) else (some a0)
set_option maxHeartbeats 8000000 in
theorem wigwaglaw01_Cut.calls (a0 : ByteArray) (a1 : Int) (r : ByteArray) (w : World) (h : wigwaglaw01_Cut.f a0 a1 = some r) :
 Calls Tryz.prog 19 #[.string a0, .int .i64 a1] w fun e w' => e = .returned (.string r) ∧ Drawn0 w w' := by
 have H : (if (a0.size : Int) > a1 then (if 0 ≤ a1 then (if a1 ≤ (a0.size : Int) then (some (a0.extract 0 (a1 : Int).toNat)) else (none)) else (none)) else (some a0)) = some r := h
 clear h
 by_cases c3 : (a0.size : Int) > a1
 ·
  rw [if_pos c3] at H
  have c3b0 : decide (a1 < (a0.size : Int)) = true := decide_eq_true c3
  clear c3
  by_cases c4 : 0 ≤ a1
  ·
   rw [if_pos c4] at H
   have c4b0 := eq_true c4
   have c4b1 : decide (0 ≤ a1) = true := decide_eq_true c4
   clear c4
   by_cases c5 : a1 ≤ (a0.size : Int)
   ·
    rw [if_pos c5] at H
    have c5b0 := eq_true c5
    have c5b1 : decide (a1 ≤ (a0.size : Int)) = true := decide_eq_true c5
    clear c5
    obtain rfl := Option.some.inj H
    go_enter Tryz.func19, Tryz.ntmps19
    go_wp2
    go_ret
    exact ⟨by first | rfl | (simp; done) | (simp [*]; done), by repeat (first | exact Drawn0.refl _ | apply Drawn0.step)⟩
   ·
    rw [if_neg c5] at H
    exact absurd H (by simp)
  ·
   rw [if_neg c4] at H
   exact absurd H (by simp)
 ·
  rw [if_neg c3] at H
  have c3b0 : decide (a1 < (a0.size : Int)) = false := decide_eq_false c3
  clear c3
  obtain rfl := Option.some.inj H
  go_enter Tryz.func19, Tryz.ntmps19
  go_wp2
  go_ret
  exact ⟨by first | rfl | (simp; done) | (simp [*]; done), by repeat (first | exact Drawn0.refl _ | apply Drawn0.step)⟩
def IsS254 (w0 W : World) (g : Nat) (f0 : ByteArray) (f1 : Int) (f2 : Int) : Prop := W.heap[g]? = some (.cells #[.string f0, .int .i64 f1, .int .i64 f2] 254 (0, 0)) ∧ w0.heap.size ≤ g
theorem IsS254.grown {w0 W : World} {g : Nat} {f0 : ByteArray} {f1 : Int} {f2 : Int} {W1 : World} {row : Option Nat} (h : IsS254 w0 W g f0 f1 f2) (hw : W.grownBy W1 row) (hne : some g ≠ row) : IsS254 w0 W1 g f0 f1 f2 := by
 obtain ⟨hb, hg⟩ := h
 exact ⟨blk_grown hb hw hne, hg⟩
theorem IsS254.kept {w0 W : World} {g : Nat} {f0 : ByteArray} {f1 : Int} {f2 : Int} {W1 : World} {S : Nat → Prop} (h : IsS254 w0 W g f0 f1 f2) (hk : Kept W W1 S) (hne : ¬ S g) : IsS254 w0 W1 g f0 f1 f2 := by
 obtain ⟨hb, hg⟩ := h
 exact ⟨blk_kept hb hk hne, hg⟩
theorem IsS254.below {w0 W : World} {g : Nat} {f0 : ByteArray} {f1 : Int} {f2 : Int} {W1 : World} (h : IsS254 w0 W g f0 f1 f2) (hw : Below W.heap.size W W1) : IsS254 w0 W1 g f0 f1 f2 := h.grown (grown_of_below hw none) (by simp)
theorem IsS254.alloc {w0 W : World} {g : Nat} {f0 : ByteArray} {f1 : Int} {f2 : Int} (h : IsS254 w0 W g f0 f1 f2) (o : Obj) : IsS254 w0 (W.alloc o) g f0 f1 f2 := h.below (below_alloc (Below.refl _ _) o)
theorem IsS254.drewN {w0 W : World} {g : Nat} {f0 : ByteArray} {f1 : Int} {f2 : Int} (h : IsS254 w0 W g f0 f1 f2) (m : Nat) : IsS254 w0 (W.drewN m) g f0 f1 f2 := h
theorem IsS254.drew {w0 W : World} {g : Nat} {f0 : ByteArray} {f1 : Int} {f2 : Int} (h : IsS254 w0 W g f0 f1 f2) : IsS254 w0 W.drew g f0 f1 f2 := h
theorem IsS254.at_ {w0 W : World} {g : Nat} {f0 : ByteArray} {f1 : Int} {f2 : Int} {w' : World} {m : Nat} (hq : W.drewN m = w') (h : IsS254 w0 W g f0 f1 f2) : IsS254 w0 w' g f0 f1 f2 := by subst hq; exact IsS254.drewN h m
theorem IsS254.apart {w0 W : World} {g : Nat} {f0 : ByteArray} {f1 : Int} {f2 : Int} {α : Type} {d : Kd α} {e : Nat} {base : Nat} {ok : Nat → Prop} {v : Value} {xs : List α} (h : IsS254 w0 W g f0 f1 f2) (ho : d.R e W base ok v xs) (ht : ∀ q, q ∈ e :: d.E → q ≠ 254) : d.R e W base (fun k => ok k ∧ k ≠ g) v xs := by
 obtain ⟨hb, hg⟩ := h
 exact Kd.R_types ho hb ht
theorem IsS254.own_ne {w0 W : World} {g : Nat} {f0 : ByteArray} {f1 : Int} {f2 : Int} {α : Type} {d : Kd α} {e : Nat} {base : Nat} {ok : Nat → Prop} {v : Value} {xs : List α} (h : IsS254 w0 W g f0 f1 f2) (ho : d.R e W base ok v xs) (ht : e ≠ 254) : some g ≠ v.ownBlock := by
 obtain ⟨hb, hg⟩ := h
 exact Kd.R_ne ho hb ht
theorem IsS254.lt {w0 W : World} {g : Nat} {f0 : ByteArray} {f1 : Int} {f2 : Int} (h : IsS254 w0 W g f0 f1 f2) : g < W.heap.size := by
 obtain ⟨hb, hg⟩ := h
 exact blk_lt hb
theorem IsS254.ge {w0 W : World} {g : Nat} {f0 : ByteArray} {f1 : Int} {f2 : Int} (h : IsS254 w0 W g f0 f1 f2) : w0.heap.size ≤ g := by
 obtain ⟨hb, hg⟩ := h
 exact hg
theorem IsS254.far {w0 W : World} {g : Nat} {f0 : ByteArray} {f1 : Int} {f2 : Int} {p : Addr} (h : IsS254 w0 W g f0 f1 f2) (hne : g ≠ p.block) (u : Value) : IsS254 w0 (W.setCell p u) g f0 f1 f2 := by
 obtain ⟨hb, hg⟩ := h
 exact ⟨blk_far hb hne u, hg⟩
theorem cellS254_0 {W : World} {g : Nat} {f0 : ByteArray} {f1 : Int} {f2 : Int} (h : W.heap[g]? = some (.cells #[.string f0, .int .i64 f1, .int .i64 f2] 254 (0, 0))) : W.cell? ⟨g, 0, none⟩ = some (.string f0) := (blk_cell h 0).trans rfl
theorem IsS254.set_0 {w0 W : World} {g : Nat} {f0 : ByteArray} {f1 : Int} {f2 : Int} (h : IsS254 w0 W g f0 f1 f2) (x : ByteArray) : IsS254 w0 (W.setCell ⟨g, 0, none⟩ (.string x)) g x f1 f2 := by
 obtain ⟨hb, hg⟩ := h
 exact ⟨by simpa using blk_set hb 0 (.string x), hg⟩
theorem cellS254_1 {W : World} {g : Nat} {f0 : ByteArray} {f1 : Int} {f2 : Int} (h : W.heap[g]? = some (.cells #[.string f0, .int .i64 f1, .int .i64 f2] 254 (0, 0))) : W.cell? ⟨g, 1, none⟩ = some (.int .i64 f1) := (blk_cell h 1).trans rfl
theorem IsS254.set_1 {w0 W : World} {g : Nat} {f0 : ByteArray} {f1 : Int} {f2 : Int} (h : IsS254 w0 W g f0 f1 f2) (x : Int) : IsS254 w0 (W.setCell ⟨g, 1, none⟩ (.int .i64 x)) g f0 x f2 := by
 obtain ⟨hb, hg⟩ := h
 exact ⟨by simpa using blk_set hb 1 (.int .i64 x), hg⟩
theorem cellS254_2 {W : World} {g : Nat} {f0 : ByteArray} {f1 : Int} {f2 : Int} (h : W.heap[g]? = some (.cells #[.string f0, .int .i64 f1, .int .i64 f2] 254 (0, 0))) : W.cell? ⟨g, 2, none⟩ = some (.int .i64 f2) := (blk_cell h 2).trans rfl
theorem IsS254.set_2 {w0 W : World} {g : Nat} {f0 : ByteArray} {f1 : Int} {f2 : Int} (h : IsS254 w0 W g f0 f1 f2) (x : Int) : IsS254 w0 (W.setCell ⟨g, 2, none⟩ (.int .i64 x)) g f0 f1 x := by
 obtain ⟨hb, hg⟩ := h
 exact ⟨by simpa using blk_set hb 2 (.int .i64 x), hg⟩
theorem IsS254.new (w0 W : World) (f0 : ByteArray) (f1 : Int) (f2 : Int) (hB : Below w0.heap.size w0 W) : IsS254 w0 (W.alloc (.cells #[.string f0, .int .i64 f1, .int .i64 f2] 254)) W.heap.size f0 f1 f2 := ⟨by simpa using heap_alloc_new W _, hB.size⟩
def IsS173 (w0 W : World) (g : Nat) (f0 : List ByteArray) (f1 : Int) (f2 : Int) (f3 : Bool) : Prop := ∃ A0 c0, W.heap[g]? = some (.cells #[.slice A0 f0.length c0, .int .i64 f1, .int .i64 f2, .bool f3] 173 (0, 0)) ∧ w0.heap.size ≤ g ∧ Kd.C Kd.string w0 A0 f0.length f0
theorem IsS173.grown {w0 W : World} {g : Nat} {f0 : List ByteArray} {f1 : Int} {f2 : Int} {f3 : Bool} {W1 : World} {row : Option Nat} (h : IsS173 w0 W g f0 f1 f2 f3) (hw : W.grownBy W1 row) (hne : some g ≠ row) : IsS173 w0 W1 g f0 f1 f2 f3 := by
 obtain ⟨A0, c0, hb, hg, hr0⟩ := h
 exact ⟨A0, c0, blk_grown hb hw hne, hg, hr0⟩
theorem IsS173.kept {w0 W : World} {g : Nat} {f0 : List ByteArray} {f1 : Int} {f2 : Int} {f3 : Bool} {W1 : World} {S : Nat → Prop} (h : IsS173 w0 W g f0 f1 f2 f3) (hk : Kept W W1 S) (hne : ¬ S g) : IsS173 w0 W1 g f0 f1 f2 f3 := by
 obtain ⟨A0, c0, hb, hg, hr0⟩ := h
 exact ⟨A0, c0, blk_kept hb hk hne, hg, hr0⟩
theorem IsS173.below {w0 W : World} {g : Nat} {f0 : List ByteArray} {f1 : Int} {f2 : Int} {f3 : Bool} {W1 : World} (h : IsS173 w0 W g f0 f1 f2 f3) (hw : Below W.heap.size W W1) : IsS173 w0 W1 g f0 f1 f2 f3 := h.grown (grown_of_below hw none) (by simp)
theorem IsS173.alloc {w0 W : World} {g : Nat} {f0 : List ByteArray} {f1 : Int} {f2 : Int} {f3 : Bool} (h : IsS173 w0 W g f0 f1 f2 f3) (o : Obj) : IsS173 w0 (W.alloc o) g f0 f1 f2 f3 := h.below (below_alloc (Below.refl _ _) o)
theorem IsS173.drewN {w0 W : World} {g : Nat} {f0 : List ByteArray} {f1 : Int} {f2 : Int} {f3 : Bool} (h : IsS173 w0 W g f0 f1 f2 f3) (m : Nat) : IsS173 w0 (W.drewN m) g f0 f1 f2 f3 := h
theorem IsS173.drew {w0 W : World} {g : Nat} {f0 : List ByteArray} {f1 : Int} {f2 : Int} {f3 : Bool} (h : IsS173 w0 W g f0 f1 f2 f3) : IsS173 w0 W.drew g f0 f1 f2 f3 := h
theorem IsS173.at_ {w0 W : World} {g : Nat} {f0 : List ByteArray} {f1 : Int} {f2 : Int} {f3 : Bool} {w' : World} {m : Nat} (hq : W.drewN m = w') (h : IsS173 w0 W g f0 f1 f2 f3) : IsS173 w0 w' g f0 f1 f2 f3 := by subst hq; exact IsS173.drewN h m
theorem IsS173.apart {w0 W : World} {g : Nat} {f0 : List ByteArray} {f1 : Int} {f2 : Int} {f3 : Bool} {α : Type} {d : Kd α} {e : Nat} {base : Nat} {ok : Nat → Prop} {v : Value} {xs : List α} (h : IsS173 w0 W g f0 f1 f2 f3) (ho : d.R e W base ok v xs) (ht : ∀ q, q ∈ e :: d.E → q ≠ 173) : d.R e W base (fun k => ok k ∧ k ≠ g) v xs := by
 obtain ⟨A0, c0, hb, hg, hr0⟩ := h
 exact Kd.R_types ho hb ht
theorem IsS173.own_ne {w0 W : World} {g : Nat} {f0 : List ByteArray} {f1 : Int} {f2 : Int} {f3 : Bool} {α : Type} {d : Kd α} {e : Nat} {base : Nat} {ok : Nat → Prop} {v : Value} {xs : List α} (h : IsS173 w0 W g f0 f1 f2 f3) (ho : d.R e W base ok v xs) (ht : e ≠ 173) : some g ≠ v.ownBlock := by
 obtain ⟨A0, c0, hb, hg, hr0⟩ := h
 exact Kd.R_ne ho hb ht
theorem IsS173.lt {w0 W : World} {g : Nat} {f0 : List ByteArray} {f1 : Int} {f2 : Int} {f3 : Bool} (h : IsS173 w0 W g f0 f1 f2 f3) : g < W.heap.size := by
 obtain ⟨A0, c0, hb, hg, hr0⟩ := h
 exact blk_lt hb
theorem IsS173.ge {w0 W : World} {g : Nat} {f0 : List ByteArray} {f1 : Int} {f2 : Int} {f3 : Bool} (h : IsS173 w0 W g f0 f1 f2 f3) : w0.heap.size ≤ g := by
 obtain ⟨A0, c0, hb, hg, hr0⟩ := h
 exact hg
theorem IsS173.far {w0 W : World} {g : Nat} {f0 : List ByteArray} {f1 : Int} {f2 : Int} {f3 : Bool} {p : Addr} (h : IsS173 w0 W g f0 f1 f2 f3) (hne : g ≠ p.block) (u : Value) : IsS173 w0 (W.setCell p u) g f0 f1 f2 f3 := by
 obtain ⟨A0, c0, hb, hg, hr0⟩ := h
 exact ⟨A0, c0, blk_far hb hne u, hg, hr0⟩
theorem IsS173.set_1 {w0 W : World} {g : Nat} {f0 : List ByteArray} {f1 : Int} {f2 : Int} {f3 : Bool} (h : IsS173 w0 W g f0 f1 f2 f3) (x : Int) : IsS173 w0 (W.setCell ⟨g, 1, none⟩ (.int .i64 x)) g f0 x f2 f3 := by
 obtain ⟨A0, c0, hb, hg, hr0⟩ := h
 exact ⟨A0, c0, by simpa using blk_set hb 1 (.int .i64 x), hg, hr0⟩
theorem IsS173.set_2 {w0 W : World} {g : Nat} {f0 : List ByteArray} {f1 : Int} {f2 : Int} {f3 : Bool} (h : IsS173 w0 W g f0 f1 f2 f3) (x : Int) : IsS173 w0 (W.setCell ⟨g, 2, none⟩ (.int .i64 x)) g f0 f1 x f3 := by
 obtain ⟨A0, c0, hb, hg, hr0⟩ := h
 exact ⟨A0, c0, by simpa using blk_set hb 2 (.int .i64 x), hg, hr0⟩
theorem IsS173.new (w0 W : World) (A0 : Option Addr) (c0 : Nat) (f0 : List ByteArray) (f1 : Int) (f2 : Int) (f3 : Bool) (hB : Below w0.heap.size w0 W) (hr0 : Kd.C Kd.string w0 A0 f0.length f0) : IsS173 w0 (W.alloc (.cells #[.slice A0 f0.length c0, .int .i64 f1, .int .i64 f2, .bool f3] 173)) W.heap.size f0 f1 f2 f3 := ⟨A0, c0, by simpa using heap_alloc_new W _, hB.size, hr0⟩
def filter_parser_blanks.l0 : Nat → ByteArray → Int → Int → Option (ByteArray × Int × Int)
 | 0, _, _, _ => none
 | k + 1, x1000, x1001, x1002 => if x1002 < 0 then (if x1001 < (x1000.size : Int) then (if 0 ≤ x1001 then (if (bt x1000 x1001) = 32 then (filter_parser_blanks.l0 k x1000 (wrap64 (x1001 + 1)) x1002) else (some (x1000, x1001, x1002))) else (none)) else (some (x1000, x1001, x1002))) else (some (x1000, x1001, x1002))
def filter_parser_blanks.f (k : Nat) (s0_0 : ByteArray) (s0_1 : Int) (s0_2 : Int) : Option (ByteArray × Int × Int) := filter_parser_blanks.l0 k s0_0 s0_1 s0_2
theorem filter_parser_blanks.mono_l : ∀ k, (∀ y0 y1 y2, LeO (filter_parser_blanks.l0 k y0 y1 y2) (filter_parser_blanks.l0 (k + 1) y0 y1 y2))
 | 0 => fun _ _ _ r h => by simp [filter_parser_blanks.l0] at h
 | k + 1 => by
  have ih0 := filter_parser_blanks.mono_l k
  ·
   intro y0 y1 y2
   unfold filter_parser_blanks.l0
   repeat' first
   | (with_reducible exact ih0 _ _ _)
   | (with_reducible exact LeO.refl _)
   | (with_reducible exact LeO.none _)
   | (with_reducible refine LeO.ite ?_ ?_)
   | (with_reducible refine LeO.bind ?_ (fun _ => ?_))
   | exact ih0 _ _ _
   | exact LeO.none _
   | refine LeO.ite ?_ ?_
   | refine LeO.bind ?_ (fun _ => ?_)
theorem filter_parser_blanks.mono : ∀ a0 a1 a2 k, LeO (filter_parser_blanks.f k a0 a1 a2) (filter_parser_blanks.f (k + 1) a0 a1 a2) := by
 intro a0 a1 a2 k
 have ih0 := filter_parser_blanks.mono_l k
 unfold filter_parser_blanks.f
 repeat' first
  | (with_reducible exact ih0 _ _ _)
  | (with_reducible exact LeO.refl _)
  | (with_reducible exact LeO.none _)
  | (with_reducible refine LeO.ite ?_ ?_)
  | (with_reducible refine LeO.bind ?_ (fun _ => ?_))
  | exact ih0 _ _ _
  | exact LeO.none _
  | refine LeO.ite ?_ ?_
  | refine LeO.bind ?_ (fun _ => ?_)
set_option maxHeartbeats 8000000 in
theorem filter_parser_blanks.calls (k : Nat) (g : Nat) (s0_0 : ByteArray) (s0_1 : Int) (s0_2 : Int) (r1 : ByteArray) (r2 : Int) (r3 : Int) (w0 w : World) (hI : IsS254 w0 w g s0_0 s0_1 s0_2) (hB : Below w0.heap.size w0 w) (h : filter_parser_blanks.f k s0_0 s0_1 s0_2 = some (r1, r2, r3)) :
 Calls Tryz.prog 144 #[.pointer (some ⟨g, 0, none⟩)] w fun e w' => e = .returned (.tuple #[]) ∧ IsS254 w0 w' g r1 r2 r3 ∧ Below w0.heap.size w0 w' ∧ KeepBut w w' g none := by
 have HI0 := mk0 hI
 have HK := mk0 (KeepBut.refl w g none)
 have HL := mk0 hB.size
 clear hI
 have HW0 := mk0 hB.size
 have HB := mk0 hB
 clear hB
 have H : (filter_parser_blanks.l0 k s0_0 s0_1 s0_2) = some (r1, r2, r3) := h
 clear h
 have H' := mk0 H
 clear H
 go_enter Tryz.func144, Tryz.ntmps144
 go_wp2
 repeat (go_quiet (fail); try go_wp2)
 go_loopg [] k (fun kq w' => ∃ (x1001_1 : Int), Aside0 (filter_parser_blanks.l0 kq s0_0 x1001_1 s0_2 = some (r1, r2, r3)) ∧ Aside0 (kq ≤ k) ∧ Aside0 (IsS254 w0 w' g s0_0 x1001_1 s0_2) ∧ Aside0 (KeepBut w w' g none) ∧ Aside0 (Below w0.heap.size w0 w'))
 case atStart => exact ⟨(s0_1), H', ⟨Nat.le_refl _⟩, ⟨by repeat (first | (with_reducible first | exact HI0.out | apply IsS254.alloc | apply IsS254.drewN | apply IsS254.drew | apply IsS254.set_0 | apply IsS254.set_1 | apply IsS254.set_2) | exact HI0.out)⟩, ⟨by repeat (first | (with_reducible first | exact HK.out | apply KeepBut.set_ | apply keep_drewN | apply keep_drew | apply keep_alloc) | exact HK.out)⟩, ⟨by repeat (first | (with_reducible first | exact HB.out | apply below_alloc | apply pw_below_drewN | apply below_drew1 | refine below_set ?_ (IsS254.ge HI0.out)) | exact HB.out)⟩⟩
 case round =>
  clear H'
  try clear c1
  obtain ⟨x1001_1, HA, HK1, HI0, HK, HB⟩ := hrel
  cases gk with
  | zero => exact absurd HA.out (by simp [filter_parser_blanks.l0])
  | succ k1 =>
   have H := HA.out
   clear HA
   simp only [filter_parser_blanks.l0] at H
   by_cases c2 : s0_2 < 0
   ·
    rw [if_pos c2] at H
    have c2b0 : decide (s0_2 < 0) = true := decide_eq_true c2
    clear c2
    by_cases c3 : x1001_1 < (s0_0.size : Int)
    ·
     rw [if_pos c3] at H
     have c3b0 : decide (x1001_1 < (s0_0.size : Int)) = true := decide_eq_true c3
     clear c3
     by_cases c4 : 0 ≤ x1001_1
     ·
      rw [if_pos c4] at H
      have c4b0 : decide (0 ≤ x1001_1) = true := decide_eq_true c4
      clear c4
      by_cases c6 : (bt s0_0 x1001_1) = 32
      ·
       rw [if_pos c6] at H
       have c6b0 : ((bt s0_0 x1001_1) == 32) = true := beq_iff_eq.mpr c6
       have c6b1 : ((bt s0_0 x1001_1) != 32) = false := bne_eq_false_iff_eq.mpr c6
       clear c6
       have H' := mk0 H
       clear H
       obtain ⟨HGz7, hgz7⟩ := HI0.out
       have hcz7_0 := cellS254_0 HGz7
       have hcz7_1 := cellS254_1 HGz7
       have hcz7_2 := cellS254_2 HGz7
       have hfz7_0 := blk_frozen HGz7 0
       have hfz7_1 := blk_frozen HGz7 1
       have hfz7_2 := blk_frozen HGz7 2
       clear HGz7 hgz7
       have p5 : 0 ≤ (x1001_1 : Int) := of_decide_eq_true (by first | (with_reducible assumption) | assumption)
       have q5 : x1001_1 < (s0_0.size : Int) := of_decide_eq_true (by first | (with_reducible assumption) | assumption)
       have hx5 := bt_at s0_0 x1001_1
       replace p5 := eq_true p5
       replace q5 := eq_true q5
       go_wp2
       repeat (go_quiet (fail); try go_wp2)
       go_roundg k1
       case measure => have := HK1.out; omega
       case rel => exact ⟨(wrap64 (x1001_1 + 1)), H', ⟨by have := HK1.out; omega⟩, ⟨by repeat (first | (with_reducible first | exact HI0.out | apply IsS254.alloc | apply IsS254.drewN | apply IsS254.drew | apply IsS254.set_0 | apply IsS254.set_1 | apply IsS254.set_2) | exact HI0.out)⟩, ⟨by repeat (first | (with_reducible first | exact HK.out | apply KeepBut.set_ | apply keep_drewN | apply keep_drew | apply keep_alloc) | exact HK.out)⟩, ⟨by repeat (first | (with_reducible first | exact HB.out | apply below_alloc | apply pw_below_drewN | apply below_drew1 | refine below_set ?_ (IsS254.ge HI0.out)) | exact HB.out)⟩⟩
      ·
       rw [if_neg c6] at H
       have c6b0 : ((bt s0_0 x1001_1) == 32) = false := beq_eq_false_iff_ne.mpr c6
       have c6b1 : ((bt s0_0 x1001_1) != 32) = true := bne_iff_ne.mpr c6
       simp only [Option.some.injEq, Prod.mk.injEq] at H
       obtain ⟨rfl, rfl, rfl⟩ := H
       obtain ⟨HGz8, hgz8⟩ := HI0.out
       have hcz8_0 := cellS254_0 HGz8
       have hcz8_1 := cellS254_1 HGz8
       have hcz8_2 := cellS254_2 HGz8
       have hfz8_0 := blk_frozen HGz8 0
       have hfz8_1 := blk_frozen HGz8 1
       have hfz8_2 := blk_frozen HGz8 2
       clear HGz8 hgz8
       have p5 : 0 ≤ (x1001_1 : Int) := of_decide_eq_true (by first | (with_reducible assumption) | assumption)
       have q5 : x1001_1 < (s0_0.size : Int) := of_decide_eq_true (by first | (with_reducible assumption) | assumption)
       have hx5 := bt_at s0_0 x1001_1
       replace p5 := eq_true p5
       replace q5 := eq_true q5
       go_wp2
       repeat (go_quiet (fail); try go_wp2)
       first | go_end0 | ((try simp only [Exit.inBlock, Exit.then]); refine bodyPost_ret (results_none rfl _ _ _) rfl ?_)
       exact ⟨by first | rfl | (simp [errW_none, errW_some] <;> rfl) | (simp [*, errW_none, errW_some] <;> rfl), by repeat (first | (with_reducible first | exact HI0.out | apply IsS254.alloc | apply IsS254.drewN | apply IsS254.drew | apply IsS254.set_0 | apply IsS254.set_1 | apply IsS254.set_2) | exact HI0.out), by repeat (first | (with_reducible first | exact HB.out | apply below_alloc | apply pw_below_drewN | apply below_drew1 | refine below_set ?_ (IsS254.ge HI0.out)) | exact HB.out), by repeat (first | (with_reducible first | exact HK.out | apply KeepBut.set_ | apply keep_drewN | apply keep_drew | apply keep_alloc) | exact HK.out)⟩
     ·
      rw [if_neg c4] at H
      exact absurd H (by simp)
    ·
     rw [if_neg c3] at H
     have c3b0 : decide (x1001_1 < (s0_0.size : Int)) = false := decide_eq_false c3
     clear c3
     simp only [Option.some.injEq, Prod.mk.injEq] at H
     obtain ⟨rfl, rfl, rfl⟩ := H
     obtain ⟨HGz9, hgz9⟩ := HI0.out
     have hcz9_0 := cellS254_0 HGz9
     have hcz9_1 := cellS254_1 HGz9
     have hcz9_2 := cellS254_2 HGz9
     have hfz9_0 := blk_frozen HGz9 0
     have hfz9_1 := blk_frozen HGz9 1
     have hfz9_2 := blk_frozen HGz9 2
     clear HGz9 hgz9
     go_wp2
     repeat (go_quiet (fail); try go_wp2)
     first | go_end0 | ((try simp only [Exit.inBlock, Exit.then]); refine bodyPost_ret (results_none rfl _ _ _) rfl ?_)
     exact ⟨by first | rfl | (simp [errW_none, errW_some] <;> rfl) | (simp [*, errW_none, errW_some] <;> rfl), by repeat (first | (with_reducible first | exact HI0.out | apply IsS254.alloc | apply IsS254.drewN | apply IsS254.drew | apply IsS254.set_0 | apply IsS254.set_1 | apply IsS254.set_2) | exact HI0.out), by repeat (first | (with_reducible first | exact HB.out | apply below_alloc | apply pw_below_drewN | apply below_drew1 | refine below_set ?_ (IsS254.ge HI0.out)) | exact HB.out), by repeat (first | (with_reducible first | exact HK.out | apply KeepBut.set_ | apply keep_drewN | apply keep_drew | apply keep_alloc) | exact HK.out)⟩
   ·
    rw [if_neg c2] at H
    have c2b0 : decide (s0_2 < 0) = false := decide_eq_false c2
    clear c2
    simp only [Option.some.injEq, Prod.mk.injEq] at H
    obtain ⟨rfl, rfl, rfl⟩ := H
    obtain ⟨HGz10, hgz10⟩ := HI0.out
    have hcz10_0 := cellS254_0 HGz10
    have hcz10_1 := cellS254_1 HGz10
    have hcz10_2 := cellS254_2 HGz10
    have hfz10_0 := blk_frozen HGz10 0
    have hfz10_1 := blk_frozen HGz10 1
    have hfz10_2 := blk_frozen HGz10 2
    clear HGz10 hgz10
    go_wp2
    repeat (go_quiet (fail); try go_wp2)
    first | go_end0 | ((try simp only [Exit.inBlock, Exit.then]); refine bodyPost_ret (results_none rfl _ _ _) rfl ?_)
    exact ⟨by first | rfl | (simp [errW_none, errW_some] <;> rfl) | (simp [*, errW_none, errW_some] <;> rfl), by repeat (first | (with_reducible first | exact HI0.out | apply IsS254.alloc | apply IsS254.drewN | apply IsS254.drew | apply IsS254.set_0 | apply IsS254.set_1 | apply IsS254.set_2) | exact HI0.out), by repeat (first | (with_reducible first | exact HB.out | apply below_alloc | apply pw_below_drewN | apply below_drew1 | refine below_set ?_ (IsS254.ge HI0.out)) | exact HB.out), by repeat (first | (with_reducible first | exact HK.out | apply KeepBut.set_ | apply keep_drewN | apply keep_drew | apply keep_alloc) | exact HK.out)⟩
def filter_parser_stop.f (s0_0 : ByteArray) (s0_1 : Int) (s0_2 : Int) (a1 : Int) : Option (ByteArray × Int × Int) := if s0_2 < 0 then (some (s0_0, s0_1, a1)) else (some (s0_0, s0_1, s0_2))
set_option maxHeartbeats 8000000 in
theorem filter_parser_stop.calls (g : Nat) (s0_0 : ByteArray) (s0_1 : Int) (s0_2 : Int) (a1 : Int) (r1 : ByteArray) (r2 : Int) (r3 : Int) (w0 w : World) (hI : IsS254 w0 w g s0_0 s0_1 s0_2) (hB : Below w0.heap.size w0 w) (h : filter_parser_stop.f s0_0 s0_1 s0_2 a1 = some (r1, r2, r3)) :
 Calls Tryz.prog 146 #[.pointer (some ⟨g, 0, none⟩), .int .i64 a1] w fun e w' => e = .returned (.tuple #[]) ∧ IsS254 w0 w' g r1 r2 r3 ∧ Below w0.heap.size w0 w' ∧ KeepBut w w' g none := by
 have HI0 := mk0 hI
 have HK := mk0 (KeepBut.refl w g none)
 have HL := mk0 hB.size
 clear hI
 have HW0 := mk0 hB.size
 have HB := mk0 hB
 clear hB
 have H : (if s0_2 < 0 then (some (s0_0, s0_1, a1)) else (some (s0_0, s0_1, s0_2))) = some (r1, r2, r3) := h
 clear h
 by_cases c3 : s0_2 < 0
 ·
  rw [if_pos c3] at H
  have c3b0 : decide (s0_2 < 0) = true := decide_eq_true c3
  clear c3
  simp only [Option.some.injEq, Prod.mk.injEq] at H
  obtain ⟨rfl, rfl, rfl⟩ := H
  obtain ⟨HGz4, hgz4⟩ := HI0.out
  have hcz4_0 := cellS254_0 HGz4
  have hcz4_1 := cellS254_1 HGz4
  have hcz4_2 := cellS254_2 HGz4
  have hfz4_0 := blk_frozen HGz4 0
  have hfz4_1 := blk_frozen HGz4 1
  have hfz4_2 := blk_frozen HGz4 2
  clear HGz4 hgz4
  go_enter Tryz.func146, Tryz.ntmps146
  go_wp2
  first | go_end0 | ((try simp only [Exit.inBlock, Exit.then]); refine bodyPost_ret (results_none rfl _ _ _) rfl ?_)
  exact ⟨by first | rfl | (simp [errW_none, errW_some] <;> rfl) | (simp [*, errW_none, errW_some] <;> rfl), by repeat (first | (with_reducible first | exact HI0.out | apply IsS254.alloc | apply IsS254.drewN | apply IsS254.drew | apply IsS254.set_0 | apply IsS254.set_1 | apply IsS254.set_2) | exact HI0.out), by repeat (first | (with_reducible first | exact HB.out | apply below_alloc | apply pw_below_drewN | apply below_drew1 | refine below_set ?_ (IsS254.ge HI0.out)) | exact HB.out), by repeat (first | (with_reducible first | exact HK.out | apply KeepBut.set_ | apply keep_drewN | apply keep_drew | apply keep_alloc) | exact HK.out)⟩
 ·
  rw [if_neg c3] at H
  have c3b0 : decide (s0_2 < 0) = false := decide_eq_false c3
  clear c3
  simp only [Option.some.injEq, Prod.mk.injEq] at H
  obtain ⟨rfl, rfl, rfl⟩ := H
  obtain ⟨HGz5, hgz5⟩ := HI0.out
  have hcz5_0 := cellS254_0 HGz5
  have hcz5_1 := cellS254_1 HGz5
  have hcz5_2 := cellS254_2 HGz5
  have hfz5_0 := blk_frozen HGz5 0
  have hfz5_1 := blk_frozen HGz5 1
  have hfz5_2 := blk_frozen HGz5 2
  clear HGz5 hgz5
  go_enter Tryz.func146, Tryz.ntmps146
  go_wp2
  first | go_end0 | ((try simp only [Exit.inBlock, Exit.then]); refine bodyPost_ret (results_none rfl _ _ _) rfl ?_)
  exact ⟨by first | rfl | (simp [errW_none, errW_some] <;> rfl) | (simp [*, errW_none, errW_some] <;> rfl), by repeat (first | (with_reducible first | exact HI0.out | apply IsS254.alloc | apply IsS254.drewN | apply IsS254.drew | apply IsS254.set_0 | apply IsS254.set_1 | apply IsS254.set_2) | exact HI0.out), by repeat (first | (with_reducible first | exact HB.out | apply below_alloc | apply pw_below_drewN | apply below_drew1 | refine below_set ?_ (IsS254.ge HI0.out)) | exact HB.out), by repeat (first | (with_reducible first | exact HK.out | apply KeepBut.set_ | apply keep_drewN | apply keep_drew | apply keep_alloc) | exact HK.out)⟩
def filter_letter.f (a0 : Int) : Option (Bool) := if a0 ≥ 97 then (some (decide (a0 ≤ 122))) else (some false)
set_option maxHeartbeats 8000000 in
theorem filter_letter.calls (a0 : Int) (r : Bool) (w : World) (h : filter_letter.f a0 = some r) :
 Calls Tryz.prog 205 #[.int .u8 a0] w fun e w' => e = .returned (.bool r) ∧ Drawn0 w w' := by
 have H : (if a0 ≥ 97 then (some (decide (a0 ≤ 122))) else (some false)) = some r := h
 clear h
 by_cases c2 : a0 ≥ 97
 ·
  rw [if_pos c2] at H
  have c2b0 : decide (97 ≤ a0) = true := decide_eq_true c2
  clear c2
  obtain rfl := Option.some.inj H
  go_enter Tryz.func205, Tryz.ntmps205
  go_wp2
  go_ret
  exact ⟨by first | rfl | (simp; done) | (simp [*]; done), by repeat (first | exact Drawn0.refl _ | apply Drawn0.step)⟩
 ·
  rw [if_neg c2] at H
  have c2b0 : decide (97 ≤ a0) = false := decide_eq_false c2
  clear c2
  obtain rfl := Option.some.inj H
  go_enter Tryz.func205, Tryz.ntmps205
  go_wp2
  go_ret
  exact ⟨by first | rfl | (simp; done) | (simp [*]; done), by repeat (first | exact Drawn0.refl _ | apply Drawn0.step)⟩
def filter_digit.f (a0 : Int) : Option (Bool) := if a0 ≥ 48 then (some (decide (a0 ≤ 57))) else (some false)
set_option maxHeartbeats 8000000 in
theorem filter_digit.calls (a0 : Int) (r : Bool) (w : World) (h : filter_digit.f a0 = some r) :
 Calls Tryz.prog 206 #[.int .u8 a0] w fun e w' => e = .returned (.bool r) ∧ Drawn0 w w' := by
 have H : (if a0 ≥ 48 then (some (decide (a0 ≤ 57))) else (some false)) = some r := h
 clear h
 by_cases c2 : a0 ≥ 48
 ·
  rw [if_pos c2] at H
  have c2b0 : decide (48 ≤ a0) = true := decide_eq_true c2
  clear c2
  obtain rfl := Option.some.inj H
  go_enter Tryz.func206, Tryz.ntmps206
  go_wp2
  go_ret
  exact ⟨by first | rfl | (simp; done) | (simp [*]; done), by repeat (first | exact Drawn0.refl _ | apply Drawn0.step)⟩
 ·
  rw [if_neg c2] at H
  have c2b0 : decide (48 ≤ a0) = false := decide_eq_false c2
  clear c2
  obtain rfl := Option.some.inj H
  go_enter Tryz.func206, Tryz.ntmps206
  go_wp2
  go_ret
  exact ⟨by first | rfl | (simp; done) | (simp [*]; done), by repeat (first | exact Drawn0.refl _ | apply Drawn0.step)⟩
def filter_parser_mark.f (k : Nat) (s0_0 : ByteArray) (s0_1 : Int) (s0_2 : Int) (a1 : ByteArray) : Option (ByteArray × Int × Int) := (filter_parser_blanks.f k s0_0 s0_1 s0_2).bind fun bt118 => (if bt118.2.2 ≥ 0 then ((filter_parser_stop.f bt118.1 bt118.2.1 bt118.2.2 bt118.2.1).bind fun bt121 => (some (bt121.1, bt121.2.1, bt121.2.2))) else (if (wrap64 ((bt118.1.size : Int) - bt118.2.1)) < (a1.size : Int) then ((filter_parser_stop.f bt118.1 bt118.2.1 bt118.2.2 bt118.2.1).bind fun bt124 => (some (bt124.1, bt124.2.1, bt124.2.2))) else (if 0 ≤ bt118.2.1 then (if bt118.2.1 ≤ (wrap64 (bt118.2.1 + (a1.size : Int))) then (if (wrap64 (bt118.2.1 + (a1.size : Int))) ≤ (bt118.1.size : Int) then (if (bt118.1.extract (bt118.2.1 : Int).toNat ((wrap64 (bt118.2.1 + (a1.size : Int))) : Int).toNat).toList = a1.toList then (some (bt118.1, wrap64 (bt118.2.1 + (a1.size : Int)), bt118.2.2)) else ((filter_parser_stop.f bt118.1 bt118.2.1 bt118.2.2 bt118.2.1).bind fun bt127 => (some (bt127.1, bt127.2.1, bt127.2.2)))) else (none)) else (none)) else (none))))
theorem filter_parser_mark.mono : ∀ a0 a1 a2 a3 k, LeO (filter_parser_mark.f k a0 a1 a2 a3) (filter_parser_mark.f (k + 1) a0 a1 a2 a3) := by
 intro a0 a1 a2 a3 k
 unfold filter_parser_mark.f
 repeat' first
  | (with_reducible exact filter_parser_blanks.mono _ _ _ _)
  | (with_reducible exact LeO.refl _)
  | (with_reducible exact LeO.none _)
  | (with_reducible refine LeO.ite ?_ ?_)
  | (with_reducible refine LeO.bind ?_ (fun _ => ?_))
  | exact filter_parser_blanks.mono _ _ _ _
  | exact LeO.none _
  | refine LeO.ite ?_ ?_
  | refine LeO.bind ?_ (fun _ => ?_)
set_option maxHeartbeats 8000000 in
theorem filter_parser_mark.calls (k : Nat) (g : Nat) (s0_0 : ByteArray) (s0_1 : Int) (s0_2 : Int) (a1 : ByteArray) (r1 : ByteArray) (r2 : Int) (r3 : Int) (w0 w : World) (hI : IsS254 w0 w g s0_0 s0_1 s0_2) (hB : Below w0.heap.size w0 w) (h : filter_parser_mark.f k s0_0 s0_1 s0_2 a1 = some (r1, r2, r3)) :
 Calls Tryz.prog 202 #[.pointer (some ⟨g, 0, none⟩), .string a1] w fun e w' => e = .returned (.tuple #[]) ∧ IsS254 w0 w' g r1 r2 r3 ∧ Below w0.heap.size w0 w' ∧ KeepBut w w' g none := by
 have HI0 := mk0 hI
 have HK := mk0 (KeepBut.refl w g none)
 have HL := mk0 hB.size
 clear hI
 have HW0 := mk0 hB.size
 have HB := mk0 hB
 clear hB
 have H : ((filter_parser_blanks.f k s0_0 s0_1 s0_2).bind fun bt118 => (if bt118.2.2 ≥ 0 then ((filter_parser_stop.f bt118.1 bt118.2.1 bt118.2.2 bt118.2.1).bind fun bt121 => (some (bt121.1, bt121.2.1, bt121.2.2))) else (if (wrap64 ((bt118.1.size : Int) - bt118.2.1)) < (a1.size : Int) then ((filter_parser_stop.f bt118.1 bt118.2.1 bt118.2.2 bt118.2.1).bind fun bt124 => (some (bt124.1, bt124.2.1, bt124.2.2))) else (if 0 ≤ bt118.2.1 then (if bt118.2.1 ≤ (wrap64 (bt118.2.1 + (a1.size : Int))) then (if (wrap64 (bt118.2.1 + (a1.size : Int))) ≤ (bt118.1.size : Int) then (if (bt118.1.extract (bt118.2.1 : Int).toNat ((wrap64 (bt118.2.1 + (a1.size : Int))) : Int).toNat).toList = a1.toList then (some (bt118.1, wrap64 (bt118.2.1 + (a1.size : Int)), bt118.2.2)) else ((filter_parser_stop.f bt118.1 bt118.2.1 bt118.2.2 bt118.2.1).bind fun bt127 => (some (bt127.1, bt127.2.1, bt127.2.2)))) else (none)) else (none)) else (none))))) = some (r1, r2, r3) := h
 clear h
 replace H := Option.bind_eq_some_iff.mp H
 obtain ⟨⟨t118, t119, t120⟩, A30, H⟩ := H
 replace H : (if t120 ≥ 0 then ((filter_parser_stop.f t118 t119 t120 t119).bind fun bt121 => (some (bt121.1, bt121.2.1, bt121.2.2))) else (if (wrap64 ((t118.size : Int) - t119)) < (a1.size : Int) then ((filter_parser_stop.f t118 t119 t120 t119).bind fun bt124 => (some (bt124.1, bt124.2.1, bt124.2.2))) else (if 0 ≤ t119 then (if t119 ≤ (wrap64 (t119 + (a1.size : Int))) then (if (wrap64 (t119 + (a1.size : Int))) ≤ (t118.size : Int) then (if (t118.extract (t119 : Int).toNat ((wrap64 (t119 + (a1.size : Int))) : Int).toNat).toList = a1.toList then (some (t118, wrap64 (t119 + (a1.size : Int)), t120)) else ((filter_parser_stop.f t118 t119 t120 t119).bind fun bt127 => (some (bt127.1, bt127.2.1, bt127.2.2)))) else (none)) else (none)) else (none)))) = some (r1, r2, r3) := H
 have A3 := mk0 A30
 clear A30
 by_cases c4 : t120 ≥ 0
 ·
  rw [if_pos c4] at H
  have c4b0 : decide (0 ≤ t120) = true := decide_eq_true c4
  clear c4
  replace H := Option.bind_eq_some_iff.mp H
  obtain ⟨⟨t121, t122, t123⟩, A50, H⟩ := H
  replace H : (some (t121, t122, t123)) = some (r1, r2, r3) := H
  have A5 := mk0 A50
  clear A50
  simp only [Option.some.injEq, Prod.mk.injEq] at H
  obtain ⟨rfl, rfl, rfl⟩ := H
  go_enter Tryz.func202, Tryz.ntmps202
  go_wp2_with (first | (go_at_call 144; (with_reducible refine (filter_parser_blanks.calls k g s0_0 s0_1 s0_2 t118 t119 t120 w0 _ ?side1 ?side2 A3.out).mono ?_); (case side1 => repeat (first | (with_reducible first | exact HI0.out | apply IsS254.alloc | apply IsS254.drewN | apply IsS254.drew | apply IsS254.set_0 | apply IsS254.set_1 | apply IsS254.set_2) | exact HI0.out)); (case side2 => repeat (first | (with_reducible first | exact HB.out | apply below_alloc | apply pw_below_drewN | apply below_drew1 | refine below_set ?_ (IsS254.ge HI0.out)) | exact HB.out)); rintro e w6 ⟨rfl, hi, hb, hk⟩; have n0_ := mk0 (KeepBut.trans (by repeat (first | (with_reducible first | exact HK.out | apply KeepBut.set_ | apply keep_drewN | apply keep_drew | apply keep_alloc) | exact HK.out)) hk (.inl rfl)); have n1_ := mk0 (hb); have n2_ := mk0 (hi); clear HK; clear HB; clear HI0; have HK := n0_; have HB := n1_; have HI0 := n2_; clear n0_ n1_ n2_; (try clear hb); (try clear hb2); (try clear hk); (try clear hi); obtain ⟨HGz7, hgz7⟩ := HI0.out; have hcz7_0 := cellS254_0 HGz7; have hcz7_1 := cellS254_1 HGz7; have hcz7_2 := cellS254_2 HGz7; have hfz7_0 := blk_frozen HGz7 0; have hfz7_1 := blk_frozen HGz7 1; have hfz7_2 := blk_frozen HGz7 2; clear HGz7 hgz7) | (go_at_call 146; (with_reducible refine (filter_parser_stop.calls g t118 t119 t120 t119 t121 t122 t123 w0 _ ?side1 ?side2 A5.out).mono ?_); (case side1 => repeat (first | (with_reducible first | exact HI0.out | apply IsS254.alloc | apply IsS254.drewN | apply IsS254.drew | apply IsS254.set_0 | apply IsS254.set_1 | apply IsS254.set_2) | exact HI0.out)); (case side2 => repeat (first | (with_reducible first | exact HB.out | apply below_alloc | apply pw_below_drewN | apply below_drew1 | refine below_set ?_ (IsS254.ge HI0.out)) | exact HB.out)); rintro e w8 ⟨rfl, hi, hb, hk⟩; have n0_ := mk0 (KeepBut.trans (by repeat (first | (with_reducible first | exact HK.out | apply KeepBut.set_ | apply keep_drewN | apply keep_drew | apply keep_alloc) | exact HK.out)) hk (.inl rfl)); have n1_ := mk0 (hb); have n2_ := mk0 (hi); clear HK; clear HB; clear HI0; have HK := n0_; have HB := n1_; have HI0 := n2_; clear n0_ n1_ n2_; (try clear hb); (try clear hb2); (try clear hk); (try clear hi)))
  repeat (go_quiet (first | (go_at_call 144; (with_reducible refine (filter_parser_blanks.calls k g s0_0 s0_1 s0_2 t118 t119 t120 w0 _ ?side1 ?side2 A3.out).mono ?_); (case side1 => repeat (first | (with_reducible first | exact HI0.out | apply IsS254.alloc | apply IsS254.drewN | apply IsS254.drew | apply IsS254.set_0 | apply IsS254.set_1 | apply IsS254.set_2) | exact HI0.out)); (case side2 => repeat (first | (with_reducible first | exact HB.out | apply below_alloc | apply pw_below_drewN | apply below_drew1 | refine below_set ?_ (IsS254.ge HI0.out)) | exact HB.out)); rintro e w6 ⟨rfl, hi, hb, hk⟩; have n0_ := mk0 (KeepBut.trans (by repeat (first | (with_reducible first | exact HK.out | apply KeepBut.set_ | apply keep_drewN | apply keep_drew | apply keep_alloc) | exact HK.out)) hk (.inl rfl)); have n1_ := mk0 (hb); have n2_ := mk0 (hi); clear HK; clear HB; clear HI0; have HK := n0_; have HB := n1_; have HI0 := n2_; clear n0_ n1_ n2_; (try clear hb); (try clear hb2); (try clear hk); (try clear hi); obtain ⟨HGz7, hgz7⟩ := HI0.out; have hcz7_0 := cellS254_0 HGz7; have hcz7_1 := cellS254_1 HGz7; have hcz7_2 := cellS254_2 HGz7; have hfz7_0 := blk_frozen HGz7 0; have hfz7_1 := blk_frozen HGz7 1; have hfz7_2 := blk_frozen HGz7 2; clear HGz7 hgz7) | (go_at_call 146; (with_reducible refine (filter_parser_stop.calls g t118 t119 t120 t119 t121 t122 t123 w0 _ ?side1 ?side2 A5.out).mono ?_); (case side1 => repeat (first | (with_reducible first | exact HI0.out | apply IsS254.alloc | apply IsS254.drewN | apply IsS254.drew | apply IsS254.set_0 | apply IsS254.set_1 | apply IsS254.set_2) | exact HI0.out)); (case side2 => repeat (first | (with_reducible first | exact HB.out | apply below_alloc | apply pw_below_drewN | apply below_drew1 | refine below_set ?_ (IsS254.ge HI0.out)) | exact HB.out)); rintro e w8 ⟨rfl, hi, hb, hk⟩; have n0_ := mk0 (KeepBut.trans (by repeat (first | (with_reducible first | exact HK.out | apply KeepBut.set_ | apply keep_drewN | apply keep_drew | apply keep_alloc) | exact HK.out)) hk (.inl rfl)); have n1_ := mk0 (hb); have n2_ := mk0 (hi); clear HK; clear HB; clear HI0; have HK := n0_; have HB := n1_; have HI0 := n2_; clear n0_ n1_ n2_; (try clear hb); (try clear hb2); (try clear hk); (try clear hi))); try go_wp2_with (first | (go_at_call 144; (with_reducible refine (filter_parser_blanks.calls k g s0_0 s0_1 s0_2 t118 t119 t120 w0 _ ?side1 ?side2 A3.out).mono ?_); (case side1 => repeat (first | (with_reducible first | exact HI0.out | apply IsS254.alloc | apply IsS254.drewN | apply IsS254.drew | apply IsS254.set_0 | apply IsS254.set_1 | apply IsS254.set_2) | exact HI0.out)); (case side2 => repeat (first | (with_reducible first | exact HB.out | apply below_alloc | apply pw_below_drewN | apply below_drew1 | refine below_set ?_ (IsS254.ge HI0.out)) | exact HB.out)); rintro e w6 ⟨rfl, hi, hb, hk⟩; have n0_ := mk0 (KeepBut.trans (by repeat (first | (with_reducible first | exact HK.out | apply KeepBut.set_ | apply keep_drewN | apply keep_drew | apply keep_alloc) | exact HK.out)) hk (.inl rfl)); have n1_ := mk0 (hb); have n2_ := mk0 (hi); clear HK; clear HB; clear HI0; have HK := n0_; have HB := n1_; have HI0 := n2_; clear n0_ n1_ n2_; (try clear hb); (try clear hb2); (try clear hk); (try clear hi); obtain ⟨HGz7, hgz7⟩ := HI0.out; have hcz7_0 := cellS254_0 HGz7; have hcz7_1 := cellS254_1 HGz7; have hcz7_2 := cellS254_2 HGz7; have hfz7_0 := blk_frozen HGz7 0; have hfz7_1 := blk_frozen HGz7 1; have hfz7_2 := blk_frozen HGz7 2; clear HGz7 hgz7) | (go_at_call 146; (with_reducible refine (filter_parser_stop.calls g t118 t119 t120 t119 t121 t122 t123 w0 _ ?side1 ?side2 A5.out).mono ?_); (case side1 => repeat (first | (with_reducible first | exact HI0.out | apply IsS254.alloc | apply IsS254.drewN | apply IsS254.drew | apply IsS254.set_0 | apply IsS254.set_1 | apply IsS254.set_2) | exact HI0.out)); (case side2 => repeat (first | (with_reducible first | exact HB.out | apply below_alloc | apply pw_below_drewN | apply below_drew1 | refine below_set ?_ (IsS254.ge HI0.out)) | exact HB.out)); rintro e w8 ⟨rfl, hi, hb, hk⟩; have n0_ := mk0 (KeepBut.trans (by repeat (first | (with_reducible first | exact HK.out | apply KeepBut.set_ | apply keep_drewN | apply keep_drew | apply keep_alloc) | exact HK.out)) hk (.inl rfl)); have n1_ := mk0 (hb); have n2_ := mk0 (hi); clear HK; clear HB; clear HI0; have HK := n0_; have HB := n1_; have HI0 := n2_; clear n0_ n1_ n2_; (try clear hb); (try clear hb2); (try clear hk); (try clear hi))))
  first | go_end0 | ((try simp only [Exit.inBlock, Exit.then]); refine bodyPost_ret (results_none rfl _ _ _) rfl ?_)
  exact ⟨by first | rfl | (simp [errW_none, errW_some] <;> rfl) | (simp [*, errW_none, errW_some] <;> rfl), by repeat (first | (with_reducible first | exact HI0.out | apply IsS254.alloc | apply IsS254.drewN | apply IsS254.drew | apply IsS254.set_0 | apply IsS254.set_1 | apply IsS254.set_2) | exact HI0.out), by repeat (first | (with_reducible first | exact HB.out | apply below_alloc | apply pw_below_drewN | apply below_drew1 | refine below_set ?_ (IsS254.ge HI0.out)) | exact HB.out), by repeat (first | (with_reducible first | exact HK.out | apply KeepBut.set_ | apply keep_drewN | apply keep_drew | apply keep_alloc) | exact HK.out)⟩
 ·
  rw [if_neg c4] at H
  have c4b0 : decide (0 ≤ t120) = false := decide_eq_false c4
  clear c4
  by_cases c9 : (wrap64 ((t118.size : Int) - t119)) < (a1.size : Int)
  ·
   rw [if_pos c9] at H
   have c9b0 : decide ((wrap64 ((t118.size : Int) - t119)) < (a1.size : Int)) = true := decide_eq_true c9
   clear c9
   replace H := Option.bind_eq_some_iff.mp H
   obtain ⟨⟨t124, t125, t126⟩, A100, H⟩ := H
   replace H : (some (t124, t125, t126)) = some (r1, r2, r3) := H
   have A10 := mk0 A100
   clear A100
   simp only [Option.some.injEq, Prod.mk.injEq] at H
   obtain ⟨rfl, rfl, rfl⟩ := H
   go_enter Tryz.func202, Tryz.ntmps202
   go_wp2_with (first | (go_at_call 144; (with_reducible refine (filter_parser_blanks.calls k g s0_0 s0_1 s0_2 t118 t119 t120 w0 _ ?side1 ?side2 A3.out).mono ?_); (case side1 => repeat (first | (with_reducible first | exact HI0.out | apply IsS254.alloc | apply IsS254.drewN | apply IsS254.drew | apply IsS254.set_0 | apply IsS254.set_1 | apply IsS254.set_2) | exact HI0.out)); (case side2 => repeat (first | (with_reducible first | exact HB.out | apply below_alloc | apply pw_below_drewN | apply below_drew1 | refine below_set ?_ (IsS254.ge HI0.out)) | exact HB.out)); rintro e w11 ⟨rfl, hi, hb, hk⟩; have n0_ := mk0 (KeepBut.trans (by repeat (first | (with_reducible first | exact HK.out | apply KeepBut.set_ | apply keep_drewN | apply keep_drew | apply keep_alloc) | exact HK.out)) hk (.inl rfl)); have n1_ := mk0 (hb); have n2_ := mk0 (hi); clear HK; clear HB; clear HI0; have HK := n0_; have HB := n1_; have HI0 := n2_; clear n0_ n1_ n2_; (try clear hb); (try clear hb2); (try clear hk); (try clear hi); obtain ⟨HGz12, hgz12⟩ := HI0.out; have hcz12_0 := cellS254_0 HGz12; have hcz12_1 := cellS254_1 HGz12; have hcz12_2 := cellS254_2 HGz12; have hfz12_0 := blk_frozen HGz12 0; have hfz12_1 := blk_frozen HGz12 1; have hfz12_2 := blk_frozen HGz12 2; clear HGz12 hgz12) | (go_at_call 146; (with_reducible refine (filter_parser_stop.calls g t118 t119 t120 t119 t124 t125 t126 w0 _ ?side1 ?side2 A10.out).mono ?_); (case side1 => repeat (first | (with_reducible first | exact HI0.out | apply IsS254.alloc | apply IsS254.drewN | apply IsS254.drew | apply IsS254.set_0 | apply IsS254.set_1 | apply IsS254.set_2) | exact HI0.out)); (case side2 => repeat (first | (with_reducible first | exact HB.out | apply below_alloc | apply pw_below_drewN | apply below_drew1 | refine below_set ?_ (IsS254.ge HI0.out)) | exact HB.out)); rintro e w13 ⟨rfl, hi, hb, hk⟩; have n0_ := mk0 (KeepBut.trans (by repeat (first | (with_reducible first | exact HK.out | apply KeepBut.set_ | apply keep_drewN | apply keep_drew | apply keep_alloc) | exact HK.out)) hk (.inl rfl)); have n1_ := mk0 (hb); have n2_ := mk0 (hi); clear HK; clear HB; clear HI0; have HK := n0_; have HB := n1_; have HI0 := n2_; clear n0_ n1_ n2_; (try clear hb); (try clear hb2); (try clear hk); (try clear hi)))
   repeat (go_quiet (first | (go_at_call 144; (with_reducible refine (filter_parser_blanks.calls k g s0_0 s0_1 s0_2 t118 t119 t120 w0 _ ?side1 ?side2 A3.out).mono ?_); (case side1 => repeat (first | (with_reducible first | exact HI0.out | apply IsS254.alloc | apply IsS254.drewN | apply IsS254.drew | apply IsS254.set_0 | apply IsS254.set_1 | apply IsS254.set_2) | exact HI0.out)); (case side2 => repeat (first | (with_reducible first | exact HB.out | apply below_alloc | apply pw_below_drewN | apply below_drew1 | refine below_set ?_ (IsS254.ge HI0.out)) | exact HB.out)); rintro e w11 ⟨rfl, hi, hb, hk⟩; have n0_ := mk0 (KeepBut.trans (by repeat (first | (with_reducible first | exact HK.out | apply KeepBut.set_ | apply keep_drewN | apply keep_drew | apply keep_alloc) | exact HK.out)) hk (.inl rfl)); have n1_ := mk0 (hb); have n2_ := mk0 (hi); clear HK; clear HB; clear HI0; have HK := n0_; have HB := n1_; have HI0 := n2_; clear n0_ n1_ n2_; (try clear hb); (try clear hb2); (try clear hk); (try clear hi); obtain ⟨HGz12, hgz12⟩ := HI0.out; have hcz12_0 := cellS254_0 HGz12; have hcz12_1 := cellS254_1 HGz12; have hcz12_2 := cellS254_2 HGz12; have hfz12_0 := blk_frozen HGz12 0; have hfz12_1 := blk_frozen HGz12 1; have hfz12_2 := blk_frozen HGz12 2; clear HGz12 hgz12) | (go_at_call 146; (with_reducible refine (filter_parser_stop.calls g t118 t119 t120 t119 t124 t125 t126 w0 _ ?side1 ?side2 A10.out).mono ?_); (case side1 => repeat (first | (with_reducible first | exact HI0.out | apply IsS254.alloc | apply IsS254.drewN | apply IsS254.drew | apply IsS254.set_0 | apply IsS254.set_1 | apply IsS254.set_2) | exact HI0.out)); (case side2 => repeat (first | (with_reducible first | exact HB.out | apply below_alloc | apply pw_below_drewN | apply below_drew1 | refine below_set ?_ (IsS254.ge HI0.out)) | exact HB.out)); rintro e w13 ⟨rfl, hi, hb, hk⟩; have n0_ := mk0 (KeepBut.trans (by repeat (first | (with_reducible first | exact HK.out | apply KeepBut.set_ | apply keep_drewN | apply keep_drew | apply keep_alloc) | exact HK.out)) hk (.inl rfl)); have n1_ := mk0 (hb); have n2_ := mk0 (hi); clear HK; clear HB; clear HI0; have HK := n0_; have HB := n1_; have HI0 := n2_; clear n0_ n1_ n2_; (try clear hb); (try clear hb2); (try clear hk); (try clear hi))); try go_wp2_with (first | (go_at_call 144; (with_reducible refine (filter_parser_blanks.calls k g s0_0 s0_1 s0_2 t118 t119 t120 w0 _ ?side1 ?side2 A3.out).mono ?_); (case side1 => repeat (first | (with_reducible first | exact HI0.out | apply IsS254.alloc | apply IsS254.drewN | apply IsS254.drew | apply IsS254.set_0 | apply IsS254.set_1 | apply IsS254.set_2) | exact HI0.out)); (case side2 => repeat (first | (with_reducible first | exact HB.out | apply below_alloc | apply pw_below_drewN | apply below_drew1 | refine below_set ?_ (IsS254.ge HI0.out)) | exact HB.out)); rintro e w11 ⟨rfl, hi, hb, hk⟩; have n0_ := mk0 (KeepBut.trans (by repeat (first | (with_reducible first | exact HK.out | apply KeepBut.set_ | apply keep_drewN | apply keep_drew | apply keep_alloc) | exact HK.out)) hk (.inl rfl)); have n1_ := mk0 (hb); have n2_ := mk0 (hi); clear HK; clear HB; clear HI0; have HK := n0_; have HB := n1_; have HI0 := n2_; clear n0_ n1_ n2_; (try clear hb); (try clear hb2); (try clear hk); (try clear hi); obtain ⟨HGz12, hgz12⟩ := HI0.out; have hcz12_0 := cellS254_0 HGz12; have hcz12_1 := cellS254_1 HGz12; have hcz12_2 := cellS254_2 HGz12; have hfz12_0 := blk_frozen HGz12 0; have hfz12_1 := blk_frozen HGz12 1; have hfz12_2 := blk_frozen HGz12 2; clear HGz12 hgz12) | (go_at_call 146; (with_reducible refine (filter_parser_stop.calls g t118 t119 t120 t119 t124 t125 t126 w0 _ ?side1 ?side2 A10.out).mono ?_); (case side1 => repeat (first | (with_reducible first | exact HI0.out | apply IsS254.alloc | apply IsS254.drewN | apply IsS254.drew | apply IsS254.set_0 | apply IsS254.set_1 | apply IsS254.set_2) | exact HI0.out)); (case side2 => repeat (first | (with_reducible first | exact HB.out | apply below_alloc | apply pw_below_drewN | apply below_drew1 | refine below_set ?_ (IsS254.ge HI0.out)) | exact HB.out)); rintro e w13 ⟨rfl, hi, hb, hk⟩; have n0_ := mk0 (KeepBut.trans (by repeat (first | (with_reducible first | exact HK.out | apply KeepBut.set_ | apply keep_drewN | apply keep_drew | apply keep_alloc) | exact HK.out)) hk (.inl rfl)); have n1_ := mk0 (hb); have n2_ := mk0 (hi); clear HK; clear HB; clear HI0; have HK := n0_; have HB := n1_; have HI0 := n2_; clear n0_ n1_ n2_; (try clear hb); (try clear hb2); (try clear hk); (try clear hi))))
   first | go_end0 | ((try simp only [Exit.inBlock, Exit.then]); refine bodyPost_ret (results_none rfl _ _ _) rfl ?_)
   exact ⟨by first | rfl | (simp [errW_none, errW_some] <;> rfl) | (simp [*, errW_none, errW_some] <;> rfl), by repeat (first | (with_reducible first | exact HI0.out | apply IsS254.alloc | apply IsS254.drewN | apply IsS254.drew | apply IsS254.set_0 | apply IsS254.set_1 | apply IsS254.set_2) | exact HI0.out), by repeat (first | (with_reducible first | exact HB.out | apply below_alloc | apply pw_below_drewN | apply below_drew1 | refine below_set ?_ (IsS254.ge HI0.out)) | exact HB.out), by repeat (first | (with_reducible first | exact HK.out | apply KeepBut.set_ | apply keep_drewN | apply keep_drew | apply keep_alloc) | exact HK.out)⟩
  ·
   rw [if_neg c9] at H
   have c9b0 : decide ((wrap64 ((t118.size : Int) - t119)) < (a1.size : Int)) = false := decide_eq_false c9
   clear c9
   by_cases c14 : 0 ≤ t119
   ·
    rw [if_pos c14] at H
    have c14b0 := eq_true c14
    have c14b1 : decide (0 ≤ t119) = true := decide_eq_true c14
    clear c14
    by_cases c15 : t119 ≤ (wrap64 (t119 + (a1.size : Int)))
    ·
     rw [if_pos c15] at H
     have c15b0 := eq_true c15
     have c15b1 : decide (t119 ≤ (wrap64 (t119 + (a1.size : Int)))) = true := decide_eq_true c15
     by_cases c16 : (wrap64 (t119 + (a1.size : Int))) ≤ (t118.size : Int)
     ·
      rw [if_pos c16] at H
      have c16b0 := eq_true c16
      have c16b1 : decide ((wrap64 (t119 + (a1.size : Int))) ≤ (t118.size : Int)) = true := decide_eq_true c16
      by_cases c17 : (t118.extract (t119 : Int).toNat ((wrap64 (t119 + (a1.size : Int))) : Int).toNat).toList = a1.toList
      ·
       rw [if_pos c17] at H
       have c17b0 : ((t118.extract (t119 : Int).toNat ((wrap64 (t119 + (a1.size : Int))) : Int).toNat).toList == a1.toList) = true := beq_iff_eq.mpr c17
       have c17b1 : ((t118.extract (t119 : Int).toNat ((wrap64 (t119 + (a1.size : Int))) : Int).toNat).toList != a1.toList) = false := bne_eq_false_iff_eq.mpr c17
       clear c17
       simp only [Option.some.injEq, Prod.mk.injEq] at H
       obtain ⟨rfl, rfl, rfl⟩ := H
       go_enter Tryz.func202, Tryz.ntmps202
       go_wp2_with (first | (go_at_call 144; (with_reducible refine (filter_parser_blanks.calls k g s0_0 s0_1 s0_2 t118 t119 t120 w0 _ ?side1 ?side2 A3.out).mono ?_); (case side1 => repeat (first | (with_reducible first | exact HI0.out | apply IsS254.alloc | apply IsS254.drewN | apply IsS254.drew | apply IsS254.set_0 | apply IsS254.set_1 | apply IsS254.set_2) | exact HI0.out)); (case side2 => repeat (first | (with_reducible first | exact HB.out | apply below_alloc | apply pw_below_drewN | apply below_drew1 | refine below_set ?_ (IsS254.ge HI0.out)) | exact HB.out)); rintro e w18 ⟨rfl, hi, hb, hk⟩; have n0_ := mk0 (KeepBut.trans (by repeat (first | (with_reducible first | exact HK.out | apply KeepBut.set_ | apply keep_drewN | apply keep_drew | apply keep_alloc) | exact HK.out)) hk (.inl rfl)); have n1_ := mk0 (hb); have n2_ := mk0 (hi); clear HK; clear HB; clear HI0; have HK := n0_; have HB := n1_; have HI0 := n2_; clear n0_ n1_ n2_; (try clear hb); (try clear hb2); (try clear hk); (try clear hi); obtain ⟨HGz19, hgz19⟩ := HI0.out; have hcz19_0 := cellS254_0 HGz19; have hcz19_1 := cellS254_1 HGz19; have hcz19_2 := cellS254_2 HGz19; have hfz19_0 := blk_frozen HGz19 0; have hfz19_1 := blk_frozen HGz19 1; have hfz19_2 := blk_frozen HGz19 2; clear HGz19 hgz19))
       repeat (go_quiet (first | (go_at_call 144; (with_reducible refine (filter_parser_blanks.calls k g s0_0 s0_1 s0_2 t118 t119 t120 w0 _ ?side1 ?side2 A3.out).mono ?_); (case side1 => repeat (first | (with_reducible first | exact HI0.out | apply IsS254.alloc | apply IsS254.drewN | apply IsS254.drew | apply IsS254.set_0 | apply IsS254.set_1 | apply IsS254.set_2) | exact HI0.out)); (case side2 => repeat (first | (with_reducible first | exact HB.out | apply below_alloc | apply pw_below_drewN | apply below_drew1 | refine below_set ?_ (IsS254.ge HI0.out)) | exact HB.out)); rintro e w18 ⟨rfl, hi, hb, hk⟩; have n0_ := mk0 (KeepBut.trans (by repeat (first | (with_reducible first | exact HK.out | apply KeepBut.set_ | apply keep_drewN | apply keep_drew | apply keep_alloc) | exact HK.out)) hk (.inl rfl)); have n1_ := mk0 (hb); have n2_ := mk0 (hi); clear HK; clear HB; clear HI0; have HK := n0_; have HB := n1_; have HI0 := n2_; clear n0_ n1_ n2_; (try clear hb); (try clear hb2); (try clear hk); (try clear hi); obtain ⟨HGz19, hgz19⟩ := HI0.out; have hcz19_0 := cellS254_0 HGz19; have hcz19_1 := cellS254_1 HGz19; have hcz19_2 := cellS254_2 HGz19; have hfz19_0 := blk_frozen HGz19 0; have hfz19_1 := blk_frozen HGz19 1; have hfz19_2 := blk_frozen HGz19 2; clear HGz19 hgz19)); try go_wp2_with (first | (go_at_call 144; (with_reducible refine (filter_parser_blanks.calls k g s0_0 s0_1 s0_2 t118 t119 t120 w0 _ ?side1 ?side2 A3.out).mono ?_); (case side1 => repeat (first | (with_reducible first | exact HI0.out | apply IsS254.alloc | apply IsS254.drewN | apply IsS254.drew | apply IsS254.set_0 | apply IsS254.set_1 | apply IsS254.set_2) | exact HI0.out)); (case side2 => repeat (first | (with_reducible first | exact HB.out | apply below_alloc | apply pw_below_drewN | apply below_drew1 | refine below_set ?_ (IsS254.ge HI0.out)) | exact HB.out)); rintro e w18 ⟨rfl, hi, hb, hk⟩; have n0_ := mk0 (KeepBut.trans (by repeat (first | (with_reducible first | exact HK.out | apply KeepBut.set_ | apply keep_drewN | apply keep_drew | apply keep_alloc) | exact HK.out)) hk (.inl rfl)); have n1_ := mk0 (hb); have n2_ := mk0 (hi); clear HK; clear HB; clear HI0; have HK := n0_; have HB := n1_; have HI0 := n2_; clear n0_ n1_ n2_; (try clear hb); (try clear hb2); (try clear hk); (try clear hi); obtain ⟨HGz19, hgz19⟩ := HI0.out; have hcz19_0 := cellS254_0 HGz19; have hcz19_1 := cellS254_1 HGz19; have hcz19_2 := cellS254_2 HGz19; have hfz19_0 := blk_frozen HGz19 0; have hfz19_1 := blk_frozen HGz19 1; have hfz19_2 := blk_frozen HGz19 2; clear HGz19 hgz19)))
       first | go_end0 | ((try simp only [Exit.inBlock, Exit.then]); refine bodyPost_ret (results_none rfl _ _ _) rfl ?_)
       exact ⟨by first | rfl | (simp [errW_none, errW_some] <;> rfl) | (simp [*, errW_none, errW_some] <;> rfl), by repeat (first | (with_reducible first | exact HI0.out | apply IsS254.alloc | apply IsS254.drewN | apply IsS254.drew | apply IsS254.set_0 | apply IsS254.set_1 | apply IsS254.set_2) | exact HI0.out), by repeat (first | (with_reducible first | exact HB.out | apply below_alloc | apply pw_below_drewN | apply below_drew1 | refine below_set ?_ (IsS254.ge HI0.out)) | exact HB.out), by repeat (first | (with_reducible first | exact HK.out | apply KeepBut.set_ | apply keep_drewN | apply keep_drew | apply keep_alloc) | exact HK.out)⟩
      ·
       rw [if_neg c17] at H
       have c17b0 : ((t118.extract (t119 : Int).toNat ((wrap64 (t119 + (a1.size : Int))) : Int).toNat).toList == a1.toList) = false := beq_eq_false_iff_ne.mpr c17
       have c17b1 : ((t118.extract (t119 : Int).toNat ((wrap64 (t119 + (a1.size : Int))) : Int).toNat).toList != a1.toList) = true := bne_iff_ne.mpr c17
       replace H := Option.bind_eq_some_iff.mp H
       obtain ⟨⟨t127, t128, t129⟩, A200, H⟩ := H
       replace H : (some (t127, t128, t129)) = some (r1, r2, r3) := H
       have A20 := mk0 A200
       clear A200
       simp only [Option.some.injEq, Prod.mk.injEq] at H
       obtain ⟨rfl, rfl, rfl⟩ := H
       go_enter Tryz.func202, Tryz.ntmps202
       go_wp2_with (first | (go_at_call 144; (with_reducible refine (filter_parser_blanks.calls k g s0_0 s0_1 s0_2 t118 t119 t120 w0 _ ?side1 ?side2 A3.out).mono ?_); (case side1 => repeat (first | (with_reducible first | exact HI0.out | apply IsS254.alloc | apply IsS254.drewN | apply IsS254.drew | apply IsS254.set_0 | apply IsS254.set_1 | apply IsS254.set_2) | exact HI0.out)); (case side2 => repeat (first | (with_reducible first | exact HB.out | apply below_alloc | apply pw_below_drewN | apply below_drew1 | refine below_set ?_ (IsS254.ge HI0.out)) | exact HB.out)); rintro e w21 ⟨rfl, hi, hb, hk⟩; have n0_ := mk0 (KeepBut.trans (by repeat (first | (with_reducible first | exact HK.out | apply KeepBut.set_ | apply keep_drewN | apply keep_drew | apply keep_alloc) | exact HK.out)) hk (.inl rfl)); have n1_ := mk0 (hb); have n2_ := mk0 (hi); clear HK; clear HB; clear HI0; have HK := n0_; have HB := n1_; have HI0 := n2_; clear n0_ n1_ n2_; (try clear hb); (try clear hb2); (try clear hk); (try clear hi); obtain ⟨HGz22, hgz22⟩ := HI0.out; have hcz22_0 := cellS254_0 HGz22; have hcz22_1 := cellS254_1 HGz22; have hcz22_2 := cellS254_2 HGz22; have hfz22_0 := blk_frozen HGz22 0; have hfz22_1 := blk_frozen HGz22 1; have hfz22_2 := blk_frozen HGz22 2; clear HGz22 hgz22) | (go_at_call 146; (with_reducible refine (filter_parser_stop.calls g t118 t119 t120 t119 t127 t128 t129 w0 _ ?side1 ?side2 A20.out).mono ?_); (case side1 => repeat (first | (with_reducible first | exact HI0.out | apply IsS254.alloc | apply IsS254.drewN | apply IsS254.drew | apply IsS254.set_0 | apply IsS254.set_1 | apply IsS254.set_2) | exact HI0.out)); (case side2 => repeat (first | (with_reducible first | exact HB.out | apply below_alloc | apply pw_below_drewN | apply below_drew1 | refine below_set ?_ (IsS254.ge HI0.out)) | exact HB.out)); rintro e w23 ⟨rfl, hi, hb, hk⟩; have n0_ := mk0 (KeepBut.trans (by repeat (first | (with_reducible first | exact HK.out | apply KeepBut.set_ | apply keep_drewN | apply keep_drew | apply keep_alloc) | exact HK.out)) hk (.inl rfl)); have n1_ := mk0 (hb); have n2_ := mk0 (hi); clear HK; clear HB; clear HI0; have HK := n0_; have HB := n1_; have HI0 := n2_; clear n0_ n1_ n2_; (try clear hb); (try clear hb2); (try clear hk); (try clear hi)))
       repeat (go_quiet (first | (go_at_call 144; (with_reducible refine (filter_parser_blanks.calls k g s0_0 s0_1 s0_2 t118 t119 t120 w0 _ ?side1 ?side2 A3.out).mono ?_); (case side1 => repeat (first | (with_reducible first | exact HI0.out | apply IsS254.alloc | apply IsS254.drewN | apply IsS254.drew | apply IsS254.set_0 | apply IsS254.set_1 | apply IsS254.set_2) | exact HI0.out)); (case side2 => repeat (first | (with_reducible first | exact HB.out | apply below_alloc | apply pw_below_drewN | apply below_drew1 | refine below_set ?_ (IsS254.ge HI0.out)) | exact HB.out)); rintro e w21 ⟨rfl, hi, hb, hk⟩; have n0_ := mk0 (KeepBut.trans (by repeat (first | (with_reducible first | exact HK.out | apply KeepBut.set_ | apply keep_drewN | apply keep_drew | apply keep_alloc) | exact HK.out)) hk (.inl rfl)); have n1_ := mk0 (hb); have n2_ := mk0 (hi); clear HK; clear HB; clear HI0; have HK := n0_; have HB := n1_; have HI0 := n2_; clear n0_ n1_ n2_; (try clear hb); (try clear hb2); (try clear hk); (try clear hi); obtain ⟨HGz22, hgz22⟩ := HI0.out; have hcz22_0 := cellS254_0 HGz22; have hcz22_1 := cellS254_1 HGz22; have hcz22_2 := cellS254_2 HGz22; have hfz22_0 := blk_frozen HGz22 0; have hfz22_1 := blk_frozen HGz22 1; have hfz22_2 := blk_frozen HGz22 2; clear HGz22 hgz22) | (go_at_call 146; (with_reducible refine (filter_parser_stop.calls g t118 t119 t120 t119 t127 t128 t129 w0 _ ?side1 ?side2 A20.out).mono ?_); (case side1 => repeat (first | (with_reducible first | exact HI0.out | apply IsS254.alloc | apply IsS254.drewN | apply IsS254.drew | apply IsS254.set_0 | apply IsS254.set_1 | apply IsS254.set_2) | exact HI0.out)); (case side2 => repeat (first | (with_reducible first | exact HB.out | apply below_alloc | apply pw_below_drewN | apply below_drew1 | refine below_set ?_ (IsS254.ge HI0.out)) | exact HB.out)); rintro e w23 ⟨rfl, hi, hb, hk⟩; have n0_ := mk0 (KeepBut.trans (by repeat (first | (with_reducible first | exact HK.out | apply KeepBut.set_ | apply keep_drewN | apply keep_drew | apply keep_alloc) | exact HK.out)) hk (.inl rfl)); have n1_ := mk0 (hb); have n2_ := mk0 (hi); clear HK; clear HB; clear HI0; have HK := n0_; have HB := n1_; have HI0 := n2_; clear n0_ n1_ n2_; (try clear hb); (try clear hb2); (try clear hk); (try clear hi))); try go_wp2_with (first | (go_at_call 144; (with_reducible refine (filter_parser_blanks.calls k g s0_0 s0_1 s0_2 t118 t119 t120 w0 _ ?side1 ?side2 A3.out).mono ?_); (case side1 => repeat (first | (with_reducible first | exact HI0.out | apply IsS254.alloc | apply IsS254.drewN | apply IsS254.drew | apply IsS254.set_0 | apply IsS254.set_1 | apply IsS254.set_2) | exact HI0.out)); (case side2 => repeat (first | (with_reducible first | exact HB.out | apply below_alloc | apply pw_below_drewN | apply below_drew1 | refine below_set ?_ (IsS254.ge HI0.out)) | exact HB.out)); rintro e w21 ⟨rfl, hi, hb, hk⟩; have n0_ := mk0 (KeepBut.trans (by repeat (first | (with_reducible first | exact HK.out | apply KeepBut.set_ | apply keep_drewN | apply keep_drew | apply keep_alloc) | exact HK.out)) hk (.inl rfl)); have n1_ := mk0 (hb); have n2_ := mk0 (hi); clear HK; clear HB; clear HI0; have HK := n0_; have HB := n1_; have HI0 := n2_; clear n0_ n1_ n2_; (try clear hb); (try clear hb2); (try clear hk); (try clear hi); obtain ⟨HGz22, hgz22⟩ := HI0.out; have hcz22_0 := cellS254_0 HGz22; have hcz22_1 := cellS254_1 HGz22; have hcz22_2 := cellS254_2 HGz22; have hfz22_0 := blk_frozen HGz22 0; have hfz22_1 := blk_frozen HGz22 1; have hfz22_2 := blk_frozen HGz22 2; clear HGz22 hgz22) | (go_at_call 146; (with_reducible refine (filter_parser_stop.calls g t118 t119 t120 t119 t127 t128 t129 w0 _ ?side1 ?side2 A20.out).mono ?_); (case side1 => repeat (first | (with_reducible first | exact HI0.out | apply IsS254.alloc | apply IsS254.drewN | apply IsS254.drew | apply IsS254.set_0 | apply IsS254.set_1 | apply IsS254.set_2) | exact HI0.out)); (case side2 => repeat (first | (with_reducible first | exact HB.out | apply below_alloc | apply pw_below_drewN | apply below_drew1 | refine below_set ?_ (IsS254.ge HI0.out)) | exact HB.out)); rintro e w23 ⟨rfl, hi, hb, hk⟩; have n0_ := mk0 (KeepBut.trans (by repeat (first | (with_reducible first | exact HK.out | apply KeepBut.set_ | apply keep_drewN | apply keep_drew | apply keep_alloc) | exact HK.out)) hk (.inl rfl)); have n1_ := mk0 (hb); have n2_ := mk0 (hi); clear HK; clear HB; clear HI0; have HK := n0_; have HB := n1_; have HI0 := n2_; clear n0_ n1_ n2_; (try clear hb); (try clear hb2); (try clear hk); (try clear hi))))
       first | go_end0 | ((try simp only [Exit.inBlock, Exit.then]); refine bodyPost_ret (results_none rfl _ _ _) rfl ?_)
       exact ⟨by first | rfl | (simp [errW_none, errW_some] <;> rfl) | (simp [*, errW_none, errW_some] <;> rfl), by repeat (first | (with_reducible first | exact HI0.out | apply IsS254.alloc | apply IsS254.drewN | apply IsS254.drew | apply IsS254.set_0 | apply IsS254.set_1 | apply IsS254.set_2) | exact HI0.out), by repeat (first | (with_reducible first | exact HB.out | apply below_alloc | apply pw_below_drewN | apply below_drew1 | refine below_set ?_ (IsS254.ge HI0.out)) | exact HB.out), by repeat (first | (with_reducible first | exact HK.out | apply KeepBut.set_ | apply keep_drewN | apply keep_drew | apply keep_alloc) | exact HK.out)⟩
     ·
      rw [if_neg c16] at H
      exact absurd H (by simp)
    ·
     rw [if_neg c15] at H
     exact absurd H (by simp)
   ·
    rw [if_neg c14] at H
    exact absurd H (by simp)
end Go.Proofs.YtnmpijbcajclgaaGreatDoor.PNodeAlone
end
section
end
section
namespace Go.Proofs.YtnmpijbcajclgaaGreatDoor.Mine
open Go.RowKit YtnmpijbcajclgaaGreatDoorW.PrintWords YtnmpijbcajclgaaGreatDoorW.PrintLast YtnmpijbcajclgaaGreatDoorW.PrintMore
open PNodeAlone
def isLet (c : Int) : Bool := decide (97 ≤ c ∧ c ≤ 122)
def isDig (c : Int) : Bool := decide (48 ≤ c ∧ c ≤ 57)
def wordOk (s : ByteArray) (frm at_ : Nat) : Bool := isLet (bt s at_) || (decide (frm < at_) && isDig (bt s at_))
def wordGo (s : ByteArray) (frm : Nat) : Nat → Nat → Nat
 | 0, at_ => at_
 | k + 1, at_ => if at_ < s.size ∧ wordOk s frm at_ = true then wordGo s frm k (at_ + 1) else at_
theorem letter_any (c : Int) (w : World) : Calls Tryz.prog 205 #[.int .u8 c] w fun e w' => e = .returned (.bool (isLet c)) ∧ w' = w := by
 by_cases h1 : 97 ≤ c
 ·
  go_enter Tryz.func205, Tryz.ntmps205
  go_wp2
  go_ret
  exact ⟨by simp [isLet, h1], rfl⟩
 ·
  go_enter Tryz.func205, Tryz.ntmps205
  go_wp2
  go_ret
  exact ⟨by simp [isLet]; omega, rfl⟩
theorem digit_any (c : Int) (w : World) : Calls Tryz.prog 206 #[.int .u8 c] w fun e w' => e = .returned (.bool (isDig c)) ∧ w' = w := by
 by_cases h1 : 48 ≤ c
 ·
  go_enter Tryz.func206, Tryz.ntmps206
  go_wp2
  go_ret
  exact ⟨by simp [isDig, h1], rfl⟩
 ·
  go_enter Tryz.func206, Tryz.ntmps206
  go_wp2
  go_ret
  exact ⟨by simp [isDig]; omega, rfl⟩
theorem letter_is (c : Int) (b : Bool) (w : World) (h : isLet c = b) : Calls Tryz.prog 205 #[.int .u8 c] w fun e w' => e = .returned (.bool b) ∧ w' = w := by subst h; exact letter_any c w
theorem digit_is (c : Int) (b : Bool) (w : World) (h : isDig c = b) : Calls Tryz.prog 206 #[.int .u8 c] w fun e w' => e = .returned (.bool b) ∧ w' = w := by subst h; exact digit_any c w
def WordPost (w0 w : World) (g : Nat) (s : ByteArray) (frm : Nat) (e : Ending) (w' : World) : Prop :=
 ∃ en : Nat, wordGo s frm (s.size - frm) frm = en ∧ e = .returned (.string (s.extract frm en)) ∧ IsS254 w0 w' g s en (if en = frm then (frm : Int) else -1) ∧ Below w0.heap.size w0 w' ∧ KeepBut w w' g none
set_option maxHeartbeats 2000000 in
theorem word_calls (k : Nat) (g : Nat) (s : ByteArray) (at0 : Nat) (frm : Nat) (w0 w : World) (hI : IsS254 w0 w g s at0 (-1)) (hB : Below w0.heap.size w0 w) (hs : s.size ≤ 1000)
 (hbl : filter_parser_blanks.f k s at0 (-1) = some (s, (frm : Int), -1)) (hf : frm ≤ s.size) :
 Calls Tryz.prog 145 #[.pointer (some ⟨g, 0, none⟩)] w (WordPost w0 w g s frm) := by
 go_enter Tryz.func145, Tryz.ntmps145
 go_wp2_with (go_at_call 144; (with_reducible refine (filter_parser_blanks.calls k g s at0 (-1) s frm (-1) w0 _ ?side1 ?side2 hbl).mono ?_); (case side1 => exact hI); (case side2 => exact hB); rintro e w1 ⟨rfl, hi, hb, hk⟩; have HI := mk0 hi; have HB := mk0 hb; have HK := mk0 hk; have hc0 := cellS254_0 hi.1; have hc1 := cellS254_1 hi.1; clear hi hb hk)
 clear hc0 hc1
 have HS := mk0 hs
 clear hI hB hbl
 go_loopg [] (s.size - frm) (fun n wr => ∃ at_ : Nat, Aside0 (frm ≤ at_ ∧ at_ + n = s.size ∧ wordGo s frm n at_ = wordGo s frm (s.size - frm) frm) ∧ Aside0 (IsS254 w0 wr g s at_ (-1)) ∧ Aside0 (KeepBut w wr g none) ∧ Aside0 (Below w0.heap.size w0 wr))
 case atStart => exact ⟨frm, ⟨Nat.le_refl _, by omega, rfl⟩, HI, HK, HB⟩
 case round =>
  clear HI HK HB
  obtain ⟨at_, HA, HI, HK, HB⟩ := hrel
  obtain ⟨HG, hg⟩ := HI.out
  have hc0 := cellS254_0 HG
  have hc1 := cellS254_1 HG
  have hc2 := cellS254_2 HG
  have hf0 := blk_frozen HG 0
  have hf1 := blk_frozen HG 1
  have hf2 := blk_frozen HG 2
  clear HG hg
  have hlb : at_ ≤ s.size := by have := HA.out; omega
  have hfa : frm ≤ at_ := HA.out.1
  by_cases hlt : at_ < s.size
  ·
   have q1 : ((at_ : Int) < (s.size : Int)) := by omega
   have q2 := eq_true (show (0 : Int) ≤ (at_ : Int) by omega)
   have q3 := decide_eq_true q1
   replace q1 := eq_true q1
   have hx : ∀ h : at_ < s.size, ((s[at_]'h).toNat : Int) = bt s (at_ : Int) := fun h => by simp [bt, h]
   have hw : wordGo s frm (s.size - at_) at_ = if wordOk s frm at_ = true then wordGo s frm (s.size - (at_ + 1)) (at_ + 1) else at_ := by
    obtain ⟨m, hm⟩ : ∃ m, s.size - at_ = m + 1 := ⟨s.size - at_ - 1, by omega⟩
    rw [hm, show s.size - (at_ + 1) = m by omega]
    simp [wordGo, hlt]
   have HW := mk0 hw
   clear hw
   by_cases h1 : isLet (bt s at_) = true
   ·
    have HO := mk0 (show wordOk s frm at_ = true by simp [wordOk, h1])
    have H1 := mk0 h1
    clear h1
    go_wp2_with fail
    go_quiet (first | (go_at_call 205; refine Calls.quiet_of_same (letter_is _ true _ H1.out)))
    go_wp2
    go_roundg (s.size - (at_ + 1))
    case measure => have := HA.out; omega
    case rel => exact ⟨at_ + 1, ⟨by have := HA.out; omega, by have := HA.out; omega, by have h2 := HW.out; rw [if_pos HO.out] at h2; have h3 := HA.out; rw [show gk = s.size - at_ by omega] at h3; exact h2.symm.trans h3.2.2⟩, ⟨by rw [show ((at_ + 1 : Nat) : Int) = (at_ : Int) + 1 by omega]; exact IsS254.set_1 (IsS254.drewN HI.out _) _⟩, ⟨KeepBut.set_ (keep_drewN HK.out _) _ _⟩, ⟨below_set (pw_below_drewN HB.out _) (IsS254.ge HI.out)⟩⟩
   ·
    replace h1 : isLet (bt s at_) = false := by simpa using h1
    by_cases h2 : frm < at_
    ·
     have g1 := decide_eq_true (show (frm : Int) < (at_ : Int) by omega)
     have g2 := eq_true (show (frm : Int) < (at_ : Int) by omega)
     cases h3 : isDig (bt s at_) with
     | true =>
      have HO := mk0 (show wordOk s frm at_ = true by simp [wordOk, h2, h3])
      have H1 := mk0 h1
      have H3 := mk0 h3
      clear h1 h3
      go_wp2_with fail
      go_quiet (first | (go_at_call 205; refine Calls.quiet_of_same (letter_is _ false _ H1.out)) | (go_at_call 206; refine Calls.quiet_of_same (digit_is _ true _ H3.out)))
      go_wp2
      go_roundg (s.size - (at_ + 1))
      case measure => have := HA.out; omega
      case rel => exact ⟨at_ + 1, ⟨by have := HA.out; omega, by have := HA.out; omega, by have h2 := HW.out; rw [if_pos HO.out] at h2; have h3 := HA.out; rw [show gk = s.size - at_ by omega] at h3; exact h2.symm.trans h3.2.2⟩, ⟨by rw [show ((at_ + 1 : Nat) : Int) = (at_ : Int) + 1 by omega]; exact IsS254.set_1 (IsS254.drewN HI.out _) _⟩, ⟨KeepBut.set_ (keep_drewN HK.out _) _ _⟩, ⟨below_set (pw_below_drewN HB.out _) (IsS254.ge HI.out)⟩⟩
     | false =>
      have HO := mk0 (show wordOk s frm at_ = false by simp [wordOk, h1, h3])
      have H1 := mk0 h1
      have H3 := mk0 h3
      clear h1 h3
      have HE := mk0 (show wordGo s frm (s.size - frm) frm = at_ by have h3 := HA.out; rw [← h3.2.2, show gk = s.size - at_ by omega]; rw [HW.out, if_neg (by rw [HO.out]; exact Bool.false_ne_true)])
      go_wp2_with fail
      go_quiet (first | (go_at_call 205; refine Calls.quiet_of_same (letter_is _ false _ H1.out)) | (go_at_call 206; refine Calls.quiet_of_same (digit_is _ false _ H3.out)))
      have g3 := beq_eq_false_iff_ne.mpr (show (at_ : Int) ≠ (frm : Int) by omega)
      go_wp2
      go_quiet (fail)
      go_wp2
      go_ret
      exact ⟨at_, HE.out, by first | rfl | simp, by rw [if_neg (by omega)]; exact IsS254.drewN (IsS254.drewN HI.out _) _, pw_below_drewN (pw_below_drewN HB.out _) _, keep_drewN (keep_drewN HK.out _) _⟩
    ·
     have g1 := decide_eq_false (show ¬ (frm : Int) < (at_ : Int) by omega)
     have HO := mk0 (show wordOk s frm at_ = false by simp [wordOk, h1, h2])
     have H1 := mk0 h1
     clear h1
     have HE := mk0 (show wordGo s frm (s.size - frm) frm = at_ by have h3 := HA.out; rw [← h3.2.2, show gk = s.size - at_ by omega]; rw [HW.out, if_neg (by rw [HO.out]; exact Bool.false_ne_true)])
     go_wp2_with fail
     go_quiet (first | (go_at_call 205; refine Calls.quiet_of_same (letter_is _ false _ H1.out)))
     obtain rfl : frm = at_ := by omega
     go_wp2_with (go_at_call 146; (with_reducible refine (filter_parser_stop.calls g s frm (-1) frm s frm frm w0 _ ?side1 ?side2 rfl).mono ?_); (case side1 => exact IsS254.drewN HI.out _); (case side2 => exact pw_below_drewN HB.out _); rintro e w2 ⟨rfl, hi, hb, hk⟩; have HI2 := mk0 hi; have HB2 := mk0 hb; have HK2 := mk0 (KeepBut.trans (keep_drewN HK.out _) hk (Or.inl rfl)); have hd0 := cellS254_0 hi.1; have hd1 := cellS254_1 hi.1; have hd2 := cellS254_2 hi.1; clear hi hb hk)
     go_quiet (fail)
     go_wp2
     go_ret
     exact ⟨frm, HE.out, by first | rfl | simp, by rw [if_pos rfl]; exact IsS254.drewN HI2.out _, pw_below_drewN HB2.out _, keep_drewN HK2.out _⟩
  ·
   have q3 := decide_eq_false (show ¬ (at_ : Int) < (s.size : Int) by omega)
   have HE := mk0 (show wordGo s frm (s.size - frm) frm = at_ by have h3 := HA.out; rw [← h3.2.2, show gk = s.size - at_ by omega]; rw [show s.size - at_ = 0 by omega]; rfl)
   by_cases h2 : frm < at_
   ·
    go_wp2_with fail
    go_quiet (fail)
    have g3 := beq_eq_false_iff_ne.mpr (show (at_ : Int) ≠ (frm : Int) by omega)
    go_wp2
    go_quiet (fail)
    go_wp2
    go_ret
    exact ⟨at_, HE.out, by first | rfl | simp, by rw [if_neg (by omega)]; exact IsS254.drewN (IsS254.drewN HI.out _) _, pw_below_drewN (pw_below_drewN HB.out _) _, keep_drewN (keep_drewN HK.out _) _⟩
   ·
    go_wp2_with fail
    go_quiet (fail)
    obtain rfl : frm = at_ := by omega
    go_wp2_with (go_at_call 146; (with_reducible refine (filter_parser_stop.calls g s frm (-1) frm s frm frm w0 _ ?side1 ?side2 rfl).mono ?_); (case side1 => exact IsS254.drewN HI.out _); (case side2 => exact pw_below_drewN HB.out _); rintro e w2 ⟨rfl, hi, hb, hk⟩; have HI2 := mk0 hi; have HB2 := mk0 hb; have HK2 := mk0 (KeepBut.trans (keep_drewN HK.out _) hk (Or.inl rfl)); have hd0 := cellS254_0 hi.1; have hd1 := cellS254_1 hi.1; have hd2 := cellS254_2 hi.1; clear hi hb hk)
    go_quiet (fail)
    go_wp2
    go_ret
    exact ⟨frm, HE.out, by first | rfl | simp, by rw [if_pos rfl]; exact IsS254.drewN HI2.out _, pw_below_drewN HB2.out _, keep_drewN HK2.out _⟩
end Go.Proofs.YtnmpijbcajclgaaGreatDoor.Mine
end
