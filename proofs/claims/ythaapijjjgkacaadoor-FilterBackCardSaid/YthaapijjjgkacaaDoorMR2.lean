/-
  Texts of this claim, one behind the other: what each one proves, and its conditions, stand at its head.
-/
import Derived.Test.YthaapijjjgkacaaDoorMR1
import Derived.Test.YthaapijjjgkacaaDoorProg
import Derived.Below
import Derived.Deep.Draws
import Derived.Deep.AppendLies
import Derived.Maps.AppendAt
import Derived.OwnWalk
import Derived.Laws.BytesArg
import Derived.Laws.MakeOwn
import Derived.Laws.OwnMore
import Derived.Deep.OwnRows
import Derived.Tactics
import Derived.Lib.ConvBytes
import Derived.Laws.Slices
import Derived.WalkKit
import Derived.KernelRfl
import Derived.RowKit3
import Derived.Deep.LoopGhost
import Derived.Deep.QuietTactic
import Derived.BigQuiet
import Derived.WideLaws
import Derived.Deep.DeepCutAuto
import Derived.Deep.CutBlock
import Derived.Deep.RegionHeld3
import Derived.Laws.Rows
import Derived.Lib.AppendStr
import Derived.ArgAppend
import Derived.Laws.IdiomCopy
import Derived.OrdersHeld
import Derived.Laws.BitsLemmas
import Derived.RowKit
import Derived.Lib.LazyBuf
set_option linter.unusedSimpArgs false
set_option linter.unusedVariables false
section
-- PRINTED BY print.sh 35421559b90ae4d0a3588c463048766b98c2df88dd9212a6774a882060cdf62d: not written by this session
namespace Go.Proofs.YthaapijjjgkacaaDoor.PFilterReads
open Go.RowKit Go.Proofs.YthaapijjjgkacaaDoorW.PrintWords Go.Proofs.YthaapijjjgkacaaDoorW.PrintLast Go.Proofs.YthaapijjjgkacaaDoorW.PrintMore
attribute [local go_sem] max2_int min2_int max_two min_two max_three min_three max_four min_four   -- for this text's walks alone



def errW : Option Int → Value
  | none => .nilIface
  | some c => .iface 35 (.int .i64 c)
theorem errW_none : errW none = .nilIface := rfl
theorem errW_some (c : Int) : errW (some c) = .iface 35 (.int .i64 c) := rfl

theorem info5 : (Tryd.prog.info? 5).map (fun i => (i.zero, i.size, i.bytes)) = some (some (.int .u8 0), 1, 1) := by kernel_rfl
theorem info77 : (Tryd.prog.info? 77).map (fun i => (i.zero, i.size, i.bytes)) = some (some (.agg #[(.string ⟨#[]⟩), (.int .i64 0), (.int .i64 0), (.int .i64 0), (.string ⟨#[]⟩)]), 5, 56) := by kernel_rfl
theorem info95 : (Tryd.prog.info? 95).map (fun i => (i.zero, i.size, i.bytes)) = some (some (.agg #[(.string ⟨#[]⟩), (.int .i64 0), (.int .i64 0), (.int .i64 0)]), 4, 40) := by kernel_rfl
theorem info96 : (Tryd.prog.info? 96).map (fun i => (i.zero, i.size, i.bytes)) = some (some (.agg #[(.string ⟨#[]⟩), (.int .i64 0), (.int .i64 0), (.int .i64 0)]), 4, 40) := by kernel_rfl
-- the values' own types
/-! #### struct type 77 -/
structure S77 where
  f0 : ByteArray
  f1 : Int
  f2 : Int
  f3 : Int
  f4 : ByteArray
def z77 : S77 := ⟨(⟨#[]⟩ : ByteArray), (0 : Int), (0 : Int), (0 : Int), (⟨#[]⟩ : ByteArray)⟩
def k77 : Kd S77 := Kd.iso (Kd.pair Kd.string (Kd.pair (Kd.int .i64) (Kd.pair (Kd.int .i64) (Kd.pair (Kd.int .i64) Kd.string)))) (fun x : S77 => (x.f0, x.f1, x.f2, x.f3, x.f4))
theorem k77_open {w : World} {x : S77} {cs : List Value} (h : k77.K w x cs) : cs = [.string x.f0, .int .i64 x.f1, .int .i64 x.f2, .int .i64 x.f3, .string x.f4] := by
  obtain ⟨_, _, rfl, rfl, ⟨_, _, rfl, rfl, ⟨_, _, rfl, rfl, ⟨_, _, rfl, rfl, rfl⟩⟩⟩⟩ := h
  exact rfl
theorem k77_mkM (w : World) (base : Nat) (ok : Nat → Prop) (x : S77)  : k77.M w base ok x [.string x.f0, .int .i64 x.f1, .int .i64 x.f2, .int .i64 x.f3, .string x.f4] := ⟨[.string x.f0], [.int .i64 x.f1, .int .i64 x.f2, .int .i64 x.f3, .string x.f4], rfl, rfl, ⟨[.int .i64 x.f1], [.int .i64 x.f2, .int .i64 x.f3, .string x.f4], rfl, rfl, ⟨[.int .i64 x.f2], [.int .i64 x.f3, .string x.f4], rfl, rfl, ⟨[.int .i64 x.f3], [.string x.f4], rfl, rfl, rfl⟩⟩⟩⟩
def rd_T77 (xs : List S77) (i : Int) : S77 := xs.getD i.toNat z77
theorem at_T77 {w : World} {A : Option Addr} {n : Nat} {xs : List S77} (h : Kd.C k77 w A n xs) (i : Int) (h0 : 0 ≤ i) (h1 : i < n) : ∃ ad , A = some ad ∧ w.cell? (ad.add (i.toNat * 5)) = some (.string (rd_T77 xs i).f0) ∧ w.cell? ⟨(ad.add (i.toNat * 5)).block, (ad.add (i.toNat * 5)).off + 1, none⟩ = some (.int .i64 (rd_T77 xs i).f1) ∧ w.cell? ⟨(ad.add (i.toNat * 5)).block, (ad.add (i.toNat * 5)).off + 2, none⟩ = some (.int .i64 (rd_T77 xs i).f2) ∧ w.cell? ⟨(ad.add (i.toNat * 5)).block, (ad.add (i.toNat * 5)).off + 3, none⟩ = some (.int .i64 (rd_T77 xs i).f3) ∧ w.cell? ⟨(ad.add (i.toNat * 5)).block, (ad.add (i.toNat * 5)).off + 4, none⟩ = some (.string (rd_T77 xs i).f4) := by
  obtain ⟨ad, c, e, _, hK, hc0⟩ := Kd.C_get h z77 i h0 h1
  have hc : ∀ j u, c[j]? = some u → w.cell? (ad.add (i.toNat * 5 + j)) = some u := hc0
  obtain rfl := k77_open hK
  exact ⟨ad, e, hc 0 _ rfl, by rw [← add_field _ _ 1 (by omega)]; exact hc 1 _ rfl, by rw [← add_field _ _ 2 (by omega)]; exact hc 2 _ rfl, by rw [← add_field _ _ 3 (by omega)]; exact hc 3 _ rfl, by rw [← add_field _ _ 4 (by omega)]; exact hc 4 _ rfl⟩

/-! #### struct type 46 -/
structure S46 where
  f0 : ByteArray
  f1 : Int
  f2 : Int
  f3 : Int
  f4 : ByteArray
def z46 : S46 := ⟨(⟨#[]⟩ : ByteArray), (0 : Int), (0 : Int), (0 : Int), (⟨#[]⟩ : ByteArray)⟩
def k46 : Kd S46 := Kd.iso (Kd.pair Kd.string (Kd.pair (Kd.int .i64) (Kd.pair (Kd.int .i64) (Kd.pair (Kd.int .i64) Kd.string)))) (fun x : S46 => (x.f0, x.f1, x.f2, x.f3, x.f4))
theorem k46_open {w : World} {x : S46} {cs : List Value} (h : k46.K w x cs) : cs = [.string x.f0, .int .i64 x.f1, .int .i64 x.f2, .int .i64 x.f3, .string x.f4] := by
  obtain ⟨_, _, rfl, rfl, ⟨_, _, rfl, rfl, ⟨_, _, rfl, rfl, ⟨_, _, rfl, rfl, rfl⟩⟩⟩⟩ := h
  exact rfl
theorem k46_mk (w : World) (x : S46)  : k46.K w x [.string x.f0, .int .i64 x.f1, .int .i64 x.f2, .int .i64 x.f3, .string x.f4] := ⟨[.string x.f0], [.int .i64 x.f1, .int .i64 x.f2, .int .i64 x.f3, .string x.f4], rfl, rfl, ⟨[.int .i64 x.f1], [.int .i64 x.f2, .int .i64 x.f3, .string x.f4], rfl, rfl, ⟨[.int .i64 x.f2], [.int .i64 x.f3, .string x.f4], rfl, rfl, ⟨[.int .i64 x.f3], [.string x.f4], rfl, rfl, rfl⟩⟩⟩⟩
theorem k46_mkM (w : World) (base : Nat) (ok : Nat → Prop) (x : S46)  : k46.M w base ok x [.string x.f0, .int .i64 x.f1, .int .i64 x.f2, .int .i64 x.f3, .string x.f4] := ⟨[.string x.f0], [.int .i64 x.f1, .int .i64 x.f2, .int .i64 x.f3, .string x.f4], rfl, rfl, ⟨[.int .i64 x.f1], [.int .i64 x.f2, .int .i64 x.f3, .string x.f4], rfl, rfl, ⟨[.int .i64 x.f2], [.int .i64 x.f3, .string x.f4], rfl, rfl, ⟨[.int .i64 x.f3], [.string x.f4], rfl, rfl, rfl⟩⟩⟩⟩
def rd_T46 (xs : List S46) (i : Int) : S46 := xs.getD i.toNat z46
theorem at_T46 {w : World} {A : Option Addr} {n : Nat} {xs : List S46} (h : Kd.C k46 w A n xs) (i : Int) (h0 : 0 ≤ i) (h1 : i < n) : ∃ ad , A = some ad ∧ w.cell? (ad.add (i.toNat * 5)) = some (.string (rd_T46 xs i).f0) ∧ w.cell? ⟨(ad.add (i.toNat * 5)).block, (ad.add (i.toNat * 5)).off + 1, none⟩ = some (.int .i64 (rd_T46 xs i).f1) ∧ w.cell? ⟨(ad.add (i.toNat * 5)).block, (ad.add (i.toNat * 5)).off + 2, none⟩ = some (.int .i64 (rd_T46 xs i).f2) ∧ w.cell? ⟨(ad.add (i.toNat * 5)).block, (ad.add (i.toNat * 5)).off + 3, none⟩ = some (.int .i64 (rd_T46 xs i).f3) ∧ w.cell? ⟨(ad.add (i.toNat * 5)).block, (ad.add (i.toNat * 5)).off + 4, none⟩ = some (.string (rd_T46 xs i).f4) := by
  obtain ⟨ad, c, e, _, hK, hc0⟩ := Kd.C_get h z46 i h0 h1
  have hc : ∀ j u, c[j]? = some u → w.cell? (ad.add (i.toNat * 5 + j)) = some u := hc0
  obtain rfl := k46_open hK
  exact ⟨ad, e, hc 0 _ rfl, by rw [← add_field _ _ 1 (by omega)]; exact hc 1 _ rfl, by rw [← add_field _ _ 2 (by omega)]; exact hc 2 _ rfl, by rw [← add_field _ _ 3 (by omega)]; exact hc 3 _ rfl, by rw [← add_field _ _ 4 (by omega)]; exact hc 4 _ rfl⟩

/-! #### struct type 95 -/
structure S95 where
  f0 : ByteArray
  f1 : Int
  f2 : Int
  f3 : Int
def z95 : S95 := ⟨(⟨#[]⟩ : ByteArray), (0 : Int), (0 : Int), (0 : Int)⟩
def k95 : Kd S95 := Kd.iso (Kd.pair Kd.string (Kd.pair (Kd.int .i64) (Kd.pair (Kd.int .i64) (Kd.int .i64)))) (fun x : S95 => (x.f0, x.f1, x.f2, x.f3))
theorem k95_open {w : World} {x : S95} {cs : List Value} (h : k95.K w x cs) : cs = [.string x.f0, .int .i64 x.f1, .int .i64 x.f2, .int .i64 x.f3] := by
  obtain ⟨_, _, rfl, rfl, ⟨_, _, rfl, rfl, ⟨_, _, rfl, rfl, rfl⟩⟩⟩ := h
  exact rfl
theorem k95_mk (w : World) (x : S95)  : k95.K w x [.string x.f0, .int .i64 x.f1, .int .i64 x.f2, .int .i64 x.f3] := ⟨[.string x.f0], [.int .i64 x.f1, .int .i64 x.f2, .int .i64 x.f3], rfl, rfl, ⟨[.int .i64 x.f1], [.int .i64 x.f2, .int .i64 x.f3], rfl, rfl, ⟨[.int .i64 x.f2], [.int .i64 x.f3], rfl, rfl, rfl⟩⟩⟩
theorem k95_mkM (w : World) (base : Nat) (ok : Nat → Prop) (x : S95)  : k95.M w base ok x [.string x.f0, .int .i64 x.f1, .int .i64 x.f2, .int .i64 x.f3] := ⟨[.string x.f0], [.int .i64 x.f1, .int .i64 x.f2, .int .i64 x.f3], rfl, rfl, ⟨[.int .i64 x.f1], [.int .i64 x.f2, .int .i64 x.f3], rfl, rfl, ⟨[.int .i64 x.f2], [.int .i64 x.f3], rfl, rfl, rfl⟩⟩⟩
def rd_T95 (xs : List S95) (i : Int) : S95 := xs.getD i.toNat z95
theorem at_T95 {w : World} {A : Option Addr} {n : Nat} {xs : List S95} (h : Kd.C k95 w A n xs) (i : Int) (h0 : 0 ≤ i) (h1 : i < n) : ∃ ad , A = some ad ∧ w.cell? (ad.add (i.toNat * 4)) = some (.string (rd_T95 xs i).f0) ∧ w.cell? ⟨(ad.add (i.toNat * 4)).block, (ad.add (i.toNat * 4)).off + 1, none⟩ = some (.int .i64 (rd_T95 xs i).f1) ∧ w.cell? ⟨(ad.add (i.toNat * 4)).block, (ad.add (i.toNat * 4)).off + 2, none⟩ = some (.int .i64 (rd_T95 xs i).f2) ∧ w.cell? ⟨(ad.add (i.toNat * 4)).block, (ad.add (i.toNat * 4)).off + 3, none⟩ = some (.int .i64 (rd_T95 xs i).f3) := by
  obtain ⟨ad, c, e, _, hK, hc0⟩ := Kd.C_get h z95 i h0 h1
  have hc : ∀ j u, c[j]? = some u → w.cell? (ad.add (i.toNat * 4 + j)) = some u := hc0
  obtain rfl := k95_open hK
  exact ⟨ad, e, hc 0 _ rfl, by rw [← add_field _ _ 1 (by omega)]; exact hc 1 _ rfl, by rw [← add_field _ _ 2 (by omega)]; exact hc 2 _ rfl, by rw [← add_field _ _ 3 (by omega)]; exact hc 3 _ rfl⟩

/-! #### struct type 96 -/
structure S96 where
  f0 : ByteArray
  f1 : Int
  f2 : Int
  f3 : Int
def z96 : S96 := ⟨(⟨#[]⟩ : ByteArray), (0 : Int), (0 : Int), (0 : Int)⟩
def k96 : Kd S96 := Kd.iso (Kd.pair Kd.string (Kd.pair (Kd.int .i64) (Kd.pair (Kd.int .i64) (Kd.int .i64)))) (fun x : S96 => (x.f0, x.f1, x.f2, x.f3))
theorem k96_open {w : World} {x : S96} {cs : List Value} (h : k96.K w x cs) : cs = [.string x.f0, .int .i64 x.f1, .int .i64 x.f2, .int .i64 x.f3] := by
  obtain ⟨_, _, rfl, rfl, ⟨_, _, rfl, rfl, ⟨_, _, rfl, rfl, rfl⟩⟩⟩ := h
  exact rfl
theorem k96_mkM (w : World) (base : Nat) (ok : Nat → Prop) (x : S96)  : k96.M w base ok x [.string x.f0, .int .i64 x.f1, .int .i64 x.f2, .int .i64 x.f3] := ⟨[.string x.f0], [.int .i64 x.f1, .int .i64 x.f2, .int .i64 x.f3], rfl, rfl, ⟨[.int .i64 x.f1], [.int .i64 x.f2, .int .i64 x.f3], rfl, rfl, ⟨[.int .i64 x.f2], [.int .i64 x.f3], rfl, rfl, rfl⟩⟩⟩
def rd_T96 (xs : List S96) (i : Int) : S96 := xs.getD i.toNat z96
theorem at_T96 {w : World} {A : Option Addr} {n : Nat} {xs : List S96} (h : Kd.C k96 w A n xs) (i : Int) (h0 : 0 ≤ i) (h1 : i < n) : ∃ ad , A = some ad ∧ w.cell? (ad.add (i.toNat * 4)) = some (.string (rd_T96 xs i).f0) ∧ w.cell? ⟨(ad.add (i.toNat * 4)).block, (ad.add (i.toNat * 4)).off + 1, none⟩ = some (.int .i64 (rd_T96 xs i).f1) ∧ w.cell? ⟨(ad.add (i.toNat * 4)).block, (ad.add (i.toNat * 4)).off + 2, none⟩ = some (.int .i64 (rd_T96 xs i).f2) ∧ w.cell? ⟨(ad.add (i.toNat * 4)).block, (ad.add (i.toNat * 4)).off + 3, none⟩ = some (.int .i64 (rd_T96 xs i).f3) := by
  obtain ⟨ad, c, e, _, hK, hc0⟩ := Kd.C_get h z96 i h0 h1
  have hc : ∀ j u, c[j]? = some u → w.cell? (ad.add (i.toNat * 4 + j)) = some u := hc0
  obtain rfl := k96_open hK
  exact ⟨ad, e, hc 0 _ rfl, by rw [← add_field _ _ 1 (by omega)]; exact hc 1 _ rfl, by rw [← add_field _ _ 2 (by omega)]; exact hc 2 _ rfl, by rw [← add_field _ _ 3 (by omega)]; exact hc 3 _ rfl⟩

end Go.Proofs.YthaapijjjgkacaaDoor.PFilterReads
end
section
-- PRINTED BY print.sh 35421559b90ae4d0a3588c463048766b98c2df88dd9212a6774a882060cdf62d: not written by this session
namespace Go.Proofs.YthaapijjjgkacaaDoor.PFilterReads
open Go.RowKit Go.Proofs.YthaapijjjgkacaaDoorW.PrintWords Go.Proofs.YthaapijjjgkacaaDoorW.PrintLast Go.Proofs.YthaapijjjgkacaaDoorW.PrintMore
attribute [local go_sem] max2_int min2_int max_two min_two max_three min_three max_four min_four   -- for this text's walks alone

/-! ### wigwaglaw01_Cut: function 11 -/
def wigwaglaw01_Cut.f (a0 : ByteArray) (a1 : Int) : Option (ByteArray) := if (a0.size : Int) > a1 then (if 0 ≤ a1 then (if a1 ≤ (a0.size : Int) then (some (a0.extract 0 (a1 : Int).toNat)) else (none)) else (none)) else (some a0)
set_option maxHeartbeats 8000000 in
set_option maxRecDepth 100000 in
theorem wigwaglaw01_Cut.calls (a0 : ByteArray) (a1 : Int) (r : ByteArray) (w : World) (h : wigwaglaw01_Cut.f a0 a1 = some r) :
    Calls Tryd.prog 11 #[.string a0, .int .i64 a1] w fun e w' => e = .returned (.string r) ∧ Drawn0 w w' := by
  have H : (if (a0.size : Int) > a1 then (if 0 ≤ a1 then (if a1 ≤ (a0.size : Int) then (some (a0.extract 0 (a1 : Int).toNat)) else (none)) else (none)) else (some a0)) = some r := h
  clear h
  by_cases c3 : (a0.size : Int) > a1
  · rw [if_pos c3] at H
    have c3b0 : decide (a1 < (a0.size : Int)) = true := decide_eq_true c3
    clear c3
    by_cases c4 : 0 ≤ a1
    · rw [if_pos c4] at H
      have c4b0 := eq_true c4
      have c4b1 : decide (0 ≤ a1) = true := decide_eq_true c4
      clear c4
      by_cases c5 : a1 ≤ (a0.size : Int)
      · rw [if_pos c5] at H
        have c5b0 := eq_true c5
        have c5b1 : decide (a1 ≤ (a0.size : Int)) = true := decide_eq_true c5
        clear c5
        obtain rfl := Option.some.inj H
        go_enter Tryd.func11, Tryd.ntmps11
        go_wp2
        go_ret
        exact ⟨by first | rfl | (simp; done) | (simp [*]; done), by repeat (first | exact Drawn0.refl _ | apply Drawn0.step)⟩
      · rw [if_neg c5] at H
        exact absurd H (by simp)
    · rw [if_neg c4] at H
      exact absurd H (by simp)
  · rw [if_neg c3] at H
    have c3b0 : decide (a1 < (a0.size : Int)) = false := decide_eq_false c3
    clear c3
    obtain rfl := Option.some.inj H
    go_enter Tryd.func11, Tryd.ntmps11
    go_wp2
    go_ret
    exact ⟨by first | rfl | (simp; done) | (simp [*]; done), by repeat (first | exact Drawn0.refl _ | apply Drawn0.step)⟩

/-- A state of type 74 at block g of W; what its slices lead to came in by w0. -/
def IsS74 (w0 W : World) (g : Nat) (f0 : ByteArray) (f1 : Int) (f2 : Int) : Prop := W.heap[g]? = some (.cells #[.string f0, .int .i64 f1, .int .i64 f2] 74 (0, 0)) ∧ w0.heap.size ≤ g
theorem IsS74.grown {w0 W : World} {g : Nat} {f0 : ByteArray} {f1 : Int} {f2 : Int} {W1 : World} {row : Option Nat} (h : IsS74 w0 W g f0 f1 f2) (hw : W.grownBy W1 row) (hne : some g ≠ row) : IsS74 w0 W1 g f0 f1 f2 := by
  obtain ⟨hb, hg⟩ := h
  exact ⟨blk_grown hb hw hne, hg⟩
theorem IsS74.kept {w0 W : World} {g : Nat} {f0 : ByteArray} {f1 : Int} {f2 : Int} {W1 : World} {S : Nat → Prop} (h : IsS74 w0 W g f0 f1 f2) (hk : Kept W W1 S) (hne : ¬ S g) : IsS74 w0 W1 g f0 f1 f2 := by
  obtain ⟨hb, hg⟩ := h
  exact ⟨blk_kept hb hk hne, hg⟩
theorem IsS74.below {w0 W : World} {g : Nat} {f0 : ByteArray} {f1 : Int} {f2 : Int} {W1 : World} (h : IsS74 w0 W g f0 f1 f2) (hw : Below W.heap.size W W1) : IsS74 w0 W1 g f0 f1 f2 := h.grown (grown_of_below hw none) (by simp)
theorem IsS74.alloc {w0 W : World} {g : Nat} {f0 : ByteArray} {f1 : Int} {f2 : Int} (h : IsS74 w0 W g f0 f1 f2) (o : Obj) : IsS74 w0 (W.alloc o) g f0 f1 f2 := h.below (below_alloc (Below.refl _ _) o)
theorem IsS74.drewN {w0 W : World} {g : Nat} {f0 : ByteArray} {f1 : Int} {f2 : Int} (h : IsS74 w0 W g f0 f1 f2) (m : Nat) : IsS74 w0 (W.drewN m) g f0 f1 f2 := h
theorem IsS74.drew {w0 W : World} {g : Nat} {f0 : ByteArray} {f1 : Int} {f2 : Int} (h : IsS74 w0 W g f0 f1 f2) : IsS74 w0 W.drew g f0 f1 f2 := h
theorem IsS74.at_ {w0 W : World} {g : Nat} {f0 : ByteArray} {f1 : Int} {f2 : Int} {w' : World} {m : Nat} (hq : W.drewN m = w') (h : IsS74 w0 W g f0 f1 f2) : IsS74 w0 w' g f0 f1 f2 := by subst hq; exact IsS74.drewN h m
theorem IsS74.apart {w0 W : World} {g : Nat} {f0 : ByteArray} {f1 : Int} {f2 : Int} {α : Type} {d : Kd α} {e : Nat} {base : Nat} {ok : Nat → Prop} {v : Value} {xs : List α} (h : IsS74 w0 W g f0 f1 f2) (ho : d.R e W base ok v xs) (ht : ∀ q, q ∈ e :: d.E → q ≠ 74) : d.R e W base (fun k => ok k ∧ k ≠ g) v xs := by
  obtain ⟨hb, hg⟩ := h
  exact Kd.R_types ho hb ht
theorem IsS74.own_ne {w0 W : World} {g : Nat} {f0 : ByteArray} {f1 : Int} {f2 : Int} {α : Type} {d : Kd α} {e : Nat} {base : Nat} {ok : Nat → Prop} {v : Value} {xs : List α} (h : IsS74 w0 W g f0 f1 f2) (ho : d.R e W base ok v xs) (ht : e ≠ 74) : some g ≠ v.ownBlock := by
  obtain ⟨hb, hg⟩ := h
  exact Kd.R_ne ho hb ht
theorem IsS74.lt {w0 W : World} {g : Nat} {f0 : ByteArray} {f1 : Int} {f2 : Int} (h : IsS74 w0 W g f0 f1 f2) : g < W.heap.size := by
  obtain ⟨hb, hg⟩ := h
  exact blk_lt hb
theorem IsS74.ge {w0 W : World} {g : Nat} {f0 : ByteArray} {f1 : Int} {f2 : Int} (h : IsS74 w0 W g f0 f1 f2) : w0.heap.size ≤ g := by
  obtain ⟨hb, hg⟩ := h
  exact hg
theorem IsS74.far {w0 W : World} {g : Nat} {f0 : ByteArray} {f1 : Int} {f2 : Int} {p : Addr} (h : IsS74 w0 W g f0 f1 f2) (hne : g ≠ p.block) (u : Value) : IsS74 w0 (W.setCell p u) g f0 f1 f2 := by
  obtain ⟨hb, hg⟩ := h
  exact ⟨blk_far hb hne u, hg⟩
theorem cellS74_0 {W : World} {g : Nat} {f0 : ByteArray} {f1 : Int} {f2 : Int} (h : W.heap[g]? = some (.cells #[.string f0, .int .i64 f1, .int .i64 f2] 74 (0, 0))) : W.cell? ⟨g, 0, none⟩ = some (.string f0) := (blk_cell h 0).trans rfl
theorem IsS74.set_0 {w0 W : World} {g : Nat} {f0 : ByteArray} {f1 : Int} {f2 : Int} (h : IsS74 w0 W g f0 f1 f2) (x : ByteArray) : IsS74 w0 (W.setCell ⟨g, 0, none⟩ (.string x)) g x f1 f2 := by
  obtain ⟨hb, hg⟩ := h
  exact ⟨by simpa using blk_set hb 0 (.string x), hg⟩
theorem cellS74_1 {W : World} {g : Nat} {f0 : ByteArray} {f1 : Int} {f2 : Int} (h : W.heap[g]? = some (.cells #[.string f0, .int .i64 f1, .int .i64 f2] 74 (0, 0))) : W.cell? ⟨g, 1, none⟩ = some (.int .i64 f1) := (blk_cell h 1).trans rfl
theorem IsS74.set_1 {w0 W : World} {g : Nat} {f0 : ByteArray} {f1 : Int} {f2 : Int} (h : IsS74 w0 W g f0 f1 f2) (x : Int) : IsS74 w0 (W.setCell ⟨g, 1, none⟩ (.int .i64 x)) g f0 x f2 := by
  obtain ⟨hb, hg⟩ := h
  exact ⟨by simpa using blk_set hb 1 (.int .i64 x), hg⟩
theorem cellS74_2 {W : World} {g : Nat} {f0 : ByteArray} {f1 : Int} {f2 : Int} (h : W.heap[g]? = some (.cells #[.string f0, .int .i64 f1, .int .i64 f2] 74 (0, 0))) : W.cell? ⟨g, 2, none⟩ = some (.int .i64 f2) := (blk_cell h 2).trans rfl
theorem IsS74.set_2 {w0 W : World} {g : Nat} {f0 : ByteArray} {f1 : Int} {f2 : Int} (h : IsS74 w0 W g f0 f1 f2) (x : Int) : IsS74 w0 (W.setCell ⟨g, 2, none⟩ (.int .i64 x)) g f0 f1 x := by
  obtain ⟨hb, hg⟩ := h
  exact ⟨by simpa using blk_set hb 2 (.int .i64 x), hg⟩
theorem IsS74.new (w0 W : World) (f0 : ByteArray) (f1 : Int) (f2 : Int) (hB : Below w0.heap.size w0 W) : IsS74 w0 (W.alloc (.cells #[.string f0, .int .i64 f1, .int .i64 f2] 74)) W.heap.size f0 f1 f2 := ⟨by simpa using heap_alloc_new W _, hB.size⟩

/-! ### filter_parser_blanks: function 34 -/
def filter_parser_blanks.l0 : Nat → ByteArray → Int → Int → Option (ByteArray × Int × Int)
  | 0, _, _, _ => none
  | k + 1, x1000, x1001, x1002 => if x1002 < 0 then (if x1001 < (x1000.size : Int) then (if 0 ≤ x1001 then (if (bt x1000 x1001) = 32 then (filter_parser_blanks.l0 k x1000 (wrap64 (x1001 + 1)) x1002) else (some (x1000, x1001, x1002))) else (none)) else (some (x1000, x1001, x1002))) else (some (x1000, x1001, x1002))
def filter_parser_blanks.f (k : Nat) (s0_0 : ByteArray) (s0_1 : Int) (s0_2 : Int) : Option (ByteArray × Int × Int) := filter_parser_blanks.l0 k s0_0 s0_1 s0_2
theorem filter_parser_blanks.mono_l : ∀ k, (∀ y0 y1 y2, LeO (filter_parser_blanks.l0 k y0 y1 y2) (filter_parser_blanks.l0 (k + 1) y0 y1 y2))
  | 0 => fun _ _ _ r h => by simp [filter_parser_blanks.l0] at h
  | k + 1 => by
    have ih0 := filter_parser_blanks.mono_l k
    · intro y0 y1 y2
      unfold filter_parser_blanks.l0
      repeat' first
      | (with_reducible exact ih0 _ _ _)
      | (with_reducible exact LeO.refl _)
      | (with_reducible exact LeO.none _)
      | (with_reducible refine LeO.ite ?_ ?_)
      | (with_reducible refine LeO.bind ?_ (fun _ => ?_))
      | exact ih0 _ _ _
      | exact LeO.none _
      | refine LeO.ite ?_ ?_
      | refine LeO.bind ?_ (fun _ => ?_)
theorem filter_parser_blanks.mono : ∀ a0 a1 a2 k, LeO (filter_parser_blanks.f k a0 a1 a2) (filter_parser_blanks.f (k + 1) a0 a1 a2) := by
  intro a0 a1 a2 k
  have ih0 := filter_parser_blanks.mono_l k
  unfold filter_parser_blanks.f
  repeat' first
      | (with_reducible exact ih0 _ _ _)
      | (with_reducible exact LeO.refl _)
      | (with_reducible exact LeO.none _)
      | (with_reducible refine LeO.ite ?_ ?_)
      | (with_reducible refine LeO.bind ?_ (fun _ => ?_))
      | exact ih0 _ _ _
      | exact LeO.none _
      | refine LeO.ite ?_ ?_
      | refine LeO.bind ?_ (fun _ => ?_)
set_option maxHeartbeats 8000000 in
set_option maxRecDepth 100000 in
theorem filter_parser_blanks.calls (k : Nat) (g : Nat) (s0_0 : ByteArray) (s0_1 : Int) (s0_2 : Int) (r1 : ByteArray) (r2 : Int) (r3 : Int) (w0 w : World) (hI : IsS74 w0 w g s0_0 s0_1 s0_2) (hB : Below w0.heap.size w0 w) (h : filter_parser_blanks.f k s0_0 s0_1 s0_2 = some (r1, r2, r3)) :
    Calls Tryd.prog 34 #[.pointer (some ⟨g, 0, none⟩)] w fun e w' => e = .returned (.tuple #[]) ∧ IsS74 w0 w' g r1 r2 r3 ∧ Below w0.heap.size w0 w' ∧ KeepBut w w' g none := by
  have HI0 := Aside0.mk hI
  have HK := Aside0.mk (KeepBut.refl w g none)
  have HL := Aside0.mk hB.size
  clear hI
  have HW0 := Aside0.mk hB.size
  have HB := Aside0.mk hB
  clear hB
  have H : (filter_parser_blanks.l0 k s0_0 s0_1 s0_2) = some (r1, r2, r3) := h
  clear h
  have H' := Aside0.mk H
  clear H
  go_enter Tryd.func34, Tryd.ntmps34
  go_wp2
  repeat (go_quiet (fail); try go_wp2)
  go_loopg [] k (fun kq w' => ∃ (x1001_1 : Int), Aside0 (filter_parser_blanks.l0 kq s0_0 x1001_1 s0_2 = some (r1, r2, r3)) ∧ Aside0 (kq ≤ k) ∧ Aside0 (IsS74 w0 w' g s0_0 x1001_1 s0_2) ∧ Aside0 (KeepBut w w' g none) ∧ Aside0 (Below w0.heap.size w0 w'))
  case atStart => exact ⟨(s0_1), H', ⟨Nat.le_refl _⟩, ⟨by repeat (first | (with_reducible first | exact HI0.out | apply IsS74.alloc | apply IsS74.drewN | apply IsS74.drew | apply IsS74.set_0 | apply IsS74.set_1 | apply IsS74.set_2) | exact HI0.out)⟩, ⟨by repeat (first | (with_reducible first | exact HK.out | apply KeepBut.set_ | apply keep_drewN | apply keep_drew | apply keep_alloc) | exact HK.out)⟩, ⟨by repeat (first | (with_reducible first | exact HB.out | apply below_alloc | apply pw_below_drewN | apply below_drew1 | refine below_set ?_ (IsS74.ge HI0.out)) | exact HB.out)⟩⟩
  case round =>
    clear H'
    obtain ⟨x1001_1, HA, HK1, HI0, HK, HB⟩ := hrel
    cases gk with
    | zero => exact absurd HA.out (by simp [filter_parser_blanks.l0])
    | succ k1 =>
      have H := HA.out
      clear HA
      simp only [filter_parser_blanks.l0] at H
      by_cases c2 : s0_2 < 0
      · rw [if_pos c2] at H
        have c2b0 : decide (s0_2 < 0) = true := decide_eq_true c2
        clear c2
        by_cases c3 : x1001_1 < (s0_0.size : Int)
        · rw [if_pos c3] at H
          have c3b0 : decide (x1001_1 < (s0_0.size : Int)) = true := decide_eq_true c3
          clear c3
          by_cases c4 : 0 ≤ x1001_1
          · rw [if_pos c4] at H
            have c4b0 : decide (0 ≤ x1001_1) = true := decide_eq_true c4
            clear c4
            by_cases c6 : (bt s0_0 x1001_1) = 32
            · rw [if_pos c6] at H
              have c6b0 : ((bt s0_0 x1001_1) == 32) = true := beq_iff_eq.mpr c6
              have c6b1 : ((bt s0_0 x1001_1) != 32) = false := bne_eq_false_iff_eq.mpr c6
              clear c6
              have H' := Aside0.mk H
              clear H
              obtain ⟨HGz7, hgz7⟩ := HI0.out
              have hcz7_0 := cellS74_0 HGz7
              have hcz7_1 := cellS74_1 HGz7
              have hcz7_2 := cellS74_2 HGz7
              have hfz7_0 := blk_frozen HGz7 0
              have hfz7_1 := blk_frozen HGz7 1
              have hfz7_2 := blk_frozen HGz7 2
              clear HGz7 hgz7
              have p5 : 0 ≤ (x1001_1 : Int) := of_decide_eq_true (by first | (with_reducible assumption) | assumption)
              have q5 : x1001_1 < (s0_0.size : Int) := of_decide_eq_true (by first | (with_reducible assumption) | assumption)
              have hx5 := bt_at s0_0 x1001_1
              replace p5 := eq_true p5
              replace q5 := eq_true q5
              go_wp2
              repeat (go_quiet (fail); try go_wp2)
              go_roundg k1
              case measure => have := HK1.out; omega
              case rel => exact ⟨(wrap64 (x1001_1 + 1)), H', ⟨by have := HK1.out; omega⟩, ⟨by repeat (first | (with_reducible first | exact HI0.out | apply IsS74.alloc | apply IsS74.drewN | apply IsS74.drew | apply IsS74.set_0 | apply IsS74.set_1 | apply IsS74.set_2) | exact HI0.out)⟩, ⟨by repeat (first | (with_reducible first | exact HK.out | apply KeepBut.set_ | apply keep_drewN | apply keep_drew | apply keep_alloc) | exact HK.out)⟩, ⟨by repeat (first | (with_reducible first | exact HB.out | apply below_alloc | apply pw_below_drewN | apply below_drew1 | refine below_set ?_ (IsS74.ge HI0.out)) | exact HB.out)⟩⟩
            · rw [if_neg c6] at H
              have c6b0 : ((bt s0_0 x1001_1) == 32) = false := beq_eq_false_iff_ne.mpr c6
              have c6b1 : ((bt s0_0 x1001_1) != 32) = true := bne_iff_ne.mpr c6
              simp only [Option.some.injEq, Prod.mk.injEq] at H
              obtain ⟨rfl, rfl, rfl⟩ := H
              obtain ⟨HGz8, hgz8⟩ := HI0.out
              have hcz8_0 := cellS74_0 HGz8
              have hcz8_1 := cellS74_1 HGz8
              have hcz8_2 := cellS74_2 HGz8
              have hfz8_0 := blk_frozen HGz8 0
              have hfz8_1 := blk_frozen HGz8 1
              have hfz8_2 := blk_frozen HGz8 2
              clear HGz8 hgz8
              have p5 : 0 ≤ (x1001_1 : Int) := of_decide_eq_true (by first | (with_reducible assumption) | assumption)
              have q5 : x1001_1 < (s0_0.size : Int) := of_decide_eq_true (by first | (with_reducible assumption) | assumption)
              have hx5 := bt_at s0_0 x1001_1
              replace p5 := eq_true p5
              replace q5 := eq_true q5
              go_wp2
              repeat (go_quiet (fail); try go_wp2)
              first | go_end0 | ((try simp only [Exit.inBlock, Exit.then]); refine bodyPost_ret (results_none rfl _ _ _) rfl ?_)
              exact ⟨by first | rfl | (simp [errW_none, errW_some] <;> rfl) | (simp [*, errW_none, errW_some] <;> rfl), by repeat (first | (with_reducible first | exact HI0.out | apply IsS74.alloc | apply IsS74.drewN | apply IsS74.drew | apply IsS74.set_0 | apply IsS74.set_1 | apply IsS74.set_2) | exact HI0.out), by repeat (first | (with_reducible first | exact HB.out | apply below_alloc | apply pw_below_drewN | apply below_drew1 | refine below_set ?_ (IsS74.ge HI0.out)) | exact HB.out), by repeat (first | (with_reducible first | exact HK.out | apply KeepBut.set_ | apply keep_drewN | apply keep_drew | apply keep_alloc) | exact HK.out)⟩
          · rw [if_neg c4] at H
            exact absurd H (by simp)
        · rw [if_neg c3] at H
          have c3b0 : decide (x1001_1 < (s0_0.size : Int)) = false := decide_eq_false c3
          clear c3
          simp only [Option.some.injEq, Prod.mk.injEq] at H
          obtain ⟨rfl, rfl, rfl⟩ := H
          obtain ⟨HGz9, hgz9⟩ := HI0.out
          have hcz9_0 := cellS74_0 HGz9
          have hcz9_1 := cellS74_1 HGz9
          have hcz9_2 := cellS74_2 HGz9
          have hfz9_0 := blk_frozen HGz9 0
          have hfz9_1 := blk_frozen HGz9 1
          have hfz9_2 := blk_frozen HGz9 2
          clear HGz9 hgz9
          go_wp2
          repeat (go_quiet (fail); try go_wp2)
          first | go_end0 | ((try simp only [Exit.inBlock, Exit.then]); refine bodyPost_ret (results_none rfl _ _ _) rfl ?_)
          exact ⟨by first | rfl | (simp [errW_none, errW_some] <;> rfl) | (simp [*, errW_none, errW_some] <;> rfl), by repeat (first | (with_reducible first | exact HI0.out | apply IsS74.alloc | apply IsS74.drewN | apply IsS74.drew | apply IsS74.set_0 | apply IsS74.set_1 | apply IsS74.set_2) | exact HI0.out), by repeat (first | (with_reducible first | exact HB.out | apply below_alloc | apply pw_below_drewN | apply below_drew1 | refine below_set ?_ (IsS74.ge HI0.out)) | exact HB.out), by repeat (first | (with_reducible first | exact HK.out | apply KeepBut.set_ | apply keep_drewN | apply keep_drew | apply keep_alloc) | exact HK.out)⟩
      · rw [if_neg c2] at H
        have c2b0 : decide (s0_2 < 0) = false := decide_eq_false c2
        clear c2
        simp only [Option.some.injEq, Prod.mk.injEq] at H
        obtain ⟨rfl, rfl, rfl⟩ := H
        obtain ⟨HGz10, hgz10⟩ := HI0.out
        have hcz10_0 := cellS74_0 HGz10
        have hcz10_1 := cellS74_1 HGz10
        have hcz10_2 := cellS74_2 HGz10
        have hfz10_0 := blk_frozen HGz10 0
        have hfz10_1 := blk_frozen HGz10 1
        have hfz10_2 := blk_frozen HGz10 2
        clear HGz10 hgz10
        go_wp2
        repeat (go_quiet (fail); try go_wp2)
        first | go_end0 | ((try simp only [Exit.inBlock, Exit.then]); refine bodyPost_ret (results_none rfl _ _ _) rfl ?_)
        exact ⟨by first | rfl | (simp [errW_none, errW_some] <;> rfl) | (simp [*, errW_none, errW_some] <;> rfl), by repeat (first | (with_reducible first | exact HI0.out | apply IsS74.alloc | apply IsS74.drewN | apply IsS74.drew | apply IsS74.set_0 | apply IsS74.set_1 | apply IsS74.set_2) | exact HI0.out), by repeat (first | (with_reducible first | exact HB.out | apply below_alloc | apply pw_below_drewN | apply below_drew1 | refine below_set ?_ (IsS74.ge HI0.out)) | exact HB.out), by repeat (first | (with_reducible first | exact HK.out | apply KeepBut.set_ | apply keep_drewN | apply keep_drew | apply keep_alloc) | exact HK.out)⟩

/-! ### filter_parser_stop: function 36 -/
def filter_parser_stop.f (s0_0 : ByteArray) (s0_1 : Int) (s0_2 : Int) (a1 : Int) : Option (ByteArray × Int × Int) := if s0_2 < 0 then (some (s0_0, s0_1, a1)) else (some (s0_0, s0_1, s0_2))
set_option maxHeartbeats 8000000 in
set_option maxRecDepth 100000 in
theorem filter_parser_stop.calls (g : Nat) (s0_0 : ByteArray) (s0_1 : Int) (s0_2 : Int) (a1 : Int) (r1 : ByteArray) (r2 : Int) (r3 : Int) (w0 w : World) (hI : IsS74 w0 w g s0_0 s0_1 s0_2) (hB : Below w0.heap.size w0 w) (h : filter_parser_stop.f s0_0 s0_1 s0_2 a1 = some (r1, r2, r3)) :
    Calls Tryd.prog 36 #[.pointer (some ⟨g, 0, none⟩), .int .i64 a1] w fun e w' => e = .returned (.tuple #[]) ∧ IsS74 w0 w' g r1 r2 r3 ∧ Below w0.heap.size w0 w' ∧ KeepBut w w' g none := by
  have HI0 := Aside0.mk hI
  have HK := Aside0.mk (KeepBut.refl w g none)
  have HL := Aside0.mk hB.size
  clear hI
  have HW0 := Aside0.mk hB.size
  have HB := Aside0.mk hB
  clear hB
  have H : (if s0_2 < 0 then (some (s0_0, s0_1, a1)) else (some (s0_0, s0_1, s0_2))) = some (r1, r2, r3) := h
  clear h
  by_cases c3 : s0_2 < 0
  · rw [if_pos c3] at H
    have c3b0 : decide (s0_2 < 0) = true := decide_eq_true c3
    clear c3
    simp only [Option.some.injEq, Prod.mk.injEq] at H
    obtain ⟨rfl, rfl, rfl⟩ := H
    obtain ⟨HGz4, hgz4⟩ := HI0.out
    have hcz4_0 := cellS74_0 HGz4
    have hcz4_1 := cellS74_1 HGz4
    have hcz4_2 := cellS74_2 HGz4
    have hfz4_0 := blk_frozen HGz4 0
    have hfz4_1 := blk_frozen HGz4 1
    have hfz4_2 := blk_frozen HGz4 2
    clear HGz4 hgz4
    go_enter Tryd.func36, Tryd.ntmps36
    go_wp2
    first | go_end0 | ((try simp only [Exit.inBlock, Exit.then]); refine bodyPost_ret (results_none rfl _ _ _) rfl ?_)
    exact ⟨by first | rfl | (simp [errW_none, errW_some] <;> rfl) | (simp [*, errW_none, errW_some] <;> rfl), by repeat (first | (with_reducible first | exact HI0.out | apply IsS74.alloc | apply IsS74.drewN | apply IsS74.drew | apply IsS74.set_0 | apply IsS74.set_1 | apply IsS74.set_2) | exact HI0.out), by repeat (first | (with_reducible first | exact HB.out | apply below_alloc | apply pw_below_drewN | apply below_drew1 | refine below_set ?_ (IsS74.ge HI0.out)) | exact HB.out), by repeat (first | (with_reducible first | exact HK.out | apply KeepBut.set_ | apply keep_drewN | apply keep_drew | apply keep_alloc) | exact HK.out)⟩
  · rw [if_neg c3] at H
    have c3b0 : decide (s0_2 < 0) = false := decide_eq_false c3
    clear c3
    simp only [Option.some.injEq, Prod.mk.injEq] at H
    obtain ⟨rfl, rfl, rfl⟩ := H
    obtain ⟨HGz5, hgz5⟩ := HI0.out
    have hcz5_0 := cellS74_0 HGz5
    have hcz5_1 := cellS74_1 HGz5
    have hcz5_2 := cellS74_2 HGz5
    have hfz5_0 := blk_frozen HGz5 0
    have hfz5_1 := blk_frozen HGz5 1
    have hfz5_2 := blk_frozen HGz5 2
    clear HGz5 hgz5
    go_enter Tryd.func36, Tryd.ntmps36
    go_wp2
    first | go_end0 | ((try simp only [Exit.inBlock, Exit.then]); refine bodyPost_ret (results_none rfl _ _ _) rfl ?_)
    exact ⟨by first | rfl | (simp [errW_none, errW_some] <;> rfl) | (simp [*, errW_none, errW_some] <;> rfl), by repeat (first | (with_reducible first | exact HI0.out | apply IsS74.alloc | apply IsS74.drewN | apply IsS74.drew | apply IsS74.set_0 | apply IsS74.set_1 | apply IsS74.set_2) | exact HI0.out), by repeat (first | (with_reducible first | exact HB.out | apply below_alloc | apply pw_below_drewN | apply below_drew1 | refine below_set ?_ (IsS74.ge HI0.out)) | exact HB.out), by repeat (first | (with_reducible first | exact HK.out | apply KeepBut.set_ | apply keep_drewN | apply keep_drew | apply keep_alloc) | exact HK.out)⟩

/-! ### filter_letter: function 65 -/
def filter_letter.f (a0 : Int) : Option (Bool) := if a0 ≥ 97 then (some (decide (a0 ≤ 122))) else (some false)
set_option maxHeartbeats 8000000 in
set_option maxRecDepth 100000 in
theorem filter_letter.calls (a0 : Int) (r : Bool) (w : World) (h : filter_letter.f a0 = some r) :
    Calls Tryd.prog 65 #[.int .u8 a0] w fun e w' => e = .returned (.bool r) ∧ Drawn0 w w' := by
  have H : (if a0 ≥ 97 then (some (decide (a0 ≤ 122))) else (some false)) = some r := h
  clear h
  by_cases c2 : a0 ≥ 97
  · rw [if_pos c2] at H
    have c2b0 : decide (97 ≤ a0) = true := decide_eq_true c2
    clear c2
    obtain rfl := Option.some.inj H
    go_enter Tryd.func65, Tryd.ntmps65
    go_wp2
    go_ret
    exact ⟨by first | rfl | (simp; done) | (simp [*]; done), by repeat (first | exact Drawn0.refl _ | apply Drawn0.step)⟩
  · rw [if_neg c2] at H
    have c2b0 : decide (97 ≤ a0) = false := decide_eq_false c2
    clear c2
    obtain rfl := Option.some.inj H
    go_enter Tryd.func65, Tryd.ntmps65
    go_wp2
    go_ret
    exact ⟨by first | rfl | (simp; done) | (simp [*]; done), by repeat (first | exact Drawn0.refl _ | apply Drawn0.step)⟩

/-! ### filter_digit: function 66 -/
def filter_digit.f (a0 : Int) : Option (Bool) := if a0 ≥ 48 then (some (decide (a0 ≤ 57))) else (some false)
set_option maxHeartbeats 8000000 in
set_option maxRecDepth 100000 in
theorem filter_digit.calls (a0 : Int) (r : Bool) (w : World) (h : filter_digit.f a0 = some r) :
    Calls Tryd.prog 66 #[.int .u8 a0] w fun e w' => e = .returned (.bool r) ∧ Drawn0 w w' := by
  have H : (if a0 ≥ 48 then (some (decide (a0 ≤ 57))) else (some false)) = some r := h
  clear h
  by_cases c2 : a0 ≥ 48
  · rw [if_pos c2] at H
    have c2b0 : decide (48 ≤ a0) = true := decide_eq_true c2
    clear c2
    obtain rfl := Option.some.inj H
    go_enter Tryd.func66, Tryd.ntmps66
    go_wp2
    go_ret
    exact ⟨by first | rfl | (simp; done) | (simp [*]; done), by repeat (first | exact Drawn0.refl _ | apply Drawn0.step)⟩
  · rw [if_neg c2] at H
    have c2b0 : decide (48 ≤ a0) = false := decide_eq_false c2
    clear c2
    obtain rfl := Option.some.inj H
    go_enter Tryd.func66, Tryd.ntmps66
    go_wp2
    go_ret
    exact ⟨by first | rfl | (simp; done) | (simp [*]; done), by repeat (first | exact Drawn0.refl _ | apply Drawn0.step)⟩

-- NOT PRINTED: function 35 (filter_parser_word)

/-! ### filter_parser_mark: function 62 -/
def filter_parser_mark.f (k : Nat) (s0_0 : ByteArray) (s0_1 : Int) (s0_2 : Int) (a1 : ByteArray) : Option (ByteArray × Int × Int) := (filter_parser_blanks.f k s0_0 s0_1 s0_2).bind fun bt118 => (if bt118.2.2 ≥ 0 then ((filter_parser_stop.f bt118.1 bt118.2.1 bt118.2.2 bt118.2.1).bind fun bt121 => (some (bt121.1, bt121.2.1, bt121.2.2))) else (if (wrap64 ((bt118.1.size : Int) - bt118.2.1)) < (a1.size : Int) then ((filter_parser_stop.f bt118.1 bt118.2.1 bt118.2.2 bt118.2.1).bind fun bt124 => (some (bt124.1, bt124.2.1, bt124.2.2))) else (if 0 ≤ bt118.2.1 then (if bt118.2.1 ≤ (wrap64 (bt118.2.1 + (a1.size : Int))) then (if (wrap64 (bt118.2.1 + (a1.size : Int))) ≤ (bt118.1.size : Int) then (if (bt118.1.extract (bt118.2.1 : Int).toNat ((wrap64 (bt118.2.1 + (a1.size : Int))) : Int).toNat).toList = a1.toList then (some (bt118.1, wrap64 (bt118.2.1 + (a1.size : Int)), bt118.2.2)) else ((filter_parser_stop.f bt118.1 bt118.2.1 bt118.2.2 bt118.2.1).bind fun bt127 => (some (bt127.1, bt127.2.1, bt127.2.2)))) else (none)) else (none)) else (none))))
theorem filter_parser_mark.mono : ∀ a0 a1 a2 a3 k, LeO (filter_parser_mark.f k a0 a1 a2 a3) (filter_parser_mark.f (k + 1) a0 a1 a2 a3) := by
  intro a0 a1 a2 a3 k
  unfold filter_parser_mark.f
  repeat' first
      | (with_reducible exact filter_parser_blanks.mono _ _ _ _)
      | (with_reducible exact LeO.refl _)
      | (with_reducible exact LeO.none _)
      | (with_reducible refine LeO.ite ?_ ?_)
      | (with_reducible refine LeO.bind ?_ (fun _ => ?_))
      | exact filter_parser_blanks.mono _ _ _ _
      | exact LeO.none _
      | refine LeO.ite ?_ ?_
      | refine LeO.bind ?_ (fun _ => ?_)
set_option maxHeartbeats 8000000 in
set_option maxRecDepth 100000 in
theorem filter_parser_mark.calls (k : Nat) (g : Nat) (s0_0 : ByteArray) (s0_1 : Int) (s0_2 : Int) (a1 : ByteArray) (r1 : ByteArray) (r2 : Int) (r3 : Int) (w0 w : World) (hI : IsS74 w0 w g s0_0 s0_1 s0_2) (hB : Below w0.heap.size w0 w) (h : filter_parser_mark.f k s0_0 s0_1 s0_2 a1 = some (r1, r2, r3)) :
    Calls Tryd.prog 62 #[.pointer (some ⟨g, 0, none⟩), .string a1] w fun e w' => e = .returned (.tuple #[]) ∧ IsS74 w0 w' g r1 r2 r3 ∧ Below w0.heap.size w0 w' ∧ KeepBut w w' g none := by
  have HI0 := Aside0.mk hI
  have HK := Aside0.mk (KeepBut.refl w g none)
  have HL := Aside0.mk hB.size
  clear hI
  have HW0 := Aside0.mk hB.size
  have HB := Aside0.mk hB
  clear hB
  have H : ((filter_parser_blanks.f k s0_0 s0_1 s0_2).bind fun bt118 => (if bt118.2.2 ≥ 0 then ((filter_parser_stop.f bt118.1 bt118.2.1 bt118.2.2 bt118.2.1).bind fun bt121 => (some (bt121.1, bt121.2.1, bt121.2.2))) else (if (wrap64 ((bt118.1.size : Int) - bt118.2.1)) < (a1.size : Int) then ((filter_parser_stop.f bt118.1 bt118.2.1 bt118.2.2 bt118.2.1).bind fun bt124 => (some (bt124.1, bt124.2.1, bt124.2.2))) else (if 0 ≤ bt118.2.1 then (if bt118.2.1 ≤ (wrap64 (bt118.2.1 + (a1.size : Int))) then (if (wrap64 (bt118.2.1 + (a1.size : Int))) ≤ (bt118.1.size : Int) then (if (bt118.1.extract (bt118.2.1 : Int).toNat ((wrap64 (bt118.2.1 + (a1.size : Int))) : Int).toNat).toList = a1.toList then (some (bt118.1, wrap64 (bt118.2.1 + (a1.size : Int)), bt118.2.2)) else ((filter_parser_stop.f bt118.1 bt118.2.1 bt118.2.2 bt118.2.1).bind fun bt127 => (some (bt127.1, bt127.2.1, bt127.2.2)))) else (none)) else (none)) else (none))))) = some (r1, r2, r3) := h
  clear h
  replace H := Option.bind_eq_some_iff.mp H
  obtain ⟨⟨t118, t119, t120⟩, A30, H⟩ := H
  replace H : (if t120 ≥ 0 then ((filter_parser_stop.f t118 t119 t120 t119).bind fun bt121 => (some (bt121.1, bt121.2.1, bt121.2.2))) else (if (wrap64 ((t118.size : Int) - t119)) < (a1.size : Int) then ((filter_parser_stop.f t118 t119 t120 t119).bind fun bt124 => (some (bt124.1, bt124.2.1, bt124.2.2))) else (if 0 ≤ t119 then (if t119 ≤ (wrap64 (t119 + (a1.size : Int))) then (if (wrap64 (t119 + (a1.size : Int))) ≤ (t118.size : Int) then (if (t118.extract (t119 : Int).toNat ((wrap64 (t119 + (a1.size : Int))) : Int).toNat).toList = a1.toList then (some (t118, wrap64 (t119 + (a1.size : Int)), t120)) else ((filter_parser_stop.f t118 t119 t120 t119).bind fun bt127 => (some (bt127.1, bt127.2.1, bt127.2.2)))) else (none)) else (none)) else (none)))) = some (r1, r2, r3) := H
  have A3 := Aside0.mk A30
  clear A30
  by_cases c4 : t120 ≥ 0
  · rw [if_pos c4] at H
    have c4b0 : decide (0 ≤ t120) = true := decide_eq_true c4
    clear c4
    replace H := Option.bind_eq_some_iff.mp H
    obtain ⟨⟨t121, t122, t123⟩, A50, H⟩ := H
    replace H : (some (t121, t122, t123)) = some (r1, r2, r3) := H
    have A5 := Aside0.mk A50
    clear A50
    simp only [Option.some.injEq, Prod.mk.injEq] at H
    obtain ⟨rfl, rfl, rfl⟩ := H
    go_enter Tryd.func62, Tryd.ntmps62
    go_wp2_with (first | (go_at_call 34; (with_reducible refine (filter_parser_blanks.calls k g s0_0 s0_1 s0_2 t118 t119 t120 w0 _ ?side1 ?side2 A3.out).mono ?_); (case side1 => repeat (first | (with_reducible first | exact HI0.out | apply IsS74.alloc | apply IsS74.drewN | apply IsS74.drew | apply IsS74.set_0 | apply IsS74.set_1 | apply IsS74.set_2) | exact HI0.out)); (case side2 => repeat (first | (with_reducible first | exact HB.out | apply below_alloc | apply pw_below_drewN | apply below_drew1 | refine below_set ?_ (IsS74.ge HI0.out)) | exact HB.out)); rintro e w6 ⟨rfl, hi, hb, hk⟩; have n0_ := Aside0.mk (KeepBut.trans (by repeat (first | (with_reducible first | exact HK.out | apply KeepBut.set_ | apply keep_drewN | apply keep_drew | apply keep_alloc) | exact HK.out)) hk (.inl rfl)); have n1_ := Aside0.mk (hb); have n2_ := Aside0.mk (hi); clear HK; clear HB; clear HI0; have HK := n0_; have HB := n1_; have HI0 := n2_; clear n0_ n1_ n2_; (try clear hb); (try clear hb2); (try clear hk); (try clear hi); obtain ⟨HGz7, hgz7⟩ := HI0.out; have hcz7_0 := cellS74_0 HGz7; have hcz7_1 := cellS74_1 HGz7; have hcz7_2 := cellS74_2 HGz7; have hfz7_0 := blk_frozen HGz7 0; have hfz7_1 := blk_frozen HGz7 1; have hfz7_2 := blk_frozen HGz7 2; clear HGz7 hgz7) | (go_at_call 36; (with_reducible refine (filter_parser_stop.calls g t118 t119 t120 t119 t121 t122 t123 w0 _ ?side1 ?side2 A5.out).mono ?_); (case side1 => repeat (first | (with_reducible first | exact HI0.out | apply IsS74.alloc | apply IsS74.drewN | apply IsS74.drew | apply IsS74.set_0 | apply IsS74.set_1 | apply IsS74.set_2) | exact HI0.out)); (case side2 => repeat (first | (with_reducible first | exact HB.out | apply below_alloc | apply pw_below_drewN | apply below_drew1 | refine below_set ?_ (IsS74.ge HI0.out)) | exact HB.out)); rintro e w8 ⟨rfl, hi, hb, hk⟩; have n0_ := Aside0.mk (KeepBut.trans (by repeat (first | (with_reducible first | exact HK.out | apply KeepBut.set_ | apply keep_drewN | apply keep_drew | apply keep_alloc) | exact HK.out)) hk (.inl rfl)); have n1_ := Aside0.mk (hb); have n2_ := Aside0.mk (hi); clear HK; clear HB; clear HI0; have HK := n0_; have HB := n1_; have HI0 := n2_; clear n0_ n1_ n2_; (try clear hb); (try clear hb2); (try clear hk); (try clear hi)))
    repeat (go_quiet (first | (go_at_call 34; (with_reducible refine (filter_parser_blanks.calls k g s0_0 s0_1 s0_2 t118 t119 t120 w0 _ ?side1 ?side2 A3.out).mono ?_); (case side1 => repeat (first | (with_reducible first | exact HI0.out | apply IsS74.alloc | apply IsS74.drewN | apply IsS74.drew | apply IsS74.set_0 | apply IsS74.set_1 | apply IsS74.set_2) | exact HI0.out)); (case side2 => repeat (first | (with_reducible first | exact HB.out | apply below_alloc | apply pw_below_drewN | apply below_drew1 | refine below_set ?_ (IsS74.ge HI0.out)) | exact HB.out)); rintro e w6 ⟨rfl, hi, hb, hk⟩; have n0_ := Aside0.mk (KeepBut.trans (by repeat (first | (with_reducible first | exact HK.out | apply KeepBut.set_ | apply keep_drewN | apply keep_drew | apply keep_alloc) | exact HK.out)) hk (.inl rfl)); have n1_ := Aside0.mk (hb); have n2_ := Aside0.mk (hi); clear HK; clear HB; clear HI0; have HK := n0_; have HB := n1_; have HI0 := n2_; clear n0_ n1_ n2_; (try clear hb); (try clear hb2); (try clear hk); (try clear hi); obtain ⟨HGz7, hgz7⟩ := HI0.out; have hcz7_0 := cellS74_0 HGz7; have hcz7_1 := cellS74_1 HGz7; have hcz7_2 := cellS74_2 HGz7; have hfz7_0 := blk_frozen HGz7 0; have hfz7_1 := blk_frozen HGz7 1; have hfz7_2 := blk_frozen HGz7 2; clear HGz7 hgz7) | (go_at_call 36; (with_reducible refine (filter_parser_stop.calls g t118 t119 t120 t119 t121 t122 t123 w0 _ ?side1 ?side2 A5.out).mono ?_); (case side1 => repeat (first | (with_reducible first | exact HI0.out | apply IsS74.alloc | apply IsS74.drewN | apply IsS74.drew | apply IsS74.set_0 | apply IsS74.set_1 | apply IsS74.set_2) | exact HI0.out)); (case side2 => repeat (first | (with_reducible first | exact HB.out | apply below_alloc | apply pw_below_drewN | apply below_drew1 | refine below_set ?_ (IsS74.ge HI0.out)) | exact HB.out)); rintro e w8 ⟨rfl, hi, hb, hk⟩; have n0_ := Aside0.mk (KeepBut.trans (by repeat (first | (with_reducible first | exact HK.out | apply KeepBut.set_ | apply keep_drewN | apply keep_drew | apply keep_alloc) | exact HK.out)) hk (.inl rfl)); have n1_ := Aside0.mk (hb); have n2_ := Aside0.mk (hi); clear HK; clear HB; clear HI0; have HK := n0_; have HB := n1_; have HI0 := n2_; clear n0_ n1_ n2_; (try clear hb); (try clear hb2); (try clear hk); (try clear hi))); try go_wp2_with (first | (go_at_call 34; (with_reducible refine (filter_parser_blanks.calls k g s0_0 s0_1 s0_2 t118 t119 t120 w0 _ ?side1 ?side2 A3.out).mono ?_); (case side1 => repeat (first | (with_reducible first | exact HI0.out | apply IsS74.alloc | apply IsS74.drewN | apply IsS74.drew | apply IsS74.set_0 | apply IsS74.set_1 | apply IsS74.set_2) | exact HI0.out)); (case side2 => repeat (first | (with_reducible first | exact HB.out | apply below_alloc | apply pw_below_drewN | apply below_drew1 | refine below_set ?_ (IsS74.ge HI0.out)) | exact HB.out)); rintro e w6 ⟨rfl, hi, hb, hk⟩; have n0_ := Aside0.mk (KeepBut.trans (by repeat (first | (with_reducible first | exact HK.out | apply KeepBut.set_ | apply keep_drewN | apply keep_drew | apply keep_alloc) | exact HK.out)) hk (.inl rfl)); have n1_ := Aside0.mk (hb); have n2_ := Aside0.mk (hi); clear HK; clear HB; clear HI0; have HK := n0_; have HB := n1_; have HI0 := n2_; clear n0_ n1_ n2_; (try clear hb); (try clear hb2); (try clear hk); (try clear hi); obtain ⟨HGz7, hgz7⟩ := HI0.out; have hcz7_0 := cellS74_0 HGz7; have hcz7_1 := cellS74_1 HGz7; have hcz7_2 := cellS74_2 HGz7; have hfz7_0 := blk_frozen HGz7 0; have hfz7_1 := blk_frozen HGz7 1; have hfz7_2 := blk_frozen HGz7 2; clear HGz7 hgz7) | (go_at_call 36; (with_reducible refine (filter_parser_stop.calls g t118 t119 t120 t119 t121 t122 t123 w0 _ ?side1 ?side2 A5.out).mono ?_); (case side1 => repeat (first | (with_reducible first | exact HI0.out | apply IsS74.alloc | apply IsS74.drewN | apply IsS74.drew | apply IsS74.set_0 | apply IsS74.set_1 | apply IsS74.set_2) | exact HI0.out)); (case side2 => repeat (first | (with_reducible first | exact HB.out | apply below_alloc | apply pw_below_drewN | apply below_drew1 | refine below_set ?_ (IsS74.ge HI0.out)) | exact HB.out)); rintro e w8 ⟨rfl, hi, hb, hk⟩; have n0_ := Aside0.mk (KeepBut.trans (by repeat (first | (with_reducible first | exact HK.out | apply KeepBut.set_ | apply keep_drewN | apply keep_drew | apply keep_alloc) | exact HK.out)) hk (.inl rfl)); have n1_ := Aside0.mk (hb); have n2_ := Aside0.mk (hi); clear HK; clear HB; clear HI0; have HK := n0_; have HB := n1_; have HI0 := n2_; clear n0_ n1_ n2_; (try clear hb); (try clear hb2); (try clear hk); (try clear hi))))
    first | go_end0 | ((try simp only [Exit.inBlock, Exit.then]); refine bodyPost_ret (results_none rfl _ _ _) rfl ?_)
    exact ⟨by first | rfl | (simp [errW_none, errW_some] <;> rfl) | (simp [*, errW_none, errW_some] <;> rfl), by repeat (first | (with_reducible first | exact HI0.out | apply IsS74.alloc | apply IsS74.drewN | apply IsS74.drew | apply IsS74.set_0 | apply IsS74.set_1 | apply IsS74.set_2) | exact HI0.out), by repeat (first | (with_reducible first | exact HB.out | apply below_alloc | apply pw_below_drewN | apply below_drew1 | refine below_set ?_ (IsS74.ge HI0.out)) | exact HB.out), by repeat (first | (with_reducible first | exact HK.out | apply KeepBut.set_ | apply keep_drewN | apply keep_drew | apply keep_alloc) | exact HK.out)⟩
  · rw [if_neg c4] at H
    have c4b0 : decide (0 ≤ t120) = false := decide_eq_false c4
    clear c4
    by_cases c9 : (wrap64 ((t118.size : Int) - t119)) < (a1.size : Int)
    · rw [if_pos c9] at H
      have c9b0 : decide ((wrap64 ((t118.size : Int) - t119)) < (a1.size : Int)) = true := decide_eq_true c9
      clear c9
      replace H := Option.bind_eq_some_iff.mp H
      obtain ⟨⟨t124, t125, t126⟩, A100, H⟩ := H
      replace H : (some (t124, t125, t126)) = some (r1, r2, r3) := H
      have A10 := Aside0.mk A100
      clear A100
      simp only [Option.some.injEq, Prod.mk.injEq] at H
      obtain ⟨rfl, rfl, rfl⟩ := H
      go_enter Tryd.func62, Tryd.ntmps62
      go_wp2_with (first | (go_at_call 34; (with_reducible refine (filter_parser_blanks.calls k g s0_0 s0_1 s0_2 t118 t119 t120 w0 _ ?side1 ?side2 A3.out).mono ?_); (case side1 => repeat (first | (with_reducible first | exact HI0.out | apply IsS74.alloc | apply IsS74.drewN | apply IsS74.drew | apply IsS74.set_0 | apply IsS74.set_1 | apply IsS74.set_2) | exact HI0.out)); (case side2 => repeat (first | (with_reducible first | exact HB.out | apply below_alloc | apply pw_below_drewN | apply below_drew1 | refine below_set ?_ (IsS74.ge HI0.out)) | exact HB.out)); rintro e w11 ⟨rfl, hi, hb, hk⟩; have n0_ := Aside0.mk (KeepBut.trans (by repeat (first | (with_reducible first | exact HK.out | apply KeepBut.set_ | apply keep_drewN | apply keep_drew | apply keep_alloc) | exact HK.out)) hk (.inl rfl)); have n1_ := Aside0.mk (hb); have n2_ := Aside0.mk (hi); clear HK; clear HB; clear HI0; have HK := n0_; have HB := n1_; have HI0 := n2_; clear n0_ n1_ n2_; (try clear hb); (try clear hb2); (try clear hk); (try clear hi); obtain ⟨HGz12, hgz12⟩ := HI0.out; have hcz12_0 := cellS74_0 HGz12; have hcz12_1 := cellS74_1 HGz12; have hcz12_2 := cellS74_2 HGz12; have hfz12_0 := blk_frozen HGz12 0; have hfz12_1 := blk_frozen HGz12 1; have hfz12_2 := blk_frozen HGz12 2; clear HGz12 hgz12) | (go_at_call 36; (with_reducible refine (filter_parser_stop.calls g t118 t119 t120 t119 t124 t125 t126 w0 _ ?side1 ?side2 A10.out).mono ?_); (case side1 => repeat (first | (with_reducible first | exact HI0.out | apply IsS74.alloc | apply IsS74.drewN | apply IsS74.drew | apply IsS74.set_0 | apply IsS74.set_1 | apply IsS74.set_2) | exact HI0.out)); (case side2 => repeat (first | (with_reducible first | exact HB.out | apply below_alloc | apply pw_below_drewN | apply below_drew1 | refine below_set ?_ (IsS74.ge HI0.out)) | exact HB.out)); rintro e w13 ⟨rfl, hi, hb, hk⟩; have n0_ := Aside0.mk (KeepBut.trans (by repeat (first | (with_reducible first | exact HK.out | apply KeepBut.set_ | apply keep_drewN | apply keep_drew | apply keep_alloc) | exact HK.out)) hk (.inl rfl)); have n1_ := Aside0.mk (hb); have n2_ := Aside0.mk (hi); clear HK; clear HB; clear HI0; have HK := n0_; have HB := n1_; have HI0 := n2_; clear n0_ n1_ n2_; (try clear hb); (try clear hb2); (try clear hk); (try clear hi)))
      repeat (go_quiet (first | (go_at_call 34; (with_reducible refine (filter_parser_blanks.calls k g s0_0 s0_1 s0_2 t118 t119 t120 w0 _ ?side1 ?side2 A3.out).mono ?_); (case side1 => repeat (first | (with_reducible first | exact HI0.out | apply IsS74.alloc | apply IsS74.drewN | apply IsS74.drew | apply IsS74.set_0 | apply IsS74.set_1 | apply IsS74.set_2) | exact HI0.out)); (case side2 => repeat (first | (with_reducible first | exact HB.out | apply below_alloc | apply pw_below_drewN | apply below_drew1 | refine below_set ?_ (IsS74.ge HI0.out)) | exact HB.out)); rintro e w11 ⟨rfl, hi, hb, hk⟩; have n0_ := Aside0.mk (KeepBut.trans (by repeat (first | (with_reducible first | exact HK.out | apply KeepBut.set_ | apply keep_drewN | apply keep_drew | apply keep_alloc) | exact HK.out)) hk (.inl rfl)); have n1_ := Aside0.mk (hb); have n2_ := Aside0.mk (hi); clear HK; clear HB; clear HI0; have HK := n0_; have HB := n1_; have HI0 := n2_; clear n0_ n1_ n2_; (try clear hb); (try clear hb2); (try clear hk); (try clear hi); obtain ⟨HGz12, hgz12⟩ := HI0.out; have hcz12_0 := cellS74_0 HGz12; have hcz12_1 := cellS74_1 HGz12; have hcz12_2 := cellS74_2 HGz12; have hfz12_0 := blk_frozen HGz12 0; have hfz12_1 := blk_frozen HGz12 1; have hfz12_2 := blk_frozen HGz12 2; clear HGz12 hgz12) | (go_at_call 36; (with_reducible refine (filter_parser_stop.calls g t118 t119 t120 t119 t124 t125 t126 w0 _ ?side1 ?side2 A10.out).mono ?_); (case side1 => repeat (first | (with_reducible first | exact HI0.out | apply IsS74.alloc | apply IsS74.drewN | apply IsS74.drew | apply IsS74.set_0 | apply IsS74.set_1 | apply IsS74.set_2) | exact HI0.out)); (case side2 => repeat (first | (with_reducible first | exact HB.out | apply below_alloc | apply pw_below_drewN | apply below_drew1 | refine below_set ?_ (IsS74.ge HI0.out)) | exact HB.out)); rintro e w13 ⟨rfl, hi, hb, hk⟩; have n0_ := Aside0.mk (KeepBut.trans (by repeat (first | (with_reducible first | exact HK.out | apply KeepBut.set_ | apply keep_drewN | apply keep_drew | apply keep_alloc) | exact HK.out)) hk (.inl rfl)); have n1_ := Aside0.mk (hb); have n2_ := Aside0.mk (hi); clear HK; clear HB; clear HI0; have HK := n0_; have HB := n1_; have HI0 := n2_; clear n0_ n1_ n2_; (try clear hb); (try clear hb2); (try clear hk); (try clear hi))); try go_wp2_with (first | (go_at_call 34; (with_reducible refine (filter_parser_blanks.calls k g s0_0 s0_1 s0_2 t118 t119 t120 w0 _ ?side1 ?side2 A3.out).mono ?_); (case side1 => repeat (first | (with_reducible first | exact HI0.out | apply IsS74.alloc | apply IsS74.drewN | apply IsS74.drew | apply IsS74.set_0 | apply IsS74.set_1 | apply IsS74.set_2) | exact HI0.out)); (case side2 => repeat (first | (with_reducible first | exact HB.out | apply below_alloc | apply pw_below_drewN | apply below_drew1 | refine below_set ?_ (IsS74.ge HI0.out)) | exact HB.out)); rintro e w11 ⟨rfl, hi, hb, hk⟩; have n0_ := Aside0.mk (KeepBut.trans (by repeat (first | (with_reducible first | exact HK.out | apply KeepBut.set_ | apply keep_drewN | apply keep_drew | apply keep_alloc) | exact HK.out)) hk (.inl rfl)); have n1_ := Aside0.mk (hb); have n2_ := Aside0.mk (hi); clear HK; clear HB; clear HI0; have HK := n0_; have HB := n1_; have HI0 := n2_; clear n0_ n1_ n2_; (try clear hb); (try clear hb2); (try clear hk); (try clear hi); obtain ⟨HGz12, hgz12⟩ := HI0.out; have hcz12_0 := cellS74_0 HGz12; have hcz12_1 := cellS74_1 HGz12; have hcz12_2 := cellS74_2 HGz12; have hfz12_0 := blk_frozen HGz12 0; have hfz12_1 := blk_frozen HGz12 1; have hfz12_2 := blk_frozen HGz12 2; clear HGz12 hgz12) | (go_at_call 36; (with_reducible refine (filter_parser_stop.calls g t118 t119 t120 t119 t124 t125 t126 w0 _ ?side1 ?side2 A10.out).mono ?_); (case side1 => repeat (first | (with_reducible first | exact HI0.out | apply IsS74.alloc | apply IsS74.drewN | apply IsS74.drew | apply IsS74.set_0 | apply IsS74.set_1 | apply IsS74.set_2) | exact HI0.out)); (case side2 => repeat (first | (with_reducible first | exact HB.out | apply below_alloc | apply pw_below_drewN | apply below_drew1 | refine below_set ?_ (IsS74.ge HI0.out)) | exact HB.out)); rintro e w13 ⟨rfl, hi, hb, hk⟩; have n0_ := Aside0.mk (KeepBut.trans (by repeat (first | (with_reducible first | exact HK.out | apply KeepBut.set_ | apply keep_drewN | apply keep_drew | apply keep_alloc) | exact HK.out)) hk (.inl rfl)); have n1_ := Aside0.mk (hb); have n2_ := Aside0.mk (hi); clear HK; clear HB; clear HI0; have HK := n0_; have HB := n1_; have HI0 := n2_; clear n0_ n1_ n2_; (try clear hb); (try clear hb2); (try clear hk); (try clear hi))))
      first | go_end0 | ((try simp only [Exit.inBlock, Exit.then]); refine bodyPost_ret (results_none rfl _ _ _) rfl ?_)
      exact ⟨by first | rfl | (simp [errW_none, errW_some] <;> rfl) | (simp [*, errW_none, errW_some] <;> rfl), by repeat (first | (with_reducible first | exact HI0.out | apply IsS74.alloc | apply IsS74.drewN | apply IsS74.drew | apply IsS74.set_0 | apply IsS74.set_1 | apply IsS74.set_2) | exact HI0.out), by repeat (first | (with_reducible first | exact HB.out | apply below_alloc | apply pw_below_drewN | apply below_drew1 | refine below_set ?_ (IsS74.ge HI0.out)) | exact HB.out), by repeat (first | (with_reducible first | exact HK.out | apply KeepBut.set_ | apply keep_drewN | apply keep_drew | apply keep_alloc) | exact HK.out)⟩
    · rw [if_neg c9] at H
      have c9b0 : decide ((wrap64 ((t118.size : Int) - t119)) < (a1.size : Int)) = false := decide_eq_false c9
      clear c9
      by_cases c14 : 0 ≤ t119
      · rw [if_pos c14] at H
        have c14b0 := eq_true c14
        have c14b1 : decide (0 ≤ t119) = true := decide_eq_true c14
        clear c14
        by_cases c15 : t119 ≤ (wrap64 (t119 + (a1.size : Int)))
        · rw [if_pos c15] at H
          have c15b0 := eq_true c15
          have c15b1 : decide (t119 ≤ (wrap64 (t119 + (a1.size : Int)))) = true := decide_eq_true c15
          by_cases c16 : (wrap64 (t119 + (a1.size : Int))) ≤ (t118.size : Int)
          · rw [if_pos c16] at H
            have c16b0 := eq_true c16
            have c16b1 : decide ((wrap64 (t119 + (a1.size : Int))) ≤ (t118.size : Int)) = true := decide_eq_true c16
            by_cases c17 : (t118.extract (t119 : Int).toNat ((wrap64 (t119 + (a1.size : Int))) : Int).toNat).toList = a1.toList
            · rw [if_pos c17] at H
              have c17b0 : ((t118.extract (t119 : Int).toNat ((wrap64 (t119 + (a1.size : Int))) : Int).toNat).toList == a1.toList) = true := beq_iff_eq.mpr c17
              have c17b1 : ((t118.extract (t119 : Int).toNat ((wrap64 (t119 + (a1.size : Int))) : Int).toNat).toList != a1.toList) = false := bne_eq_false_iff_eq.mpr c17
              clear c17
              simp only [Option.some.injEq, Prod.mk.injEq] at H
              obtain ⟨rfl, rfl, rfl⟩ := H
              go_enter Tryd.func62, Tryd.ntmps62
              go_wp2_with (first | (go_at_call 34; (with_reducible refine (filter_parser_blanks.calls k g s0_0 s0_1 s0_2 t118 t119 t120 w0 _ ?side1 ?side2 A3.out).mono ?_); (case side1 => repeat (first | (with_reducible first | exact HI0.out | apply IsS74.alloc | apply IsS74.drewN | apply IsS74.drew | apply IsS74.set_0 | apply IsS74.set_1 | apply IsS74.set_2) | exact HI0.out)); (case side2 => repeat (first | (with_reducible first | exact HB.out | apply below_alloc | apply pw_below_drewN | apply below_drew1 | refine below_set ?_ (IsS74.ge HI0.out)) | exact HB.out)); rintro e w18 ⟨rfl, hi, hb, hk⟩; have n0_ := Aside0.mk (KeepBut.trans (by repeat (first | (with_reducible first | exact HK.out | apply KeepBut.set_ | apply keep_drewN | apply keep_drew | apply keep_alloc) | exact HK.out)) hk (.inl rfl)); have n1_ := Aside0.mk (hb); have n2_ := Aside0.mk (hi); clear HK; clear HB; clear HI0; have HK := n0_; have HB := n1_; have HI0 := n2_; clear n0_ n1_ n2_; (try clear hb); (try clear hb2); (try clear hk); (try clear hi); obtain ⟨HGz19, hgz19⟩ := HI0.out; have hcz19_0 := cellS74_0 HGz19; have hcz19_1 := cellS74_1 HGz19; have hcz19_2 := cellS74_2 HGz19; have hfz19_0 := blk_frozen HGz19 0; have hfz19_1 := blk_frozen HGz19 1; have hfz19_2 := blk_frozen HGz19 2; clear HGz19 hgz19))
              repeat (go_quiet (first | (go_at_call 34; (with_reducible refine (filter_parser_blanks.calls k g s0_0 s0_1 s0_2 t118 t119 t120 w0 _ ?side1 ?side2 A3.out).mono ?_); (case side1 => repeat (first | (with_reducible first | exact HI0.out | apply IsS74.alloc | apply IsS74.drewN | apply IsS74.drew | apply IsS74.set_0 | apply IsS74.set_1 | apply IsS74.set_2) | exact HI0.out)); (case side2 => repeat (first | (with_reducible first | exact HB.out | apply below_alloc | apply pw_below_drewN | apply below_drew1 | refine below_set ?_ (IsS74.ge HI0.out)) | exact HB.out)); rintro e w18 ⟨rfl, hi, hb, hk⟩; have n0_ := Aside0.mk (KeepBut.trans (by repeat (first | (with_reducible first | exact HK.out | apply KeepBut.set_ | apply keep_drewN | apply keep_drew | apply keep_alloc) | exact HK.out)) hk (.inl rfl)); have n1_ := Aside0.mk (hb); have n2_ := Aside0.mk (hi); clear HK; clear HB; clear HI0; have HK := n0_; have HB := n1_; have HI0 := n2_; clear n0_ n1_ n2_; (try clear hb); (try clear hb2); (try clear hk); (try clear hi); obtain ⟨HGz19, hgz19⟩ := HI0.out; have hcz19_0 := cellS74_0 HGz19; have hcz19_1 := cellS74_1 HGz19; have hcz19_2 := cellS74_2 HGz19; have hfz19_0 := blk_frozen HGz19 0; have hfz19_1 := blk_frozen HGz19 1; have hfz19_2 := blk_frozen HGz19 2; clear HGz19 hgz19)); try go_wp2_with (first | (go_at_call 34; (with_reducible refine (filter_parser_blanks.calls k g s0_0 s0_1 s0_2 t118 t119 t120 w0 _ ?side1 ?side2 A3.out).mono ?_); (case side1 => repeat (first | (with_reducible first | exact HI0.out | apply IsS74.alloc | apply IsS74.drewN | apply IsS74.drew | apply IsS74.set_0 | apply IsS74.set_1 | apply IsS74.set_2) | exact HI0.out)); (case side2 => repeat (first | (with_reducible first | exact HB.out | apply below_alloc | apply pw_below_drewN | apply below_drew1 | refine below_set ?_ (IsS74.ge HI0.out)) | exact HB.out)); rintro e w18 ⟨rfl, hi, hb, hk⟩; have n0_ := Aside0.mk (KeepBut.trans (by repeat (first | (with_reducible first | exact HK.out | apply KeepBut.set_ | apply keep_drewN | apply keep_drew | apply keep_alloc) | exact HK.out)) hk (.inl rfl)); have n1_ := Aside0.mk (hb); have n2_ := Aside0.mk (hi); clear HK; clear HB; clear HI0; have HK := n0_; have HB := n1_; have HI0 := n2_; clear n0_ n1_ n2_; (try clear hb); (try clear hb2); (try clear hk); (try clear hi); obtain ⟨HGz19, hgz19⟩ := HI0.out; have hcz19_0 := cellS74_0 HGz19; have hcz19_1 := cellS74_1 HGz19; have hcz19_2 := cellS74_2 HGz19; have hfz19_0 := blk_frozen HGz19 0; have hfz19_1 := blk_frozen HGz19 1; have hfz19_2 := blk_frozen HGz19 2; clear HGz19 hgz19)))
              first | go_end0 | ((try simp only [Exit.inBlock, Exit.then]); refine bodyPost_ret (results_none rfl _ _ _) rfl ?_)
              exact ⟨by first | rfl | (simp [errW_none, errW_some] <;> rfl) | (simp [*, errW_none, errW_some] <;> rfl), by repeat (first | (with_reducible first | exact HI0.out | apply IsS74.alloc | apply IsS74.drewN | apply IsS74.drew | apply IsS74.set_0 | apply IsS74.set_1 | apply IsS74.set_2) | exact HI0.out), by repeat (first | (with_reducible first | exact HB.out | apply below_alloc | apply pw_below_drewN | apply below_drew1 | refine below_set ?_ (IsS74.ge HI0.out)) | exact HB.out), by repeat (first | (with_reducible first | exact HK.out | apply KeepBut.set_ | apply keep_drewN | apply keep_drew | apply keep_alloc) | exact HK.out)⟩
            · rw [if_neg c17] at H
              have c17b0 : ((t118.extract (t119 : Int).toNat ((wrap64 (t119 + (a1.size : Int))) : Int).toNat).toList == a1.toList) = false := beq_eq_false_iff_ne.mpr c17
              have c17b1 : ((t118.extract (t119 : Int).toNat ((wrap64 (t119 + (a1.size : Int))) : Int).toNat).toList != a1.toList) = true := bne_iff_ne.mpr c17
              replace H := Option.bind_eq_some_iff.mp H
              obtain ⟨⟨t127, t128, t129⟩, A200, H⟩ := H
              replace H : (some (t127, t128, t129)) = some (r1, r2, r3) := H
              have A20 := Aside0.mk A200
              clear A200
              simp only [Option.some.injEq, Prod.mk.injEq] at H
              obtain ⟨rfl, rfl, rfl⟩ := H
              go_enter Tryd.func62, Tryd.ntmps62
              go_wp2_with (first | (go_at_call 34; (with_reducible refine (filter_parser_blanks.calls k g s0_0 s0_1 s0_2 t118 t119 t120 w0 _ ?side1 ?side2 A3.out).mono ?_); (case side1 => repeat (first | (with_reducible first | exact HI0.out | apply IsS74.alloc | apply IsS74.drewN | apply IsS74.drew | apply IsS74.set_0 | apply IsS74.set_1 | apply IsS74.set_2) | exact HI0.out)); (case side2 => repeat (first | (with_reducible first | exact HB.out | apply below_alloc | apply pw_below_drewN | apply below_drew1 | refine below_set ?_ (IsS74.ge HI0.out)) | exact HB.out)); rintro e w21 ⟨rfl, hi, hb, hk⟩; have n0_ := Aside0.mk (KeepBut.trans (by repeat (first | (with_reducible first | exact HK.out | apply KeepBut.set_ | apply keep_drewN | apply keep_drew | apply keep_alloc) | exact HK.out)) hk (.inl rfl)); have n1_ := Aside0.mk (hb); have n2_ := Aside0.mk (hi); clear HK; clear HB; clear HI0; have HK := n0_; have HB := n1_; have HI0 := n2_; clear n0_ n1_ n2_; (try clear hb); (try clear hb2); (try clear hk); (try clear hi); obtain ⟨HGz22, hgz22⟩ := HI0.out; have hcz22_0 := cellS74_0 HGz22; have hcz22_1 := cellS74_1 HGz22; have hcz22_2 := cellS74_2 HGz22; have hfz22_0 := blk_frozen HGz22 0; have hfz22_1 := blk_frozen HGz22 1; have hfz22_2 := blk_frozen HGz22 2; clear HGz22 hgz22) | (go_at_call 36; (with_reducible refine (filter_parser_stop.calls g t118 t119 t120 t119 t127 t128 t129 w0 _ ?side1 ?side2 A20.out).mono ?_); (case side1 => repeat (first | (with_reducible first | exact HI0.out | apply IsS74.alloc | apply IsS74.drewN | apply IsS74.drew | apply IsS74.set_0 | apply IsS74.set_1 | apply IsS74.set_2) | exact HI0.out)); (case side2 => repeat (first | (with_reducible first | exact HB.out | apply below_alloc | apply pw_below_drewN | apply below_drew1 | refine below_set ?_ (IsS74.ge HI0.out)) | exact HB.out)); rintro e w23 ⟨rfl, hi, hb, hk⟩; have n0_ := Aside0.mk (KeepBut.trans (by repeat (first | (with_reducible first | exact HK.out | apply KeepBut.set_ | apply keep_drewN | apply keep_drew | apply keep_alloc) | exact HK.out)) hk (.inl rfl)); have n1_ := Aside0.mk (hb); have n2_ := Aside0.mk (hi); clear HK; clear HB; clear HI0; have HK := n0_; have HB := n1_; have HI0 := n2_; clear n0_ n1_ n2_; (try clear hb); (try clear hb2); (try clear hk); (try clear hi)))
              repeat (go_quiet (first | (go_at_call 34; (with_reducible refine (filter_parser_blanks.calls k g s0_0 s0_1 s0_2 t118 t119 t120 w0 _ ?side1 ?side2 A3.out).mono ?_); (case side1 => repeat (first | (with_reducible first | exact HI0.out | apply IsS74.alloc | apply IsS74.drewN | apply IsS74.drew | apply IsS74.set_0 | apply IsS74.set_1 | apply IsS74.set_2) | exact HI0.out)); (case side2 => repeat (first | (with_reducible first | exact HB.out | apply below_alloc | apply pw_below_drewN | apply below_drew1 | refine below_set ?_ (IsS74.ge HI0.out)) | exact HB.out)); rintro e w21 ⟨rfl, hi, hb, hk⟩; have n0_ := Aside0.mk (KeepBut.trans (by repeat (first | (with_reducible first | exact HK.out | apply KeepBut.set_ | apply keep_drewN | apply keep_drew | apply keep_alloc) | exact HK.out)) hk (.inl rfl)); have n1_ := Aside0.mk (hb); have n2_ := Aside0.mk (hi); clear HK; clear HB; clear HI0; have HK := n0_; have HB := n1_; have HI0 := n2_; clear n0_ n1_ n2_; (try clear hb); (try clear hb2); (try clear hk); (try clear hi); obtain ⟨HGz22, hgz22⟩ := HI0.out; have hcz22_0 := cellS74_0 HGz22; have hcz22_1 := cellS74_1 HGz22; have hcz22_2 := cellS74_2 HGz22; have hfz22_0 := blk_frozen HGz22 0; have hfz22_1 := blk_frozen HGz22 1; have hfz22_2 := blk_frozen HGz22 2; clear HGz22 hgz22) | (go_at_call 36; (with_reducible refine (filter_parser_stop.calls g t118 t119 t120 t119 t127 t128 t129 w0 _ ?side1 ?side2 A20.out).mono ?_); (case side1 => repeat (first | (with_reducible first | exact HI0.out | apply IsS74.alloc | apply IsS74.drewN | apply IsS74.drew | apply IsS74.set_0 | apply IsS74.set_1 | apply IsS74.set_2) | exact HI0.out)); (case side2 => repeat (first | (with_reducible first | exact HB.out | apply below_alloc | apply pw_below_drewN | apply below_drew1 | refine below_set ?_ (IsS74.ge HI0.out)) | exact HB.out)); rintro e w23 ⟨rfl, hi, hb, hk⟩; have n0_ := Aside0.mk (KeepBut.trans (by repeat (first | (with_reducible first | exact HK.out | apply KeepBut.set_ | apply keep_drewN | apply keep_drew | apply keep_alloc) | exact HK.out)) hk (.inl rfl)); have n1_ := Aside0.mk (hb); have n2_ := Aside0.mk (hi); clear HK; clear HB; clear HI0; have HK := n0_; have HB := n1_; have HI0 := n2_; clear n0_ n1_ n2_; (try clear hb); (try clear hb2); (try clear hk); (try clear hi))); try go_wp2_with (first | (go_at_call 34; (with_reducible refine (filter_parser_blanks.calls k g s0_0 s0_1 s0_2 t118 t119 t120 w0 _ ?side1 ?side2 A3.out).mono ?_); (case side1 => repeat (first | (with_reducible first | exact HI0.out | apply IsS74.alloc | apply IsS74.drewN | apply IsS74.drew | apply IsS74.set_0 | apply IsS74.set_1 | apply IsS74.set_2) | exact HI0.out)); (case side2 => repeat (first | (with_reducible first | exact HB.out | apply below_alloc | apply pw_below_drewN | apply below_drew1 | refine below_set ?_ (IsS74.ge HI0.out)) | exact HB.out)); rintro e w21 ⟨rfl, hi, hb, hk⟩; have n0_ := Aside0.mk (KeepBut.trans (by repeat (first | (with_reducible first | exact HK.out | apply KeepBut.set_ | apply keep_drewN | apply keep_drew | apply keep_alloc) | exact HK.out)) hk (.inl rfl)); have n1_ := Aside0.mk (hb); have n2_ := Aside0.mk (hi); clear HK; clear HB; clear HI0; have HK := n0_; have HB := n1_; have HI0 := n2_; clear n0_ n1_ n2_; (try clear hb); (try clear hb2); (try clear hk); (try clear hi); obtain ⟨HGz22, hgz22⟩ := HI0.out; have hcz22_0 := cellS74_0 HGz22; have hcz22_1 := cellS74_1 HGz22; have hcz22_2 := cellS74_2 HGz22; have hfz22_0 := blk_frozen HGz22 0; have hfz22_1 := blk_frozen HGz22 1; have hfz22_2 := blk_frozen HGz22 2; clear HGz22 hgz22) | (go_at_call 36; (with_reducible refine (filter_parser_stop.calls g t118 t119 t120 t119 t127 t128 t129 w0 _ ?side1 ?side2 A20.out).mono ?_); (case side1 => repeat (first | (with_reducible first | exact HI0.out | apply IsS74.alloc | apply IsS74.drewN | apply IsS74.drew | apply IsS74.set_0 | apply IsS74.set_1 | apply IsS74.set_2) | exact HI0.out)); (case side2 => repeat (first | (with_reducible first | exact HB.out | apply below_alloc | apply pw_below_drewN | apply below_drew1 | refine below_set ?_ (IsS74.ge HI0.out)) | exact HB.out)); rintro e w23 ⟨rfl, hi, hb, hk⟩; have n0_ := Aside0.mk (KeepBut.trans (by repeat (first | (with_reducible first | exact HK.out | apply KeepBut.set_ | apply keep_drewN | apply keep_drew | apply keep_alloc) | exact HK.out)) hk (.inl rfl)); have n1_ := Aside0.mk (hb); have n2_ := Aside0.mk (hi); clear HK; clear HB; clear HI0; have HK := n0_; have HB := n1_; have HI0 := n2_; clear n0_ n1_ n2_; (try clear hb); (try clear hb2); (try clear hk); (try clear hi))))
              first | go_end0 | ((try simp only [Exit.inBlock, Exit.then]); refine bodyPost_ret (results_none rfl _ _ _) rfl ?_)
              exact ⟨by first | rfl | (simp [errW_none, errW_some] <;> rfl) | (simp [*, errW_none, errW_some] <;> rfl), by repeat (first | (with_reducible first | exact HI0.out | apply IsS74.alloc | apply IsS74.drewN | apply IsS74.drew | apply IsS74.set_0 | apply IsS74.set_1 | apply IsS74.set_2) | exact HI0.out), by repeat (first | (with_reducible first | exact HB.out | apply below_alloc | apply pw_below_drewN | apply below_drew1 | refine below_set ?_ (IsS74.ge HI0.out)) | exact HB.out), by repeat (first | (with_reducible first | exact HK.out | apply KeepBut.set_ | apply keep_drewN | apply keep_drew | apply keep_alloc) | exact HK.out)⟩
          · rw [if_neg c16] at H
            exact absurd H (by simp)
        · rw [if_neg c15] at H
          exact absurd H (by simp)
      · rw [if_neg c14] at H
        exact absurd H (by simp)

end Go.Proofs.YthaapijjjgkacaaDoor.PFilterReads
end
section
/-
  Contracts of the filter parser's letter, digit and word. Conditions: the parser's block as IsS74 has it, the text at most 1000 bytes.
-/
namespace Go.Proofs.YthaapijjjgkacaaDoor.Mine
open Go.RowKit Go.Proofs.YthaapijjjgkacaaDoorW.PrintWords Go.Proofs.YthaapijjjgkacaaDoorW.PrintLast Go.Proofs.YthaapijjjgkacaaDoorW.PrintMore
open Go.Proofs.YthaapijjjgkacaaDoor.PFilterReads

def isLet (c : Int) : Bool := decide (97 ≤ c ∧ c ≤ 122)
def isDig (c : Int) : Bool := decide (48 ≤ c ∧ c ≤ 57)
/-- may the byte at 'at_' be one of a word's that begins at 'frm'? -/
def wordOk (s : ByteArray) (frm at_ : Nat) : Bool := isLet (bt s at_) || (decide (frm < at_) && isDig (bt s at_))
def wordGo (s : ByteArray) (frm : Nat) : Nat → Nat → Nat
  | 0, at_ => at_
  | k + 1, at_ => if at_ < s.size ∧ wordOk s frm at_ = true then wordGo s frm k (at_ + 1) else at_

theorem letter_any (c : Int) (w : World) : Calls Tryd.prog 65 #[.int .u8 c] w fun e w' => e = .returned (.bool (isLet c)) ∧ w' = w := by
  by_cases h1 : 97 ≤ c
  · go_enter Tryd.func65, Tryd.ntmps65
    go_wp2
    go_ret
    exact ⟨by simp [isLet, h1], rfl⟩
  · go_enter Tryd.func65, Tryd.ntmps65
    go_wp2
    go_ret
    exact ⟨by simp [isLet]; omega, rfl⟩
theorem digit_any (c : Int) (w : World) : Calls Tryd.prog 66 #[.int .u8 c] w fun e w' => e = .returned (.bool (isDig c)) ∧ w' = w := by
  by_cases h1 : 48 ≤ c
  · go_enter Tryd.func66, Tryd.ntmps66
    go_wp2
    go_ret
    exact ⟨by simp [isDig, h1], rfl⟩
  · go_enter Tryd.func66, Tryd.ntmps66
    go_wp2
    go_ret
    exact ⟨by simp [isDig]; omega, rfl⟩
theorem letter_is (c : Int) (b : Bool) (w : World) (h : isLet c = b) : Calls Tryd.prog 65 #[.int .u8 c] w fun e w' => e = .returned (.bool b) ∧ w' = w := by subst h; exact letter_any c w
theorem digit_is (c : Int) (b : Bool) (w : World) (h : isDig c = b) : Calls Tryd.prog 66 #[.int .u8 c] w fun e w' => e = .returned (.bool b) ∧ w' = w := by subst h; exact digit_any c w

/-- What 'word' leaves, at a place 'en' behind 'frm'. -/
def WordPost (w0 w : World) (g : Nat) (s : ByteArray) (frm : Nat) (e : Ending) (w' : World) : Prop :=
  ∃ en : Nat, wordGo s frm (s.size - frm) frm = en ∧ e = .returned (.string (s.extract frm en)) ∧ IsS74 w0 w' g s en (if en = frm then (frm : Int) else -1) ∧ Below w0.heap.size w0 w' ∧ KeepBut w w' g none

set_option maxHeartbeats 2000000 in
set_option maxRecDepth 100000 in
theorem word_calls (k : Nat) (g : Nat) (s : ByteArray) (at0 : Nat) (frm : Nat) (w0 w : World) (hI : IsS74 w0 w g s at0 (-1)) (hB : Below w0.heap.size w0 w) (hs : s.size ≤ 1000)
    (hbl : filter_parser_blanks.f k s at0 (-1) = some (s, (frm : Int), -1)) (hf : frm ≤ s.size) :
    Calls Tryd.prog 35 #[.pointer (some ⟨g, 0, none⟩)] w (WordPost w0 w g s frm) := by
  go_enter Tryd.func35, Tryd.ntmps35
  go_wp2_with (go_at_call 34; (with_reducible refine (filter_parser_blanks.calls k g s at0 (-1) s frm (-1) w0 _ ?side1 ?side2 hbl).mono ?_); (case side1 => exact hI); (case side2 => exact hB); rintro e w1 ⟨rfl, hi, hb, hk⟩; have HI := Aside0.mk hi; have HB := Aside0.mk hb; have HK := Aside0.mk hk; have hc0 := cellS74_0 hi.1; have hc1 := cellS74_1 hi.1; clear hi hb hk)
  clear hc0 hc1
  have HS := Aside0.mk hs
  clear hI hB hbl
  go_loopg [] (s.size - frm) (fun n wr => ∃ at_ : Nat, Aside0 (frm ≤ at_ ∧ at_ + n = s.size ∧ wordGo s frm n at_ = wordGo s frm (s.size - frm) frm) ∧ Aside0 (IsS74 w0 wr g s at_ (-1)) ∧ Aside0 (KeepBut w wr g none) ∧ Aside0 (Below w0.heap.size w0 wr))
  case atStart => exact ⟨frm, ⟨Nat.le_refl _, by omega, rfl⟩, HI, HK, HB⟩
  case round =>
    clear HI HK HB
    obtain ⟨at_, HA, HI, HK, HB⟩ := hrel
    obtain ⟨HG, hg⟩ := HI.out
    have hc0 := cellS74_0 HG
    have hc1 := cellS74_1 HG
    have hc2 := cellS74_2 HG
    have hf0 := blk_frozen HG 0
    have hf1 := blk_frozen HG 1
    have hf2 := blk_frozen HG 2
    clear HG hg
    have hlb : at_ ≤ s.size := by have := HA.out; omega
    have hfa : frm ≤ at_ := HA.out.1
    by_cases hlt : at_ < s.size
    · have q1 : ((at_ : Int) < (s.size : Int)) := by omega
      have q2 := eq_true (show (0 : Int) ≤ (at_ : Int) by omega)
      have q3 := decide_eq_true q1
      replace q1 := eq_true q1
      have hx : ∀ h : at_ < s.size, ((s[at_]'h).toNat : Int) = bt s (at_ : Int) := fun h => by simp [bt, h]
      have hw : wordGo s frm (s.size - at_) at_ = if wordOk s frm at_ = true then wordGo s frm (s.size - (at_ + 1)) (at_ + 1) else at_ := by
        obtain ⟨m, hm⟩ : ∃ m, s.size - at_ = m + 1 := ⟨s.size - at_ - 1, by omega⟩
        rw [hm, show s.size - (at_ + 1) = m by omega]
        simp [wordGo, hlt]
      have HW := Aside0.mk hw
      clear hw
      by_cases h1 : isLet (bt s at_) = true
      · have HO := Aside0.mk (show wordOk s frm at_ = true by simp [wordOk, h1])
        have H1 := Aside0.mk h1
        clear h1
        go_wp2_with fail
        go_quiet (first | (go_at_call 65; refine Calls.quiet_of_same (letter_is _ true _ H1.out)))
        go_wp2
        go_roundg (s.size - (at_ + 1))
        case measure => have := HA.out; omega
        case rel => exact ⟨at_ + 1, ⟨by have := HA.out; omega, by have := HA.out; omega, by have h2 := HW.out; rw [if_pos HO.out] at h2; have h3 := HA.out; rw [show gk = s.size - at_ by omega] at h3; exact h2.symm.trans h3.2.2⟩, ⟨by rw [show ((at_ + 1 : Nat) : Int) = (at_ : Int) + 1 by omega]; exact IsS74.set_1 (IsS74.drewN HI.out _) _⟩, ⟨KeepBut.set_ (keep_drewN HK.out _) _ _⟩, ⟨below_set (pw_below_drewN HB.out _) (IsS74.ge HI.out)⟩⟩
      · replace h1 : isLet (bt s at_) = false := by simpa using h1
        by_cases h2 : frm < at_
        · have g1 := decide_eq_true (show (frm : Int) < (at_ : Int) by omega)
          have g2 := eq_true (show (frm : Int) < (at_ : Int) by omega)
          cases h3 : isDig (bt s at_) with
          | true =>
            have HO := Aside0.mk (show wordOk s frm at_ = true by simp [wordOk, h2, h3])
            have H1 := Aside0.mk h1
            have H3 := Aside0.mk h3
            clear h1 h3
            go_wp2_with fail
            go_quiet (first | (go_at_call 65; refine Calls.quiet_of_same (letter_is _ false _ H1.out)) | (go_at_call 66; refine Calls.quiet_of_same (digit_is _ true _ H3.out)))
            go_wp2
            go_roundg (s.size - (at_ + 1))
            case measure => have := HA.out; omega
            case rel => exact ⟨at_ + 1, ⟨by have := HA.out; omega, by have := HA.out; omega, by have h2 := HW.out; rw [if_pos HO.out] at h2; have h3 := HA.out; rw [show gk = s.size - at_ by omega] at h3; exact h2.symm.trans h3.2.2⟩, ⟨by rw [show ((at_ + 1 : Nat) : Int) = (at_ : Int) + 1 by omega]; exact IsS74.set_1 (IsS74.drewN HI.out _) _⟩, ⟨KeepBut.set_ (keep_drewN HK.out _) _ _⟩, ⟨below_set (pw_below_drewN HB.out _) (IsS74.ge HI.out)⟩⟩
          | false =>
            have HO := Aside0.mk (show wordOk s frm at_ = false by simp [wordOk, h1, h3])
            have H1 := Aside0.mk h1
            have H3 := Aside0.mk h3
            clear h1 h3
            have HE := Aside0.mk (show wordGo s frm (s.size - frm) frm = at_ by have h3 := HA.out; rw [← h3.2.2, show gk = s.size - at_ by omega]; rw [HW.out, if_neg (by rw [HO.out]; exact Bool.false_ne_true)])
            go_wp2_with fail
            go_quiet (first | (go_at_call 65; refine Calls.quiet_of_same (letter_is _ false _ H1.out)) | (go_at_call 66; refine Calls.quiet_of_same (digit_is _ false _ H3.out)))
            -- the word ends here, behind its first letter
            have g3 := beq_eq_false_iff_ne.mpr (show (at_ : Int) ≠ (frm : Int) by omega)
            go_wp2
            go_quiet (fail)
            go_wp2
            go_ret
            exact ⟨at_, HE.out, by first | rfl | simp, by rw [if_neg (by omega)]; exact IsS74.drewN (IsS74.drewN HI.out _) _, pw_below_drewN (pw_below_drewN HB.out _) _, keep_drewN (keep_drewN HK.out _) _⟩
        · have g1 := decide_eq_false (show ¬ (frm : Int) < (at_ : Int) by omega)
          have HO := Aside0.mk (show wordOk s frm at_ = false by simp [wordOk, h1, h2])
          have H1 := Aside0.mk h1
          clear h1
          have HE := Aside0.mk (show wordGo s frm (s.size - frm) frm = at_ by have h3 := HA.out; rw [← h3.2.2, show gk = s.size - at_ by omega]; rw [HW.out, if_neg (by rw [HO.out]; exact Bool.false_ne_true)])
          go_wp2_with fail
          go_quiet (first | (go_at_call 65; refine Calls.quiet_of_same (letter_is _ false _ H1.out)))
          -- there is no word here: stop
          obtain rfl : frm = at_ := by omega
          go_wp2_with (go_at_call 36; (with_reducible refine (filter_parser_stop.calls g s frm (-1) frm s frm frm w0 _ ?side1 ?side2 rfl).mono ?_); (case side1 => exact IsS74.drewN HI.out _); (case side2 => exact pw_below_drewN HB.out _); rintro e w2 ⟨rfl, hi, hb, hk⟩; have HI2 := Aside0.mk hi; have HB2 := Aside0.mk hb; have HK2 := Aside0.mk (KeepBut.trans (keep_drewN HK.out _) hk (Or.inl rfl)); have hd0 := cellS74_0 hi.1; have hd1 := cellS74_1 hi.1; have hd2 := cellS74_2 hi.1; clear hi hb hk)
          go_quiet (fail)
          go_wp2
          go_ret
          exact ⟨frm, HE.out, by first | rfl | simp, by rw [if_pos rfl]; exact IsS74.drewN HI2.out _, pw_below_drewN HB2.out _, keep_drewN HK2.out _⟩
    · have q3 := decide_eq_false (show ¬ (at_ : Int) < (s.size : Int) by omega)
      have HE := Aside0.mk (show wordGo s frm (s.size - frm) frm = at_ by have h3 := HA.out; rw [← h3.2.2, show gk = s.size - at_ by omega]; rw [show s.size - at_ = 0 by omega]; rfl)
      by_cases h2 : frm < at_
      · go_wp2_with fail
        go_quiet (fail)
        -- the word ends here, behind its first letter
        have g3 := beq_eq_false_iff_ne.mpr (show (at_ : Int) ≠ (frm : Int) by omega)
        go_wp2
        go_quiet (fail)
        go_wp2
        go_ret
        exact ⟨at_, HE.out, by first | rfl | simp, by rw [if_neg (by omega)]; exact IsS74.drewN (IsS74.drewN HI.out _) _, pw_below_drewN (pw_below_drewN HB.out _) _, keep_drewN (keep_drewN HK.out _) _⟩
      · go_wp2_with fail
        go_quiet (fail)
        -- there is no word here: stop
        obtain rfl : frm = at_ := by omega
        go_wp2_with (go_at_call 36; (with_reducible refine (filter_parser_stop.calls g s frm (-1) frm s frm frm w0 _ ?side1 ?side2 rfl).mono ?_); (case side1 => exact IsS74.drewN HI.out _); (case side2 => exact pw_below_drewN HB.out _); rintro e w2 ⟨rfl, hi, hb, hk⟩; have HI2 := Aside0.mk hi; have HB2 := Aside0.mk hb; have HK2 := Aside0.mk (KeepBut.trans (keep_drewN HK.out _) hk (Or.inl rfl)); have hd0 := cellS74_0 hi.1; have hd1 := cellS74_1 hi.1; have hd2 := cellS74_2 hi.1; clear hi hb hk)
        go_quiet (fail)
        go_wp2
        go_ret
        exact ⟨frm, HE.out, by first | rfl | simp, by rw [if_pos rfl]; exact IsS74.drewN HI2.out _, pw_below_drewN HB2.out _, keep_drewN HK2.out _⟩
end Go.Proofs.YthaapijjjgkacaaDoor.Mine
end
section
/-
  The filter parser as plain functions on lists of bytes: what each of its methods makes of a state (what is left to be read; where it went bad, counted from the end). No program, no memory.
-/
namespace Go.Proofs.YthaapijjjgkacaaDoor.Mine

structure St where
  l : List UInt8
  bad : Option Nat
def skip : List UInt8 → List UInt8
  | [] => []
  | c :: r => if c = 32 then skip r else c :: r
def isL (c : UInt8) : Bool := decide (97 ≤ c ∧ c ≤ 122)
def isD (c : UInt8) : Bool := decide (48 ≤ c ∧ c ≤ 57)
def isA (c : UInt8) : Bool := isL c || isD c
def blanksS (st : St) : St := match st.bad with | some _ => st | none => ⟨skip st.l, none⟩
def stopS (st : St) (n : Nat) : St := match st.bad with | some _ => st | none => ⟨st.l, some n⟩
def wordL : List UInt8 → List UInt8 × St
  | [] => ([], ⟨[], some 0⟩)
  | c :: r => if isL c then (c :: r.takeWhile isA, ⟨r.dropWhile isA, none⟩) else ([], ⟨c :: r, some (r.length + 1)⟩)
def wordS (st : St) : List UInt8 × St := match st.bad with | some _ => ([], st) | none => wordL (skip st.l)
def markL (m l : List UInt8) : St := if m.isPrefixOf l then ⟨l.drop m.length, none⟩ else ⟨l, some l.length⟩
def markS (m : List UInt8) (st : St) : St := match st.bad with | some _ => st | none => markL m (skip st.l)

/-- What stands behind a quote's beginning: the text, or none of it can be read; what is left. -/
def textL : List UInt8 → List UInt8 → Option (List UInt8) × List UInt8
  | [], _ => (none, [])
  | c :: r, acc =>
    if c = 34 then (some acc, r)
    else if c = 92 then
      match r with
      | [] => (none, [])
      | d :: r' => if d = 34 ∨ d = 92 then textL r' (acc ++ [d]) else (none, d :: r')
    else if 32 ≤ c ∧ c ≤ 126 then textL r (acc ++ [c]) else (none, c :: r)
theorem textL_nil (acc : List UInt8) : textL [] acc = (none, []) := by rw [textL.eq_def]
theorem textL_q {c : UInt8} (r acc : List UInt8) (h : c = 34) : textL (c :: r) acc = (some acc, r) := by rw [textL.eq_def]; simp [h]
theorem textL_b0 {c : UInt8} (acc : List UInt8) (h : c = 92) : textL [c] acc = (none, []) := by rw [textL.eq_def]; simp [h]
theorem textL_b1 {c d : UInt8} (r acc : List UInt8) (h : c = 92) (h2 : d = 34 ∨ d = 92) : textL (c :: d :: r) acc = textL r (acc ++ [d]) := by rw [textL.eq_def]; simp [h, h2]
theorem textL_b2 {c d : UInt8} (r acc : List UInt8) (h : c = 92) (h2 : ¬ (d = 34 ∨ d = 92)) : textL (c :: d :: r) acc = (none, d :: r) := by rw [textL.eq_def]; simp [h, h2]
theorem textL_p {c : UInt8} (r acc : List UInt8) (h1 : ¬ c = 34) (h2 : ¬ c = 92) (h : 32 ≤ c ∧ c ≤ 126) : textL (c :: r) acc = textL r (acc ++ [c]) := by rw [textL.eq_def]; simp [h1, h2, h]
theorem textL_n {c : UInt8} (r acc : List UInt8) (h1 : ¬ c = 34) (h2 : ¬ c = 92) (h : ¬ (32 ≤ c ∧ c ≤ 126)) : textL (c :: r) acc = (none, c :: r) := by rw [textL.eq_def]; simp only [h1, h2, h]; simp
def textR : Option (List UInt8) × List UInt8 → List UInt8 × St
  | (some t, r) => (t, ⟨r, none⟩)
  | (none, r) => ([], ⟨r, some r.length⟩)
def textS (st : St) : List UInt8 × St := match (markS [34] st).bad with | some _ => ([], markS [34] st) | none => textR (textL (markS [34] st).l [])

def valD (ds : List UInt8) : Int := ds.foldl (fun n c => 10 * n + ((c.toNat : Int) - 48)) 0
def numBad (sg : Int) (d : List UInt8) : Prop := d.takeWhile isD = [] ∨ (1 < (d.takeWhile isD).length ∧ d.head? = some 48) ∨ (sg < 0 ∧ valD (d.takeWhile isD) = 0)
instance (sg : Int) (d : List UInt8) : Decidable (numBad sg d) := by unfold numBad; infer_instance
def numD (frm : Nat) (sg : Int) (d : List UInt8) : Int × St :=
  if 10 < (d.takeWhile isD).length then (0, ⟨d.drop 10, some frm⟩)
  else if numBad sg d then (sg * valD (d.takeWhile isD), ⟨d.dropWhile isD, some frm⟩)
  else (sg * valD (d.takeWhile isD), ⟨d.dropWhile isD, none⟩)
def numL : List UInt8 → Int × St
  | [] => numD 0 1 []
  | c :: r => if c = 45 then numD (r.length + 1) (-1) r else numD (r.length + 1) 1 (c :: r)
def numberS (st : St) : Int × St := match st.bad with | some _ => (0, st) | none => numL (skip st.l)

structure Pr where
  name : List UInt8
  op : Int
  lo : Int
  hi : Int
  str : List UInt8
/-- 'in LO..HI' behind a name. -/
def inS (name : List UInt8) (st : St) : Pr × St :=
  let a := wordS st
  let b := if a.1 = [105, 110] then a.2 else stopS a.2 st.l.length
  let lo := numberS b
  let c := markS [46, 46] lo.2
  let hi := numberS c
  (⟨name, 1, lo.1, hi.1, []⟩, hi.2)
def predS (st : St) : Pr × St :=
  let a := wordS st
  let b := blanksS a.2
  if b.l.head? = some 61 then
    let t := textS (markS [61] b)
    (⟨a.1, 2, 0, 0, t.1⟩, t.2)
  else if b.l.head? = some 94 then
    let t := textS (markS [94, 61] b)
    (⟨a.1, 3, 0, 0, t.1⟩, t.2)
  else inS a.1 b

/-- What is left is an end of what there was. -/
def Suf (w l : List UInt8) : Prop := l <:+ w
theorem skip_suf (l : List UInt8) : skip l <:+ l := by
  induction l with
  | nil => exact List.suffix_refl _
  | cons c r ih =>
    unfold skip
    split
    · exact ih.trans (List.suffix_cons _ _)
    · exact List.suffix_refl _
theorem skip_head {l : List UInt8} : (skip l).head? ≠ some 32 := by
  induction l with
  | nil => simp [skip]
  | cons c r ih =>
    unfold skip
    split
    · exact ih
    · simpa using ‹_›
theorem skip_of {l : List UInt8} (h : l.head? ≠ some 32) : skip l = l := by
  cases l with
  | nil => rfl
  | cons c r => unfold skip; rw [if_neg (by simpa using h)]
theorem skip_skip (l : List UInt8) : skip (skip l) = skip l := skip_of skip_head
theorem textL_suf (l acc : List UInt8) : (textL l acc).2 <:+ l := by
  induction hn : l.length using Nat.strongRecOn generalizing l acc with
  | _ n ih =>
    match l with
    | [] => rw [textL_nil]; exact List.suffix_refl _
    | c :: r =>
      by_cases h1 : c = 34
      · rw [textL_q _ _ h1]; exact List.suffix_cons _ _
      · by_cases h2 : c = 92
        · match r with
          | [] => rw [textL_b0 _ h2]; exact List.nil_suffix
          | d :: r' =>
            by_cases h3 : d = 34 ∨ d = 92
            · rw [textL_b1 _ _ h2 h3]
              exact (ih r'.length (by simp at hn; omega) r' _ rfl).trans ((List.suffix_cons _ _).trans (List.suffix_cons _ _))
            · rw [textL_b2 _ _ h2 h3]; exact List.suffix_cons _ _
        · by_cases h3 : 32 ≤ c ∧ c ≤ 126
          · rw [textL_p _ _ h1 h2 h3]
            exact (ih r.length (by simp at hn; omega) r _ rfl).trans (List.suffix_cons _ _)
          · rw [textL_n _ _ h1 h2 h3]; exact List.suffix_refl _
/-- A state's parts fit into a text of n bytes. -/
def St.ok (w : List UInt8) (st : St) : Prop := st.l <:+ w ∧ ∀ n, st.bad = some n → n ≤ w.length
theorem St.ok.le {w : List UInt8} {st : St} (h : st.ok w) : st.l.length ≤ w.length := h.1.length_le
theorem blanksS_ok {w : List UInt8} {st : St} (h : st.ok w) : (blanksS st).ok w := by
  unfold blanksS
  split
  · exact h
  · exact ⟨(skip_suf _).trans h.1, fun n hn => by simp at hn⟩
theorem stopS_ok {w : List UInt8} {st : St} {n : Nat} (h : st.ok w) (hn : n ≤ w.length) : (stopS st n).ok w := by
  unfold stopS
  split
  · exact h
  · exact ⟨h.1, fun m hm => by simp at hm; omega⟩
theorem dropWhile_suf (p : UInt8 → Bool) (l : List UInt8) : l.dropWhile p <:+ l := List.dropWhile_suffix p
theorem wordL_ok {w l : List UInt8} (h : l <:+ w) : (wordL l).2.ok w := by
  unfold wordL
  split
  · exact ⟨List.nil_suffix, fun n hn => by simp at hn; omega⟩
  · split
    · exact ⟨(dropWhile_suf _ _).trans ((List.suffix_cons _ _).trans h), fun n hn => by simp at hn⟩
    · refine ⟨h, fun n hn => ?_⟩
      have := h.length_le
      simp at hn this
      omega
theorem wordS_ok {w : List UInt8} {st : St} (h : st.ok w) : (wordS st).2.ok w := by
  unfold wordS
  split
  · exact h
  · exact wordL_ok ((skip_suf _).trans h.1)
theorem markL_ok {w m l : List UInt8} (h : l <:+ w) : (markL m l).ok w := by
  unfold markL
  split
  · exact ⟨(List.drop_suffix _ _).trans h, fun n hn => by simp at hn⟩
  · exact ⟨h, fun n hn => by have := h.length_le; simp at hn; omega⟩
theorem markS_ok {w m : List UInt8} {st : St} (h : st.ok w) : (markS m st).ok w := by
  unfold markS
  split
  · exact h
  · exact markL_ok ((skip_suf _).trans h.1)
theorem textR_ok {w : List UInt8} {x : Option (List UInt8) × List UInt8} (h : x.2 <:+ w) : (textR x).2.ok w := by
  unfold textR
  split
  · exact ⟨h, fun n hn => by simp at hn⟩
  · exact ⟨h, fun n hn => by have := h.length_le; simp at hn this; omega⟩
theorem textS_ok {w : List UInt8} {st : St} (h : st.ok w) : (textS st).2.ok w := by
  unfold textS
  split
  · exact markS_ok h
  · exact textR_ok ((textL_suf _ _).trans (markS_ok h).1)
theorem numD_ok {w d : List UInt8} {frm : Nat} {sg : Int} (h : d <:+ w) (hf : frm ≤ w.length) : (numD frm sg d).2.ok w := by
  unfold numD
  split
  · exact ⟨(List.drop_suffix _ _).trans h, fun n hn => by simp at hn; omega⟩
  · split
    · exact ⟨(dropWhile_suf _ _).trans h, fun n hn => by simp at hn; omega⟩
    · exact ⟨(dropWhile_suf _ _).trans h, fun n hn => by simp at hn⟩
theorem numL_ok {w l : List UInt8} (h : l <:+ w) : (numL l).2.ok w := by
  have hl := h.length_le
  unfold numL
  split
  · exact numD_ok h (by omega)
  · simp at hl
    split
    · exact numD_ok ((List.suffix_cons _ _).trans h) hl
    · exact numD_ok h hl
theorem numberS_ok {w : List UInt8} {st : St} (h : st.ok w) : (numberS st).2.ok w := by
  unfold numberS
  split
  · exact h
  · exact numL_ok ((skip_suf _).trans h.1)
theorem inS_ok {w nm : List UInt8} {st : St} (h : st.ok w) : (inS nm st).2.ok w := by
  unfold inS
  refine numberS_ok (markS_ok (numberS_ok ?_))
  split
  · exact wordS_ok h
  · exact stopS_ok (wordS_ok h) h.le
theorem predS_ok {w : List UInt8} {st : St} (h : st.ok w) : (predS st).2.ok w := by
  unfold predS
  dsimp only
  split
  · exact textS_ok (markS_ok (blanksS_ok (wordS_ok h)))
  · split
    · exact textS_ok (markS_ok (blanksS_ok (wordS_ok h)))
    · exact inS_ok (blanksS_ok (wordS_ok h))
/-- A bad state stays as it is. -/
theorem wordS_bad {st : St} {n : Nat} (h : st.bad = some n) : wordS st = ([], st) := by unfold wordS; rw [h]
theorem markS_bad {m : List UInt8} {st : St} {n : Nat} (h : st.bad = some n) : markS m st = st := by unfold markS; rw [h]
theorem textS_bad {st : St} {n : Nat} (h : st.bad = some n) : textS st = ([], st) := by unfold textS; rw [markS_bad h, h]
theorem numberS_bad {st : St} {n : Nat} (h : st.bad = some n) : numberS st = (0, st) := by unfold numberS; rw [h]
theorem blanksS_bad {st : St} {n : Nat} (h : st.bad = some n) : blanksS st = st := by unfold blanksS; rw [h]
theorem stopS_bad {st : St} {n m : Nat} (h : st.bad = some n) : stopS st m = st := by unfold stopS; rw [h]

/-- The whole parser: predicates with 'and' between them; the place, counted from the end, where it went bad. -/
def parseS : Nat → St → List Pr → List Pr ⊕ Nat
  | 0, st, _ => .inr st.l.length
  | k + 1, st, acc =>
    let x := predS st
    let b := blanksS x.2
    match b.bad with
    | some n => .inr n
    | none =>
      if b.l = [] then .inl (acc ++ [x.1])
      else
        let a := wordS b
        let c := if a.1 = [97, 110, 100] then a.2 else stopS a.2 b.l.length
        match c.bad with
        | some n => .inr n
        | none => parseS k c (acc ++ [x.1])
end Go.Proofs.YthaapijjjgkacaaDoor.Mine
end
section
/-
  The contract of the filter parser's text: what stands between quotes. Conditions: the parser's block as IsS74 has it, the text at most 1000 bytes.
-/
namespace Go.Proofs.YthaapijjjgkacaaDoor.Mine
open Go.RowKit Go.Proofs.YthaapijjjgkacaaDoorW.PrintWords Go.Proofs.YthaapijjjgkacaaDoorW.PrintLast Go.Proofs.YthaapijjjgkacaaDoorW.PrintMore
open Go.Proofs.YthaapijjjgkacaaDoor.PFilterReads

def numsB (l : List UInt8) : List Int := l.map fun b => (b.toNat : Int)
theorem numsB_snoc (l : List UInt8) (c : UInt8) : numsB (l ++ [c]) = numsB l ++ [(c.toNat : Int)] := by simp [numsB]
theorem str_numsB (l : List UInt8) : strOfNums (numsB l) = ⟨l.toArray⟩ := Lib.Lz.strOfNums_map l
/-- what is left of a text from a place on -/
def dropB (s : ByteArray) (i : Nat) : List UInt8 := s.data.toList.drop i
theorem dropB_nil {s : ByteArray} {i : Nat} (h : s.size ≤ i) : dropB s i = [] := List.drop_eq_nil_of_le (by simpa using h)
theorem dropB_cons {s : ByteArray} {i : Nat} (h : i < s.size) : dropB s i = s[i]'h :: dropB s (i + 1) := by
  unfold dropB
  rw [List.drop_eq_getElem_cons (by simpa using h)]
  rfl
theorem dropB_len (s : ByteArray) (i : Nat) : (dropB s i).length = s.size - i := by simp [dropB]
theorem c_eq {c : UInt8} {n : Nat} (hn : n < 256) : ((c.toNat : Int) == (n : Int)) = decide (c = UInt8.ofNat n) := by
  rw [Bool.eq_iff_iff]
  simp only [beq_iff_eq, decide_eq_true_eq]
  constructor
  · intro h
    have h2 : c.toNat = n := by omega
    rw [← h2]; simp
  · rintro rfl
    simp [Nat.mod_eq_of_lt hn]

/-- What 'text' leaves behind the quote at which it began. -/
def TextPost (w0 w : World) (g : Nat) (s : ByteArray) (l : List UInt8) (e : Ending) (w' : World) : Prop :=
  (∃ t r, textL l [] = (some t, r) ∧ e = .returned (.string ⟨t.toArray⟩) ∧ IsS74 w0 w' g s ((s.size - r.length : Nat) : Int) (-1) ∧ Below w0.heap.size w0 w' ∧ KeepBut w w' g none)
  ∨ (∃ r, textL l [] = (none, r) ∧ e = .returned (.string ⟨#[]⟩) ∧ IsS74 w0 w' g s ((s.size - r.length : Nat) : Int) ((s.size - r.length : Nat) : Int) ∧ Below w0.heap.size w0 w' ∧ KeepBut w w' g none)

set_option maxHeartbeats 4000000 in
set_option maxRecDepth 100000 in
theorem text_calls (k : Nat) (g : Nat) (s : ByteArray) (at0 at1 : Nat) (w0 w : World) (hI : IsS74 w0 w g s at0 (-1)) (hB : Below w0.heap.size w0 w) (hs : s.size ≤ 1000)
    (hm : filter_parser_mark.f k s at0 (-1) (⟨#[34]⟩ : ByteArray) = some (s, (at1 : Int), -1)) (hf : at1 ≤ s.size) :
    Calls Tryd.prog 63 #[.pointer (some ⟨g, 0, none⟩)] w (TextPost w0 w g s (dropB s at1)) := by
  have HI := Aside0.mk hI
  have HB := Aside0.mk hB
  have HK := Aside0.mk (KeepBut.refl w g none)
  have HM := Aside0.mk hm
  have HS := Aside0.mk hs
  have HL := Aside0.mk hB.size
  clear hI hB hm
  go_enter Tryd.func63, Tryd.ntmps63
  go_wp2_with (go_at_call 62; (with_reducible refine (filter_parser_mark.calls k g s at0 (-1) (⟨#[34]⟩ : ByteArray) s at1 (-1) w0 _ ?side1 ?side2 HM.out).mono ?_); (case side1 => (repeat (first | (with_reducible first | exact HI.out | apply IsS74.alloc | apply IsS74.drewN | apply IsS74.drew | apply IsS74.set_0 | apply IsS74.set_1 | apply IsS74.set_2) | exact HI.out))); (case side2 => (repeat (first | (with_reducible first | exact HB.out | apply below_alloc | apply pw_below_drewN | apply below_drew1 | refine below_set ?_ (IsS74.ge HI.out)) | exact HB.out))); rintro e w2 ⟨rfl, hi, hb, hk⟩; have n0_ := Aside0.mk hi; have n1_ := Aside0.mk hb; have n2_ := Aside0.mk (KeepBut.trans (by (repeat (first | (with_reducible first | exact HK.out | apply KeepBut.set_ | apply keep_drewN | apply keep_drew | apply keep_alloc) | exact HK.out))) hk (Or.inl rfl)); clear HI HB HK hi hb hk; have HI := n0_; have HB := n1_; have HK := n2_; clear n0_ n1_ n2_; obtain ⟨HG, hg⟩ := HI.out; have hc0 := cellS74_0 HG; have hc1 := cellS74_1 HG; have hc2 := cellS74_2 HG; have hf0 := blk_frozen HG 0; have hf1 := blk_frozen HG 1; have hf2 := blk_frozen HG 2; clear HG hg)
  clear hc0 hc1 hc2 hf0 hf1 hf2
  go_loopg [3] (s.size + 2) (fun n v3 wr => ∃ (acc : List UInt8) (at_ : Nat) (bad : Int), Aside0 (at_ ≤ s.size ∧ ((bad = -1 ∧ s.size + 2 ≤ at_ + n ∧ acc.length ≤ at_ ∧ textL (dropB s at_) acc = textL (dropB s at1) [] ∧ Kd.R (Kd.int .u8) 5 wr w.heap.size (fun _ => True) v3 (numsB acc)) ∨ (bad = at_ ∧ 1 ≤ n ∧ textL (dropB s at1) [] = (none, dropB s at_)))) ∧ Aside0 (IsS74 w0 wr g s at_ bad) ∧ Aside0 (KeepBut w wr g none) ∧ Aside0 (Below w0.heap.size w0 wr))
  case atStart => exact ⟨[], at1, -1, ⟨hf, Or.inl ⟨rfl, by omega, by simp, rfl, Kd.R_nil _ _ _ _ _⟩⟩, HI, HK, HB⟩
  case round =>
    clear HI HK HB HM
    obtain ⟨acc, at_, bad, HA, HI, HK, HB⟩ := hrel
    have hlb : at_ ≤ s.size := HA.out.1
    rcases HA.out.2 with ⟨rfl, hn, hl, ht, ho⟩ | ⟨rfl, hn, ht⟩
    · have HA2 := Aside0.mk ht
      have HA1 := Aside0.mk hl
      have HO := Aside0.mk ho
      clear ht hl ho HA
      by_cases hlt : at_ < s.size
      · obtain ⟨c, hc⟩ : ∃ c, s[at_]'hlt = c := ⟨_, rfl⟩
        have hx : ∀ h : at_ < s.size, s[at_]'h = c := fun _ => hc
        have hd := dropB_cons hlt
        rw [hc] at hd
        have HD := Aside0.mk hd
        clear hc hd
        have q1 := eq_true (show ((at_ : Int) < (s.size : Int)) by omega)
        have q2 := eq_true (show (0 : Int) ≤ (at_ : Int) by omega)
        have q3 := decide_eq_false (show ¬ ((s.size : Int) ≤ (at_ : Int)) by omega)
        obtain ⟨HG, hg⟩ := HI.out
        have hc0 := cellS74_0 HG
        have hc1 := cellS74_1 HG
        have hc2 := cellS74_2 HG
        have hf0 := blk_frozen HG 0
        have hf1 := blk_frozen HG 1
        have hf2 := blk_frozen HG 2
        clear HG hg
        by_cases h34 : c = 34
        · have e34 : ((c.toNat : Int) == 34) = true := by rw [h34]; rfl
          have HC := Aside0.mk h34
          clear h34
          have hcv := fun m => own_string (P := Tryd.prog) Tryd.underlying24 Tryd.underlying5 Tryd.underlying9 (Kd.own_of_R (show Kd.R (Kd.int .u8) 5 ((wr.drewN m).setCell ⟨g, 1, none⟩ (.int .i64 ((at_ : Int) + 1))) w.heap.size (fun _ => True) u3 (numsB acc) from Kd.R_mono (Kd.R_far (p := ⟨g, 1, none⟩) (IsS74.apart (by (repeat (first | (with_reducible first | exact HI.out | apply IsS74.alloc | apply IsS74.drewN | apply IsS74.drew | apply IsS74.set_0 | apply IsS74.set_1 | apply IsS74.set_2) | exact HI.out)) : IsS74 w0 _ g s _ _) (by (with_reducible repeat (first | apply Kd.R_alloc | apply Kd.R_drewN | apply Kd.R_drew)); exact HO.out) (by decide)) (fun _ hk => hk.2) (.int .i64 ((at_ : Int) + 1))) (fun _ _ => trivial)))
          go_wp2
          repeat (go_quiet (fail); try go_wp2)
          go_ret
          exact Or.inl ⟨acc, dropB s (at_ + 1), by rw [← HA2.out, HD.out, textL_q _ _ HC.out], by rw [str_numsB]; rfl, by rw [dropB_len, show ((s.size - (s.size - (at_ + 1)) : Nat) : Int) = (at_ : Int) + 1 by omega]; (repeat (first | (with_reducible first | exact HI.out | apply IsS74.alloc | apply IsS74.drewN | apply IsS74.drew | apply IsS74.set_0 | apply IsS74.set_1 | apply IsS74.set_2) | exact HI.out)), by (repeat (first | (with_reducible first | exact HB.out | apply below_alloc | apply pw_below_drewN | apply below_drew1 | refine below_set ?_ (IsS74.ge HI.out)) | exact HB.out)), by (repeat (first | (with_reducible first | exact HK.out | apply KeepBut.set_ | apply keep_drewN | apply keep_drew | apply keep_alloc) | exact HK.out))⟩
        · have e34 : ((c.toNat : Int) == 34) = false := by rw [show (34 : Int) = ((34 : Nat) : Int) from rfl, c_eq (by decide)]; simpa using h34
          by_cases h92 : c = 92
          · have e92 : ((c.toNat : Int) == 92) = true := by rw [h92]; rfl
            have HC := Aside0.mk (show c = 92 from h92)
            clear h34 h92
            by_cases hlt1 : at_ + 1 < s.size
            · obtain ⟨d, hd1⟩ : ∃ d, s[at_ + 1]'hlt1 = d := ⟨_, rfl⟩
              have hx1 : ∀ h : at_ + 1 < s.size, s[at_ + 1]'h = d := fun _ => hd1
              have hd2 := dropB_cons hlt1
              rw [hd1] at hd2
              have HD1 := Aside0.mk hd2
              clear hd1 hd2
              have p1 := eq_true (show ((at_ : Int) + 1 < (s.size : Int)) by omega)
              have p2 := eq_true (show (0 : Int) ≤ (at_ : Int) + 1 by omega)
              have p3 := decide_eq_false (show ¬ ((s.size : Int) ≤ (at_ : Int) + 1) by omega)
              have p4 : ((at_ : Int) + 1).toNat = at_ + 1 := by omega
              by_cases d34 : d = 34
              · have f34 : ((d.toNat : Int) != 34) = false := by rw [d34]; rfl
                have HC2 := Aside0.mk (show textL (dropB s at_) acc = textL (dropB s (at_ + 2)) (acc ++ [d]) by rw [HD.out, HD1.out, textL_b1 _ _ HC.out (Or.inl d34)])
                clear d34
                go_wp2_with ((with_reducible refine gate_builtin (b := .append) (xs := #[.tmp 115, .tmp 117]) rfl ?_); at_builtin; refine Kd.R_append (Kd.int .u8) w.heap.size rfl (.tmp 115) (.tmp 117) 24 5 (.int .u8 0) 1 rfl Tryd.underlying24 info5 rfl (by decide) (by omega) u3 (numsB acc) (d.toNat : Int) [.int .u8 (d.toNat : Int)] (fun _ => True) (fun _ => False) rfl ?aX ?aP (fun _ hk => hk.elim) ?aF ?aO (Below.refl _ _) ?aS ?aL ?_; (case aX => first | rfl | (go_simp; done) | (go_simp; rfl)); (case aP => exact rfl); (case aF => exact (fun _ _ => trivial)); (case aO => exact (by (with_reducible repeat (first | apply Kd.R_alloc | apply Kd.R_drewN | apply Kd.R_drew)); exact (Kd.R_mono (Kd.R_far (p := ⟨g, 1, none⟩) (IsS74.apart (by (repeat (first | (with_reducible first | exact HI.out | apply IsS74.alloc | apply IsS74.drewN | apply IsS74.drew | apply IsS74.set_0 | apply IsS74.set_1 | apply IsS74.set_2) | exact HI.out)) : IsS74 w0 _ g s _ _) (by (with_reducible repeat (first | apply Kd.R_alloc | apply Kd.R_drewN | apply Kd.R_drew)); exact HO.out) (by decide)) (fun _ hk => hk.2) (_)) (fun _ _ => trivial)))); (case aS => exact (keep_size (w := w) (g := g) (row := none) (by (repeat (first | (with_reducible first | exact HK.out | apply KeepBut.set_ | apply keep_drewN | apply keep_drew | apply keep_alloc) | exact HK.out))))); (case aL => have := HA1.out; have := HS.out; simp [numsB]; omega); intro v3 w3 ho hb hg hat; rw [← numsB_snoc] at ho; have n0_ := Aside0.mk (IsS74.grown (by (repeat (first | (with_reducible first | exact HI.out | apply IsS74.alloc | apply IsS74.drewN | apply IsS74.drew | apply IsS74.set_0 | apply IsS74.set_1 | apply IsS74.set_2) | exact HI.out))) hg (IsS74.own_ne HI.out HO.out (by decide))); have n1_ := Aside0.mk (below_weaken (by (repeat (first | (with_reducible first | exact HB.out | apply below_alloc | apply pw_below_drewN | apply below_drew1 | refine below_set ?_ (IsS74.ge HI.out)) | exact HB.out))) HL.out hb); have n2_ := Aside0.mk (KeepBut.trans (by (repeat (first | (with_reducible first | exact HK.out | apply KeepBut.set_ | apply keep_drewN | apply keep_drew | apply keep_alloc) | exact HK.out))) (KeepBut.of_grown hg g) (Kd.R_base2 HO.out)); have n3_ := Aside0.mk ho; clear HI HB HK HO ho hb hg hat; have HI := n0_; have HB := n1_; have HK := n2_; have HO := n3_; clear n0_ n1_ n2_ n3_; obtain ⟨HG, hg⟩ := HI.out; have hc0 := cellS74_0 HG; have hc1 := cellS74_1 HG; have hc2 := cellS74_2 HG; have hf0 := blk_frozen HG 0; have hf1 := blk_frozen HG 1; have hf2 := blk_frozen HG 2; clear HG hg)
                repeat (go_quiet (fail); try go_wp2_with ((with_reducible refine gate_builtin (b := .append) (xs := #[.tmp 115, .tmp 117]) rfl ?_); at_builtin; refine Kd.R_append (Kd.int .u8) w.heap.size rfl (.tmp 115) (.tmp 117) 24 5 (.int .u8 0) 1 rfl Tryd.underlying24 info5 rfl (by decide) (by omega) u3 (numsB acc) (d.toNat : Int) [.int .u8 (d.toNat : Int)] (fun _ => True) (fun _ => False) rfl ?aX ?aP (fun _ hk => hk.elim) ?aF ?aO (Below.refl _ _) ?aS ?aL ?_; (case aX => first | rfl | (go_simp; done) | (go_simp; rfl)); (case aP => exact rfl); (case aF => exact (fun _ _ => trivial)); (case aO => exact (by (with_reducible repeat (first | apply Kd.R_alloc | apply Kd.R_drewN | apply Kd.R_drew)); exact (Kd.R_mono (Kd.R_far (p := ⟨g, 1, none⟩) (IsS74.apart (by (repeat (first | (with_reducible first | exact HI.out | apply IsS74.alloc | apply IsS74.drewN | apply IsS74.drew | apply IsS74.set_0 | apply IsS74.set_1 | apply IsS74.set_2) | exact HI.out)) : IsS74 w0 _ g s _ _) (by (with_reducible repeat (first | apply Kd.R_alloc | apply Kd.R_drewN | apply Kd.R_drew)); exact HO.out) (by decide)) (fun _ hk => hk.2) (_)) (fun _ _ => trivial)))); (case aS => exact (keep_size (w := w) (g := g) (row := none) (by (repeat (first | (with_reducible first | exact HK.out | apply KeepBut.set_ | apply keep_drewN | apply keep_drew | apply keep_alloc) | exact HK.out))))); (case aL => have := HA1.out; have := HS.out; simp [numsB]; omega); intro v3 w3 ho hb hg hat; rw [← numsB_snoc] at ho; have n0_ := Aside0.mk (IsS74.grown (by (repeat (first | (with_reducible first | exact HI.out | apply IsS74.alloc | apply IsS74.drewN | apply IsS74.drew | apply IsS74.set_0 | apply IsS74.set_1 | apply IsS74.set_2) | exact HI.out))) hg (IsS74.own_ne HI.out HO.out (by decide))); have n1_ := Aside0.mk (below_weaken (by (repeat (first | (with_reducible first | exact HB.out | apply below_alloc | apply pw_below_drewN | apply below_drew1 | refine below_set ?_ (IsS74.ge HI.out)) | exact HB.out))) HL.out hb); have n2_ := Aside0.mk (KeepBut.trans (by (repeat (first | (with_reducible first | exact HK.out | apply KeepBut.set_ | apply keep_drewN | apply keep_drew | apply keep_alloc) | exact HK.out))) (KeepBut.of_grown hg g) (Kd.R_base2 HO.out)); have n3_ := Aside0.mk ho; clear HI HB HK HO ho hb hg hat; have HI := n0_; have HB := n1_; have HK := n2_; have HO := n3_; clear n0_ n1_ n2_ n3_; obtain ⟨HG, hg⟩ := HI.out; have hc0 := cellS74_0 HG; have hc1 := cellS74_1 HG; have hc2 := cellS74_2 HG; have hf0 := blk_frozen HG 0; have hf1 := blk_frozen HG 1; have hf2 := blk_frozen HG 2; clear HG hg))
                go_roundg (gk - 1)
                case measure => omega
                case rel => exact ⟨acc ++ [d], at_ + 2, -1, ⟨by omega, Or.inl ⟨rfl, by omega, by have := HA1.out; simp; omega, HC2.out.symm.trans HA2.out, Kd.R_mono (Kd.R_far (p := ⟨g, 1, none⟩) (IsS74.apart (by (repeat (first | (with_reducible first | exact HI.out | apply IsS74.alloc | apply IsS74.drewN | apply IsS74.drew | apply IsS74.set_0 | apply IsS74.set_1 | apply IsS74.set_2) | exact HI.out)) : IsS74 w0 _ g s _ _) (by (with_reducible repeat (first | apply Kd.R_alloc | apply Kd.R_drewN | apply Kd.R_drew)); exact HO.out) (by decide)) (fun _ hk => hk.2) (_)) (fun _ _ => trivial)⟩⟩, ⟨by rw [show ((at_ + 2 : Nat) : Int) = (at_ : Int) + 1 + 1 by omega]; (repeat (first | (with_reducible first | exact HI.out | apply IsS74.alloc | apply IsS74.drewN | apply IsS74.drew | apply IsS74.set_0 | apply IsS74.set_1 | apply IsS74.set_2) | exact HI.out))⟩, ⟨by (repeat (first | (with_reducible first | exact HK.out | apply KeepBut.set_ | apply keep_drewN | apply keep_drew | apply keep_alloc) | exact HK.out))⟩, ⟨by (repeat (first | (with_reducible first | exact HB.out | apply below_alloc | apply pw_below_drewN | apply below_drew1 | refine below_set ?_ (IsS74.ge HI.out)) | exact HB.out))⟩⟩
              · have f34 : ((d.toNat : Int) != 34) = true := by rw [bne, show (34 : Int) = ((34 : Nat) : Int) from rfl, c_eq (by decide)]; simpa using d34
                by_cases d92 : d = 92
                · have f92 : ((d.toNat : Int) != 92) = false := by rw [d92]; rfl
                  have HC2 := Aside0.mk (show textL (dropB s at_) acc = textL (dropB s (at_ + 2)) (acc ++ [d]) by rw [HD.out, HD1.out, textL_b1 _ _ HC.out (Or.inr d92)])
                  clear d34 d92
                  go_wp2_with ((with_reducible refine gate_builtin (b := .append) (xs := #[.tmp 115, .tmp 117]) rfl ?_); at_builtin; refine Kd.R_append (Kd.int .u8) w.heap.size rfl (.tmp 115) (.tmp 117) 24 5 (.int .u8 0) 1 rfl Tryd.underlying24 info5 rfl (by decide) (by omega) u3 (numsB acc) (d.toNat : Int) [.int .u8 (d.toNat : Int)] (fun _ => True) (fun _ => False) rfl ?aX ?aP (fun _ hk => hk.elim) ?aF ?aO (Below.refl _ _) ?aS ?aL ?_; (case aX => first | rfl | (go_simp; done) | (go_simp; rfl)); (case aP => exact rfl); (case aF => exact (fun _ _ => trivial)); (case aO => exact (by (with_reducible repeat (first | apply Kd.R_alloc | apply Kd.R_drewN | apply Kd.R_drew)); exact (Kd.R_mono (Kd.R_far (p := ⟨g, 1, none⟩) (IsS74.apart (by (repeat (first | (with_reducible first | exact HI.out | apply IsS74.alloc | apply IsS74.drewN | apply IsS74.drew | apply IsS74.set_0 | apply IsS74.set_1 | apply IsS74.set_2) | exact HI.out)) : IsS74 w0 _ g s _ _) (by (with_reducible repeat (first | apply Kd.R_alloc | apply Kd.R_drewN | apply Kd.R_drew)); exact HO.out) (by decide)) (fun _ hk => hk.2) (_)) (fun _ _ => trivial)))); (case aS => exact (keep_size (w := w) (g := g) (row := none) (by (repeat (first | (with_reducible first | exact HK.out | apply KeepBut.set_ | apply keep_drewN | apply keep_drew | apply keep_alloc) | exact HK.out))))); (case aL => have := HA1.out; have := HS.out; simp [numsB]; omega); intro v3 w3 ho hb hg hat; rw [← numsB_snoc] at ho; have n0_ := Aside0.mk (IsS74.grown (by (repeat (first | (with_reducible first | exact HI.out | apply IsS74.alloc | apply IsS74.drewN | apply IsS74.drew | apply IsS74.set_0 | apply IsS74.set_1 | apply IsS74.set_2) | exact HI.out))) hg (IsS74.own_ne HI.out HO.out (by decide))); have n1_ := Aside0.mk (below_weaken (by (repeat (first | (with_reducible first | exact HB.out | apply below_alloc | apply pw_below_drewN | apply below_drew1 | refine below_set ?_ (IsS74.ge HI.out)) | exact HB.out))) HL.out hb); have n2_ := Aside0.mk (KeepBut.trans (by (repeat (first | (with_reducible first | exact HK.out | apply KeepBut.set_ | apply keep_drewN | apply keep_drew | apply keep_alloc) | exact HK.out))) (KeepBut.of_grown hg g) (Kd.R_base2 HO.out)); have n3_ := Aside0.mk ho; clear HI HB HK HO ho hb hg hat; have HI := n0_; have HB := n1_; have HK := n2_; have HO := n3_; clear n0_ n1_ n2_ n3_; obtain ⟨HG, hg⟩ := HI.out; have hc0 := cellS74_0 HG; have hc1 := cellS74_1 HG; have hc2 := cellS74_2 HG; have hf0 := blk_frozen HG 0; have hf1 := blk_frozen HG 1; have hf2 := blk_frozen HG 2; clear HG hg)
                  repeat (go_quiet (fail); try go_wp2_with ((with_reducible refine gate_builtin (b := .append) (xs := #[.tmp 115, .tmp 117]) rfl ?_); at_builtin; refine Kd.R_append (Kd.int .u8) w.heap.size rfl (.tmp 115) (.tmp 117) 24 5 (.int .u8 0) 1 rfl Tryd.underlying24 info5 rfl (by decide) (by omega) u3 (numsB acc) (d.toNat : Int) [.int .u8 (d.toNat : Int)] (fun _ => True) (fun _ => False) rfl ?aX ?aP (fun _ hk => hk.elim) ?aF ?aO (Below.refl _ _) ?aS ?aL ?_; (case aX => first | rfl | (go_simp; done) | (go_simp; rfl)); (case aP => exact rfl); (case aF => exact (fun _ _ => trivial)); (case aO => exact (by (with_reducible repeat (first | apply Kd.R_alloc | apply Kd.R_drewN | apply Kd.R_drew)); exact (Kd.R_mono (Kd.R_far (p := ⟨g, 1, none⟩) (IsS74.apart (by (repeat (first | (with_reducible first | exact HI.out | apply IsS74.alloc | apply IsS74.drewN | apply IsS74.drew | apply IsS74.set_0 | apply IsS74.set_1 | apply IsS74.set_2) | exact HI.out)) : IsS74 w0 _ g s _ _) (by (with_reducible repeat (first | apply Kd.R_alloc | apply Kd.R_drewN | apply Kd.R_drew)); exact HO.out) (by decide)) (fun _ hk => hk.2) (_)) (fun _ _ => trivial)))); (case aS => exact (keep_size (w := w) (g := g) (row := none) (by (repeat (first | (with_reducible first | exact HK.out | apply KeepBut.set_ | apply keep_drewN | apply keep_drew | apply keep_alloc) | exact HK.out))))); (case aL => have := HA1.out; have := HS.out; simp [numsB]; omega); intro v3 w3 ho hb hg hat; rw [← numsB_snoc] at ho; have n0_ := Aside0.mk (IsS74.grown (by (repeat (first | (with_reducible first | exact HI.out | apply IsS74.alloc | apply IsS74.drewN | apply IsS74.drew | apply IsS74.set_0 | apply IsS74.set_1 | apply IsS74.set_2) | exact HI.out))) hg (IsS74.own_ne HI.out HO.out (by decide))); have n1_ := Aside0.mk (below_weaken (by (repeat (first | (with_reducible first | exact HB.out | apply below_alloc | apply pw_below_drewN | apply below_drew1 | refine below_set ?_ (IsS74.ge HI.out)) | exact HB.out))) HL.out hb); have n2_ := Aside0.mk (KeepBut.trans (by (repeat (first | (with_reducible first | exact HK.out | apply KeepBut.set_ | apply keep_drewN | apply keep_drew | apply keep_alloc) | exact HK.out))) (KeepBut.of_grown hg g) (Kd.R_base2 HO.out)); have n3_ := Aside0.mk ho; clear HI HB HK HO ho hb hg hat; have HI := n0_; have HB := n1_; have HK := n2_; have HO := n3_; clear n0_ n1_ n2_ n3_; obtain ⟨HG, hg⟩ := HI.out; have hc0 := cellS74_0 HG; have hc1 := cellS74_1 HG; have hc2 := cellS74_2 HG; have hf0 := blk_frozen HG 0; have hf1 := blk_frozen HG 1; have hf2 := blk_frozen HG 2; clear HG hg))
                  go_roundg (gk - 1)
                  case measure => omega
                  case rel => exact ⟨acc ++ [d], at_ + 2, -1, ⟨by omega, Or.inl ⟨rfl, by omega, by have := HA1.out; simp; omega, HC2.out.symm.trans HA2.out, Kd.R_mono (Kd.R_far (p := ⟨g, 1, none⟩) (IsS74.apart (by (repeat (first | (with_reducible first | exact HI.out | apply IsS74.alloc | apply IsS74.drewN | apply IsS74.drew | apply IsS74.set_0 | apply IsS74.set_1 | apply IsS74.set_2) | exact HI.out)) : IsS74 w0 _ g s _ _) (by (with_reducible repeat (first | apply Kd.R_alloc | apply Kd.R_drewN | apply Kd.R_drew)); exact HO.out) (by decide)) (fun _ hk => hk.2) (_)) (fun _ _ => trivial)⟩⟩, ⟨by rw [show ((at_ + 2 : Nat) : Int) = (at_ : Int) + 1 + 1 by omega]; (repeat (first | (with_reducible first | exact HI.out | apply IsS74.alloc | apply IsS74.drewN | apply IsS74.drew | apply IsS74.set_0 | apply IsS74.set_1 | apply IsS74.set_2) | exact HI.out))⟩, ⟨by (repeat (first | (with_reducible first | exact HK.out | apply KeepBut.set_ | apply keep_drewN | apply keep_drew | apply keep_alloc) | exact HK.out))⟩, ⟨by (repeat (first | (with_reducible first | exact HB.out | apply below_alloc | apply pw_below_drewN | apply below_drew1 | refine below_set ?_ (IsS74.ge HI.out)) | exact HB.out))⟩⟩
                · have f92 : ((d.toNat : Int) != 92) = true := by rw [bne, show (92 : Int) = ((92 : Nat) : Int) from rfl, c_eq (by decide)]; simpa using d92
                  have HC2 := Aside0.mk (show textL (dropB s at_) acc = (none, dropB s (at_ + 1)) by rw [HD.out, HD1.out, textL_b2 _ _ HC.out (by simp [d34, d92])])
                  clear d34 d92
                  go_wp2_with (go_at_call 36; (with_reducible refine (filter_parser_stop.calls g s (at_ + 1) (-1) (at_ + 1) s (at_ + 1) (at_ + 1) w0 _ ?side1 ?side2 rfl).mono ?_); (case side1 => (repeat (first | (with_reducible first | exact HI.out | apply IsS74.alloc | apply IsS74.drewN | apply IsS74.drew | apply IsS74.set_0 | apply IsS74.set_1 | apply IsS74.set_2) | exact HI.out))); (case side2 => (repeat (first | (with_reducible first | exact HB.out | apply below_alloc | apply pw_below_drewN | apply below_drew1 | refine below_set ?_ (IsS74.ge HI.out)) | exact HB.out))); rintro e w2 ⟨rfl, hi, hb, hk⟩; have n0_ := Aside0.mk hi; have n1_ := Aside0.mk hb; have n2_ := Aside0.mk (KeepBut.trans (by (repeat (first | (with_reducible first | exact HK.out | apply KeepBut.set_ | apply keep_drewN | apply keep_drew | apply keep_alloc) | exact HK.out))) hk (Or.inl rfl)); clear HI HB HK hi hb hk; have HI := n0_; have HB := n1_; have HK := n2_; clear n0_ n1_ n2_; obtain ⟨HG, hg⟩ := HI.out; have hc0 := cellS74_0 HG; have hc1 := cellS74_1 HG; have hc2 := cellS74_2 HG; have hf0 := blk_frozen HG 0; have hf1 := blk_frozen HG 1; have hf2 := blk_frozen HG 2; clear HG hg)
                  repeat (go_quiet (fail); try go_wp2_with (go_at_call 36; (with_reducible refine (filter_parser_stop.calls g s (at_ + 1) (-1) (at_ + 1) s (at_ + 1) (at_ + 1) w0 _ ?side1 ?side2 rfl).mono ?_); (case side1 => (repeat (first | (with_reducible first | exact HI.out | apply IsS74.alloc | apply IsS74.drewN | apply IsS74.drew | apply IsS74.set_0 | apply IsS74.set_1 | apply IsS74.set_2) | exact HI.out))); (case side2 => (repeat (first | (with_reducible first | exact HB.out | apply below_alloc | apply pw_below_drewN | apply below_drew1 | refine below_set ?_ (IsS74.ge HI.out)) | exact HB.out))); rintro e w2 ⟨rfl, hi, hb, hk⟩; have n0_ := Aside0.mk hi; have n1_ := Aside0.mk hb; have n2_ := Aside0.mk (KeepBut.trans (by (repeat (first | (with_reducible first | exact HK.out | apply KeepBut.set_ | apply keep_drewN | apply keep_drew | apply keep_alloc) | exact HK.out))) hk (Or.inl rfl)); clear HI HB HK hi hb hk; have HI := n0_; have HB := n1_; have HK := n2_; clear n0_ n1_ n2_; obtain ⟨HG, hg⟩ := HI.out; have hc0 := cellS74_0 HG; have hc1 := cellS74_1 HG; have hc2 := cellS74_2 HG; have hf0 := blk_frozen HG 0; have hf1 := blk_frozen HG 1; have hf2 := blk_frozen HG 2; clear HG hg))
                  go_roundg 1
                  case measure => omega
                  case rel => exact ⟨acc, (at_ + 1), ((at_ + 1) : Nat), ⟨by omega, Or.inr ⟨rfl, by omega, HA2.out.symm.trans HC2.out⟩⟩, ⟨by first | (rw [show ((at_ + 1 : Nat) : Int) = (at_ : Int) + 1 by omega]; (repeat (first | (with_reducible first | exact HI.out | apply IsS74.alloc | apply IsS74.drewN | apply IsS74.drew | apply IsS74.set_0 | apply IsS74.set_1 | apply IsS74.set_2) | exact HI.out))) | (repeat (first | (with_reducible first | exact HI.out | apply IsS74.alloc | apply IsS74.drewN | apply IsS74.drew | apply IsS74.set_0 | apply IsS74.set_1 | apply IsS74.set_2) | exact HI.out))⟩, ⟨by (repeat (first | (with_reducible first | exact HK.out | apply KeepBut.set_ | apply keep_drewN | apply keep_drew | apply keep_alloc) | exact HK.out))⟩, ⟨by (repeat (first | (with_reducible first | exact HB.out | apply below_alloc | apply pw_below_drewN | apply below_drew1 | refine below_set ?_ (IsS74.ge HI.out)) | exact HB.out))⟩⟩
            · have p3 := decide_eq_true (show ((s.size : Int) ≤ (at_ : Int) + 1) by omega)
              have HC2 := Aside0.mk (show textL (dropB s at_) acc = (none, dropB s (at_ + 1)) by rw [HD.out, dropB_nil (show s.size ≤ at_ + 1 by omega), textL_b0 _ HC.out])
              go_wp2_with (go_at_call 36; (with_reducible refine (filter_parser_stop.calls g s (at_ + 1) (-1) (at_ + 1) s (at_ + 1) (at_ + 1) w0 _ ?side1 ?side2 rfl).mono ?_); (case side1 => (repeat (first | (with_reducible first | exact HI.out | apply IsS74.alloc | apply IsS74.drewN | apply IsS74.drew | apply IsS74.set_0 | apply IsS74.set_1 | apply IsS74.set_2) | exact HI.out))); (case side2 => (repeat (first | (with_reducible first | exact HB.out | apply below_alloc | apply pw_below_drewN | apply below_drew1 | refine below_set ?_ (IsS74.ge HI.out)) | exact HB.out))); rintro e w2 ⟨rfl, hi, hb, hk⟩; have n0_ := Aside0.mk hi; have n1_ := Aside0.mk hb; have n2_ := Aside0.mk (KeepBut.trans (by (repeat (first | (with_reducible first | exact HK.out | apply KeepBut.set_ | apply keep_drewN | apply keep_drew | apply keep_alloc) | exact HK.out))) hk (Or.inl rfl)); clear HI HB HK hi hb hk; have HI := n0_; have HB := n1_; have HK := n2_; clear n0_ n1_ n2_; obtain ⟨HG, hg⟩ := HI.out; have hc0 := cellS74_0 HG; have hc1 := cellS74_1 HG; have hc2 := cellS74_2 HG; have hf0 := blk_frozen HG 0; have hf1 := blk_frozen HG 1; have hf2 := blk_frozen HG 2; clear HG hg)
              repeat (go_quiet (fail); try go_wp2_with (go_at_call 36; (with_reducible refine (filter_parser_stop.calls g s (at_ + 1) (-1) (at_ + 1) s (at_ + 1) (at_ + 1) w0 _ ?side1 ?side2 rfl).mono ?_); (case side1 => (repeat (first | (with_reducible first | exact HI.out | apply IsS74.alloc | apply IsS74.drewN | apply IsS74.drew | apply IsS74.set_0 | apply IsS74.set_1 | apply IsS74.set_2) | exact HI.out))); (case side2 => (repeat (first | (with_reducible first | exact HB.out | apply below_alloc | apply pw_below_drewN | apply below_drew1 | refine below_set ?_ (IsS74.ge HI.out)) | exact HB.out))); rintro e w2 ⟨rfl, hi, hb, hk⟩; have n0_ := Aside0.mk hi; have n1_ := Aside0.mk hb; have n2_ := Aside0.mk (KeepBut.trans (by (repeat (first | (with_reducible first | exact HK.out | apply KeepBut.set_ | apply keep_drewN | apply keep_drew | apply keep_alloc) | exact HK.out))) hk (Or.inl rfl)); clear HI HB HK hi hb hk; have HI := n0_; have HB := n1_; have HK := n2_; clear n0_ n1_ n2_; obtain ⟨HG, hg⟩ := HI.out; have hc0 := cellS74_0 HG; have hc1 := cellS74_1 HG; have hc2 := cellS74_2 HG; have hf0 := blk_frozen HG 0; have hf1 := blk_frozen HG 1; have hf2 := blk_frozen HG 2; clear HG hg))
              go_roundg 1
              case measure => omega
              case rel => exact ⟨acc, (at_ + 1), ((at_ + 1) : Nat), ⟨by omega, Or.inr ⟨rfl, by omega, HA2.out.symm.trans HC2.out⟩⟩, ⟨by first | (rw [show ((at_ + 1 : Nat) : Int) = (at_ : Int) + 1 by omega]; (repeat (first | (with_reducible first | exact HI.out | apply IsS74.alloc | apply IsS74.drewN | apply IsS74.drew | apply IsS74.set_0 | apply IsS74.set_1 | apply IsS74.set_2) | exact HI.out))) | (repeat (first | (with_reducible first | exact HI.out | apply IsS74.alloc | apply IsS74.drewN | apply IsS74.drew | apply IsS74.set_0 | apply IsS74.set_1 | apply IsS74.set_2) | exact HI.out))⟩, ⟨by (repeat (first | (with_reducible first | exact HK.out | apply KeepBut.set_ | apply keep_drewN | apply keep_drew | apply keep_alloc) | exact HK.out))⟩, ⟨by (repeat (first | (with_reducible first | exact HB.out | apply below_alloc | apply pw_below_drewN | apply below_drew1 | refine below_set ?_ (IsS74.ge HI.out)) | exact HB.out))⟩⟩
          · have e92 : ((c.toNat : Int) == 92) = false := by rw [show (92 : Int) = ((92 : Nat) : Int) from rfl, c_eq (by decide)]; simpa using h92
            by_cases hp : 32 ≤ c ∧ c ≤ 126
            · have g1 := decide_eq_true (show (32 : Int) ≤ (c.toNat : Int) by have := UInt8.le_iff_toNat_le.mp hp.1; simp at this; omega)
              have g2 := decide_eq_true (show (c.toNat : Int) ≤ 126 by have := UInt8.le_iff_toNat_le.mp hp.2; simp at this; omega)
              have HC2 := Aside0.mk (show textL (dropB s at_) acc = textL (dropB s (at_ + 1)) (acc ++ [c]) by rw [HD.out, textL_p _ _ h34 h92 hp])
              clear h34 h92 hp
              go_wp2_with ((with_reducible refine gate_builtin (b := .append) (xs := #[.tmp 115, .tmp 117]) rfl ?_); at_builtin; refine Kd.R_append (Kd.int .u8) w.heap.size rfl (.tmp 115) (.tmp 117) 24 5 (.int .u8 0) 1 rfl Tryd.underlying24 info5 rfl (by decide) (by omega) u3 (numsB acc) (c.toNat : Int) [.int .u8 (c.toNat : Int)] (fun _ => True) (fun _ => False) rfl ?aX ?aP (fun _ hk => hk.elim) ?aF ?aO (Below.refl _ _) ?aS ?aL ?_; (case aX => first | rfl | (go_simp; done) | (go_simp; rfl)); (case aP => exact rfl); (case aF => exact (fun _ _ => trivial)); (case aO => exact (by (with_reducible repeat (first | apply Kd.R_alloc | apply Kd.R_drewN | apply Kd.R_drew)); exact HO.out)); (case aS => exact (keep_size (w := w) (g := g) (row := none) (by (repeat (first | (with_reducible first | exact HK.out | apply KeepBut.set_ | apply keep_drewN | apply keep_drew | apply keep_alloc) | exact HK.out))))); (case aL => have := HA1.out; have := HS.out; simp [numsB]; omega); intro v3 w3 ho hb hg hat; rw [← numsB_snoc] at ho; have n0_ := Aside0.mk (IsS74.grown (by (repeat (first | (with_reducible first | exact HI.out | apply IsS74.alloc | apply IsS74.drewN | apply IsS74.drew | apply IsS74.set_0 | apply IsS74.set_1 | apply IsS74.set_2) | exact HI.out))) hg (IsS74.own_ne HI.out HO.out (by decide))); have n1_ := Aside0.mk (below_weaken (by (repeat (first | (with_reducible first | exact HB.out | apply below_alloc | apply pw_below_drewN | apply below_drew1 | refine below_set ?_ (IsS74.ge HI.out)) | exact HB.out))) HL.out hb); have n2_ := Aside0.mk (KeepBut.trans (by (repeat (first | (with_reducible first | exact HK.out | apply KeepBut.set_ | apply keep_drewN | apply keep_drew | apply keep_alloc) | exact HK.out))) (KeepBut.of_grown hg g) (Kd.R_base2 HO.out)); have n3_ := Aside0.mk ho; clear HI HB HK HO ho hb hg hat; have HI := n0_; have HB := n1_; have HK := n2_; have HO := n3_; clear n0_ n1_ n2_ n3_; obtain ⟨HG, hg⟩ := HI.out; have hc0 := cellS74_0 HG; have hc1 := cellS74_1 HG; have hc2 := cellS74_2 HG; have hf0 := blk_frozen HG 0; have hf1 := blk_frozen HG 1; have hf2 := blk_frozen HG 2; clear HG hg)
              repeat (go_quiet (fail); try go_wp2_with ((with_reducible refine gate_builtin (b := .append) (xs := #[.tmp 115, .tmp 117]) rfl ?_); at_builtin; refine Kd.R_append (Kd.int .u8) w.heap.size rfl (.tmp 115) (.tmp 117) 24 5 (.int .u8 0) 1 rfl Tryd.underlying24 info5 rfl (by decide) (by omega) u3 (numsB acc) (c.toNat : Int) [.int .u8 (c.toNat : Int)] (fun _ => True) (fun _ => False) rfl ?aX ?aP (fun _ hk => hk.elim) ?aF ?aO (Below.refl _ _) ?aS ?aL ?_; (case aX => first | rfl | (go_simp; done) | (go_simp; rfl)); (case aP => exact rfl); (case aF => exact (fun _ _ => trivial)); (case aO => exact (by (with_reducible repeat (first | apply Kd.R_alloc | apply Kd.R_drewN | apply Kd.R_drew)); exact HO.out)); (case aS => exact (keep_size (w := w) (g := g) (row := none) (by (repeat (first | (with_reducible first | exact HK.out | apply KeepBut.set_ | apply keep_drewN | apply keep_drew | apply keep_alloc) | exact HK.out))))); (case aL => have := HA1.out; have := HS.out; simp [numsB]; omega); intro v3 w3 ho hb hg hat; rw [← numsB_snoc] at ho; have n0_ := Aside0.mk (IsS74.grown (by (repeat (first | (with_reducible first | exact HI.out | apply IsS74.alloc | apply IsS74.drewN | apply IsS74.drew | apply IsS74.set_0 | apply IsS74.set_1 | apply IsS74.set_2) | exact HI.out))) hg (IsS74.own_ne HI.out HO.out (by decide))); have n1_ := Aside0.mk (below_weaken (by (repeat (first | (with_reducible first | exact HB.out | apply below_alloc | apply pw_below_drewN | apply below_drew1 | refine below_set ?_ (IsS74.ge HI.out)) | exact HB.out))) HL.out hb); have n2_ := Aside0.mk (KeepBut.trans (by (repeat (first | (with_reducible first | exact HK.out | apply KeepBut.set_ | apply keep_drewN | apply keep_drew | apply keep_alloc) | exact HK.out))) (KeepBut.of_grown hg g) (Kd.R_base2 HO.out)); have n3_ := Aside0.mk ho; clear HI HB HK HO ho hb hg hat; have HI := n0_; have HB := n1_; have HK := n2_; have HO := n3_; clear n0_ n1_ n2_ n3_; obtain ⟨HG, hg⟩ := HI.out; have hc0 := cellS74_0 HG; have hc1 := cellS74_1 HG; have hc2 := cellS74_2 HG; have hf0 := blk_frozen HG 0; have hf1 := blk_frozen HG 1; have hf2 := blk_frozen HG 2; clear HG hg))
              go_roundg (gk - 1)
              case measure => omega
              case rel => exact ⟨acc ++ [c], at_ + 1, -1, ⟨by omega, Or.inl ⟨rfl, by omega, by have := HA1.out; simp; omega, HC2.out.symm.trans HA2.out, Kd.R_mono (Kd.R_far (p := ⟨g, 1, none⟩) (IsS74.apart (by (repeat (first | (with_reducible first | exact HI.out | apply IsS74.alloc | apply IsS74.drewN | apply IsS74.drew | apply IsS74.set_0 | apply IsS74.set_1 | apply IsS74.set_2) | exact HI.out)) : IsS74 w0 _ g s _ _) (by (with_reducible repeat (first | apply Kd.R_alloc | apply Kd.R_drewN | apply Kd.R_drew)); exact HO.out) (by decide)) (fun _ hk => hk.2) (_)) (fun _ _ => trivial)⟩⟩, ⟨by rw [show ((at_ + 1 : Nat) : Int) = (at_ : Int) + 1 by omega]; (repeat (first | (with_reducible first | exact HI.out | apply IsS74.alloc | apply IsS74.drewN | apply IsS74.drew | apply IsS74.set_0 | apply IsS74.set_1 | apply IsS74.set_2) | exact HI.out))⟩, ⟨by (repeat (first | (with_reducible first | exact HK.out | apply KeepBut.set_ | apply keep_drewN | apply keep_drew | apply keep_alloc) | exact HK.out))⟩, ⟨by (repeat (first | (with_reducible first | exact HB.out | apply below_alloc | apply pw_below_drewN | apply below_drew1 | refine below_set ?_ (IsS74.ge HI.out)) | exact HB.out))⟩⟩
            · have HC2 := Aside0.mk (show textL (dropB s at_) acc = (none, dropB s at_) by rw [HD.out, textL_n _ _ h34 h92 hp])
              clear h34 h92
              by_cases g0 : 32 ≤ c
              · have g1 := decide_eq_true (show (32 : Int) ≤ (c.toNat : Int) by have := UInt8.le_iff_toNat_le.mp g0; simp at this; omega)
                have g2 := decide_eq_false (show ¬ (c.toNat : Int) ≤ 126 by intro hh; exact hp ⟨g0, by rw [UInt8.le_iff_toNat_le]; simp; omega⟩)
                clear g0 hp
                go_wp2_with (go_at_call 36; (with_reducible refine (filter_parser_stop.calls g s at_ (-1) at_ s at_ at_ w0 _ ?side1 ?side2 rfl).mono ?_); (case side1 => (repeat (first | (with_reducible first | exact HI.out | apply IsS74.alloc | apply IsS74.drewN | apply IsS74.drew | apply IsS74.set_0 | apply IsS74.set_1 | apply IsS74.set_2) | exact HI.out))); (case side2 => (repeat (first | (with_reducible first | exact HB.out | apply below_alloc | apply pw_below_drewN | apply below_drew1 | refine below_set ?_ (IsS74.ge HI.out)) | exact HB.out))); rintro e w2 ⟨rfl, hi, hb, hk⟩; have n0_ := Aside0.mk hi; have n1_ := Aside0.mk hb; have n2_ := Aside0.mk (KeepBut.trans (by (repeat (first | (with_reducible first | exact HK.out | apply KeepBut.set_ | apply keep_drewN | apply keep_drew | apply keep_alloc) | exact HK.out))) hk (Or.inl rfl)); clear HI HB HK hi hb hk; have HI := n0_; have HB := n1_; have HK := n2_; clear n0_ n1_ n2_; obtain ⟨HG, hg⟩ := HI.out; have hc0 := cellS74_0 HG; have hc1 := cellS74_1 HG; have hc2 := cellS74_2 HG; have hf0 := blk_frozen HG 0; have hf1 := blk_frozen HG 1; have hf2 := blk_frozen HG 2; clear HG hg)
                repeat (go_quiet (fail); try go_wp2_with (go_at_call 36; (with_reducible refine (filter_parser_stop.calls g s at_ (-1) at_ s at_ at_ w0 _ ?side1 ?side2 rfl).mono ?_); (case side1 => (repeat (first | (with_reducible first | exact HI.out | apply IsS74.alloc | apply IsS74.drewN | apply IsS74.drew | apply IsS74.set_0 | apply IsS74.set_1 | apply IsS74.set_2) | exact HI.out))); (case side2 => (repeat (first | (with_reducible first | exact HB.out | apply below_alloc | apply pw_below_drewN | apply below_drew1 | refine below_set ?_ (IsS74.ge HI.out)) | exact HB.out))); rintro e w2 ⟨rfl, hi, hb, hk⟩; have n0_ := Aside0.mk hi; have n1_ := Aside0.mk hb; have n2_ := Aside0.mk (KeepBut.trans (by (repeat (first | (with_reducible first | exact HK.out | apply KeepBut.set_ | apply keep_drewN | apply keep_drew | apply keep_alloc) | exact HK.out))) hk (Or.inl rfl)); clear HI HB HK hi hb hk; have HI := n0_; have HB := n1_; have HK := n2_; clear n0_ n1_ n2_; obtain ⟨HG, hg⟩ := HI.out; have hc0 := cellS74_0 HG; have hc1 := cellS74_1 HG; have hc2 := cellS74_2 HG; have hf0 := blk_frozen HG 0; have hf1 := blk_frozen HG 1; have hf2 := blk_frozen HG 2; clear HG hg))
                go_roundg 1
                case measure => omega
                case rel => exact ⟨acc, at_, (at_ : Nat), ⟨by omega, Or.inr ⟨rfl, by omega, HA2.out.symm.trans HC2.out⟩⟩, ⟨by first | (rw [show ((at_ + 1 : Nat) : Int) = (at_ : Int) + 1 by omega]; (repeat (first | (with_reducible first | exact HI.out | apply IsS74.alloc | apply IsS74.drewN | apply IsS74.drew | apply IsS74.set_0 | apply IsS74.set_1 | apply IsS74.set_2) | exact HI.out))) | (repeat (first | (with_reducible first | exact HI.out | apply IsS74.alloc | apply IsS74.drewN | apply IsS74.drew | apply IsS74.set_0 | apply IsS74.set_1 | apply IsS74.set_2) | exact HI.out))⟩, ⟨by (repeat (first | (with_reducible first | exact HK.out | apply KeepBut.set_ | apply keep_drewN | apply keep_drew | apply keep_alloc) | exact HK.out))⟩, ⟨by (repeat (first | (with_reducible first | exact HB.out | apply below_alloc | apply pw_below_drewN | apply below_drew1 | refine below_set ?_ (IsS74.ge HI.out)) | exact HB.out))⟩⟩
              · have g1 := decide_eq_false (show ¬ (32 : Int) ≤ (c.toNat : Int) by intro hh; exact g0 (by rw [UInt8.le_iff_toNat_le]; simp; omega))
                clear g0 hp
                go_wp2_with (go_at_call 36; (with_reducible refine (filter_parser_stop.calls g s at_ (-1) at_ s at_ at_ w0 _ ?side1 ?side2 rfl).mono ?_); (case side1 => (repeat (first | (with_reducible first | exact HI.out | apply IsS74.alloc | apply IsS74.drewN | apply IsS74.drew | apply IsS74.set_0 | apply IsS74.set_1 | apply IsS74.set_2) | exact HI.out))); (case side2 => (repeat (first | (with_reducible first | exact HB.out | apply below_alloc | apply pw_below_drewN | apply below_drew1 | refine below_set ?_ (IsS74.ge HI.out)) | exact HB.out))); rintro e w2 ⟨rfl, hi, hb, hk⟩; have n0_ := Aside0.mk hi; have n1_ := Aside0.mk hb; have n2_ := Aside0.mk (KeepBut.trans (by (repeat (first | (with_reducible first | exact HK.out | apply KeepBut.set_ | apply keep_drewN | apply keep_drew | apply keep_alloc) | exact HK.out))) hk (Or.inl rfl)); clear HI HB HK hi hb hk; have HI := n0_; have HB := n1_; have HK := n2_; clear n0_ n1_ n2_; obtain ⟨HG, hg⟩ := HI.out; have hc0 := cellS74_0 HG; have hc1 := cellS74_1 HG; have hc2 := cellS74_2 HG; have hf0 := blk_frozen HG 0; have hf1 := blk_frozen HG 1; have hf2 := blk_frozen HG 2; clear HG hg)
                repeat (go_quiet (fail); try go_wp2_with (go_at_call 36; (with_reducible refine (filter_parser_stop.calls g s at_ (-1) at_ s at_ at_ w0 _ ?side1 ?side2 rfl).mono ?_); (case side1 => (repeat (first | (with_reducible first | exact HI.out | apply IsS74.alloc | apply IsS74.drewN | apply IsS74.drew | apply IsS74.set_0 | apply IsS74.set_1 | apply IsS74.set_2) | exact HI.out))); (case side2 => (repeat (first | (with_reducible first | exact HB.out | apply below_alloc | apply pw_below_drewN | apply below_drew1 | refine below_set ?_ (IsS74.ge HI.out)) | exact HB.out))); rintro e w2 ⟨rfl, hi, hb, hk⟩; have n0_ := Aside0.mk hi; have n1_ := Aside0.mk hb; have n2_ := Aside0.mk (KeepBut.trans (by (repeat (first | (with_reducible first | exact HK.out | apply KeepBut.set_ | apply keep_drewN | apply keep_drew | apply keep_alloc) | exact HK.out))) hk (Or.inl rfl)); clear HI HB HK hi hb hk; have HI := n0_; have HB := n1_; have HK := n2_; clear n0_ n1_ n2_; obtain ⟨HG, hg⟩ := HI.out; have hc0 := cellS74_0 HG; have hc1 := cellS74_1 HG; have hc2 := cellS74_2 HG; have hf0 := blk_frozen HG 0; have hf1 := blk_frozen HG 1; have hf2 := blk_frozen HG 2; clear HG hg))
                go_roundg 1
                case measure => omega
                case rel => exact ⟨acc, at_, (at_ : Nat), ⟨by omega, Or.inr ⟨rfl, by omega, HA2.out.symm.trans HC2.out⟩⟩, ⟨by first | (rw [show ((at_ + 1 : Nat) : Int) = (at_ : Int) + 1 by omega]; (repeat (first | (with_reducible first | exact HI.out | apply IsS74.alloc | apply IsS74.drewN | apply IsS74.drew | apply IsS74.set_0 | apply IsS74.set_1 | apply IsS74.set_2) | exact HI.out))) | (repeat (first | (with_reducible first | exact HI.out | apply IsS74.alloc | apply IsS74.drewN | apply IsS74.drew | apply IsS74.set_0 | apply IsS74.set_1 | apply IsS74.set_2) | exact HI.out))⟩, ⟨by (repeat (first | (with_reducible first | exact HK.out | apply KeepBut.set_ | apply keep_drewN | apply keep_drew | apply keep_alloc) | exact HK.out))⟩, ⟨by (repeat (first | (with_reducible first | exact HB.out | apply below_alloc | apply pw_below_drewN | apply below_drew1 | refine below_set ?_ (IsS74.ge HI.out)) | exact HB.out))⟩⟩
      · have q3 := decide_eq_true (show ((s.size : Int) ≤ (at_ : Int)) by omega)
        obtain rfl : at_ = s.size := by omega
        obtain ⟨HG, hg⟩ := HI.out
        have hc0 := cellS74_0 HG
        have hc1 := cellS74_1 HG
        have hc2 := cellS74_2 HG
        have hf0 := blk_frozen HG 0
        have hf1 := blk_frozen HG 1
        have hf2 := blk_frozen HG 2
        clear HG hg
        go_wp2_with (go_at_call 36; (with_reducible refine (filter_parser_stop.calls g s s.size (-1) s.size s s.size s.size w0 _ ?side1 ?side2 rfl).mono ?_); (case side1 => (repeat (first | (with_reducible first | exact HI.out | apply IsS74.alloc | apply IsS74.drewN | apply IsS74.drew | apply IsS74.set_0 | apply IsS74.set_1 | apply IsS74.set_2) | exact HI.out))); (case side2 => (repeat (first | (with_reducible first | exact HB.out | apply below_alloc | apply pw_below_drewN | apply below_drew1 | refine below_set ?_ (IsS74.ge HI.out)) | exact HB.out))); rintro e w2 ⟨rfl, hi, hb, hk⟩; have n0_ := Aside0.mk hi; have n1_ := Aside0.mk hb; have n2_ := Aside0.mk (KeepBut.trans (by (repeat (first | (with_reducible first | exact HK.out | apply KeepBut.set_ | apply keep_drewN | apply keep_drew | apply keep_alloc) | exact HK.out))) hk (Or.inl rfl)); clear HI HB HK hi hb hk; have HI := n0_; have HB := n1_; have HK := n2_; clear n0_ n1_ n2_; obtain ⟨HG, hg⟩ := HI.out; have hc0 := cellS74_0 HG; have hc1 := cellS74_1 HG; have hc2 := cellS74_2 HG; have hf0 := blk_frozen HG 0; have hf1 := blk_frozen HG 1; have hf2 := blk_frozen HG 2; clear HG hg)
        repeat (go_quiet (fail); try go_wp2_with (go_at_call 36; (with_reducible refine (filter_parser_stop.calls g s s.size (-1) s.size s s.size s.size w0 _ ?side1 ?side2 rfl).mono ?_); (case side1 => (repeat (first | (with_reducible first | exact HI.out | apply IsS74.alloc | apply IsS74.drewN | apply IsS74.drew | apply IsS74.set_0 | apply IsS74.set_1 | apply IsS74.set_2) | exact HI.out))); (case side2 => (repeat (first | (with_reducible first | exact HB.out | apply below_alloc | apply pw_below_drewN | apply below_drew1 | refine below_set ?_ (IsS74.ge HI.out)) | exact HB.out))); rintro e w2 ⟨rfl, hi, hb, hk⟩; have n0_ := Aside0.mk hi; have n1_ := Aside0.mk hb; have n2_ := Aside0.mk (KeepBut.trans (by (repeat (first | (with_reducible first | exact HK.out | apply KeepBut.set_ | apply keep_drewN | apply keep_drew | apply keep_alloc) | exact HK.out))) hk (Or.inl rfl)); clear HI HB HK hi hb hk; have HI := n0_; have HB := n1_; have HK := n2_; clear n0_ n1_ n2_; obtain ⟨HG, hg⟩ := HI.out; have hc0 := cellS74_0 HG; have hc1 := cellS74_1 HG; have hc2 := cellS74_2 HG; have hf0 := blk_frozen HG 0; have hf1 := blk_frozen HG 1; have hf2 := blk_frozen HG 2; clear HG hg))
        go_ret
        exact Or.inr ⟨[], by rw [← HA2.out, dropB_nil (Nat.le_refl _), textL_nil], by first | rfl | simp, by simp only [List.length_nil, Nat.sub_zero]; (repeat (first | (with_reducible first | exact HI.out | apply IsS74.alloc | apply IsS74.drewN | apply IsS74.drew | apply IsS74.set_0 | apply IsS74.set_1 | apply IsS74.set_2) | exact HI.out)), by (repeat (first | (with_reducible first | exact HB.out | apply below_alloc | apply pw_below_drewN | apply below_drew1 | refine below_set ?_ (IsS74.ge HI.out)) | exact HB.out)), by (repeat (first | (with_reducible first | exact HK.out | apply KeepBut.set_ | apply keep_drewN | apply keep_drew | apply keep_alloc) | exact HK.out))⟩
    · have hb0 := decide_eq_false (show ¬ ((at_ : Int) < 0) by omega)
      have HA2 := Aside0.mk ht
      clear ht HA
      obtain ⟨HG, hg⟩ := HI.out
      have hc0 := cellS74_0 HG
      have hc1 := cellS74_1 HG
      have hc2 := cellS74_2 HG
      have hf0 := blk_frozen HG 0
      have hf1 := blk_frozen HG 1
      have hf2 := blk_frozen HG 2
      clear HG hg
      go_wp2
      go_ret
      exact Or.inr ⟨dropB s at_, HA2.out, by first | rfl | simp, by rw [dropB_len, Nat.sub_sub_self hlb]; (repeat (first | (with_reducible first | exact HI.out | apply IsS74.alloc | apply IsS74.drewN | apply IsS74.drew | apply IsS74.set_0 | apply IsS74.set_1 | apply IsS74.set_2) | exact HI.out)), by (repeat (first | (with_reducible first | exact HB.out | apply below_alloc | apply pw_below_drewN | apply below_drew1 | refine below_set ?_ (IsS74.ge HI.out)) | exact HB.out)), by (repeat (first | (with_reducible first | exact HK.out | apply KeepBut.set_ | apply keep_drewN | apply keep_drew | apply keep_alloc) | exact HK.out))⟩
end Go.Proofs.YthaapijjjgkacaaDoor.Mine
end
