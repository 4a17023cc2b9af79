/- Texts of one claim, one behind the other, made short by a program. -/
import Derived.Test.YtlokmijoaocofaaGreatDoorMP11
import Derived.Shelf.SlGeneric
import Derived.Shelf.SlicesE.Clone
import Derived.Shelf.SlSortCmp.NoneTotal
import Derived.Shelf.SlicesG.Cmp
import Derived.Ground.SlgnProg
import Derived.Ground.SlsfProg
import Derived.Ground.SlgcProg
import Derived.Sort.OwnSorted
set_option linter.unusedSimpArgs false
set_option linter.unusedVariables false
set_option maxRecDepth 100000
section
namespace Go.Proofs.YtlokmijoaocofaaGreatDoor.Mine
open Go.Maps Go.ChangeMaps Go.MapKept Go.RowKit
def rawR (v : Value) : Option (DataW Value × List MemPlace) := some (.held v, [])
def Holds {α : Type} (P : Program) (k : TypeId) (kv : α → Value) (D : DataW Value) (f : α → Option Value) : Prop :=
 ∀ x l, keyOf P k (kv x) = some l → Maps.has D l = (f x).isSome ∧ ∀ v, f x = some v → ∀ zd, D.atKey l zd = .held v
def MapIs {α : Type} (P : Program) (k : TypeId) (kv : α → Value) (w : World) (b n : Nat) (f : α → Option Value) : Prop :=
 ∃ D : DataW Value, w.ownsMap P k rawR b n D ∧ Holds P k kv D f
def upd {α β : Type} [DecidableEq α] (f : α → Option β) (x : α) (v : Option β) : α → Option β := fun y => if y = x then v else f y
section
variable {α : Type} {P : Program} {k : TypeId} {kv : α → Value} {w w' : World} {b n : Nat} {f : α → Option Value}
theorem ownsMap_block {H : Type} {R : Value → Option (DataW H × List MemPlace)} {D : DataW H} (h : w.ownsMap P k R b n D) (hb : w'.heap[b]? = w.heap[b]?) : w'.ownsMap P k R b n D := by
 obtain ⟨es, clock, h1, h2⟩ := h
 exact ⟨es, clock, hb.trans h1, h2⟩
theorem ownsMap_lt {H : Type} {R : Value → Option (DataW H × List MemPlace)} {D : DataW H} (h : w.ownsMap P k R b n D) : b < w.heap.size := by
 obtain ⟨es, clock, h1, _⟩ := h
 exact (Array.getElem?_eq_some_iff.1 h1).1
theorem MapIs.lt (h : MapIs P k kv w b n f) : b < w.heap.size := by
 obtain ⟨D, h1, _⟩ := h
 exact ownsMap_lt h1
theorem MapIs.block (h : MapIs P k kv w b n f) (hb : w'.heap[b]? = w.heap[b]?) : MapIs P k kv w' b n f := by
 obtain ⟨D, h1, h2⟩ := h
 exact ⟨D, ownsMap_block h1 hb, h2⟩
theorem MapIs.below (h : MapIs P k kv w b n f) (hb : Below w.heap.size w w') : MapIs P k kv w' b n f := h.block (hb.block b h.lt)
theorem MapIs.mono {m : Nat} (h : MapIs P k kv w b n f) (hm : n ≤ m) : MapIs P k kv w b m f := by
 obtain ⟨D, ⟨es, clock, h1, h3, h4, h5⟩, h2⟩ := h
 exact ⟨D, ⟨es, clock, h1, h3, Nat.le_trans h4 hm, h5⟩, h2⟩
theorem MapIs.look_some (h : MapIs P k kv w b n f) (K : Keyed P k) {t e : TypeId} (ht : P.underlying t = some (.map k e)) {z : Value} (hz : (zeroValue e).run P w = .ok z w) {x : α} {l : Lit} (hk : keyOf P k (kv x) = some l) {v : Value} (hf : f x = some v) :
 (Instr.lookup t (.map (some b)) (kv x) true).run P w = .ok (.tuple #[v, .bool true]) w := by
 obtain ⟨D, h1, h2⟩ := h
 obtain ⟨v', ps, hrun, hR⟩ := h1.look_ok K ht hz (zd := .held z) (zp := []) rfl hk
 obtain ⟨h3, h4⟩ := h2 x l hk
 rw [hf] at h3
 rw [h4 v hf] at hR
 rw [hrun, h3]
 have : v' = v := by
  have := Option.some.inj hR
  have := (Prod.mk.inj this).1
  injection this
 rw [this]
 rfl
theorem MapIs.look_none (h : MapIs P k kv w b n f) (K : Keyed P k) {t e : TypeId} (ht : P.underlying t = some (.map k e)) {z : Value} (hz : (zeroValue e).run P w = .ok z w) {x : α} {l : Lit} (hk : keyOf P k (kv x) = some l) (hf : f x = none) :
 (Instr.lookup t (.map (some b)) (kv x) true).run P w = .ok (.tuple #[z, .bool false]) w := by
 obtain ⟨D, h1, h2⟩ := h
 obtain ⟨v', ps, hrun, hR⟩ := h1.look_ok K ht hz (zd := .held z) (zp := []) rfl hk
 obtain ⟨h3, h4⟩ := h2 x l hk
 rw [hf] at h3
 have h3 : Maps.has D l = false := h3
 rw [Maps.atKey_of_not_has h3] at hR
 rw [hrun, h3]
 have : v' = z := by
  have := Option.some.inj hR
  have := (Prod.mk.inj this).1
  injection this
 rw [this]
theorem MapIs.look1 (h : MapIs P k kv w b n f) (K : Keyed P k) {t e : TypeId} (ht : P.underlying t = some (.map k e)) {z : Value} (hz : (zeroValue e).run P w = .ok z w) {x : α} {l : Lit} (hk : keyOf P k (kv x) = some l) :
 (Instr.lookup t (.map (some b)) (kv x) false).run P w = .ok ((f x).getD z) w := by
 obtain ⟨D, ⟨es, clock, hb, F, _, rfl⟩, h2⟩ := h
 obtain ⟨h3, h4⟩ := h2 x l hk
 rcases Maps.fit_look false K ht hz hb F hk with ⟨hrun, _, hat⟩ | ⟨e0, y, _, _, hrun, hRv, hat, _⟩
 ·
  have h5 := Maps.has_false_of_atKey hat
  cases hf : f x with
  | none => exact hrun
  | some v => rw [h5, hf] at h3; cases h3
 ·
  have h5 := Maps.has_true_of_atKey hat
  cases hf : f x with
  | none => rw [h5, hf] at h3; cases h3
  | some v =>
   have h6 := h4 v hf (.held z)
   rw [hat (.held z)] at h6
   have h7 : y = (.held e0.val, []) := (Option.some.inj hRv).symm
   rw [h7] at h6
   have h8 : e0.val = v := by injection h6
   rw [← h8]
   exact hrun
theorem MapIs.store [DecidableEq α] (h : MapIs P k kv w b n f) (K : Keyed P k) (hinj : ∀ x y, kv x = kv y → x = y) {t e : TypeId} (ht : P.underlying t = some (.map k e)) (hn : n < maxLen) {x : α} {l : Lit} (hk : keyOf P k (kv x) = some l) (v : Value) :
 ∃ w', (Instr.mapUpdate t (.map (some b)) (kv x) v).run P w = .ok () w' ∧ MapIs P k kv w' b (n + 1) (upd f x (some v)) ∧ w.grownBy w' (some b) := by
 obtain ⟨D, h1, h2⟩ := h
 obtain ⟨w', hrun, hown, hturn⟩ := h1.store K ht hn hk (d := .held v) (ps := []) rfl
 refine ⟨w', hrun, ⟨_, hown, fun y l' hy => ?_⟩, hturn.grown⟩
 by_cases hxy : y = x
 ·
  subst hxy
  obtain rfl : l' = l := Option.some.inj (hy.symm.trans hk)
  unfold upd
  rw [if_pos rfl]
  exact ⟨Maps.has_put_same h1.isMap (K.key hk) _, fun v' hv' zd => by rw [Maps.atKey_put_same h1.isMap (K.key hk)]; injection hv' with hv'; rw [hv']⟩
 ·
  have hne : l' ≠ l := fun e => hxy (hinj _ _ (K.inj hy (e ▸ hk)))
  unfold upd
  rw [if_neg hxy, Maps.has_put_other hne]
  exact ⟨(h2 y l' hy).1, fun v' hv' zd => by rw [Maps.atKey_put_other hne]; exact (h2 y l' hy).2 v' hv' zd⟩
theorem MapIs.drop [DecidableEq α] (h : MapIs P k kv w b n f) (K : Keyed P k) (hinj : ∀ x y, kv x = kv y → x = y) {t e : TypeId} (ht : P.underlying t = some (.map k e)) {x : α} {l : Lit} (hk : keyOf P k (kv x) = some l) (ty : TypeId) :
 ∃ w', (Builtin.delete_ #[t, k] ty #[.map (some b), kv x]).run P w = .ok (.tuple #[]) w' ∧ MapIs P k kv w' b n (upd f x none) ∧ w.grownBy w' (some b) := by
 obtain ⟨D, h1, h2⟩ := h
 obtain ⟨w', hrun, hown, hturn⟩ := h1.drop K ht hk ty
 refine ⟨w', hrun, ⟨_, hown, fun y l' hy => ?_⟩, hturn.grown⟩
 by_cases hxy : y = x
 ·
  subst hxy
  obtain rfl : l' = l := Option.some.inj (hy.symm.trans hk)
  unfold upd
  rw [if_pos rfl]
  exact ⟨Maps.has_del_same, fun v' hv' zd => by cases hv'⟩
 ·
  have hne : l' ≠ l := fun e => hxy (hinj _ _ (K.inj hy (e ▸ hk)))
  unfold upd
  rw [if_neg hxy, Maps.has_del_other hne]
  exact ⟨(h2 y l' hy).1, fun v' hv' zd => by rw [Maps.atKey_del_other hne]; exact (h2 y l' hy).2 v' hv' zd⟩
theorem MapIs.made (w : World) : MapIs P k kv (w.alloc (.map #[] 0)) w.heap.size 0 (fun _ => none) :=
 ⟨_, World.ownsMap_made _ _ _ _, fun x l hk => ⟨rfl, fun v hv => by cases hv⟩⟩
end
end Go.Proofs.YtlokmijoaocofaaGreatDoor.Mine
end
section
namespace Go.Proofs
open Go.Shelf
def Tryz.cloneA_ren : Go.Shelf.Ren := ⟨fun | 41 => 15 | n => n, fun | 22 => 23 | 23 => 61 | 4 => 4 | n => n, fun | n => n⟩
theorem Tryz.cloneA : Go.Proofs.SlLaysE0.n41 Tryz.prog Tryz.cloneA_ren := {
 mixed := by kernel_rfl
 f41 := ⟨Tryz.f15.name, by decide, Tryz.func15.trans (congrArg some (by kernel_rfl))⟩
 t4 := Tryz.underlying4
 a4 := Tryz.isAgg4
 z4 := Tryz.sizeOf4
 v4 := Tryz.zeroValue4
 t22 := Tryz.underlying23
 a22 := Tryz.isAgg23
 z22 := Tryz.sizeOf23
 v22 := Tryz.zeroValue23 }
def Tryz.cloneV_ren : Go.Shelf.Ren := ⟨fun | 41 => 44 | n => n, fun | 22 => 42 | 23 => 72 | 4 => 4 | n => n, fun | n => n⟩
theorem Tryz.cloneV : Go.Proofs.SlLaysE0.n41 Tryz.prog Tryz.cloneV_ren := {
 mixed := by kernel_rfl
 f41 := ⟨Tryz.f44.name, by decide, Tryz.func44.trans (congrArg some (by kernel_rfl))⟩
 t4 := Tryz.underlying4
 a4 := Tryz.isAgg4
 z4 := Tryz.sizeOf4
 v4 := Tryz.zeroValue4
 t22 := Tryz.underlying42
 a22 := Tryz.isAgg42
 z22 := Tryz.sizeOf42
 v22 := Tryz.zeroValue42 }
def Tryz.sortW_ren : Go.Shelf.Ren := ⟨fun | 6 => 31 | 15 => 58 | 14 => 57 | 28 => 90 | 29 => 91 | 20 => 82 | 21 => 83 | 22 => 84 | 23 => 85 | 24 => 86 | 25 => 87 | 26 => 88 | 27 => 89 | 46 => 107 | 47 => 108 | 48 => 109 | 49 => 110 | 50 => 111 | 57 => 118 | n => n, fun | 22 => 49 | 24 => 56 | 25 => 106 | 3 => 3 | 39 => 155 | 0 => 0 | 53 => 195 | 55 => 197 | 4 => 4 | 46 => 188 | 45 => 187 | 50 => 192 | 5 => 5 | 9 => 9 | 66 => 215 | 70 => 219 | 76 => 225 | 77 => 226 | n => n, fun | n => n⟩
theorem Tryz.sortW : Go.Proofs.SlLaysF0.n6 Tryz.prog Tryz.sortW_ren := {
 mixed := by kernel_rfl
 f6 := ⟨Tryz.f31.name, by decide, Tryz.func31.trans (congrArg some (by kernel_rfl))⟩
 f14 := ⟨Tryz.f57.name, by decide, Tryz.func57.trans (congrArg some (by kernel_rfl))⟩
 f15 := Tryz.func58.trans (congrArg some (by kernel_rfl))
 f20 := ⟨Tryz.f82.name, by decide, Tryz.func82.trans (congrArg some (by kernel_rfl))⟩
 f21 := ⟨Tryz.f83.name, by decide, Tryz.func83.trans (congrArg some (by kernel_rfl))⟩
 f22 := ⟨Tryz.f84.name, by decide, Tryz.func84.trans (congrArg some (by kernel_rfl))⟩
 f23 := ⟨Tryz.f85.name, by decide, Tryz.func85.trans (congrArg some (by kernel_rfl))⟩
 f24 := ⟨Tryz.f86.name, by decide, Tryz.func86.trans (congrArg some (by kernel_rfl))⟩
 f25 := ⟨Tryz.f87.name, by decide, Tryz.func87.trans (congrArg some (by kernel_rfl))⟩
 f26 := ⟨Tryz.f88.name, by decide, Tryz.func88.trans (congrArg some (by kernel_rfl))⟩
 f27 := ⟨Tryz.f89.name, by decide, Tryz.func89.trans (congrArg some (by kernel_rfl))⟩
 f28 := Tryz.func90.trans (congrArg some (by kernel_rfl))
 f29 := Tryz.func91.trans (congrArg some (by kernel_rfl))
 f46 := ⟨Tryz.f107.name, by decide, Tryz.func107.trans (congrArg some (by kernel_rfl))⟩
 f47 := Tryz.func108.trans (congrArg some (by kernel_rfl))
 f48 := Tryz.func109.trans (congrArg some (by kernel_rfl))
 f49 := ⟨Tryz.f110.name, by decide, Tryz.func110.trans (congrArg some (by kernel_rfl))⟩
 f50 := ⟨Tryz.f111.name, by decide, Tryz.func111.trans (congrArg some (by kernel_rfl))⟩
 f57 := ⟨Tryz.f118.name, by decide, Tryz.func118.trans (congrArg some (by kernel_rfl))⟩
 t0 := Tryz.underlying0
 a0 := Tryz.isAgg0
 z0 := Tryz.sizeOf0
 v0 := Tryz.zeroValue0
 t3 := Tryz.underlying3
 a3 := Tryz.isAgg3
 z3 := Tryz.sizeOf3
 v3 := Tryz.zeroValue3
 t4 := Tryz.underlying4
 a4 := Tryz.isAgg4
 z4 := Tryz.sizeOf4
 v4 := Tryz.zeroValue4
 t5 := Tryz.underlying5
 a5 := Tryz.isAgg5
 z5 := Tryz.sizeOf5
 v5 := Tryz.zeroValue5
 t9 := Tryz.underlying9
 a9 := Tryz.isAgg9
 z9 := Tryz.sizeOf9
 v9 := Tryz.zeroValue9
 t22 := Tryz.underlying49
 a22 := Tryz.isAgg49
 z22 := Tryz.sizeOf49
 v22 := Tryz.zeroValue49
 t25 := Tryz.underlying106
 a25 := Tryz.isAgg106
 z25 := Tryz.sizeOf106
 v25 := Tryz.zeroValue106
 t39 := Tryz.underlying155
 a39 := Tryz.isAgg155
 z39 := Tryz.sizeOf155
 v39 := Tryz.zeroValue155
 t45 := Tryz.underlying187
 a45 := Tryz.isAgg187
 z45 := Tryz.sizeOf187
 v45 := Tryz.zeroValue187
 t46 := Tryz.underlying188
 a46 := Tryz.isAgg188
 z46 := Tryz.sizeOf188
 v46 := Tryz.zeroValue188
 t50 := Tryz.underlying192
 a50 := Tryz.isAgg192
 z50 := Tryz.sizeOf192
 v50 := Tryz.zeroValue192
 t53 := Tryz.underlying195
 a53 := Tryz.isAgg195
 z53 := Tryz.sizeOf195
 v53 := Tryz.zeroValue195
 t55 := Tryz.underlying197
 a55 := Tryz.isAgg197
 z55 := Tryz.sizeOf197
 v55 := Tryz.zeroValue197
 t66 := Tryz.underlying215
 a66 := Tryz.isAgg215
 z66 := Tryz.sizeOf215
 v66 := Tryz.zeroValue215
 t70 := Tryz.underlying219
 a70 := Tryz.isAgg219
 z70 := Tryz.sizeOf219
 v70 := Tryz.zeroValue219
 t76 := Tryz.underlying225
 a76 := Tryz.isAgg225
 z76 := Tryz.sizeOf225
 v76 := Tryz.zeroValue225
 t77 := Tryz.underlying226
 a77 := Tryz.isAgg226
 z77 := Tryz.sizeOf226
 v77 := Tryz.zeroValue226 }
def Tryz.cmpI_ren : Go.Shelf.Ren := ⟨fun | 5 => 34 | 7 => 59 | n => n, fun | 22 => 3 | 3 => 3 | 4 => 4 | n => n, fun | n => n⟩
theorem Tryz.cmpI : Go.Proofs.SlLaysC2.n5 Tryz.prog Tryz.cmpI_ren := {
 mixed := by kernel_rfl
 f5 := ⟨Tryz.f34.name, by decide, Tryz.func34.trans (congrArg some (by kernel_rfl))⟩
 f7 := ⟨Tryz.f59.name, by decide, Tryz.func59.trans (congrArg some (by kernel_rfl))⟩
 t3 := Tryz.underlying3
 a3 := Tryz.isAgg3
 z3 := Tryz.sizeOf3
 v3 := Tryz.zeroValue3
 t4 := Tryz.underlying4
 a4 := Tryz.isAgg4
 z4 := Tryz.sizeOf4
 v4 := Tryz.zeroValue4
 t22 := Tryz.underlying3
 a22 := Tryz.isAgg3
 z22 := Tryz.sizeOf3
 v22 := Tryz.zeroValue3 }
end Go.Proofs
end
section
namespace Go.Proofs.YtlokmijoaocofaaGreatDoor.Mine
open Go.RowKit YtlokmijoaocofaaGreatDoorW.PrintWords YtlokmijoaocofaaGreatDoorW.PrintLast YtlokmijoaocofaaGreatDoorW.PrintMore
open PBoardPlays
theorem flat_cells {α : Type} (enc : α → List Value) (k : Nat) (hk : ∀ x, (enc x).length = k) (w : World) (b : Nat) : ∀ (xs : List α) (o : Nat), (∀ q x, xs[q]? = some x → ∀ i u, (enc x)[i]? = some u → w.cell? ⟨b, o + (q * k + i), none⟩ = some u) → ∀ j u, (xs.flatMap enc)[j]? = some u → w.cell? ⟨b, o + j, none⟩ = some u
 | [], o, _, j, u, hj => by simp at hj
 | x :: r, o, h, j, u, hj => by
  rw [List.flatMap_cons] at hj
  by_cases hlt : j < k
  ·
   rw [List.getElem?_append_left (by rw [hk]; exact hlt)] at hj
   have := h 0 x rfl j u hj
   rwa [Nat.zero_mul, Nat.zero_add] at this
  ·
   rw [List.getElem?_append_right (by rw [hk]; omega), hk] at hj
   have := flat_cells enc k hk w b r (o + k) (fun q y hq i v hi => by
    have := h (q + 1) y hq i v hi
    rwa [Nat.add_mul, Nat.one_mul, show o + (q * k + k + i) = o + k + (q * k + i) by omega] at this) (j - k) u hj
   rwa [show o + k + (j - k) = o + j by omega] at this
theorem flat_len {α : Type} (enc : α → List Value) (k : Nat) (hk : ∀ x, (enc x).length = k) : ∀ xs : List α, (xs.flatMap enc).length = xs.length * k
 | [] => by simp
 | x :: r => by rw [List.flatMap_cons, List.length_append, hk, flat_len enc k hk r, List.length_cons, Nat.add_mul, Nat.one_mul, Nat.add_comm]
theorem flat_reps {α : Type} (R : α → List Value → Prop) (enc : α → List Value) (k : Nat) (hk : ∀ x, (enc x).length = k) (hR : ∀ x, R x (enc x)) : ∀ xs : List α, Reps R k xs (xs.flatMap enc)
 | [] => Reps.none _ _
 | x :: r => by
  have ih := flat_reps R enc k hk hR r
  refine ⟨flat_len enc k hk (x :: r), fun j p hj => ?_⟩
  rw [List.flatMap_cons]
  cases j with
  | zero =>
   have : x = p := by simpa using hj
   subst this
   rw [Nat.zero_mul, List.drop_zero, List.take_append_of_le_length (by rw [hk]; exact Nat.le_refl _), List.take_of_length_le (by rw [hk]; exact Nat.le_refl _)]
   exact hR x
  | succ j =>
   have hj2 : r[j]? = some p := by simpa using hj
   rw [Nat.add_mul, Nat.one_mul, show j * k + k = (enc x).length + j * k by rw [hk]; omega, show (enc x ++ r.flatMap enc).drop ((enc x).length + j * k) = (r.flatMap enc).drop (j * k) by rw [← List.drop_drop, List.drop_left]]
   exact ih.2 j p hj2
theorem add_flat (b off m : Nat) : (⟨b, off, none⟩ : Addr).add m = ⟨b, off + m, none⟩ := by
 unfold Addr.add
 split
 ·
  rename_i h
  rw [h]
  rfl
 ·
  rfl
def cellsV (x : SV) : List Value := [.int .i64 x.f0, .string x.f1]
def cellsA (x : SA) : List Value := [.string x.f0, .int .i64 x.f1, .int .i64 x.f2, .int .i64 x.f3]
theorem clone_V (b off n c : Nat) (L : List SV) (w : World) (hn : L.length = n) (hr : Kd.C k72 w (some ⟨b, off, none⟩) n L) (hl : n ≤ 1000000000) (h0 : 0 < n) :
 Calls Tryz.prog 44 #[.slice (some ⟨b, off, none⟩) n c] w fun e w' => ∃ A c', e = .returned (.slice A n c') ∧ n ≤ c' ∧ Kd.C k72 w' A n L ∧ Kd.R k72 72 w' w.heap.size (fun _ => True) (.slice A n c') L ∧ Below w.heap.size w w' := by
 obtain ⟨i0, hi, hzz⟩ := Option.map_eq_some_iff.1 info72
 simp only [Prod.mk.injEq] at hzz
 obtain ⟨hz0, hz1, hz2⟩ := hzz
 have hflat := flat_cells cellsV 2 (fun _ => rfl) w b L off (fun q x hq i u hi => by
  obtain ⟨ad, e, hc⟩ := hr.2.2 h0
  injection e with e
  subst e
  obtain ⟨cs, _, hK, hcell⟩ := hc q x hq
  obtain rfl := k72_open hK
  have := hcell i u hi
  rw [add_flat] at this
  exact this)
 have hcon := AnyE.slices_Clone Tryz.cloneV i0 _ 2 24 hi hz0 hz1 hz2 rfl (by decide) Tryz.sizeOf72 b off n c (L.flatMap cellsV) w (by rw [flat_len cellsV 2 (fun _ => rfl), hn]) (by unfold maxLen; omega) (by omega) hflat (fun u hu => by
  obtain ⟨x, _, hx⟩ := List.mem_flatMap.1 hu
  unfold cellsV at hx
  simp at hx
  rcases hx with rfl | rfl | rfl | rfl <;> rfl)
 change Calls Tryz.prog 44 _ _ _ at hcon
 refine hcon.mono ?_
 rintro e w' ⟨v, rfl, hown, _, hb⟩
 have hR : Kd.R k72 72 w' w.heap.size (fun _ => True) v L := ⟨fun _ _ => trivial, L.flatMap cellsV, by rw [hn]; exact hown, flat_reps _ cellsV 2 (fun _ => rfl) (fun x => k72_mkM _ _ _ x) L⟩
 obtain ⟨A, c', rfl, hc, hC⟩ := Kd.R_reads hR
 rw [hn] at hc hC hR ⊢
 exact ⟨A, c', rfl, hc, hC, hR, hb⟩
theorem clone_A (b off n c : Nat) (L : List SA) (w : World) (hn : L.length = n) (hr : Kd.C k61 w (some ⟨b, off, none⟩) n L) (hl : n ≤ 1000000000) (h0 : 0 < n) :
 Calls Tryz.prog 15 #[.slice (some ⟨b, off, none⟩) n c] w fun e w' => ∃ A c', e = .returned (.slice A n c') ∧ n ≤ c' ∧ Kd.C k61 w' A n L ∧ Kd.R k61 61 w' w.heap.size (fun _ => True) (.slice A n c') L ∧ Below w.heap.size w w' := by
 obtain ⟨i0, hi, hzz⟩ := Option.map_eq_some_iff.1 info61
 simp only [Prod.mk.injEq] at hzz
 obtain ⟨hz0, hz1, hz2⟩ := hzz
 have hflat := flat_cells cellsA 4 (fun _ => rfl) w b L off (fun q x hq i u hi => by
  obtain ⟨ad, e, hc⟩ := hr.2.2 h0
  injection e with e
  subst e
  obtain ⟨cs, _, hK, hcell⟩ := hc q x hq
  obtain rfl := k61_open hK
  have := hcell i u hi
  rw [add_flat] at this
  exact this)
 have hcon := AnyE.slices_Clone Tryz.cloneA i0 _ 4 40 hi hz0 hz1 hz2 rfl (by decide) Tryz.sizeOf61 b off n c (L.flatMap cellsA) w (by rw [flat_len cellsA 4 (fun _ => rfl), hn]) (by unfold maxLen; omega) (by omega) hflat (fun u hu => by
  obtain ⟨x, _, hx⟩ := List.mem_flatMap.1 hu
  unfold cellsA at hx
  simp at hx
  rcases hx with rfl | rfl | rfl | rfl <;> rfl)
 change Calls Tryz.prog 15 _ _ _ at hcon
 refine hcon.mono ?_
 rintro e w' ⟨v, rfl, hown, _, hb⟩
 have hR : Kd.R k61 61 w' w.heap.size (fun _ => True) v L := ⟨fun _ _ => trivial, L.flatMap cellsA, by rw [hn]; exact hown, flat_reps _ cellsA 4 (fun _ => rfl) (fun x => k61_mkM _ _ _ x) L⟩
 obtain ⟨A, c', rfl, hc, hC⟩ := Kd.R_reads hR
 rw [hn] at hc hC hR ⊢
 exact ⟨A, c', rfl, hc, hC, hR, hb⟩
end Go.Proofs.YtlokmijoaocofaaGreatDoor.Mine
end
section
namespace Go.Proofs.YtlokmijoaocofaaGreatDoor.Mine
open Go.RowKit YtlokmijoaocofaaGreatDoorW.PrintWords Go.Lib
def badN (r : Nat) : Bool := (decide (r < 97) || decide (122 < r)) && (decide (r < 48) || decide (57 < r))
theorem idx_all (bad : Nat → Bool) (ok : UInt8 → Bool) (h1 : ∀ c : UInt8, c.toNat < 128 → bad c.toNat = !(ok c)) (h2 : ∀ r, 128 ≤ r → bad r = true) (h3 : ∀ c : UInt8, 128 ≤ c.toNat → ok c = false) (s : ByteArray) : ∀ (f i : Nat), s.size - i ≤ f → i ≤ s.size → (decide (0 ≤ idxFuncFrom bad true s f i) = !((s.data.toList.drop i).all ok))
 | 0, i, hf, hi => by
  have : i = s.size := by omega
  have hd : s.data.toList.drop i = [] := List.drop_eq_nil_iff.2 (by rw [Array.length_toList]; exact Nat.le_of_eq this.symm)
  rw [hd]
  rfl
 | f + 1, i, hf, hi => by
  by_cases hlt : i < s.size
  ·
   have hd : s.data.toList.drop i = (s[i]'hlt) :: s.data.toList.drop (i + 1) := by
    rw [List.drop_eq_getElem_cons (by rw [Array.length_toList]; exact hlt)]
    rfl
   rw [hd, List.all_cons]
   unfold idxFuncFrom
   rw [if_pos hlt]
   by_cases ha : (s[i]'hlt).toNat < 128
   ·
    rw [decode_ascii s i hlt ha]
    have hc := h1 _ ha
    simp only [hc]
    cases hx : ok (s[i]'hlt) with
    | false => simp
    | true =>
     simp only [Bool.not_true, Bool.true_and]
     rw [if_neg (by simp)]
     exact idx_all bad ok h1 h2 h3 s f (i + 1) (by omega) (by omega)
   ·
    have hd := decode_hi s i hlt (by omega)
    rw [if_pos (h2 _ hd), h3 _ (by omega)]
    simp
  ·
   have : i = s.size := by omega
   have hd : s.data.toList.drop i = [] := List.drop_eq_nil_iff.2 (by rw [Array.length_toList]; exact Nat.le_of_eq this.symm)
   rw [hd, idxFuncFrom_end _ _ _ _ _ hlt]
   rfl
theorem name_pred (w : World) : PredAt Tryz.prog 67 #[] encR badN w := fun W r _ => by
 unfold FnGives
 by_cases h1 : r < 97 <;> by_cases h2 : 122 < r <;> by_cases h3 : r < 48 <;> by_cases h4 : 57 < r
 all_goals
  have z1 : (r : Int) < 97 ↔ r < 97 := by omega
  have z2 : (122 : Int) < (r : Int) ↔ 122 < r := by omega
  have z3 : (r : Int) < 48 ↔ r < 48 := by omega
  have z4 : (57 : Int) < (r : Int) ↔ 57 < r := by omega
  go_enter Tryz.func67, Tryz.ntmps67
  go_wp2
  all_goals first | (exfalso; omega) | (go_ret; exact ⟨by simp [badN, h1, h2, h3, h4], 0, rfl⟩)
def nameOk (s : ByteArray) : Bool := !(s.toList == []) && (decide (s.size ≤ 12) && (isL (s.data.toList.headD 0) && (!(s.toList == [105, 110]) && (!(s.toList == [97, 110, 100]) && s.data.toList.all isA))))
theorem isA_nat (c : UInt8) : isA c = !badN c.toNat := by
 unfold isA isL isD badN
 simp only [UInt8.le_iff_toNat_le]
 have e1 : (97 : UInt8).toNat = 97 := rfl
 have e2 : (122 : UInt8).toNat = 122 := rfl
 have e3 : (48 : UInt8).toNat = 48 := rfl
 have e4 : (57 : UInt8).toNat = 57 := rfl
 rw [e1, e2, e3, e4, Bool.eq_iff_iff]
 simp only [Bool.or_eq_true, Bool.and_eq_true, decide_eq_true_eq, Bool.not_eq_true', Bool.and_eq_false_iff, Bool.or_eq_false_iff, decide_eq_false_iff_not]
 omega
theorem name_calls (s : ByteArray) (w : World) : Calls Tryz.prog 40 #[.string s] w fun e w' => e = .returned (.bool (nameOk s)) ∧ Below w.heap.size w w' := by
 have hC := fun W => Tryz.strings_ContainsFunc 67 #[] (enters_of Tryz.func67 (by kernel_rfl) rfl) badN s W (name_pred W)
 have hX : decide (0 ≤ Lib.idxFunc badN true s) = !(s.data.toList.all isA) := idx_all badN isA (fun c _ => by rw [isA_nat]; simp) (fun r hr => by simp only [badN, Bool.and_eq_true, Bool.or_eq_true, decide_eq_true_eq]; omega) (fun c hc => by rw [isA_nat]; simp only [badN, Bool.not_eq_false', Bool.and_eq_true, Bool.or_eq_true, decide_eq_true_eq]; omega) s s.size 0 (by omega) (by omega)
 have HX := mk0 hX
 have HC := mk0 hC
 clear hX hC
 cases q1 : (s.toList == []) with
 | true =>
  have HV := mk0 (show nameOk s = false by unfold nameOk; rw [q1]; rfl)
  generalize nameOk s = z at HV ⊢
  go_enter Tryz.func40, Tryz.ntmps40
  go_wp2
  go_ret
  exact ⟨by rw [HV.out]; rfl, Below.refl _ _⟩
 | false =>
  have hpos : 0 < s.size := by
   rcases Nat.eq_zero_or_pos s.size with h0 | h0
   ·
    have : s.toList = [] := by
     have e : s = ByteArray.empty := by
      cases s with
      | mk d =>
       have h5 : d.size = 0 := h0
       have : d = #[] := Array.eq_empty_of_size_eq_zero h5
       rw [this]
       rfl
     rw [e, btl]
     rfl
    rw [this] at q1
    cases q1
   ·
    exact h0
  by_cases h12 : s.size ≤ 12
  ·
   have q2 : decide ((12 : Int) < (s.size : Int)) = false := decide_eq_false (by omega)
   have q2b : decide (12 < s.size) = false := decide_eq_false (by omega)
   obtain ⟨c, hc⟩ : ∃ c, s[0]'hpos = c := ⟨_, rfl⟩
   have hhd : s.data.toList.headD 0 = c := by
    have h0 : 0 < s.data.toList.length := by rw [Array.length_toList]; exact hpos
    have : s.data.toList = s.data.toList[0] :: s.data.toList.drop 1 := by
     have := List.drop_eq_getElem_cons h0
     rwa [List.drop_zero] at this
    rw [this]
    exact hc
   have hx : ∀ h : 0 < s.size, s[0]'h = c := fun _ => hc
   have p1 : (0 : Int) < (s.size : Int) := by omega
   have HV := mk0 (show nameOk s = (isL c && (!(s.toList == [105, 110]) && (!(s.toList == [97, 110, 100]) && s.data.toList.all isA))) by unfold nameOk; rw [q1, decide_eq_true h12, hhd]; rfl)
   generalize nameOk s = z at HV ⊢
   clear hc hhd
   have hL : isL c = (!decide ((c.toNat : Int) < 97) && !decide (122 < (c.toNat : Int))) := by
    unfold isL
    rw [Bool.eq_iff_iff]
    simp only [decide_eq_true_eq, Bool.and_eq_true, Bool.not_eq_true', decide_eq_false_iff_not, UInt8.le_iff_toNat_le]
    have e1 : (97 : UInt8).toNat = 97 := rfl
    have e2 : (122 : UInt8).toNat = 122 := rfl
    rw [e1, e2]
    omega
   by_cases g0 : (c.toNat : Int) < 97
   ·
    have g1 := decide_eq_true g0
    have HZ := mk0 (show z = false by rw [HV.out, hL, g1]; rfl)
    clear hL g0
    go_enter Tryz.func40, Tryz.ntmps40
    go_wp2
    go_ret
    exact ⟨by rw [HZ.out]; rfl, Below.refl _ _⟩
   ·
    have g1 := decide_eq_false g0
    by_cases g2 : 122 < (c.toNat : Int)
    ·
     have g3 := decide_eq_true g2
     have HZ := mk0 (show z = false by rw [HV.out, hL, g1, g3]; rfl)
     clear hL g0 g2
     go_enter Tryz.func40, Tryz.ntmps40
     go_wp2
     go_ret
     exact ⟨by rw [HZ.out]; rfl, Below.refl _ _⟩
    ·
     have g3 := decide_eq_false g2
     cases q3 : (s.toList == [105, 110]) with
     | true =>
      have HZ := mk0 (show z = false by rw [HV.out, hL, g1, g3, q3]; rfl)
      clear hL g0 g2
      go_enter Tryz.func40, Tryz.ntmps40
      go_wp2
      go_ret
      exact ⟨by rw [HZ.out]; rfl, Below.refl _ _⟩
     | false =>
      cases q4 : (s.toList == [97, 110, 100]) with
      | true =>
       have HZ := mk0 (show z = false by rw [HV.out, hL, g1, g3, q3, q4]; rfl)
       clear hL g0 g2
       go_enter Tryz.func40, Tryz.ntmps40
       go_wp2
       go_ret
       exact ⟨by rw [HZ.out]; rfl, Below.refl _ _⟩
      | false =>
       have HZ := mk0 (show z = s.data.toList.all isA by rw [HV.out, hL, g1, g3, q3, q4]; rfl)
       clear hL g0 g2
       go_enter Tryz.func40, Tryz.ntmps40
       go_wp2_with fail
       refine (HC.out _).mono ?_
       rintro e w1 ⟨rfl, hb⟩
       rw [HX.out]
       go_wp2
       go_ret
       exact ⟨by rw [HZ.out]; simp, hb⟩
  ·
   have q2 : decide ((12 : Int) < (s.size : Int)) = true := decide_eq_true (by omega)
   have q2b : decide (12 < s.size) = true := decide_eq_true (by omega)
   have HV := mk0 (show nameOk s = false by unfold nameOk; rw [q1, decide_eq_false h12]; rfl)
   generalize nameOk s = z at HV ⊢
   go_enter Tryz.func40, Tryz.ntmps40
   go_wp2
   go_ret
   exact ⟨by rw [HV.out]; rfl, Below.refl _ _⟩
end Go.Proofs.YtlokmijoaocofaaGreatDoor.Mine
end
section
namespace Go.Proofs.YtlokmijoaocofaaGreatDoor.Mine
open Go.RowKit YtlokmijoaocofaaGreatDoorW.PrintWords YtlokmijoaocofaaGreatDoorW.PrintLast YtlokmijoaocofaaGreatDoorW.PrintMore
open PBoardPlays
theorem cont95_calls (g : Nat) (lb : Array Value) (p : S61 → Bool) (A : Option Addr) (n c : Nat) (L : List S61) (w : World) (eg : ∀ args w, (callFunc g args).run Tryz.prog w = .ok (.enter g args) w) (hn : L.length = n) (hr : Kd.C k61 w A n L) (hl : n ≤ 100000)
 (hp : CloOn g lb enc95 p w L) :
 Calls Tryz.prog 41 #[.slice A n c, .func (.func g) #[] lb] w fun e w' => e = .returned (.bool (L.any p)) ∧ Below w.heap.size w w' := by
 have HC := mk0 (idx95_calls g lb p A n c L w eg hn hr hl hp)
 have HX := mk0 (idxB_any p L)
 generalize idxB p L = z at HC HX
 clear hr hn hp
 go_enter Tryz.func41, Tryz.ntmps41
 go_wp2_with fail
 refine HC.out.mono ?_
 rintro e w2 ⟨rfl, hb⟩
 go_wp2
 go_ret
 exact ⟨by rw [← HX.out]; rfl, hb⟩
theorem attr_clo (nm : ByteArray) (B : Nat) (w : World) (hc : w.cell? ⟨B, 0, none⟩ = some (.string nm)) : CloAt 42 #[.pointer (some ⟨B, 0, none⟩)] enc95 (fun x => x.f0.toList == nm.toList) w := fun W x hb => by
 have h0 := (hb.cell (World.block_lt_of_cell? w _ hc)).trans hc
 have hlt := World.block_lt_of_cell? W _ h0
 show Calls _ _ #[enc95 x, .pointer (some ⟨B, 0, none⟩)] W _
 unfold enc95
 go_enter Tryz.func42, Tryz.ntmps42
 go_wp2
 go_ret
 exact ⟨rfl, below_alloc (Below.refl _ _) _⟩
def kindOk (a : S61) : Bool :=
 if a.f1 = 1 then !decide (a.f2 < -2147483648) && (!decide (2147483648 < a.f3) && !decide (a.f3 < a.f2))
 else (a.f1 == 2) && ((a.f2 == 0) && (a.f3 == 0))
def attrAt (S : List S61) (i : Nat) : Bool := nameOk (S.getD i z61).f0 && (!((S.take i).any fun x => x.f0.toList == (S.getD i z61).f0.toList) && kindOk (S.getD i z61))
def chkFrom (S : List S61) : Nat → Nat → Option Nat
 | 0, _ => none
 | k + 1, i => if attrAt S i then chkFrom S k (i + 1) else some i
def checkBad (S : List S61) : Option Nat := if S.length < 1 ∨ 4 < S.length then some 0 else chkFrom S S.length 0
def CheckPost (w : World) (S : List S61) (e : Ending) (w' : World) : Prop :=
 match checkBad S with
 | none => e = .returned .nilIface ∧ Below w.heap.size w w'
 | some i => ∃ b, w.heap.size ≤ b ∧ e = .returned (.iface 143 (.pointer (some ⟨b, 0, none⟩))) ∧ IsFault w' b ⟨#[118, 97, 108, 117, 101]⟩ (i : Int) 3 ∧ Below w.heap.size w w'
theorem cp_bad {w w' : World} {S : List S61} {e : Ending} {i : Nat} (h : checkBad S = some i) (ho : ∃ b, w.heap.size ≤ b ∧ e = .returned (.iface 143 (.pointer (some ⟨b, 0, none⟩))) ∧ IsFault w' b ⟨#[118, 97, 108, 117, 101]⟩ (i : Int) 3 ∧ Below w.heap.size w w') : CheckPost w S e w' := by
 unfold CheckPost
 rw [h]
 exact ho
theorem cp_ok {w w' : World} {S : List S61} {e : Ending} (h : checkBad S = none) (ho : e = .returned .nilIface ∧ Below w.heap.size w w') : CheckPost w S e w' := by
 unfold CheckPost
 rw [h]
 exact ho
theorem CheckPost.bad {w w' : World} {S : List S61} {e : Ending} {i : Nat} (h : CheckPost w S e w') (hb : checkBad S = some i) : ∃ b, w.heap.size ≤ b ∧ e = .returned (.iface 143 (.pointer (some ⟨b, 0, none⟩))) ∧ IsFault w' b ⟨#[118, 97, 108, 117, 101]⟩ (i : Int) 3 ∧ Below w.heap.size w w' := by
 unfold CheckPost at h
 rw [hb] at h
 exact h
theorem CheckPost.ok {w w' : World} {S : List S61} {e : Ending} (h : CheckPost w S e w') (hb : checkBad S = none) : e = .returned .nilIface ∧ Below w.heap.size w w' := by
 unfold CheckPost at h
 rw [hb] at h
 exact h
theorem chkFrom_none {S : List S61} : ∀ (k i : Nat), chkFrom S k i = none → ∀ j, i ≤ j → j < i + k → attrAt S j = true
 | 0, i, _, j, h1, h2 => by omega
 | k + 1, i, h, j, h1, h2 => by
  unfold chkFrom at h
  split at h
  ·
   by_cases hj : j = i
   ·
    rw [hj]; assumption
   ·
    exact chkFrom_none k (i + 1) h j (by omega) (by omega)
  ·
   cases h
theorem checkBad_none {S : List S61} (h : checkBad S = none) : 1 ≤ S.length ∧ S.length ≤ 4 ∧ ∀ a ∈ S, nameOk a.f0 = true ∧ kindOk a = true := by
 unfold checkBad at h
 split at h
 ·
  cases h
 ·
  refine ⟨by omega, by omega, fun a ha => ?_⟩
  obtain ⟨i, hi, rfl⟩ := List.getElem_of_mem ha
  have := chkFrom_none S.length 0 h i (Nat.zero_le _) (by omega)
  have e : S.getD i z61 = S[i] := by rw [List.getD_eq_getElem?_getD, List.getElem?_eq_getElem hi]; rfl
  unfold attrAt at this
  rw [e] at this
  simp only [Bool.and_eq_true] at this
  exact ⟨this.1, this.2.2⟩
set_option maxHeartbeats 8000000 in
theorem check_calls (A : Option Addr) (n c : Nat) (S : List S61) (w : World) (hn : S.length = n) (hr : Kd.C k61 w A n S) (hl : n ≤ 100000) (hcd : n ≤ c) :
 Calls Tryz.prog 14 #[.slice A n c] w (CheckPost w S) := by
 have HRS := mk0 hr
 have HN := mk0 hn
 clear hr hn
 by_cases hlen : n < 1 ∨ 4 < n
 ·
  have HB := mk0 (fun e w' ho => cp_bad (w := w) (w' := w') (S := S) (e := e) (i := 0) (by unfold checkBad; rw [if_pos (by have := HN.out; omega)]) ho)
  generalize CheckPost w S = POST at HB ⊢
  by_cases h1 : n < 1
  ·
   have q1 : decide ((n : Int) < 1) = true := decide_eq_true (by omega)
   clear hlen
   obtain rfl : n = 0 := by omega
   go_enter Tryz.func14, Tryz.ntmps14
   go_wp2_with fail
   refine (vfault_calls _ _ _).mono ?_
   rintro e w1 ⟨b, h1, rfl, hf, hb⟩
   go_wp2
   try go_ret
   exact HB.out _ _ ⟨b, h1, rfl, hf, hb⟩
  ·
   have q1 : decide ((n : Int) < 1) = false := decide_eq_false (by omega)
   have q2 : decide (4 < (n : Int)) = true := decide_eq_true (by omega)
   clear hlen
   go_enter Tryz.func14, Tryz.ntmps14
   go_wp2_with fail
   refine (vfault_calls _ _ _).mono ?_
   rintro e w1 ⟨b, h1, rfl, hf, hb⟩
   go_wp2
   try go_ret
   exact HB.out _ _ ⟨b, h1, rfl, hf, hb⟩
 ·
  have q1 : decide ((n : Int) < 1) = false := decide_eq_false (by omega)
  have q2 : decide (4 < (n : Int)) = false := decide_eq_false (by omega)
  have HFB := mk0 (show checkBad S = chkFrom S n 0 by unfold checkBad; rw [if_neg (by have := HN.out; omega), HN.out])
  have HEP := mk0 (fun i e w' h ho => cp_bad (w := w) (w' := w') (S := S) (e := e) (i := i) h ho)
  have HOP := mk0 (fun e w' h ho => cp_ok (w := w) (w' := w') (S := S) (e := e) h ho)
  generalize CheckPost w S = POST at HEP HOP ⊢
  clear hlen
  go_enter Tryz.func14, Tryz.ntmps14
  go_wp2_with fail
  go_loopg [3, 4, 16, 21, 33, 54] (n + 1) (fun k v3 v4 v16 v21 v33 v54 W => ∃ i : Nat, Aside0 (i ≤ n ∧ k + i = n + 1 ∧ checkBad S = chkFrom S (n - i) i) ∧ v16 = .int .i64 (i : Int) ∧ Aside0 (Below w.heap.size w W))
  case atStart => exact ⟨0, ⟨by omega, by omega, HFB.out⟩, rfl, ⟨Below.refl _ _⟩⟩
  case round =>
   obtain ⟨i, HI, rfl, HB⟩ := hrel
   by_cases hi : i < n
   ·
    have b1 : decide ((i : Int) < (n : Int)) = true := decide_eq_true (by omega)
    have b2 : decide (i < n) = true := decide_eq_true (by omega)
    have p1 : (0 : Int) ≤ (i : Int) := by omega
    have p2 : (i : Int) < (n : Int) := by omega
    have hstep : chkFrom S (n - i) i = if attrAt S i then chkFrom S (n - (i + 1)) (i + 1) else some i := by
     rw [show n - i = (n - (i + 1)) + 1 by omega]
     rfl
    obtain ⟨ad, e, h0, h1, h2, h3⟩ := at_T61 HRS.out i p1 p2
    cases e
    rw [Int.toNat_natCast] at h0 h1 h2 h3
    replace h0 := (HB.out.cell (World.block_lt_of_cell? w _ h0)).trans h0
    replace h1 := (HB.out.cell (World.block_lt_of_cell? w _ h1)).trans h1
    replace h2 := (HB.out.cell (World.block_lt_of_cell? w _ h2)).trans h2
    replace h3 := (HB.out.cell (World.block_lt_of_cell? w _ h3)).trans h3
    have hrd : rd_T61 S (i : Int) = S.getD i z61 := rfl
    rw [hrd] at h0 h1 h2 h3
    unfold attrAt at hstep
    generalize S.getD i z61 = p at h0 h1 h2 h3 hstep
    have HST0 := mk0 hstep
    clear hrd hstep
    go_wp2_with fail
    refine (name_calls p.f0 _).mono ?_
    rintro e w1 ⟨rfl, hb⟩
    have hnew := heap_alloc_new wr (.cells #[.string p.f0, .int .i64 p.f1, .int .i64 p.f2, .int .i64 p.f3] 61 (0, 0))
    have KB6 := mk0 ((hb.block _ (blk_lt hnew)).trans hnew)
    have n_ := mk0 (below_then (below_alloc HB.out (.cells #[.string p.f0, .int .i64 p.f1, .int .i64 p.f2, .int .i64 p.f3] 61)) (below_size (below_alloc HB.out _)) hb)
    clear HB hb hnew h0 h1 h2 h3
    have HB := n_
    clear n_
    generalize wr.heap.size = g6 at KB6 ⊢
    cases hnm : nameOk p.f0 with
    | false =>
     have HST := mk0 (show chkFrom S (n - i) i = some i by rw [HST0.out, hnm]; rfl)
     have HE := mk0 (fun e w' ho => HEP.out i e w' (by rw [HI.out.2.2, HST.out]) ho)
     clear hnm
     go_wp2_with fail
     refine (vfault_calls _ _ _).mono ?_
     rintro e w9 ⟨b, hbl, rfl, hf, hb⟩
     have hfin := HE.out _ _ ⟨b, Nat.le_trans HB.out.size hbl, rfl, hf, below_then HB.out HB.out.size hb⟩
     clear hf hb hbl
     go_wp2
     try go_ret
     exact hfin
    | true =>
     rw [hnm, Bool.true_and] at HST0
     clear hnm
     have p3 : (i : Int) ≤ (c : Int) := by omega
     have HC := mk0 (fun W (hW : Below w.heap.size w W ∧ W.cell? ⟨g6, 0, none⟩ = some (.string p.f0)) => cont95_calls 42 #[.pointer (some ⟨g6, 0, none⟩)] _ (some ad) i c (S.take i) W (enters_of Tryz.func42 (by kernel_rfl) rfl) (by rw [List.length_take]; have := HN.out; omega) (C_take (Kd.C_below HRS.out hW.1) i (by omega)) (by omega) ((attr_clo p.f0 g6 W hW.2).on _))
     have q0 := (blk_cell KB6.out 0).trans (show _ = some (Value.string p.f0) from rfl)
     go_wp2_with fail
     refine (HC.out _ ⟨HB.out, q0⟩).mono ?_
     rintro e w2 ⟨rfl, hb⟩
     have k_ := mk0 ((hb.block _ (blk_lt KB6.out)).trans KB6.out)
     have n_ := mk0 (below_then HB.out HB.out.size hb)
     clear KB6 HB hb q0
     have KB6 := k_
     have HB := n_
     clear k_ n_ HC
     cases hany : ((S.take i).any fun x => x.f0.toList == p.f0.toList) with
     | true =>
      have HST := mk0 (show chkFrom S (n - i) i = some i by rw [HST0.out, hany]; rfl)
      have HE := mk0 (fun e w' ho => HEP.out i e w' (by rw [HI.out.2.2, HST.out]) ho)
      clear hany
      go_wp2_with fail
      refine (vfault_calls _ _ _).mono ?_
      rintro e w9 ⟨b, hbl, rfl, hf, hb⟩
      have hfin := HE.out _ _ ⟨b, Nat.le_trans HB.out.size hbl, rfl, hf, below_then HB.out HB.out.size hb⟩
      clear hf hb hbl
      go_wp2
      try go_ret
      exact hfin
     | false =>
      rw [hany, Bool.not_false, Bool.true_and] at HST0
      clear hany
      have y0 := (blk_cell KB6.out 0).trans (show _ = some (Value.string p.f0) from rfl)
      have y1 := (blk_cell KB6.out 1).trans (show _ = some (Value.int .i64 p.f1) from rfl)
      have y2 := (blk_cell KB6.out 2).trans (show _ = some (Value.int .i64 p.f2) from rfl)
      have y3 := (blk_cell KB6.out 3).trans (show _ = some (Value.int .i64 p.f3) from rfl)
      have HST := HST0
      clear HST0
      by_cases t1 : p.f1 = 1
      ·
       have o1 : (p.f1 == 1) = true := by simpa using t1
       by_cases t2 : p.f2 < -2147483648
       ·
        have e2 : decide (p.f2 < -2147483648) = true := decide_eq_true t2
        have HV := mk0 (show kindOk p = false by unfold kindOk; rw [if_pos t1, e2]; rfl)
        clear t1 t2
        have HE := mk0 (fun e w' ho => HEP.out i e w' (by rw [HI.out.2.2, HST.out, HV.out]; rfl) ho)
        go_wp2_with fail
        refine (vfault_calls _ _ _).mono ?_
        rintro e w9 ⟨b, hbl, rfl, hf, hb⟩
        have hfin := HE.out _ _ ⟨b, Nat.le_trans HB.out.size hbl, rfl, hf, below_then HB.out HB.out.size hb⟩
        clear hf hb hbl
        go_wp2
        try go_ret
        exact hfin
       ·
        have e2 : decide (p.f2 < -2147483648) = false := decide_eq_false t2
        by_cases t3 : 2147483648 < p.f3
        ·
         have e3 : decide (2147483648 < p.f3) = true := decide_eq_true t3
         have HV := mk0 (show kindOk p = false by unfold kindOk; rw [if_pos t1, e2, e3]; rfl)
         clear t1 t2 t3
         have HE := mk0 (fun e w' ho => HEP.out i e w' (by rw [HI.out.2.2, HST.out, HV.out]; rfl) ho)
         go_wp2_with fail
         refine (vfault_calls _ _ _).mono ?_
         rintro e w9 ⟨b, hbl, rfl, hf, hb⟩
         have hfin := HE.out _ _ ⟨b, Nat.le_trans HB.out.size hbl, rfl, hf, below_then HB.out HB.out.size hb⟩
         clear hf hb hbl
         go_wp2
         try go_ret
         exact hfin
        ·
         have e3 : decide (2147483648 < p.f3) = false := decide_eq_false t3
         by_cases t4 : p.f3 < p.f2
         ·
          have e4 : decide (p.f3 < p.f2) = true := decide_eq_true t4
          have HV := mk0 (show kindOk p = false by unfold kindOk; rw [if_pos t1, e2, e3, e4]; rfl)
          clear t1 t2 t3 t4
          have HE := mk0 (fun e w' ho => HEP.out i e w' (by rw [HI.out.2.2, HST.out, HV.out]; rfl) ho)
          go_wp2_with fail
          refine (vfault_calls _ _ _).mono ?_
          rintro e w9 ⟨b, hbl, rfl, hf, hb⟩
          have hfin := HE.out _ _ ⟨b, Nat.le_trans HB.out.size hbl, rfl, hf, below_then HB.out HB.out.size hb⟩
          clear hf hb hbl
          go_wp2
          try go_ret
          exact hfin
         ·
          have e4 : decide (p.f3 < p.f2) = false := decide_eq_false t4
          have HV := mk0 (show kindOk p = true by unfold kindOk; rw [if_pos t1, e2, e3, e4]; rfl)
          clear t1 t2 t3 t4
          go_wp2_with fail
          go_roundg (gk - 1)
          case measure => have := HI.out; omega
          case rel => exact ⟨i + 1, ⟨by omega, by have := HI.out; omega, by rw [HI.out.2.2, HST.out, HV.out]; rfl⟩, rfl, HB⟩
      ·
       have o1 : (p.f1 == 1) = false := by simpa using t1
       have HPO := mk0 (show kindOk p = ((p.f1 == 2) && ((p.f2 == 0) && (p.f3 == 0))) by unfold kindOk; rw [if_neg t1])
       clear t1
       cases e1 : (p.f1 == 2) with
       | false =>
        have HV := mk0 (show kindOk p = false by rw [HPO.out, e1]; rfl)
        have HE := mk0 (fun e w' ho => HEP.out i e w' (by rw [HI.out.2.2, HST.out, HV.out]; rfl) ho)
        go_wp2_with fail
        refine (vfault_calls _ _ _).mono ?_
        rintro e w9 ⟨b, hbl, rfl, hf, hb⟩
        have hfin := HE.out _ _ ⟨b, Nat.le_trans HB.out.size hbl, rfl, hf, below_then HB.out HB.out.size hb⟩
        clear hf hb hbl
        go_wp2
        try go_ret
        exact hfin
       | true =>
        cases e2 : (p.f2 == 0) with
        | false =>
         have HV := mk0 (show kindOk p = false by rw [HPO.out, e1, e2]; rfl)
         have HE := mk0 (fun e w' ho => HEP.out i e w' (by rw [HI.out.2.2, HST.out, HV.out]; rfl) ho)
         go_wp2_with fail
         refine (vfault_calls _ _ _).mono ?_
         rintro e w9 ⟨b, hbl, rfl, hf, hb⟩
         have hfin := HE.out _ _ ⟨b, Nat.le_trans HB.out.size hbl, rfl, hf, below_then HB.out HB.out.size hb⟩
         clear hf hb hbl
         go_wp2
         try go_ret
         exact hfin
        | true =>
         cases e3 : (p.f3 == 0) with
         | false =>
          have HV := mk0 (show kindOk p = false by rw [HPO.out, e1, e2, e3]; rfl)
          have HE := mk0 (fun e w' ho => HEP.out i e w' (by rw [HI.out.2.2, HST.out, HV.out]; rfl) ho)
          go_wp2_with fail
          refine (vfault_calls _ _ _).mono ?_
          rintro e w9 ⟨b, hbl, rfl, hf, hb⟩
          have hfin := HE.out _ _ ⟨b, Nat.le_trans HB.out.size hbl, rfl, hf, below_then HB.out HB.out.size hb⟩
          clear hf hb hbl
          go_wp2
          try go_ret
          exact hfin
         | true =>
          have HV := mk0 (show kindOk p = true by rw [HPO.out, e1, e2, e3]; rfl)
          go_wp2_with fail
          go_roundg (gk - 1)
          case measure => have := HI.out; omega
          case rel => exact ⟨i + 1, ⟨by omega, by have := HI.out; omega, by rw [HI.out.2.2, HST.out, HV.out]; rfl⟩, rfl, HB⟩
   ·
    have b1 : decide ((i : Int) < (n : Int)) = false := decide_eq_false (by omega)
    have b2 : decide (i < n) = false := decide_eq_false (by omega)
    have hfin := fun W => HOP.out (.returned .nilIface) W (by rw [HI.out.2.2, show n - i = 0 by omega]; rfl)
    have hfin2 := hfin _ ⟨rfl, HB.out⟩
    clear hfin
    go_wp2
    try go_ret
    exact hfin2
end Go.Proofs.YtlokmijoaocofaaGreatDoor.Mine
end
section
namespace Go.Proofs.YtlokmijoaocofaaGreatDoor.Mine
open Go.Maps Go.RowKit YtlokmijoaocofaaGreatDoorW.PrintWords YtlokmijoaocofaaGreatDoorW.PrintLast YtlokmijoaocofaaGreatDoorW.PrintMore
open PBoardPlays
abbrev P2 := Int × Int
structure Bd where
 evs : P2 → Option (List SV × ByteArray)
 subs : P2 → Option (List SP)
 got : P2 × P2 → Bool
def Bd.empty : Bd := ⟨fun _ => none, fun _ => none, fun _ => false⟩
def evOk (w : World) (f : P2 → Option Value) (g : P2 → Option (List SV × ByteArray)) : Prop :=
 ∀ x, (g x = none → f x = none) ∧ ∀ V p, g x = some (V, p) → ∃ A n c, f x = some (encE A n c p) ∧ V.length = n ∧ n ≤ c ∧ n ≤ 100000 ∧ Kd.C k72 w A n V
def subOk (w : World) (f : P2 → Option Value) (g : P2 → Option (List SP)) : Prop :=
 ∀ x, (g x = none → f x = none) ∧ ∀ F, g x = some F → ∃ A n c, f x = some (.slice A n c) ∧ F.length = n ∧ n ≤ c ∧ n ≤ 100000 ∧ Kd.C k149 w A n F
def gotOk (f : P2 × P2 → Option Value) (g : P2 × P2 → Bool) : Prop := ∀ x, f x = if g x then some (.bool true) else none
def IsBd (base : Nat) (w : World) (g : Nat) (S : List SA) (B : Bd) (N : Nat) : Prop :=
 ∃ (A : Option Addr) (n c be bs bg : Nat) (fe fs : P2 → Option Value) (fg : P2 × P2 → Option Value),
  w.heap[g]? = some (.cells #[.slice A n c, .map (some be), .map (some bs), .map (some bg)] 70 (0, 0)) ∧ (S.length = n ∧ n ≤ 100000 ∧ Kd.C k61 w A n S) ∧
  MapIs Tryz.prog 96 k2 w be N fe ∧ MapIs Tryz.prog 56 k2 w bs N fs ∧ MapIs Tryz.prog 102 k4 w bg N fg ∧ (be ≠ bs ∧ be ≠ bg ∧ bs ≠ bg) ∧ (base ≤ g ∧ base ≤ be ∧ base ≤ bs ∧ base ≤ bg) ∧ evOk w fe B.evs ∧ subOk w fs B.subs ∧ gotOk fg B.got
theorem evOk.below {w w' : World} {f g} (h : evOk w f g) (hb : Below w.heap.size w w') : evOk w' f g := fun x => ⟨(h x).1, fun V p hg => by
 obtain ⟨A, n, c, h1, h2, h3, h4, h5⟩ := (h x).2 V p hg
 exact ⟨A, n, c, h1, h2, h3, h4, Kd.C_below h5 hb⟩⟩
theorem subOk.below {w w' : World} {f g} (h : subOk w f g) (hb : Below w.heap.size w w') : subOk w' f g := fun x => ⟨(h x).1, fun F hg => by
 obtain ⟨A, n, c, h1, h2, h3, h4, h5⟩ := (h x).2 F hg
 exact ⟨A, n, c, h1, h2, h3, h4, Kd.C_below h5 hb⟩⟩
theorem IsBd.below {base : Nat} {w w' : World} {g : Nat} {S : List SA} {B : Bd} {N : Nat} (h : IsBd base w g S B N) (hb : Below w.heap.size w w') : IsBd base w' g S B N := by
 obtain ⟨A, n, c, be, bs, bg, fe, fs, fg, h1, ⟨h2, h3, h4⟩, h5, h6, h7, h8, h8b, h9, h10, h11⟩ := h
 exact ⟨A, n, c, be, bs, bg, fe, fs, fg, (hb.block g (blk_lt h1)).trans h1, ⟨h2, h3, Kd.C_below h4 hb⟩, h5.below hb, h6.below hb, h7.below hb, h8, h8b, h9.below hb, h10.below hb, h11⟩
theorem IsBd.mono {base : Nat} {w : World} {g : Nat} {S : List SA} {B : Bd} {N M : Nat} (h : IsBd base w g S B N) (hm : N ≤ M) : IsBd base w g S B M := by
 obtain ⟨A, n, c, be, bs, bg, fe, fs, fg, h1, h2, h5, h6, h7, h8⟩ := h
 exact ⟨A, n, c, be, bs, bg, fe, fs, fg, h1, h2, h5.mono hm, h6.mono hm, h7.mono hm, h8⟩
theorem map_cell_none {w : World} {b : Nat} {es : Array MapEntry} {cl : Nat} (h : w.heap[b]? = some (.map es cl)) (a : Addr) (ha : a.block = b) : w.cell? a = none := by
 subst ha
 simp [World.cell?, h]
theorem cell_turned {w w' : World} {b : Nat} {es : Array MapEntry} {cl : Nat} (hm : w.heap[b]? = some (.map es cl)) (hg : w.grownBy w' (some b)) {a : Addr} {u : Value} (hc : w.cell? a = some u) : w'.cell? a = some u := by
 have hne : a.block ≠ b := fun e => by
  rw [map_cell_none hm a e] at hc
  cases hc
 have := hg.block a.block (World.block_lt_of_cell? w a hc) (fun e => hne (Option.some.inj e))
 simpa [World.cell?, this] using hc
theorem CV_turned {w w' : World} {b : Nat} {es : Array MapEntry} {cl : Nat} (hm : w.heap[b]? = some (.map es cl)) (hg : w.grownBy w' (some b)) {A : Option Addr} {n : Nat} {L : List SV} (h : Kd.C k72 w A n L) : Kd.C k72 w' A n L :=
 ⟨h.1, h.2.1, fun hn => by
  obtain ⟨ad, e, hc⟩ := h.2.2 hn
  refine ⟨ad, e, fun j p hj => ?_⟩
  obtain ⟨cs, h1, h2, h3⟩ := hc j p hj
  obtain rfl := k72_open h2
  exact ⟨_, h1, k72_mk w' p, fun i u hi => cell_turned hm hg (h3 i u hi)⟩⟩
theorem CA_turned {w w' : World} {b : Nat} {es : Array MapEntry} {cl : Nat} (hm : w.heap[b]? = some (.map es cl)) (hg : w.grownBy w' (some b)) {A : Option Addr} {n : Nat} {L : List SA} (h : Kd.C k61 w A n L) : Kd.C k61 w' A n L :=
 ⟨h.1, h.2.1, fun hn => by
  obtain ⟨ad, e, hc⟩ := h.2.2 hn
  refine ⟨ad, e, fun j p hj => ?_⟩
  obtain ⟨cs, h1, h2, h3⟩ := hc j p hj
  obtain rfl := k61_open h2
  exact ⟨_, h1, k61_mk w' p, fun i u hi => cell_turned hm hg (h3 i u hi)⟩⟩
theorem CP_turned {w w' : World} {b : Nat} {es : Array MapEntry} {cl : Nat} (hm : w.heap[b]? = some (.map es cl)) (hg : w.grownBy w' (some b)) {A : Option Addr} {n : Nat} {L : List SP} (h : Kd.C k149 w A n L) : Kd.C k149 w' A n L :=
 ⟨h.1, h.2.1, fun hn => by
  obtain ⟨ad, e, hc⟩ := h.2.2 hn
  refine ⟨ad, e, fun j p hj => ?_⟩
  obtain ⟨cs, h1, h2, h3⟩ := hc j p hj
  obtain rfl := k149_open h2
  exact ⟨_, h1, k149_mk w' p, fun i u hi => cell_turned hm hg (h3 i u hi)⟩⟩
theorem evOk.turned {w w' : World} {b : Nat} {es : Array MapEntry} {cl : Nat} (hm : w.heap[b]? = some (.map es cl)) (hg : w.grownBy w' (some b)) {f g} (h : evOk w f g) : evOk w' f g := fun x => ⟨(h x).1, fun V p hg' => by
 obtain ⟨A, n, c, h1, h2, h3, h4, h5⟩ := (h x).2 V p hg'
 exact ⟨A, n, c, h1, h2, h3, h4, CV_turned hm hg h5⟩⟩
theorem subOk.turned {w w' : World} {b : Nat} {es : Array MapEntry} {cl : Nat} (hm : w.heap[b]? = some (.map es cl)) (hg : w.grownBy w' (some b)) {f g} (h : subOk w f g) : subOk w' f g := fun x => ⟨(h x).1, fun F hg' => by
 obtain ⟨A, n, c, h1, h2, h3, h4, h5⟩ := (h x).2 F hg'
 exact ⟨A, n, c, h1, h2, h3, h4, CP_turned hm hg h5⟩⟩
theorem MapIs.obj {α : Type} {P : Program} {k : TypeId} {kv : α → Value} {w : World} {b n : Nat} {f : α → Option Value} (h : MapIs P k kv w b n f) : ∃ es cl, w.heap[b]? = some (.map es cl) := by
 obtain ⟨D, ⟨es, cl, h1, _⟩, _⟩ := h
 exact ⟨es, cl, h1⟩
theorem MapIs.other {α : Type} {P : Program} {k : TypeId} {kv : α → Value} {w w' : World} {b b' n : Nat} {f : α → Option Value} (h : MapIs P k kv w b n f) (hg : w.grownBy w' (some b')) (hne : b ≠ b') : MapIs P k kv w' b n f := h.block (hg.block b h.lt (fun e => hne (Option.some.inj e)))
def Kept (base : Nat) (w w' : World) : Prop := Below base w w' ∧ ∀ (b : Nat) (cs : Array Value) (t : TypeId) (fr : Nat × Nat), w.heap[b]? = some (.cells cs t fr) → w'.heap[b]? = some (.cells cs t fr)
theorem Kept.of {base : Nat} {w w' : World} (h : Below w.heap.size w w') (hb : base ≤ w.heap.size) : Kept base w w' := ⟨h.mono hb, fun b cs t fr hc => (h.block b (Array.getElem?_eq_some_iff.1 hc).1).trans hc⟩
theorem Kept.trans {base : Nat} {w w1 w2 : World} (h : Kept base w w1) (h2 : Kept base w1 w2) : Kept base w w2 := ⟨h.1.trans h2.1, fun b cs t fr hc => h2.2 b cs t fr (h.2 b cs t fr hc)⟩
theorem Kept.cell {base : Nat} {w w' : World} (h : Kept base w w') {a : Addr} {u : Value} (hc : w.cell? a = some u) : w'.cell? a = some u := by
 cases ho : w.heap[a.block]? with
 | none => simp [World.cell?, ho] at hc
 | some o =>
  cases o with
  | cells cs t fr =>
   have := h.2 a.block cs t fr ho
   rw [← hc]
   simp [World.cell?, ho, this]
  | _ => simp [World.cell?, ho] at hc
theorem Kept.turned {base : Nat} {w w' : World} {b : Nat} {es : Array MapEntry} {cl : Nat} (hm : w.heap[b]? = some (.map es cl)) (hg : w.grownBy w' (some b)) (hb : base ≤ b) : Kept base w w' :=
 ⟨(Below.refl base w).grown hg (by have := (Array.getElem?_eq_some_iff.1 hm).1; omega) (fun k hk => by cases hk; exact hb), fun b' cs t fr hc => by
  have hne : b' ≠ b := by
   rintro rfl
   rw [hm] at hc
   cases hc
  exact (hg.block b' (Array.getElem?_eq_some_iff.1 hc).1 (fun e => hne (Option.some.inj e))).trans hc⟩
theorem CV_kept {base : Nat} {w w' : World} (hk : Kept base w w') {A : Option Addr} {n : Nat} {L : List SV} (h : Kd.C k72 w A n L) : Kd.C k72 w' A n L :=
 ⟨h.1, h.2.1, fun hn => by
  obtain ⟨ad, e, hc⟩ := h.2.2 hn
  refine ⟨ad, e, fun j p hj => ?_⟩
  obtain ⟨cs, h1, h2, h3⟩ := hc j p hj
  obtain rfl := k72_open h2
  exact ⟨_, h1, k72_mk w' p, fun i u hi => hk.cell (h3 i u hi)⟩⟩
theorem CR_kept {base : Nat} {w w' : World} (hk : Kept base w w') {A : Option Addr} {n : Nat} {L : List RV} (h : Kd.C k135 w A n L) : Kd.C k135 w' A n L :=
 ⟨h.1, h.2.1, fun hn => by
  obtain ⟨ad, e, hc⟩ := h.2.2 hn
  refine ⟨ad, e, fun j p hj => ?_⟩
  obtain ⟨cs, h1, h2, h3⟩ := hc j p hj
  obtain rfl := k135_open h2
  exact ⟨_, h1, k135_mk w' p, fun i u hi => hk.cell (h3 i u hi)⟩⟩
theorem ErrIs.kept {base : Nat} {w w' : World} (hk : Kept base w w') {c : Int} : ∀ {n : Nat} {v : Value}, ErrIs w c n v → ErrIs w' c n v
 | 0, _, h => h
 | _ + 1, _, ⟨b, wh, at_, x, hv, hc, hx⟩ => ⟨b, wh, at_, x, hv, hk.2 b _ _ _ hc, ErrIs.kept hk hx⟩
theorem bfault_calls (c : Int) (w : World) : Calls Tryz.prog 29 #[.int .i64 c] w fun e w' => ∃ b, w.heap.size ≤ b ∧ e = .returned (.iface 143 (.pointer (some ⟨b, 0, none⟩))) ∧ IsFault w' b ⟨#[98, 111, 97, 114, 100]⟩ 0 c ∧ Below w.heap.size w w' := by
 go_enter Tryz.func29, Tryz.ntmps29
 go_wp2
 go_ret
 exact ⟨w.heap.size, Nat.le_refl _, rfl, heap_alloc_new w _, below_alloc (Below.refl _ _) _⟩
theorem IsBd.new {base : Nat} {w : World} {A : Option Addr} {n c be bs bg : Nat} {S : List SA} (hn : S.length = n) (hl : n ≤ 100000) (hC : Kd.C k61 w A n S) (h1 : MapIs Tryz.prog 96 k2 w be 0 (fun _ => none)) (h2 : MapIs Tryz.prog 56 k2 w bs 0 (fun _ => none)) (h3 : MapIs Tryz.prog 102 k4 w bg 0 (fun _ => none)) (hne : be ≠ bs ∧ be ≠ bg ∧ bs ≠ bg) (hbase : base ≤ w.heap.size ∧ base ≤ be ∧ base ≤ bs ∧ base ≤ bg) :
 IsBd base (w.alloc (.cells #[.slice A n c, .map (some be), .map (some bs), .map (some bg)] 70)) w.heap.size S Bd.empty 0 := by
 have hb := below_alloc (Below.refl w.heap.size w) (.cells #[.slice A n c, .map (some be), .map (some bs), .map (some bg)] 70)
 exact ⟨A, n, c, be, bs, bg, _, _, _, heap_alloc_new w _, ⟨hn, hl, Kd.C_below hC hb⟩, h1.below hb, h2.below hb, h3.below hb, hne, hbase, fun x => ⟨fun _ => rfl, fun V p h => by cases h⟩, fun x => ⟨fun _ => rfl, fun F h => by cases h⟩, fun x => rfl⟩
theorem new_calls (base b off n c : Nat) (A : Option Addr) (S : List SA) (w : World) (hn : S.length = n) (hA : A = some ⟨b, off, none⟩ ∨ n = 0) (hr : Kd.C k61 w A n S) (hl : n ≤ 100000) (hcd : n ≤ c) (hbase : base ≤ w.heap.size) :
 Calls Tryz.prog 5 #[.slice A n c] w fun e w' => Below w.heap.size w w' ∧ ((∃ i, checkBad S = some i ∧ ∃ b, e = .returned (.tuple #[.pointer none, .iface 143 (.pointer (some ⟨b, 0, none⟩))]) ∧ IsFault w' b ⟨#[118, 97, 108, 117, 101]⟩ (i : Int) 3) ∨ (checkBad S = none ∧ ∃ g, w.heap.size ≤ g ∧ e = .returned (.tuple #[.pointer (some ⟨g, 0, none⟩), .nilIface]) ∧ IsBd base w' g S Bd.empty 0)) := by
 have HR := mk0 hr
 have HN := mk0 hn
 have HA := mk0 hA
 clear hr hn hA
 have hmm := @run_makeMap Tryz.prog
 cases hck : checkBad S with
 | some i =>
  have HCK := mk0 hck
  have HC := mk0 (fun e w' (h : CheckPost w S e w') => h.bad hck)
  clear hck
  go_enter Tryz.func5, Tryz.ntmps5
  go_wp2_with fail
  refine (check_calls A n c S _ HN.out HR.out hl hcd).mono ?_
  rintro e w1 hq
  obtain ⟨b1, hbl, rfl, hf, hb⟩ := HC.out _ _ hq
  clear hq HC
  go_wp2
  try go_ret2
  exact ⟨hb, Or.inl ⟨i, rfl, b1, rfl, hf⟩⟩
 | none =>
  have hn1 : 0 < n := by have := (checkBad_none hck).1; have := HN.out; omega
  have HC := mk0 (fun e w' (h : CheckPost w S e w') => h.ok hck)
  obtain rfl : A = some ⟨b, off, none⟩ := by
   rcases HA.out with h | h
   ·
    exact h
   ·
    omega
  clear hck
  go_enter Tryz.func5, Tryz.ntmps5
  go_wp2_with fail
  refine (check_calls _ n c S _ HN.out HR.out hl hcd).mono ?_
  rintro e w1 hq
  obtain ⟨rfl, hb⟩ := HC.out _ _ hq
  have HB := mk0 hb
  clear hq HC hb
  go_wp2_with fail
  refine (clone_A b off n c S _ HN.out (Kd.C_below HR.out HB.out) (by omega) hn1).mono ?_
  rintro e w2 ⟨A2, c2, rfl, hc2, hC2, _, hb⟩
  have HC2 := mk0 hC2
  have n_ := mk0 (below_then HB.out HB.out.size hb)
  clear HB hC2 hb
  have HB := n_
  clear n_
  have s1 : (w2.alloc (Obj.map #[] 0)).heap.size = w2.heap.size + 1 := by show (w2.heap.push _).size = _; exact Array.size_push _
  have s2 : ((w2.alloc (Obj.map #[] 0)).alloc (Obj.map #[] 0)).heap.size = w2.heap.size + 1 + 1 := by show ((w2.alloc (Obj.map #[] 0)).heap.push _).size = _; rw [Array.size_push, s1]
  have s3 : (((w2.alloc (Obj.map #[] 0)).alloc (Obj.map #[] 0)).alloc (Obj.map #[] 0)).heap.size = w2.heap.size + 1 + 1 + 1 := by show (((w2.alloc (Obj.map #[] 0)).alloc (Obj.map #[] 0)).heap.push _).size = _; rw [Array.size_push, s2]
  have b1 := below_alloc (Below.refl (w2.alloc (Obj.map #[] 0)).heap.size (w2.alloc (Obj.map #[] 0))) (Obj.map #[] 0)
  have b2 := below_alloc (Below.refl ((w2.alloc (Obj.map #[] 0)).alloc (Obj.map #[] 0)).heap.size ((w2.alloc (Obj.map #[] 0)).alloc (Obj.map #[] 0))) (Obj.map #[] 0)
  have b0 := below_alloc (below_alloc (below_alloc (Below.refl w2.heap.size w2) (Obj.map #[] 0)) (Obj.map #[] 0)) (Obj.map #[] 0)
  have m1 := ((MapIs.made (P := Tryz.prog) (k := 96) (kv := k2) w2).below b1).below b2
  have m2 := (MapIs.made (P := Tryz.prog) (k := 56) (kv := k2) (w2.alloc (Obj.map #[] 0))).below b2
  have m3 := MapIs.made (P := Tryz.prog) (k := 102) (kv := k4) ((w2.alloc (Obj.map #[] 0)).alloc (Obj.map #[] 0))
  rw [s1] at m2
  rw [s2] at m3
  have hsz := HB.out.size
  have hbd := IsBd.new (base := base) (c := c2) HN.out hl (Kd.C_below HC2.out b0) m1 m2 m3 ⟨by omega, by omega, by omega⟩ ⟨by omega, by omega, by omega, by omega⟩
  rw [s3] at hbd
  have hfin := below_then HB.out HB.out.size (below_alloc b0 (.cells #[.slice A2 n c2, .map (some w2.heap.size), .map (some (w2.heap.size + 1)), .map (some (w2.heap.size + 1 + 1))] 70))
  have hge : w.heap.size ≤ w2.heap.size + 1 + 1 + 1 := by have := HB.out.size; omega
  clear s1 s2 s3 b1 b2 b0 m1 m2 m3
  go_wp2
  try go_ret2
  exact ⟨hfin, Or.inr ⟨trivial, _, hge, rfl, hbd⟩⟩
end Go.Proofs.YtlokmijoaocofaaGreatDoor.Mine
end
section
namespace Go.Proofs.YtlokmijoaocofaaGreatDoor.Mine
open Go.RowKit Go.Sort YtlokmijoaocofaaGreatDoorW.PrintWords YtlokmijoaocofaaGreatDoorW.PrintLast YtlokmijoaocofaaGreatDoorW.PrintMore
open PBoardPlays
abbrev SW := S56
def cellsW (x : SW) : List Value := [.int .i64 x.f0, .int .i64 x.f1]
def cmpW (x y : SW) : Int := if Lib.compareInt x.f0 y.f0 ≠ 0 then Lib.compareInt x.f0 y.f0 else Lib.compareInt x.f1 y.f1
theorem or_calls (b : Nat) (a c : Int) (w : World) (h0 : w.cell? ⟨b, 0, none⟩ = some (.int .i64 a)) (h1 : w.cell? ⟨b, 1, none⟩ = some (.int .i64 c)) :
 Calls Tryz.prog 33 #[.slice (some ⟨b, 0, none⟩) 2 2] w fun e w' => e = .returned (.int .i64 (if a ≠ 0 then a else c)) ∧ w' = w := by
 obtain ⟨z, hz⟩ : ∃ z, z = (if a ≠ 0 then a else c) := ⟨_, rfl⟩
 rw [← hz]
 have HZ := mk0 hz
 have HA := mk0 h0
 have HC := mk0 h1
 clear hz h0 h1
 go_enter Tryz.func33, Tryz.ntmps33
 go_wp2_with fail
 go_loopg [5, 8] 3 (fun k v5 v8 W => ∃ i : Nat, Aside0 (i ≤ 2 ∧ k + i = 3 ∧ (0 < i → a = 0) ∧ (1 < i → c = 0)) ∧ v8 = .int .i64 (i : Int) ∧ W = w)
 case atStart => exact ⟨0, ⟨by omega, by omega, by omega, by omega⟩, rfl, rfl⟩
 case round =>
  obtain ⟨i, HI, rfl, rfl⟩ := hrel
  by_cases hi : i < 2
  ·
   have b1 : decide ((i : Int) < 2) = true := decide_eq_true (by omega)
   have b2 : decide (i < 2) = true := decide_eq_true hi
   have p1 : (0 : Int) ≤ (i : Int) := by omega
   have p2 : (i : Int) < 2 := by omega
   obtain ⟨v, hv⟩ : ∃ v, v = (if i = 0 then a else c) := ⟨_, rfl⟩
   have hcell : wr.cell? ⟨b, i, none⟩ = some (.int .i64 v) := by
    rw [hv]
    by_cases h0 : i = 0
    ·
     rw [if_pos h0, h0]; exact HA.out
    ·
     rw [if_neg h0, show i = 1 by omega]; exact HC.out
   have HV := mk0 hv
   clear hv
   by_cases hv0 : v = 0
   ·
    have e1 : (v != 0) = false := by simp [hv0]
    have HV0 := mk0 hv0
    clear hv0
    go_wp2_with fail
    go_roundg (gk - 1)
    case measure => have := HI.out; omega
    case rel => exact ⟨i + 1, ⟨by omega, by have := HI.out; omega, fun h => by
     by_cases h0 : i = 0
     ·
      have := HV.out; rw [if_pos h0, HV0.out] at this; exact this.symm
     ·
      exact HI.out.2.2.1 (by omega), fun h => by
     have := HV.out; rw [if_neg (by omega), HV0.out] at this; exact this.symm⟩, rfl, rfl⟩
   ·
    have e1 : (v != 0) = true := by simpa using hv0
    have HE := mk0 (show v = z by
     rw [HZ.out, HV.out]
     by_cases h0 : i = 0
     ·
      have h1 := HV.out
      rw [if_pos h0] at h1 ⊢
      rw [if_pos (by rw [← h1]; exact hv0)]
     ·
      rw [if_neg h0, if_neg (by have := HI.out.2.2.1 (by omega); simpa using this)])
    clear hv0
    go_wp2
    go_ret
    exact ⟨by rw [← HE.out]; rfl, rfl⟩
  ·
   have b1 : decide ((i : Int) < 2) = false := decide_eq_false (by omega)
   have b2 : decide (i < 2) = false := decide_eq_false hi
   have HE := mk0 (show z = 0 by
    have h1 := HI.out.2.2.1 (by omega)
    have h2 := HI.out.2.2.2 (by omega)
    rw [HZ.out, h1, h2]
    rfl)
   clear hi
   go_wp2
   go_ret
   exact ⟨by rw [HE.out]; rfl, rfl⟩
set_option maxHeartbeats 4000000 in
theorem closure_calls (x y : SW) (W : World) : Calls Tryz.prog 32 #[.agg (cellsW x).toArray, .agg (cellsW y).toArray] W fun e w' => e = .returned (.int .i64 (cmpW x y)) ∧ ∃ q os', w' = grow (W.drewN q) os' := by
 have hc1 := fun W' => AnyG.cmp_Compare_int Tryz.cmpI x.f0 y.f0 W'
 have hc2 := fun W' => AnyG.cmp_Compare_int Tryz.cmpI x.f1 y.f1 W'
 change ∀ W', Calls Tryz.prog 34 _ _ _ at hc1
 change ∀ W', Calls Tryz.prog 34 _ _ _ at hc2
 have HV := mk0 (show cmpW x y = (if Lib.compareInt x.f0 y.f0 ≠ 0 then Lib.compareInt x.f0 y.f0 else Lib.compareInt x.f1 y.f1) from rfl)
 generalize cmpW x y = z at HV ⊢
 generalize Lib.compareInt x.f0 y.f0 = a at HV hc1
 generalize Lib.compareInt x.f1 y.f1 = c at HV hc2
 have HC1 := mk0 hc1
 have HC2 := mk0 hc2
 clear hc1 hc2
 show Calls _ _ #[.agg #[.int .i64 x.f0, .int .i64 x.f1], .agg #[.int .i64 y.f0, .int .i64 y.f1]] W _
 go_enter Tryz.func32, Tryz.ntmps32
 go_wp2_with fail
 have g0 : W.heap.size ≠ W.heap.size + 1 := by omega
 obtain ⟨b1, hb1⟩ : ∃ b, b = W.heap.size := ⟨_, rfl⟩
 obtain ⟨b2, hb2⟩ : ∃ b, b = W.heap.size + 1 := ⟨_, rfl⟩
 have hx0 : ((W.alloc (.cells #[.int .i64 x.f0, .int .i64 x.f1] 56)).alloc (.cells #[.int .i64 y.f0, .int .i64 y.f1] 56)).cell? ⟨b1, 0, none⟩ = some (.int .i64 x.f0) := by
  rw [hb1, World.cell?_alloc_past _ _ _ (by simp), World.cell?_alloc_at _ _ _ _ rfl]; rfl
 have hx1 : ((W.alloc (.cells #[.int .i64 x.f0, .int .i64 x.f1] 56)).alloc (.cells #[.int .i64 y.f0, .int .i64 y.f1] 56)).cell? ⟨b1, 1, none⟩ = some (.int .i64 x.f1) := by
  rw [hb1, World.cell?_alloc_past _ _ _ (by simp), World.cell?_alloc_at _ _ _ _ rfl]; rfl
 have hy0 : ((W.alloc (.cells #[.int .i64 x.f0, .int .i64 x.f1] 56)).alloc (.cells #[.int .i64 y.f0, .int .i64 y.f1] 56)).cell? ⟨b2, 0, none⟩ = some (.int .i64 y.f0) := by
  rw [hb2, World.cell?_alloc_at _ _ _ _ (by simp)]; rfl
 have hy1 : ((W.alloc (.cells #[.int .i64 x.f0, .int .i64 x.f1] 56)).alloc (.cells #[.int .i64 y.f0, .int .i64 y.f1] 56)).cell? ⟨b2, 1, none⟩ = some (.int .i64 y.f1) := by
  rw [hb2, World.cell?_alloc_at _ _ _ _ (by simp)]; rfl
 have HG := mk0 (show (W.alloc (.cells #[.int .i64 x.f0, .int .i64 x.f1] 56)).alloc (.cells #[.int .i64 y.f0, .int .i64 y.f1] 56) = grow W #[.cells #[.int .i64 x.f0, .int .i64 x.f1] 56, .cells #[.int .i64 y.f0, .int .i64 y.f1] 56] from by rw [alloc_eq_grow, alloc_eq_grow, grow_grow]; rfl)
 rw [← hb2, ← hb1]
 generalize (W.alloc (.cells #[.int .i64 x.f0, .int .i64 x.f1] 56)).alloc (.cells #[.int .i64 y.f0, .int .i64 y.f1] 56) = W2 at hx0 hx1 hy0 hy1 HG ⊢
 generalize x.f0 = x0 at *
 generalize x.f1 = x1 at *
 generalize y.f0 = y0 at *
 generalize y.f1 = y1 at *
 clear g0 hb1 hb2
 go_region_held3 (fun X => X.cell? ⟨b1, 0, none⟩ = some (.int .i64 x0) ∧ X.cell? ⟨b1, 1, none⟩ = some (.int .i64 x1) ∧ X.cell? ⟨b2, 0, none⟩ = some (.int .i64 y0) ∧ X.cell? ⟨b2, 1, none⟩ = some (.int .i64 y1)) (go_keep) (first | (go_at_call 34; (with_reducible refine (HC1.out _).mono ?_); rintro e w' ⟨rfl, rfl⟩) | (go_at_call 34; (with_reducible refine (HC2.out _).mono ?_); rintro e w' ⟨rfl, rfl⟩) | (go_at_call 33; (with_reducible refine (or_calls _ a c _ ?o1 ?o2).mono ?_); (case o1 => (exact World.cell?_alloc_at (w := W2) _ _ _ _ rfl)); (case o2 => (exact World.cell?_alloc_at (w := W2) _ _ _ _ rfl)); rintro e w' ⟨he, rfl⟩; rw [← HV.out] at he; subst he))
 all_goals go_wp2_with fail
 all_goals go_ret
 all_goals exact ⟨rfl, 1, #[.cells #[.int .i64 x0, .int .i64 x1] 56, .cells #[.int .i64 y0, .int .i64 y1] 56, .cells #[.int .i64 a, .int .i64 c] 3], by rw [HG.out, alloc_eq_grow, grow_grow]; rfl⟩
instance : Inhabited SW := ⟨⟨0, 0⟩⟩
theorem cmp_lays (blk off size : Nat) (w : World) : CmpLays Tryz.prog 32 #[] cellsW 2 cmpW blk off size w :=
 fun _ _ _ _ x y => closure_calls x y _
theorem compareInt_sign (a b : Int) : (Lib.compareInt a b < 0 ↔ a < b) ∧ (Lib.compareInt a b = 0 ↔ a = b) := by
 unfold Lib.compareInt
 constructor <;> (split <;> (try split)) <;> constructor <;> intro h <;> omega
theorem cmpW_lt (x y : SW) : (ltOf cmpW) x y = true ↔ (x.f0 < y.f0 ∨ (x.f0 = y.f0 ∧ x.f1 < y.f1)) := by
 have h0 := compareInt_sign x.f0 y.f0
 have h1 := compareInt_sign x.f1 y.f1
 simp only [ltOf, cmpW, decide_eq_true_eq]
 split
 ·
  rename_i h
  simp only [decide_eq_true_eq]
  constructor
  ·
   intro hh; exact .inl (h0.1.1 hh)
  ·
   rintro (hh | ⟨hh, _⟩)
   ·
    exact h0.1.2 hh
   ·
    exact absurd (h0.2.2 hh) h
 ·
  rename_i h
  have h := h0.2.1 (by omega)
  simp only [decide_eq_true_eq]
  constructor
  ·
   intro hh; exact .inr ⟨h, h1.1.1 hh⟩
  ·
   rintro (hh | ⟨_, hh⟩)
   ·
    omega
   ·
    exact h1.1.2 hh
theorem cmpW_ge (x y : SW) : (ltOf cmpW) x y = false ↔ ¬ (x.f0 < y.f0 ∨ (x.f0 = y.f0 ∧ x.f1 < y.f1)) := by
 rw [← cmpW_lt, Bool.not_eq_true]
theorem cmpW_swo : SWO (ltOf cmpW) := by
 constructor
 ·
  intro x; rw [cmpW_ge]; omega
 ·
  intro x y z h1 h2; rw [cmpW_lt] at h1 h2 ⊢; omega
 ·
  intro x y z h1 h2; rw [cmpW_ge] at h1 h2 ⊢; omega
theorem cmpW_total (x y : SW) (h1 : (ltOf cmpW) x y = false) (h2 : (ltOf cmpW) y x = false) : x = y := by
 rw [cmpW_ge] at h1 h2
 rcases x with ⟨x0, x1⟩
 rcases y with ⟨y0, y1⟩
 simp only at h1 h2
 rw [show x0 = y0 by omega, show x1 = y1 by omega]
abbrev kW := k56
abbrev tW : Nat := 56
def flatW (xs : List SW) : List Value := (flatK cellsW 2 xs.toArray).toList
theorem flatW_length (xs : List SW) : (flatW xs).length = xs.length * 2 := by simp [flatW]
theorem flatW_get (xs : List SW) (t : Nat) (h : t < xs.length * 2) (p : SW) (hp : xs[t / 2]? = some p) : (flatW xs)[t]? = (cellsW p)[t % 2]? := by
 have h1 : t < (flatK cellsW 2 xs.toArray).size := by simpa using h
 have h2 := get_flatK cellsW 2 xs.toArray t (by simpa using h)
 rw [getElem!_pos _ t h1] at h2
 have h3 : (xs.toArray[t / 2]!) = p := by simp [hp]
 rw [h3] at h2
 unfold flatW
 rw [Array.getElem?_toList, Array.getElem?_eq_getElem h1, h2]
 have h4 : t % 2 < 2 := Nat.mod_lt _ (by omega)
 have h5 : t % 2 < (cellsW p).length := h4
 rw [List.getElem?_eq_getElem h5, getElem!_pos (cellsW p) (t % 2) h5]
theorem flatW_reps (xs : List SW) : Reps (fun x cs => cs = cellsW x) 2 xs (flatW xs) := by
 refine ⟨flatW_length xs, fun j p hj => ?_⟩
 have hlt : j < xs.length := (List.getElem?_eq_some_iff.1 hj).1
 apply List.ext_getElem?
 intro i
 by_cases hi : i < 2
 ·
  rw [List.getElem?_take_of_lt hi, List.getElem?_drop, flatW_get xs (j * 2 + i) (by omega) p (by rw [show (j * 2 + i) / 2 = j by omega]; exact hj), show (j * 2 + i) % 2 = i by omega]
 ·
  rw [List.getElem?_take_eq_none (by omega), List.getElem?_eq_none (by show 2 ≤ i; omega)]
theorem reps_flatW {xs : List SW} {cs : List Value} (h : Reps (fun x cs => cs = cellsW x) 2 xs cs) : cs = flatW xs := by
 apply List.ext_getElem?
 intro t
 by_cases ht : t < xs.length * 2
 ·
  have hj : t / 2 < xs.length := by omega
  have h1 := h.2 (t / 2) xs[t / 2] (List.getElem?_eq_getElem hj)
  rw [flatW_get xs t ht _ (List.getElem?_eq_getElem hj), ← h1, List.getElem?_take_of_lt (Nat.mod_lt _ (by omega)), List.getElem?_drop, show t / 2 * 2 + t % 2 = t by omega]
 ·
  rw [List.getElem?_eq_none (by rw [h.1]; omega), List.getElem?_eq_none (by rw [flatW_length]; omega)]
section
variable {w : World} {base : Nat} {ok : Nat → Prop} {v : Value} {xs : List SW}
theorem own_of_R (h : Kd.R kW tW w base ok v xs) : w.ownsRow base tW 2 v xs.length (flatW xs) := by
 obtain ⟨_, inner, ho, hr⟩ := h
 have := reps_flatW (hr.imp_ (fun _ _ hp => k56_openM hp))
 rw [← this]
 exact ho
theorem R_of_own (h : w.ownsRow base tW 2 v xs.length (flatW xs)) (hok : ∀ k, v.ownBlock = some k → ok k) : Kd.R kW tW w base ok v xs :=
 ⟨hok, flatW xs, h, (flatW_reps xs).imp_ (fun p _ hp => by rw [hp]; exact k56_mkM _ _ _ p)⟩
end
theorem holds_flat {w : World} {g : Nat} {cur : Array Value} {e : TypeId} {F : Array Value} (hb : w.heap[g]? = some (.cells cur e (0, 0))) (ht : cur.toList.take F.size = F.toList) : Go.Sort.Holds id w g 0 F := by
 intro j hj
 refine ⟨?_, by simp [World.frozen?, hb]⟩
 have h1 : (cur.toList.take F.size)[j]? = F.toList[j]? := by rw [ht]
 rw [List.getElem?_take_of_lt hj] at h1
 simp only [World.cell?, hb, Nat.zero_add]
 simp only [Option.isSome_none, Bool.false_eq_true, if_false]
 rw [← Array.getElem?_toList, h1]
 simp [hj]
theorem heap_sortedF {w : World} {g n : Nat} {os : Array Obj} {cur : Array Value} {e : TypeId} {fr : Nat × Nat} (d : Array Value) (hb : w.heap[g]? = some (.cells cur e fr)) :
 (grow (putRow id (Sort.ahead w n) g 0 d) os).heap[g]? = some (.cells (putCells id 0 d cur) e fr) := by
 have hg : g < w.heap.size := (Array.getElem?_eq_some_iff.1 hb).1
 rw [heap_grow_old _ _ (by simpa using hg)]
 simp [putRow, mapBlock, Sort.ahead, Array.getElem?_modify, hb, onCells]
theorem grownBy_sortedF {w : World} {g n : Nat} {os : Array Obj} (d : Array Value) : w.grownBy (grow (putRow id (Sort.ahead w n) g 0 d) os) (some g) := by
 refine ⟨rfl, rfl, rfl, by simp, fun k hk hne => ?_⟩
 rw [heap_grow_old _ _ (by simpa using hk)]
 have : g ≠ k := fun e => hne (by rw [e])
 simp [putRow, mapBlock, Sort.ahead, Array.getElem?_modify, this]
theorem take_putCellsF (cur F : Array Value) (h : F.size ≤ cur.size) : (putCells id 0 F cur).toList.take F.size = F.toList := by
 apply List.ext_getElem?
 intro j
 by_cases hj : j < F.size
 ·
  rw [List.getElem?_take_of_lt hj, Array.getElem?_toList]
  simp [putCells, hj, show j < cur.size by omega]
 ·
  rw [List.getElem?_take_eq_none (by omega), List.getElem?_eq_none (by simp; omega)]
theorem own_sortedF {w : World} {base g cap n m : Nat} {e : TypeId} {os : Array Obj} {cur : Array Value} {ts : List SW} (hbase : base ≤ g) (hb : w.heap[g]? = some (.cells cur e (0, 0)))
 (hl : ts.length = m) (h1 : m ≤ cap) (h2 : cap ≤ maxLen) (h3 : cur.size = cap * 2) :
 (grow (putRowK cellsW 2 (Sort.ahead w n) g 0 ts.toArray) os).ownsRow base e 2 (.slice (some ⟨g, 0, none⟩) m cap) m (flatW ts) :=
 ⟨by rw [flatW_length, hl], .inr ⟨g, cap, _, rfl, hbase, heap_sortedF _ hb, h1, h2, by simp [putCells, h3], by
  have := take_putCellsF cur (flatK cellsW 2 ts.toArray) (by rw [size_flatK, h3]; simp; omega)
  rw [size_flatK] at this
  simp only [List.size_toArray, hl] at this
  exact this⟩⟩
def sortW (xs : List SW) : List SW := xs.mergeSort fun x y => !(ltOf cmpW) y x
theorem sortW_length (xs : List SW) : (sortW xs).length = xs.length := List.length_mergeSort xs
theorem sortW_mem (xs : List SW) (x : SW) : x ∈ sortW xs ↔ x ∈ xs := (List.mergeSort_perm xs _).mem_iff
def ltW (x y : SW) : Prop := x.f0 < y.f0 ∨ (x.f0 = y.f0 ∧ x.f1 < y.f1)
theorem sortW_sorted (xs : List SW) (hn : xs.Nodup) : (sortW xs).Pairwise ltW := by
 have h1 : (sortW xs).Pairwise (fun a b => (!(ltOf cmpW) b a) = true) := List.pairwise_mergeSort (le := fun x y => !(ltOf cmpW) y x)
  (fun a b c h1 h2 => by
   simp only [Bool.not_eq_true', cmpW_ge] at h1 h2 ⊢
   omega)
  (fun a b => by
   simp only [Bool.or_eq_true, Bool.not_eq_true', cmpW_ge]
   omega) xs
 have h2 : (sortW xs).Nodup := (List.mergeSort_perm xs _).nodup_iff.2 hn
 refine (h1.and h2).imp ?_
 intro a b h
 obtain ⟨h, hne⟩ := h
 simp only [Bool.not_eq_true', cmpW_ge] at h
 unfold ltW
 rcases Int.lt_trichotomy a.f0 b.f0 with h0 | h0 | h0
 ·
  exact .inl h0
 ·
  rcases Int.lt_trichotomy a.f1 b.f1 with h3 | h3 | h3
  ·
   exact .inr ⟨h0, h3⟩
  ·
   exfalso; apply hne; rcases a with ⟨_, _⟩; rcases b with ⟨_, _⟩; simp only at h0 h3; rw [h0, h3]
  ·
   exfalso; apply h; exact .inr ⟨h0.symm, h3⟩
 ·
  exfalso; apply h; exact .inl h0
theorem ltW_ext : ∀ {a b : List SW}, a.Pairwise ltW → b.Pairwise ltW → (∀ x, x ∈ a ↔ x ∈ b) → a = b
 | [], [], _, _, _ => rfl
 | [], y :: b, _, _, h => absurd ((h y).2 List.mem_cons_self) List.not_mem_nil
 | x :: a, [], _, _, h => absurd ((h x).1 List.mem_cons_self) List.not_mem_nil
 | x :: a, y :: b, ha, hb, h => by
  have ha1 := List.pairwise_cons.1 ha
  have hb1 := List.pairwise_cons.1 hb
  have e : x = y := by
   rcases List.mem_cons.1 ((h x).1 List.mem_cons_self) with e | e
   ·
    exact e
   ·
    rcases List.mem_cons.1 ((h y).2 List.mem_cons_self) with e2 | e2
    ·
     exact e2.symm
    ·
     have h1 := hb1.1 x e
     have h2 := ha1.1 y e2
     unfold ltW at h1 h2
     omega
  subst e
  have irr : ¬ ltW x x := by unfold ltW; omega
  rw [ltW_ext ha1.2 hb1.2 (fun z => by
   have hz := h z
   constructor
   ·
    intro hm
    rcases List.mem_cons.1 (hz.1 (List.mem_cons_of_mem _ hm)) with e | e
    ·
     subst e; exact absurd (ha1.1 _ hm) irr
    ·
     exact e
   ·
    intro hm
    rcases List.mem_cons.1 (hz.2 (List.mem_cons_of_mem _ hm)) with e | e
    ·
     subst e; exact absurd (hb1.1 _ hm) irr
    ·
     exact e)]
theorem sort_who (w : World) (base : Nat) (v : Value) (xs : List SW) (h : w.ownsRow base tW 2 v xs.length (flatW xs)) (hsz : xs.length < 4611686018427387904) :
 Calls Tryz.prog 31 #[v, .func (.func 32) #[] #[]] w fun e w' => e = .returned (.tuple #[]) ∧ w'.ownsRow base tW 2 v (sortW xs).length (flatW (sortW xs)) ∧ w.grownBy w' v.ownBlock := by
 rcases h.2 with ⟨rfl, h0⟩ | ⟨g, cap, cur, rfl, hg, hb, h1, h2, h3, h4⟩
 ·
  obtain rfl := List.length_eq_zero_iff.1 h0
  refine (AnyF.slices_SortFunc_none Tryz.sortW none 0 _ w).mono ?_
  rintro e w' ⟨he, rfl⟩
  exact ⟨he, (by rw [show sortW [] = [] from List.mergeSort_nil]; exact h), rfl, rfl, rfl, Nat.le_refl _, fun _ _ _ => rfl⟩
 ·
  have eg : ∀ args w, (callFunc 32 args).run Tryz.prog w = .ok (.enter 32 args) w := enters_of Tryz.func32 (by kernel_rfl) rfl
  have hH : HoldsK cellsW 2 w g 0 xs.toArray := holds_flat hb (by rw [size_flatK]; exact h4)
  refine (AnyQ.slices_SortFunc_total Tryz.sortW 2 Tryz.isAgg56 Tryz.sizeOf56 cellsW (fun _ => rfl) (fun x v hv => by simp [cellsW] at hv; rcases hv with rfl | rfl <;> rfl) cmpW cmpW_swo 32 #[] g 0 cap xs.toArray w eg (cmp_lays g 0 _ w) hH (blk_lt hb) (by simpa using hsz) cmpW_total).mono ?_
  rintro e w' ⟨he, n, os, rfl⟩
  refine ⟨he, ?_, ?_⟩
  ·
   have := own_sortedF (n := n) (os := os) (ts := sortW xs) hg hb (sortW_length xs) h1 h2 h3
   rw [sortW_length]
   exact this
  ·
   exact grownBy_sortedF _
end Go.Proofs.YtlokmijoaocofaaGreatDoor.Mine
end
