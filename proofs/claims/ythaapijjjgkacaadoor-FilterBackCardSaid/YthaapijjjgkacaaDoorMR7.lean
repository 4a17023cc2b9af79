/-
  Texts of this claim, one behind the other: what each one proves, and its conditions, stand at its head.
-/
import Derived.Test.YthaapijjjgkacaaDoorMR6
import Derived.Lib.AppendStr
set_option linter.unusedSimpArgs false
set_option linter.unusedVariables false
section
/-
  Contracts of errors.As: an error that is a fault, the target a *api.Fault; an error that is a code within faults, the target an api.Code; of api.Of.
-/
namespace Go.Proofs.YthaapijjjgkacaaDoor.Mine
open Go.RowKit Go.Extern.Stop Go.Stop Go.Extern
/-- errorType, where it lies. -/
def ErrTy (w : World) : Prop := w.cell? ⟨0, 0, none⟩ = some (.iface 121 (.agg #[.pointer (some ⟨4, 28, none⟩)]))
/-- one block alone has got another cell, and new blocks are there. -/
def Put (w w' : World) (t : Nat) (v : Value) (T : Nat) : Prop := w'.os = w.os ∧ w'.tape = w.tape ∧ w'.output = w.output ∧ w.heap.size ≤ w'.heap.size ∧ (∀ k, k < w.heap.size → k ≠ t → w'.heap[k]? = w.heap[k]?) ∧ w'.heap[t]? = some (.cells #[v] T (0, 0))
theorem put_mk {w : World} {t T : Nat} {old v : Value} (ht : w.heap[t]? = some (.cells #[old] T (0, 0))) (A B : Obj) : Put w (((w.setCell ⟨t, 0, none⟩ v).alloc A).alloc B) t v T := by
  have hlt : t < w.heap.size := (Array.getElem?_eq_some_iff.1 ht).1
  have hz : (w.setCell ⟨t, 0, none⟩ v).heap.size = w.heap.size := by simp [World.setCell]
  refine ⟨rfl, rfl, rfl, by simp [World.setCell]; omega, fun k hk hn => ?_, ?_⟩
  · rw [Below.heap_alloc _ _ _ (by simp; omega), Below.heap_alloc _ _ _ (by rw [hz]; exact hk), Below.heap_setCell _ _ _ _ hn]
  · rw [Below.heap_alloc _ _ _ (by simp; omega), Below.heap_alloc _ _ _ (by rw [hz]; exact hlt)]
    simp [World.setCell, Array.getElem?_modify, ht]
def rV (T : Nat) (a : Addr) (fl : Int) : Value := .agg #[.pointer (some ⟨4, T, none⟩), .pointer (some a), .int .u64 fl]
set_option maxHeartbeats 4000000 in
set_option maxRecDepth 100000 in
/-- errors.as where the error's own type is the target's. -/
theorem asHitF (e : Addr) (a : Addr) (t : Nat) (old : Value) (w : World) (ha : w.cell? a = some (.pointer (some ⟨t, 0, none⟩))) (ht : w.heap[t]? = some (.cells #[old] 67 (0, 0))) :
    Calls Tryd.prog 61 #[.iface 67 (valF e), .iface 69 (.pointer (some ⟨t, 0, none⟩)), .agg #[.pointer (some ⟨4, 69, none⟩), .pointer (some a), .int .u64 150], .iface 121 (.agg #[.pointer (some ⟨4, 67, none⟩)])] w
      fun ev w' => ev = .returned (.bool true) ∧ Put w w' t (valF e) 67 := by
  have tO := typeOfF
  have a25 := assignableF
  have v25 := valueOfEF
  have hlt : t < w.heap.size := (Array.getElem?_eq_some_iff.1 ht).1
  have hal : a.block < w.heap.size := by
    rcases Nat.lt_or_ge a.block w.heap.size with h | h
    · exact h
    · simp [World.cell?, Array.getElem?_eq_none h] at ha
  have hc0 : w.cell? ⟨t, 0, none⟩ = some old := cell_of_row w t 0 _ _ _ ht
  have hf0 : w.frozen? ⟨t, 0, none⟩ = false := by simp [World.frozen?, ht]
  have el := elemVF a ⟨t, 0, none⟩ (w.alloc (.cells #[.pointer (some ⟨4, 69, none⟩), .pointer (some a), .int .u64 150] 111)) (by rw [World.cell?_alloc_lt _ _ a hal]; exact ha)
  have st := setF ⟨t, 0, none⟩ ⟨w.heap.size + 1, 0, none⟩ e old ((w.alloc (.cells #[.pointer (some ⟨4, 69, none⟩), .pointer (some a), .int .u64 150] 111)).alloc (.cells #[valF e] 67))
    (by rw [World.cell?_alloc_at _ _ _ _ (by simp)]; rfl)
    (by rw [World.cell?_alloc_lt _ _ ⟨t, 0, none⟩ (by simp; omega), World.cell?_alloc_lt _ _ ⟨t, 0, none⟩ hlt]; exact hc0)
    (by rw [World.frozen?_alloc_old _ _ ⟨t, 0, none⟩ (by simp; omega), World.frozen?_alloc_old _ _ ⟨t, 0, none⟩ (Nat.ne_of_lt hlt)]; exact hf0)
  have h10 := @run_callFunc_extern Tryd.prog 37 _ (ReflectliteType.typeOf) Tryd.func37 (by kernel_rfl) (by kernel_rfl) (by kernel_rfl) (by kernel_rfl)
  have h35 := @run_callFunc_extern Tryd.prog 122 _ (ReflectliteType.relation "AssignableTo" ReflectliteType.assignableTo) Tryd.func122 (by kernel_rfl) (by kernel_rfl) (by kernel_rfl) (by kernel_rfl)
  have h11 := @run_callFunc_extern Tryd.prog 81 _ (ReflectliteValue.method (ReflectliteValue.valueError "reflectlite.Value.Elem" 0) ReflectliteValue.elem) Tryd.func81 (by kernel_rfl) (by kernel_rfl) (by kernel_rfl) (by kernel_rfl)
  have h12 := @run_callFunc_extern Tryd.prog 82 _ (ReflectliteValue.set) Tryd.func82 (by kernel_rfl) (by kernel_rfl) (by kernel_rfl) (by kernel_rfl)
  have h6 := @run_callFunc_extern Tryd.prog 58 _ (fun args => ReflectliteValue.unpack (args.getD 0 (.tuple #[]))) Tryd.func58 (by kernel_rfl) (by kernel_rfl) (by kernel_rfl) (by kernel_rfl)
  have mA := methodAssignableTo
  have HP := Aside.out (p := Aside (∀ A B : Obj, Put w (((w.setCell ⟨t, 0, none⟩ (valF e)).alloc A).alloc B) t (valF e) 67)) (fun A B => put_mk ht A B)
  clear ht ha hc0 hf0
  go_enter Tryd.func61, Tryd.ntmps61
  go_wp2
  refine wp_loop_rounds 1 ?_
  rw [rounds_succ]
  go_wp2
  go_ret
  exact ⟨rfl, HP.out _ _⟩
set_option maxHeartbeats 4000000 in
set_option maxRecDepth 100000 in
/-- errors.as where the error's own type is the target's. -/
theorem asHitC (e : Int) (a : Addr) (t : Nat) (old : Value) (w : World) (ha : w.cell? a = some (.pointer (some ⟨t, 0, none⟩))) (ht : w.heap[t]? = some (.cells #[old] 35 (0, 0))) :
    Calls Tryd.prog 61 #[.iface 35 (valC e), .iface 89 (.pointer (some ⟨t, 0, none⟩)), .agg #[.pointer (some ⟨4, 89, none⟩), .pointer (some a), .int .u64 150], .iface 121 (.agg #[.pointer (some ⟨4, 35, none⟩)])] w
      fun ev w' => ev = .returned (.bool true) ∧ Put w w' t (valC e) 35 := by
  have tO := typeOfC
  have a25 := assignableC
  have v25 := valueOfEC
  have hlt : t < w.heap.size := (Array.getElem?_eq_some_iff.1 ht).1
  have hal : a.block < w.heap.size := by
    rcases Nat.lt_or_ge a.block w.heap.size with h | h
    · exact h
    · simp [World.cell?, Array.getElem?_eq_none h] at ha
  have hc0 : w.cell? ⟨t, 0, none⟩ = some old := cell_of_row w t 0 _ _ _ ht
  have hf0 : w.frozen? ⟨t, 0, none⟩ = false := by simp [World.frozen?, ht]
  have el := elemVC a ⟨t, 0, none⟩ (w.alloc (.cells #[.pointer (some ⟨4, 89, none⟩), .pointer (some a), .int .u64 150] 111)) (by rw [World.cell?_alloc_lt _ _ a hal]; exact ha)
  have st := setC ⟨t, 0, none⟩ ⟨w.heap.size + 1, 0, none⟩ e old ((w.alloc (.cells #[.pointer (some ⟨4, 89, none⟩), .pointer (some a), .int .u64 150] 111)).alloc (.cells #[valC e] 35))
    (by rw [World.cell?_alloc_at _ _ _ _ (by simp)]; rfl)
    (by rw [World.cell?_alloc_lt _ _ ⟨t, 0, none⟩ (by simp; omega), World.cell?_alloc_lt _ _ ⟨t, 0, none⟩ hlt]; exact hc0)
    (by rw [World.frozen?_alloc_old _ _ ⟨t, 0, none⟩ (by simp; omega), World.frozen?_alloc_old _ _ ⟨t, 0, none⟩ (Nat.ne_of_lt hlt)]; exact hf0)
  have h10 := @run_callFunc_extern Tryd.prog 37 _ (ReflectliteType.typeOf) Tryd.func37 (by kernel_rfl) (by kernel_rfl) (by kernel_rfl) (by kernel_rfl)
  have h35 := @run_callFunc_extern Tryd.prog 122 _ (ReflectliteType.relation "AssignableTo" ReflectliteType.assignableTo) Tryd.func122 (by kernel_rfl) (by kernel_rfl) (by kernel_rfl) (by kernel_rfl)
  have h11 := @run_callFunc_extern Tryd.prog 81 _ (ReflectliteValue.method (ReflectliteValue.valueError "reflectlite.Value.Elem" 0) ReflectliteValue.elem) Tryd.func81 (by kernel_rfl) (by kernel_rfl) (by kernel_rfl) (by kernel_rfl)
  have h12 := @run_callFunc_extern Tryd.prog 82 _ (ReflectliteValue.set) Tryd.func82 (by kernel_rfl) (by kernel_rfl) (by kernel_rfl) (by kernel_rfl)
  have h6 := @run_callFunc_extern Tryd.prog 58 _ (fun args => ReflectliteValue.unpack (args.getD 0 (.tuple #[]))) Tryd.func58 (by kernel_rfl) (by kernel_rfl) (by kernel_rfl) (by kernel_rfl)
  have mA := methodAssignableTo
  have HP := Aside.out (p := Aside (∀ A B : Obj, Put w (((w.setCell ⟨t, 0, none⟩ (valC e)).alloc A).alloc B) t (valC e) 35)) (fun A B => put_mk ht A B)
  clear ht ha hc0 hf0
  go_enter Tryd.func61, Tryd.ntmps61
  go_wp2
  refine wp_loop_rounds 1 ?_
  rw [rounds_succ]
  go_wp2
  go_ret
  exact ⟨rfl, HP.out _ _⟩

theorem Put.weaken {w w1 w2 : World} {t T : Nat} {v : Value} (h1 : Below w.heap.size w w1) (h2 : Put w1 w2 t v T) : Put w w2 t v T :=
  ⟨h2.1.trans h1.os, h2.2.1.trans h1.tape, h2.2.2.1.trans h1.output, Nat.le_trans h1.size h2.2.2.2.1, fun k hk hn => (h2.2.2.2.2.1 k (Nat.lt_of_lt_of_le hk h1.size) hn).trans (h1.block k hk), h2.2.2.2.2.2⟩
structure Aside0' (p : Prop) : Prop where mk :: (out : p)
set_option maxHeartbeats 4000000 in
set_option maxRecDepth 100000 in
/-- errors.As of a fault, the target a *api.Fault. -/
theorem as_fault (e : Addr) (t : Nat) (old : Value) (w : World) (hg : ErrTy w) (ht : w.heap[t]? = some (.cells #[old] 67 (0, 0))) :
    Calls Tryd.prog 32 #[.iface 67 (valF e), .iface 69 (.pointer (some ⟨t, 0, none⟩))] w fun ev w' => ev = .returned (.bool true) ∧ Put w w' t (valF e) 67 := by
  have hlt : t < w.heap.size := (Array.getElem?_eq_some_iff.1 ht).1
  have h0 : (0 : Nat) < w.heap.size := by
    rcases Nat.eq_zero_or_pos w.heap.size with h0 | h
    · simp [ErrTy, World.cell?, h0] at hg
    · exact h
  have hg2 : ((w.alloc (.cells #[.pointer (some ⟨t, 0, none⟩)] 69)).alloc (.cells #[.pointer (some ⟨4, 69, none⟩), .pointer (some ⟨w.heap.size, 0, none⟩), .int .u64 150] 111)).cell? ⟨0, 0, none⟩ = some (.iface 121 (.agg #[.pointer (some ⟨4, 28, none⟩)])) := by
    rw [World.cell?_alloc_lt _ _ ⟨0, 0, none⟩ (by simp), World.cell?_alloc_lt _ _ ⟨0, 0, none⟩ h0]; exact hg
  have hn8 := isNilF ⟨w.heap.size, 0, none⟩ ⟨t, 0, none⟩ ((w.alloc (.cells #[.pointer (some ⟨t, 0, none⟩)] 69)).alloc (.cells #[.pointer (some ⟨4, 69, none⟩), .pointer (some ⟨w.heap.size, 0, none⟩), .int .u64 150] 111)) (by simp)
  have HT := Aside0'.mk (show ((w.alloc (.cells #[.pointer (some ⟨t, 0, none⟩)] 69)).alloc (.cells #[.pointer (some ⟨4, 69, none⟩), .pointer (some ⟨w.heap.size, 0, none⟩), .int .u64 150] 111)).heap[t]? = some (.cells #[old] 67 (0, 0)) by rw [Below.heap_alloc _ _ _ (by simp; omega), Below.heap_alloc _ _ _ hlt]; exact ht)
  have HC := Aside0'.mk (show ((w.alloc (.cells #[.pointer (some ⟨t, 0, none⟩)] 69)).alloc (.cells #[.pointer (some ⟨4, 69, none⟩), .pointer (some ⟨w.heap.size, 0, none⟩), .int .u64 150] 111)).cell? ⟨w.heap.size, 0, none⟩ = some (.pointer (some ⟨t, 0, none⟩)) by simp)
  have HBL := Aside0'.mk (show Below w.heap.size w ((w.alloc (.cells #[.pointer (some ⟨t, 0, none⟩)] 69)).alloc (.cells #[.pointer (some ⟨4, 69, none⟩), .pointer (some ⟨w.heap.size, 0, none⟩), .int .u64 150] 111)) from ((Below.refl _ _).alloc (Nat.le_refl _) _).alloc (by simp) _)
  clear ht hg h0
  have v6 := valueOfF
  have y7 := typeF
  have k1 := kindF
  have k2 := kindEF
  have e2 := elemF
  have i2 := implementsF
  have h6 := @run_callFunc_extern Tryd.prog 58 _ (fun args => ReflectliteValue.unpack (args.getD 0 (.tuple #[]))) Tryd.func58 (by kernel_rfl) (by kernel_rfl) (by kernel_rfl) (by kernel_rfl)
  have h7 := @run_callFunc_extern Tryd.prog 59 _ (ReflectliteValue.methodAny (ReflectliteValue.valueError "reflectlite.Value.Type" 0) (fun t _ _ _ => ReflectliteType.toType t)) Tryd.func59 (by kernel_rfl) (by kernel_rfl) (by kernel_rfl) (by kernel_rfl)
  have h8 := @run_callFunc_extern Tryd.prog 60 _ (ReflectliteValue.method (ReflectliteValue.valueError "reflectlite.Value.IsNil" 0) ReflectliteValue.isNil) Tryd.func60 (by kernel_rfl) (by kernel_rfl) (by kernel_rfl) (by kernel_rfl)
  have h27 := @run_callFunc_extern Tryd.prog 110 _ (ReflectliteType.abiMethod fun t => do pure (.int .u8 (← Rtype.kind t))) Tryd.func110 (by kernel_rfl) (by kernel_rfl) (by kernel_rfl) (by kernel_rfl)
  have h37 := @run_callFunc_extern Tryd.prog 124 _ (ReflectliteType.method ReflectliteType.elem) Tryd.func124 (by kernel_rfl) (by kernel_rfl) (by kernel_rfl) (by kernel_rfl)
  have h38 := @run_callFunc_extern Tryd.prog 125 _ (ReflectliteType.relation "Implements" ReflectliteType.implements_) Tryd.func125 (by kernel_rfl) (by kernel_rfl) (by kernel_rfl) (by kernel_rfl)
  have mK := methodKind
  have mE := methodElem
  have mI := methodImplements
  go_enter Tryd.func32, Tryd.ntmps32
  go_wp2_with (go_at_call 61; refine (asHitF e ⟨w.heap.size, 0, none⟩ t old _ HC.out HT.out).mono ?_; rintro ev w' ⟨rfl, hp⟩; have HPP := Aside0'.mk (Put.weaken HBL.out hp); clear hp)
  go_ret
  exact ⟨rfl, HPP.out⟩

set_option maxHeartbeats 4000000 in
set_option maxRecDepth 100000 in
/-- errors.as of a code within faults, the target an api.Code. -/
theorem asCode (c : Int) (n : Nat) (v : Value) (a : Addr) (t : Nat) (old : Value) (w : World) (h : ErrIs w c n v) (ha : w.cell? a = some (.pointer (some ⟨t, 0, none⟩))) (ht : w.heap[t]? = some (.cells #[old] 35 (0, 0))) :
    Calls Tryd.prog 61 #[v, .iface 89 (.pointer (some ⟨t, 0, none⟩)), .agg #[.pointer (some ⟨4, 89, none⟩), .pointer (some a), .int .u64 150], .iface 121 (.agg #[.pointer (some ⟨4, 35, none⟩)])] w
      fun ev w' => ev = .returned (.bool true) ∧ Put w w' t (valC c) 35 := by
  have tO := typeOfC
  have tF := typeOfF
  have a25 := assignableC
  have a26 := notAssignable
  have v25 := valueOfEC
  have nA := noAsFault
  have e5 := unwrapFault
  have e8 := nilAheadF
  have e9 := methodUnwrap
  have hlt : t < w.heap.size := (Array.getElem?_eq_some_iff.1 ht).1
  have hal : a.block < w.heap.size := by
    rcases Nat.lt_or_ge a.block w.heap.size with h | h
    · exact h
    · simp [World.cell?, Array.getElem?_eq_none h] at ha
  have hc0 : w.cell? ⟨t, 0, none⟩ = some old := cell_of_row w t 0 _ _ _ ht
  have hf0 : w.frozen? ⟨t, 0, none⟩ = false := by simp [World.frozen?, ht]
  have el := elemVC a ⟨t, 0, none⟩ (w.alloc (.cells #[.pointer (some ⟨4, 89, none⟩), .pointer (some a), .int .u64 150] 111)) (by rw [World.cell?_alloc_lt _ _ a hal]; exact ha)
  have st := setC ⟨t, 0, none⟩ ⟨w.heap.size + 1, 0, none⟩ c old ((w.alloc (.cells #[.pointer (some ⟨4, 89, none⟩), .pointer (some a), .int .u64 150] 111)).alloc (.cells #[valC c] 35))
    (by rw [World.cell?_alloc_at _ _ _ _ (by simp)]; rfl)
    (by rw [World.cell?_alloc_lt _ _ ⟨t, 0, none⟩ (by simp; omega), World.cell?_alloc_lt _ _ ⟨t, 0, none⟩ hlt]; exact hc0)
    (by rw [World.frozen?_alloc_old _ _ ⟨t, 0, none⟩ (by simp; omega), World.frozen?_alloc_old _ _ ⟨t, 0, none⟩ (Nat.ne_of_lt hlt)]; exact hf0)
  have h10 := @run_callFunc_extern Tryd.prog 37 _ (ReflectliteType.typeOf) Tryd.func37 (by kernel_rfl) (by kernel_rfl) (by kernel_rfl) (by kernel_rfl)
  have h35 := @run_callFunc_extern Tryd.prog 122 _ (ReflectliteType.relation "AssignableTo" ReflectliteType.assignableTo) Tryd.func122 (by kernel_rfl) (by kernel_rfl) (by kernel_rfl) (by kernel_rfl)
  have h11 := @run_callFunc_extern Tryd.prog 81 _ (ReflectliteValue.method (ReflectliteValue.valueError "reflectlite.Value.Elem" 0) ReflectliteValue.elem) Tryd.func81 (by kernel_rfl) (by kernel_rfl) (by kernel_rfl) (by kernel_rfl)
  have h12 := @run_callFunc_extern Tryd.prog 82 _ (ReflectliteValue.set) Tryd.func82 (by kernel_rfl) (by kernel_rfl) (by kernel_rfl) (by kernel_rfl)
  have h6 := @run_callFunc_extern Tryd.prog 58 _ (fun args => ReflectliteValue.unpack (args.getD 0 (.tuple #[]))) Tryd.func58 (by kernel_rfl) (by kernel_rfl) (by kernel_rfl) (by kernel_rfl)
  have mA := methodAssignableTo
  have HP := Aside0'.mk (fun A B : Obj => put_mk (v := valC c) ht A B)
  have HH := Aside0'.mk (show ErrIs (w.alloc (.cells #[.pointer (some ⟨4, 89, none⟩), .pointer (some a), .int .u64 150] 111)) c n v from h.below (fun b hb => Below.heap_alloc _ _ _ hb))
  clear ht ha hc0 hf0 h
  go_enter Tryd.func61, Tryd.ntmps61
  go_wp2
  go_loopg [0] (n + 1) (fun k v0 wr => wr = w.alloc (.cells #[.pointer (some ⟨4, 89, none⟩), .pointer (some a), .int .u64 150] 111) ∧ 0 < k ∧ Aside0' (ErrIs (w.alloc (.cells #[.pointer (some ⟨4, 89, none⟩), .pointer (some a), .int .u64 150] 111)) c (k - 1) v0))
  case atStart => exact ⟨rfl, by omega, HH⟩
  case round =>
    obtain ⟨hw, hk, HE⟩ := hrel
    subst hw
    obtain ⟨k, rfl⟩ : ∃ k, gk = k + 1 := ⟨gk - 1, by omega⟩
    simp only [Nat.add_sub_cancel] at HE
    cases k with
    | zero =>
      have hv : u0 = .iface 35 (valC c) := HE.out
      subst hv
      go_wp2
      go_ret
      exact ⟨rfl, HP.out _ _⟩
    | succ k =>
      obtain ⟨b, wh, at_, x, hv, hb, hx⟩ := HE.out
      subst hv
      have hc' := Aside0'.mk (cell_of_row _ b 2 _ _ _ hb)
      have HX := Aside0'.mk hx
      obtain ⟨tx, vx, hxv⟩ := hx.iface
      have hxn := fun w => run_eql_held_nil (P := Tryd.prog) w 28 tx vx Tryd.underlying28
      subst hxv
      clear hb hx
      go_wp2_with (first | (go_at_call 116; refine (unwrap_calls b _ _ hc'.out).mono ?_; rintro e w' ⟨rfl, rfl⟩))
      go_roundg (k + 1)
      case measure => omega
      case rel => exact ⟨rfl, by omega, HX⟩
set_option maxHeartbeats 4000000 in
set_option maxRecDepth 100000 in
/-- errors.As of a code within faults, the target an api.Code. -/
theorem as_code (c : Int) (n : Nat) (v : Value) (t : Nat) (old : Value) (w : World) (h : ErrIs w c n v) (hg : ErrTy w) (ht : w.heap[t]? = some (.cells #[old] 35 (0, 0))) :
    Calls Tryd.prog 32 #[v, .iface 89 (.pointer (some ⟨t, 0, none⟩))] w fun ev w' => ev = .returned (.bool true) ∧ Put w w' t (valC c) 35 := by
  obtain ⟨tx, vx, rfl⟩ := h.iface
  have n1 := run_eql_held_nil (P := Tryd.prog) w 28 tx vx Tryd.underlying28
  have HH := Aside0'.mk (fun A B : Obj => (h.below (w' := (w.alloc A).alloc B) (fun b hb => by rw [Below.heap_alloc _ _ _ (by simp; omega), Below.heap_alloc _ _ _ hb])))
  clear h
  have hlt : t < w.heap.size := (Array.getElem?_eq_some_iff.1 ht).1
  have h0 : (0 : Nat) < w.heap.size := by
    rcases Nat.eq_zero_or_pos w.heap.size with h0 | h
    · simp [ErrTy, World.cell?, h0] at hg
    · exact h
  have hg2 : ((w.alloc (.cells #[.pointer (some ⟨t, 0, none⟩)] 89)).alloc (.cells #[.pointer (some ⟨4, 89, none⟩), .pointer (some ⟨w.heap.size, 0, none⟩), .int .u64 150] 111)).cell? ⟨0, 0, none⟩ = some (.iface 121 (.agg #[.pointer (some ⟨4, 28, none⟩)])) := by
    rw [World.cell?_alloc_lt _ _ ⟨0, 0, none⟩ (by simp), World.cell?_alloc_lt _ _ ⟨0, 0, none⟩ h0]; exact hg
  have hn8 := isNilC ⟨w.heap.size, 0, none⟩ ⟨t, 0, none⟩ ((w.alloc (.cells #[.pointer (some ⟨t, 0, none⟩)] 89)).alloc (.cells #[.pointer (some ⟨4, 89, none⟩), .pointer (some ⟨w.heap.size, 0, none⟩), .int .u64 150] 111)) (by simp)
  have HT := Aside0'.mk (show ((w.alloc (.cells #[.pointer (some ⟨t, 0, none⟩)] 89)).alloc (.cells #[.pointer (some ⟨4, 89, none⟩), .pointer (some ⟨w.heap.size, 0, none⟩), .int .u64 150] 111)).heap[t]? = some (.cells #[old] 35 (0, 0)) by rw [Below.heap_alloc _ _ _ (by simp; omega), Below.heap_alloc _ _ _ hlt]; exact ht)
  have HC := Aside0'.mk (show ((w.alloc (.cells #[.pointer (some ⟨t, 0, none⟩)] 89)).alloc (.cells #[.pointer (some ⟨4, 89, none⟩), .pointer (some ⟨w.heap.size, 0, none⟩), .int .u64 150] 111)).cell? ⟨w.heap.size, 0, none⟩ = some (.pointer (some ⟨t, 0, none⟩)) by simp)
  have HBL := Aside0'.mk (show Below w.heap.size w ((w.alloc (.cells #[.pointer (some ⟨t, 0, none⟩)] 89)).alloc (.cells #[.pointer (some ⟨4, 89, none⟩), .pointer (some ⟨w.heap.size, 0, none⟩), .int .u64 150] 111)) from ((Below.refl _ _).alloc (Nat.le_refl _) _).alloc (by simp) _)
  clear ht hg h0
  have v6 := valueOfC
  have y7 := typeC
  have k1 := kindC
  have k2 := kindEC
  have e2 := elemC
  have i2 := implementsC
  have h6 := @run_callFunc_extern Tryd.prog 58 _ (fun args => ReflectliteValue.unpack (args.getD 0 (.tuple #[]))) Tryd.func58 (by kernel_rfl) (by kernel_rfl) (by kernel_rfl) (by kernel_rfl)
  have h7 := @run_callFunc_extern Tryd.prog 59 _ (ReflectliteValue.methodAny (ReflectliteValue.valueError "reflectlite.Value.Type" 0) (fun t _ _ _ => ReflectliteType.toType t)) Tryd.func59 (by kernel_rfl) (by kernel_rfl) (by kernel_rfl) (by kernel_rfl)
  have h8 := @run_callFunc_extern Tryd.prog 60 _ (ReflectliteValue.method (ReflectliteValue.valueError "reflectlite.Value.IsNil" 0) ReflectliteValue.isNil) Tryd.func60 (by kernel_rfl) (by kernel_rfl) (by kernel_rfl) (by kernel_rfl)
  have h27 := @run_callFunc_extern Tryd.prog 110 _ (ReflectliteType.abiMethod fun t => do pure (.int .u8 (← Rtype.kind t))) Tryd.func110 (by kernel_rfl) (by kernel_rfl) (by kernel_rfl) (by kernel_rfl)
  have h37 := @run_callFunc_extern Tryd.prog 124 _ (ReflectliteType.method ReflectliteType.elem) Tryd.func124 (by kernel_rfl) (by kernel_rfl) (by kernel_rfl) (by kernel_rfl)
  have h38 := @run_callFunc_extern Tryd.prog 125 _ (ReflectliteType.relation "Implements" ReflectliteType.implements_) Tryd.func125 (by kernel_rfl) (by kernel_rfl) (by kernel_rfl) (by kernel_rfl)
  have mK := methodKind
  have mE := methodElem
  have mI := methodImplements
  go_enter Tryd.func32, Tryd.ntmps32
  go_wp2_with (go_at_call 61; refine (asCode c n _ ⟨w.heap.size, 0, none⟩ t old _ (HH.out _ _) HC.out HT.out).mono ?_; rintro ev w' ⟨rfl, hp⟩; have HPP := Aside0'.mk (Put.weaken HBL.out hp); clear hp)
  go_ret
  exact ⟨rfl, HPP.out⟩
theorem heap_new (w : World) (o : Obj) : (w.alloc o).heap[w.heap.size]? = some o := by
  show (w.heap.push o)[w.heap.size]? = _
  simp
theorem Put.back {w w' : World} {T : Nat} {v : Value} {o : Obj} (h : Put (w.alloc o) w' w.heap.size v T) : Below w.heap.size w w' :=
  ⟨h.1, h.2.1, h.2.2.1, by have := h.2.2.2.1; simp at this; omega, fun k hk => (h.2.2.2.2.1 k (by simp; omega) (by omega)).trans (Below.heap_alloc _ _ _ hk)⟩
theorem ErrTy.alloc {w : World} (h : ErrTy w) (o : Obj) : ErrTy (w.alloc o) := by
  have h0 : (0 : Nat) < w.heap.size := by
    rcases Nat.eq_zero_or_pos w.heap.size with h0 | h1
    · simp [ErrTy, World.cell?, h0] at h
    · exact h1
  unfold ErrTy
  rw [World.cell?_alloc_lt _ _ ⟨0, 0, none⟩ h0]
  exact h
set_option maxRecDepth 100000 in
theorem of_nil (w : World) : Calls Tryd.prog 19 #[.nilIface] w fun ev w' => ev = .returned (.int .i64 0) ∧ Below w.heap.size w w' := by
  go_enter Tryd.func19, Tryd.ntmps19
  go_wp2
  go_ret
  exact ⟨rfl, Below.refl _ _⟩
set_option maxHeartbeats 1000000 in
set_option maxRecDepth 100000 in
theorem of_err (c : Int) (n : Nat) (v : Value) (w : World) (h : ErrIs w c n v) (hg : ErrTy w) : Calls Tryd.prog 19 #[v] w fun ev w' => ev = .returned (.int .i64 c) ∧ Below w.heap.size w w' := by
  obtain ⟨tx, vx, rfl⟩ := h.iface
  have n1 := run_eql_held_nil (P := Tryd.prog) w 28 tx vx Tryd.underlying28
  have HH := Aside0'.mk (h.below (w' := w.alloc (.cells #[.int .i64 0] 35)) (fun b hb => Below.heap_alloc _ _ _ hb))
  have HG := Aside0'.mk (hg.alloc (.cells #[.int .i64 0] 35))
  clear h hg
  go_enter Tryd.func19, Tryd.ntmps19
  go_wp2_with (go_at_call 32; refine (as_code c n _ w.heap.size (.int .i64 0) _ HH.out HG.out (heap_new _ _)).mono ?_; rintro ev w' ⟨rfl, hp⟩; have HB := Aside0'.mk (Put.back hp); have hcc := cell_of_row w' w.heap.size 0 _ _ _ hp.2.2.2.2.2; clear hp)
  go_ret
  exact ⟨rfl, HB.out⟩
set_option maxHeartbeats 1000000 in
set_option maxRecDepth 100000 in
theorem at_nil (w : World) : Calls Tryd.prog 17 #[.nilIface] w fun ev w' => ev = .returned (.int .i64 (-1)) ∧ Below w.heap.size w w' := by
  go_enter Tryd.func17, Tryd.ntmps17
  go_wp2_with (go_at_call 32; refine (as_nil _ _).mono ?_; rintro ev w' ⟨rfl, rfl⟩)
  go_ret
  exact ⟨rfl, (Below.refl _ _).alloc (Nat.le_refl _) _⟩
set_option maxHeartbeats 1000000 in
set_option maxRecDepth 100000 in
theorem at_fault (b : Nat) (wh : ByteArray) (at_ : Int) (x : Value) (w : World) (hb : w.heap[b]? = some (.cells #[.string wh, .int .i64 at_, x] 71 (0, 0))) (hg : ErrTy w) :
    Calls Tryd.prog 17 #[.iface 67 (.pointer (some ⟨b, 0, none⟩))] w fun ev w' => ev = .returned (.int .i64 at_) ∧ Below w.heap.size w w' := by
  have HG := Aside0'.mk (hg.alloc (.cells #[.pointer none] 67))
  have hbl : b < w.heap.size := (Array.getElem?_eq_some_iff.1 hb).1
  have HBB := Aside0'.mk hb
  clear hb hg
  go_enter Tryd.func17, Tryd.ntmps17
  go_wp2_with (go_at_call 32; refine (as_fault ⟨b, 0, none⟩ w.heap.size (.pointer none) _ HG.out (heap_new _ _)).mono ?_; rintro ev w' ⟨rfl, hp⟩; have HB := Aside0'.mk (Put.back hp); have hcc : w'.cell? ⟨w.heap.size, 0, none⟩ = some (.pointer (some ⟨b, 0, none⟩)) := cell_of_row w' w.heap.size 0 _ _ _ hp.2.2.2.2.2; have hcf : w'.cell? ⟨b, 1, none⟩ = some (.int .i64 at_) := cell_of_row w' b 1 _ _ _ ((HB.out.block b hbl).trans HBB.out); clear hp)
  go_ret
  exact ⟨rfl, HB.out⟩
end Go.Proofs.YthaapijjjgkacaaDoor.Mine
end
section
-- PRINTED BY print.sh 35421559b90ae4d0a3588c463048766b98c2df88dd9212a6774a882060cdf62d: not written by this session
namespace Go.Proofs.YthaapijjjgkacaaDoor.PFilterReads
open Go.RowKit Go.Proofs.YthaapijjjgkacaaDoorW.PrintWords Go.Proofs.YthaapijjjgkacaaDoorW.PrintLast Go.Proofs.YthaapijjjgkacaaDoorW.PrintMore
attribute [local go_sem] max2_int min2_int max_two min_two max_three min_three max_four min_four   -- for this text's walks alone

theorem eqA77 (d : Nat) (w : World) (x0 y0 : ByteArray) (x1 y1 : Int) (x2 y2 : Int) (x3 y3 : Int) (x4 y4 : ByteArray) :
    (Op.equalIn (d + 2) 77 (.agg #[.string x0, .int .i64 x1, .int .i64 x2, .int .i64 x3, .string x4]) (.agg #[.string y0, .int .i64 y1, .int .i64 y2, .int .i64 y3, .string y4])).run Tryd.prog w = .ok (x0.toList == y0.toList && (x1 == y1 && (x2 == y2 && (x3 == y3 && (x4.toList == y4.toList))))) w := by
  refine eqA_of Tryd.underlying77 (by kernel_rfl) ?_
  refine eqf_cons (by rfl) (by go_simp; rfl) (by go_simp; rfl) (by go_simp) ?_
  refine eqf_cons (by rfl) (by go_simp; rfl) (by go_simp; rfl) (by go_simp) ?_
  refine eqf_cons (by rfl) (by go_simp; rfl) (by go_simp; rfl) (by go_simp) ?_
  refine eqf_cons (by rfl) (by go_simp; rfl) (by go_simp; rfl) (by go_simp) ?_
  exact eqf_last (by rfl) (by go_simp; rfl) (by go_simp; rfl) (by go_simp)
end Go.Proofs.YthaapijjjgkacaaDoor.PFilterReads
end
section
/-
  Same and told, walked: turned out of the print's text (the element's kind is 77 in told). Conditions: what the hypotheses say.
-/
namespace Go.Proofs.YthaapijjjgkacaaDoor.Mine
open Go.Proofs.YthaapijjjgkacaaDoor.PFilterReads
open Go.RowKit Go.Proofs.YthaapijjjgkacaaDoorW.PrintWords Go.Proofs.YthaapijjjgkacaaDoorW.PrintLast Go.Proofs.YthaapijjjgkacaaDoorW.PrintMore
attribute [local go_sem] max2_int min2_int max_two min_two max_three min_three max_four min_four   -- for this text's walks alone

attribute [local go_sem high] eqA77
/-! ### wigwagref06_Same: function 14 -/
def wigwagref06_Same.l0 : Nat → List (S77) → List (S77) → Int → Int → Option (Bool)
  | 0, _, _, _, _ => none
  | k + 1, x0, x1, x12, x13 => if x13 < x12 then (if 0 ≤ x13 then (if x13 < (x0.length : Int) then (if x13 < (x1.length : Int) then (if (!((((rd_T77 x0 x13).f0).toList) == (((rd_T77 x1 x13).f0).toList)) || (!(((rd_T77 x0 x13).f1) == ((rd_T77 x1 x13).f1)) || (!(((rd_T77 x0 x13).f2) == ((rd_T77 x1 x13).f2)) || (!(((rd_T77 x0 x13).f3) == ((rd_T77 x1 x13).f3)) || (!((((rd_T77 x0 x13).f4).toList) == (((rd_T77 x1 x13).f4).toList))))))) = true then (some false) else (wigwagref06_Same.l0 k x0 x1 x12 (wrap64 (x13 + 1)))) else (none)) else (none)) else (none)) else (some true)
def wigwagref06_Same.f (k : Nat) (l0 : List (S77)) (l1 : List (S77)) : Option (Bool) := if (l0.length : Int) = (l1.length : Int) then (wigwagref06_Same.l0 k l0 l1 (l0.length : Int) 0) else (some false)
theorem wigwagref06_Same.mono_l : ∀ k, (∀ y0 y1 y2 y3, LeO (wigwagref06_Same.l0 k y0 y1 y2 y3) (wigwagref06_Same.l0 (k + 1) y0 y1 y2 y3))
  | 0 => fun _ _ _ _ r h => by simp [wigwagref06_Same.l0] at h
  | k + 1 => by
    have ih0 := wigwagref06_Same.mono_l k
    · intro y0 y1 y2 y3
      unfold wigwagref06_Same.l0
      repeat' first
      | (with_reducible exact ih0 _ _ _ _)
      | (with_reducible exact LeO.refl _)
      | (with_reducible exact LeO.none _)
      | (with_reducible refine LeO.ite ?_ ?_)
      | (with_reducible refine LeO.bind ?_ (fun _ => ?_))
      | exact ih0 _ _ _ _
      | exact LeO.none _
      | refine LeO.ite ?_ ?_
      | refine LeO.bind ?_ (fun _ => ?_)
theorem wigwagref06_Same.mono : ∀ a0 a1 k, LeO (wigwagref06_Same.f k a0 a1) (wigwagref06_Same.f (k + 1) a0 a1) := by
  intro a0 a1 k
  have ih0 := wigwagref06_Same.mono_l k
  unfold wigwagref06_Same.f
  repeat' first
      | (with_reducible exact ih0 _ _ _ _)
      | (with_reducible exact LeO.refl _)
      | (with_reducible exact LeO.none _)
      | (with_reducible refine LeO.ite ?_ ?_)
      | (with_reducible refine LeO.bind ?_ (fun _ => ?_))
      | exact ih0 _ _ _ _
      | exact LeO.none _
      | refine LeO.ite ?_ ?_
      | refine LeO.bind ?_ (fun _ => ?_)
set_option maxHeartbeats 8000000 in
set_option maxRecDepth 100000 in
theorem wigwagref06_Same.calls (k : Nat) (A0 : Option Addr) (c0 : Nat) (l0 : List (S77)) (A1 : Option Addr) (c1 : Nat) (l1 : List (S77)) (r : Bool) (w : World) (hr0 : Kd.C k77 w A0 l0.length l0) (hc0 : l0.length ≤ c0) (hr1 : Kd.C k77 w A1 l1.length l1) (hc1 : l1.length ≤ c1) (h : wigwagref06_Same.f k l0 l1 = some r) :
    Calls Tryd.prog 14 #[.slice A0 l0.length c0, .slice A1 l1.length c1] w fun e w' => e = .returned (.bool r) ∧ Drawn0 w w' := by
  have hu77 := Tryd.underlying77
  have HR0 := Aside0.mk hr0
  have HC0 := Aside0.mk hc0
  clear hr0 hc0
  have HR1 := Aside0.mk hr1
  have HC1 := Aside0.mk hc1
  clear hr1 hc1
  have H : (if (l0.length : Int) = (l1.length : Int) then (wigwagref06_Same.l0 k l0 l1 (l0.length : Int) 0) else (some false)) = some r := h
  clear h
  by_cases c3 : (l0.length : Int) = (l1.length : Int)
  · rw [if_pos c3] at H
    have c3b0 : ((l0.length : Int) == (l1.length : Int)) = true := beq_iff_eq.mpr c3
    have c3b1 : ((l0.length : Int) != (l1.length : Int)) = false := bne_eq_false_iff_eq.mpr c3
    have c3b2 : (l0.length == l1.length) = true := by first | simpa using c3 | (simp at c3 ⊢; omega)
    clear c3
    have H' := Aside0.mk H
    clear H
    go_enter Tryd.func14, Tryd.ntmps14
    go_wp2
    repeat (go_quiet (fail); try go_wp2)
    go_loopg [13] k (fun kq v13 w' => ∃ (x13_1 : Int), v13 = .int .i64 x13_1 ∧ Aside0 (wigwagref06_Same.l0 kq l0 l1 (l0.length : Int) x13_1 = some r) ∧ Aside0 (kq ≤ k) ∧ Drawn0 w w')
    case atStart => exact ⟨(0), (by first | rfl | (simp; done) | (simp [*]; done)), H', ⟨Nat.le_refl _⟩, by repeat (first | exact Drawn0.refl _ | apply Drawn0.step)⟩
    case round =>
      clear H'
      try clear c1
      try clear p2
      try clear c3
      try clear c3b0
      try clear c3b1
      try clear c3b2
      obtain ⟨x13_1, rfl, HA, HK1, ⟨m1, rfl⟩⟩ := hrel
      cases gk with
      | zero => exact absurd HA.out (by simp [wigwagref06_Same.l0])
      | succ k1 =>
        have H := HA.out
        clear HA
        simp only [wigwagref06_Same.l0] at H
        by_cases c4 : x13_1 < (l0.length : Int)
        · rw [if_pos c4] at H
          have c4b0 : decide (x13_1 < (l0.length : Int)) = true := decide_eq_true c4
          clear c4
          by_cases c5 : 0 ≤ x13_1
          · rw [if_pos c5] at H
            have c5b0 : decide (0 ≤ x13_1) = true := decide_eq_true c5
            clear c5
            by_cases c6 : x13_1 < (l0.length : Int)
            · rw [if_pos c6] at H
              have c6b0 : decide (x13_1 < (l0.length : Int)) = true := decide_eq_true c6
              clear c6
              by_cases c7 : x13_1 < (l1.length : Int)
              · rw [if_pos c7] at H
                have c7b0 : decide (x13_1 < (l1.length : Int)) = true := decide_eq_true c7
                clear c7
                by_cases c8 : (!((((rd_T77 l0 x13_1).f0).toList) == (((rd_T77 l1 x13_1).f0).toList)) || (!(((rd_T77 l0 x13_1).f1) == ((rd_T77 l1 x13_1).f1)) || (!(((rd_T77 l0 x13_1).f2) == ((rd_T77 l1 x13_1).f2)) || (!(((rd_T77 l0 x13_1).f3) == ((rd_T77 l1 x13_1).f3)) || (!((((rd_T77 l0 x13_1).f4).toList) == (((rd_T77 l1 x13_1).f4).toList))))))) = true
                · rw [if_pos c8] at H
                  have c8b0 : (!((((rd_T77 l0 x13_1).f0).toList) == (((rd_T77 l1 x13_1).f0).toList)) || (!(((rd_T77 l0 x13_1).f1) == ((rd_T77 l1 x13_1).f1)) || (!(((rd_T77 l0 x13_1).f2) == ((rd_T77 l1 x13_1).f2)) || (!(((rd_T77 l0 x13_1).f3) == ((rd_T77 l1 x13_1).f3)) || (!((((rd_T77 l0 x13_1).f4).toList) == (((rd_T77 l1 x13_1).f4).toList))))))) = true := c8
                  clear c8
                  obtain rfl := Option.some.inj H
                  have p173 : 0 ≤ (x13_1 : Int) := of_decide_eq_true (by first | (with_reducible assumption) | assumption)
                  have q173 : x13_1 < (l0.length : Int) := of_decide_eq_true (by first | (with_reducible assumption) | assumption)
                  obtain ⟨ad173, e173, hx173_0, hx173_1, hx173_2, hx173_3, hx173_4⟩ := at_T77 HR0.out x13_1 p173 q173
                  cases e173
                  replace p173 := eq_true p173
                  replace q173 := eq_true q173
                  have p174 : 0 ≤ (x13_1 : Int) := of_decide_eq_true (by first | (with_reducible assumption) | assumption)
                  have q174 : x13_1 < (l1.length : Int) := of_decide_eq_true (by first | (with_reducible assumption) | assumption)
                  obtain ⟨ad174, e174, hx174_0, hx174_1, hx174_2, hx174_3, hx174_4⟩ := at_T77 HR1.out x13_1 p174 q174
                  cases e174
                  replace p174 := eq_true p174
                  replace q174 := eq_true q174
                  go_wp2
                  repeat (go_quiet (fail); try go_wp2)
                  go_ret
                  exact ⟨by first | rfl | (simp; done) | (simp [*]; done), by repeat (first | exact Drawn0.refl _ | apply Drawn0.step)⟩
                · rw [if_neg c8] at H
                  have c8b0 : (!((((rd_T77 l0 x13_1).f0).toList) == (((rd_T77 l1 x13_1).f0).toList)) || (!(((rd_T77 l0 x13_1).f1) == ((rd_T77 l1 x13_1).f1)) || (!(((rd_T77 l0 x13_1).f2) == ((rd_T77 l1 x13_1).f2)) || (!(((rd_T77 l0 x13_1).f3) == ((rd_T77 l1 x13_1).f3)) || (!((((rd_T77 l0 x13_1).f4).toList) == (((rd_T77 l1 x13_1).f4).toList))))))) = false := by simpa using c8
                  clear c8
                  have H' := Aside0.mk H
                  clear H
                  have p173 : 0 ≤ (x13_1 : Int) := of_decide_eq_true (by first | (with_reducible assumption) | assumption)
                  have q173 : x13_1 < (l0.length : Int) := of_decide_eq_true (by first | (with_reducible assumption) | assumption)
                  obtain ⟨ad173, e173, hx173_0, hx173_1, hx173_2, hx173_3, hx173_4⟩ := at_T77 HR0.out x13_1 p173 q173
                  cases e173
                  replace p173 := eq_true p173
                  replace q173 := eq_true q173
                  have p174 : 0 ≤ (x13_1 : Int) := of_decide_eq_true (by first | (with_reducible assumption) | assumption)
                  have q174 : x13_1 < (l1.length : Int) := of_decide_eq_true (by first | (with_reducible assumption) | assumption)
                  obtain ⟨ad174, e174, hx174_0, hx174_1, hx174_2, hx174_3, hx174_4⟩ := at_T77 HR1.out x13_1 p174 q174
                  cases e174
                  replace p174 := eq_true p174
                  replace q174 := eq_true q174
                  go_wp2
                  repeat (go_quiet (fail); try go_wp2)
                  go_roundg k1
                  case measure => have := HK1.out; omega
                  case rel => exact ⟨(wrap64 (x13_1 + 1)), (by first | rfl | (simp; done) | (simp [*]; done)), H', ⟨by have := HK1.out; omega⟩, by repeat (first | exact Drawn0.refl _ | apply Drawn0.step)⟩
              · rw [if_neg c7] at H
                exact absurd H (by simp)
            · rw [if_neg c6] at H
              exact absurd H (by simp)
          · rw [if_neg c5] at H
            exact absurd H (by simp)
        · rw [if_neg c4] at H
          have c4b0 : decide (x13_1 < (l0.length : Int)) = false := decide_eq_false c4
          clear c4
          obtain rfl := Option.some.inj H
          go_wp2
          repeat (go_quiet (fail); try go_wp2)
          go_ret
          exact ⟨by first | rfl | (simp; done) | (simp [*]; done), by repeat (first | exact Drawn0.refl _ | apply Drawn0.step)⟩
  · rw [if_neg c3] at H
    have c3b0 : ((l0.length : Int) == (l1.length : Int)) = false := beq_eq_false_iff_ne.mpr c3
    have c3b1 : ((l0.length : Int) != (l1.length : Int)) = true := bne_iff_ne.mpr c3
    have c3b2 : (l0.length == l1.length) = false := by first | simpa using c3 | (simp at c3 ⊢; omega)
    obtain rfl := Option.some.inj H
    go_enter Tryd.func14, Tryd.ntmps14
    go_wp2
    repeat (go_quiet (fail); try go_wp2)
    go_ret
    exact ⟨by first | rfl | (simp; done) | (simp [*]; done), by repeat (first | exact Drawn0.refl _ | apply Drawn0.step)⟩

/-! ### wigwaglaw06_told: function 15 -/
def wigwaglaw06_told.l0 : Nat → List (S77) → List (S46) → Int → Int → Option ((List (S77)))
  | 0, _, _, _, _ => none
  | k + 1, x3, x7, x8, x9 => if x9 < x8 then (if 0 ≤ x9 then (if x9 < (x7.length : Int) then (if x3.length < 2513169434916 then (wigwaglaw06_told.l0 k (x3 ++ [(⟨(rd_T46 x7 x9).f0, (rd_T46 x7 x9).f1, (rd_T46 x7 x9).f2, (rd_T46 x7 x9).f3, (rd_T46 x7 x9).f4⟩ : S77)]) x7 x8 (wrap64 (x9 + 1))) else (none)) else (none)) else (none)) else (some x3)
def wigwaglaw06_told.f (k : Nat) (l0 : List (S46)) : Option ((List (S77))) := wigwaglaw06_told.l0 k (([] : List (S77))) l0 (l0.length : Int) 0
theorem wigwaglaw06_told.mono_l : ∀ k, (∀ y0 y1 y2 y3, LeO (wigwaglaw06_told.l0 k y0 y1 y2 y3) (wigwaglaw06_told.l0 (k + 1) y0 y1 y2 y3))
  | 0 => fun _ _ _ _ r h => by simp [wigwaglaw06_told.l0] at h
  | k + 1 => by
    have ih0 := wigwaglaw06_told.mono_l k
    · intro y0 y1 y2 y3
      unfold wigwaglaw06_told.l0
      repeat' first
      | (with_reducible exact ih0 _ _ _ _)
      | (with_reducible exact LeO.refl _)
      | (with_reducible exact LeO.none _)
      | (with_reducible refine LeO.ite ?_ ?_)
      | (with_reducible refine LeO.bind ?_ (fun _ => ?_))
      | exact ih0 _ _ _ _
      | exact LeO.none _
      | refine LeO.ite ?_ ?_
      | refine LeO.bind ?_ (fun _ => ?_)
theorem wigwaglaw06_told.mono : ∀ a0 k, LeO (wigwaglaw06_told.f k a0) (wigwaglaw06_told.f (k + 1) a0) := by
  intro a0 k
  have ih0 := wigwaglaw06_told.mono_l k
  unfold wigwaglaw06_told.f
  repeat' first
      | (with_reducible exact ih0 _ _ _ _)
      | (with_reducible exact LeO.refl _)
      | (with_reducible exact LeO.none _)
      | (with_reducible refine LeO.ite ?_ ?_)
      | (with_reducible refine LeO.bind ?_ (fun _ => ?_))
      | exact ih0 _ _ _ _
      | exact LeO.none _
      | refine LeO.ite ?_ ?_
      | refine LeO.bind ?_ (fun _ => ?_)
set_option maxHeartbeats 8000000 in
set_option maxRecDepth 100000 in
theorem wigwaglaw06_told.calls (k : Nat) (A0 : Option Addr) (c0 : Nat) (l0 : List (S46)) (r : List (S77)) (w : World) (hr0 : Kd.C k46 w A0 l0.length l0) (hc0 : l0.length ≤ c0) (h : wigwaglaw06_told.f k l0 = some r) :
    Calls Tryd.prog 15 #[.slice A0 l0.length c0] w fun e w' => ∃ v0_ : Value, e = .returned (v0_) ∧ Kd.R k77 77 w' w.heap.size (fun _ => True) v0_ r ∧ Below w.heap.size w w' := by
  have hu46 := Tryd.underlying46
  have HR0 := Aside0.mk hr0
  have HC0 := Aside0.mk hc0
  clear hr0 hc0
  have HB := Aside0.mk (Below.refl w.heap.size w)
  have H : (wigwaglaw06_told.l0 k (([] : List (S77))) l0 (l0.length : Int) 0) = some r := h
  clear h
  obtain ⟨y175, hy175⟩ : ∃ y_ : List (S77), y_ = (([] : List (S77))) := ⟨_, rfl⟩
  replace H : (wigwaglaw06_told.l0 k y175 l0 (l0.length : Int) 0) = some r := by first | (rw [hy175]; with_reducible exact H) | (have H2_ := (Option.bind_some _ _).symm.trans H; rw [hy175]; with_reducible exact H2_) | (have H2_ := (Option.bind_some _ _).symm.trans H; with_reducible exact H2_) | with_reducible exact H | (rw [hy175]; exact H) | exact H
  have Ny175 := Aside0.mk hy175
  clear hy175
  have H' := Aside0.mk H
  clear H
  go_enter Tryd.func15, Tryd.ntmps15
  go_wp2_with (first | ((with_reducible refine gate_dst (N := 6) rfl ?_); refine Kd.R_lit k77 _ 77 ?hg (N := 6) ?hd (xs := ([] : List (S77))) (inner := []) (ok := fun _ => True) (okp := fun _ => True) ?hr ?hp (fun _ hk => hk) trivial (Below.refl _ _) (Nat.le_refl _) (by simp) ?_; (case hd => rfl); (case hg => rfl); (case hr => first | (go_simp; done) | (go_simp; rfl)); (case hp => exact (Reps.none _ _)); intro v176 w2 ho3 hb hg_ hnew_; clear hg_ hnew_; (first | rw [← Ny175.out] at ho3 | (simp only [Int.reduceToNat] at ho3; rw [← Ny175.out] at ho3)); have n0_ := Aside0.mk (Kd.R_lower ho3 (below_size (by repeat (first | (with_reducible first | exact HB.out | apply below_alloc | apply pw_below_drewN | apply below_drew1) | exact HB.out)))); have n1_ := Aside0.mk (below_step (by repeat (first | (with_reducible first | exact HB.out | apply below_alloc | apply pw_below_drewN | apply below_drew1) | exact HB.out)) hb); clear HB; have HO177 := n0_; have HB := n1_; clear n0_ n1_; clear hb ho3))
  go_loopg [3, 9] k (fun kq v3 v9 w' => ∃ (x3_1 : List (S77)) (x9_1 : Int), v9 = .int .i64 x9_1 ∧ Aside0 (wigwaglaw06_told.l0 kq x3_1 l0 (l0.length : Int) x9_1 = some r) ∧ Aside0 (kq ≤ k) ∧ Aside0 (Kd.R k77 77 w' w.heap.size (fun _ => True) v3 x3_1) ∧ Aside0 (Below w.heap.size w w'))
  case atStart => exact ⟨(y175), (0), (by first | rfl | (simp; done) | (simp [*]; done)), H', ⟨Nat.le_refl _⟩, ⟨by (with_reducible repeat (first | apply Kd.R_alloc | apply Kd.R_drewN | apply Kd.R_drew)); exact HO177.out⟩, ⟨by repeat (first | (with_reducible first | exact HB.out | apply below_alloc | apply pw_below_drewN | apply below_drew1) | exact HB.out)⟩⟩
  case round =>
    clear H'
    try clear c1
    try clear p2
    obtain ⟨x3_1, x9_1, rfl, HA, HK1, HO_3, HB⟩ := hrel
    cases gk with
    | zero => exact absurd HA.out (by simp [wigwaglaw06_told.l0])
    | succ k1 =>
      have H := HA.out
      clear HA
      simp only [wigwaglaw06_told.l0] at H
      by_cases c4 : x9_1 < (l0.length : Int)
      · rw [if_pos c4] at H
        have c4b0 : decide (x9_1 < (l0.length : Int)) = true := decide_eq_true c4
        clear c4
        by_cases c5 : 0 ≤ x9_1
        · rw [if_pos c5] at H
          have c5b0 : decide (0 ≤ x9_1) = true := decide_eq_true c5
          clear c5
          by_cases c6 : x9_1 < (l0.length : Int)
          · rw [if_pos c6] at H
            have c6b0 : decide (x9_1 < (l0.length : Int)) = true := decide_eq_true c6
            clear c6
            by_cases c7 : x3_1.length < 2513169434916
            · rw [if_pos c7] at H
              have LMc7 := Aside0.mk c7
              clear c7
              obtain ⟨y180, hy180⟩ : ∃ y_ : List (S77), y_ = (x3_1 ++ [(⟨(rd_T46 l0 x9_1).f0, (rd_T46 l0 x9_1).f1, (rd_T46 l0 x9_1).f2, (rd_T46 l0 x9_1).f3, (rd_T46 l0 x9_1).f4⟩ : S77)]) := ⟨_, rfl⟩
              replace H : (wigwaglaw06_told.l0 k1 y180 l0 (l0.length : Int) (wrap64 (x9_1 + 1))) = some r := by first | (rw [hy180]; with_reducible exact H) | (have H2_ := (Option.bind_some _ _).symm.trans H; rw [hy180]; with_reducible exact H2_) | (have H2_ := (Option.bind_some _ _).symm.trans H; with_reducible exact H2_) | with_reducible exact H | (rw [hy180]; exact H) | exact H
              have Ny180 := Aside0.mk hy180
              clear hy180
              have H' := Aside0.mk H
              clear H
              have p178 : 0 ≤ (x9_1 : Int) := of_decide_eq_true (by first | (with_reducible assumption) | assumption)
              have q178 : x9_1 < (l0.length : Int) := of_decide_eq_true (by first | (with_reducible assumption) | assumption)
              obtain ⟨ad178, e178, hx178_0, hx178_1, hx178_2, hx178_3, hx178_4⟩ := at_T46 HR0.out x9_1 p178 q178
              cases e178
              replace hx178_0 := (HB.out.cell (World.block_lt_of_cell? w _ hx178_0)).trans hx178_0
              replace hx178_1 := (HB.out.cell (World.block_lt_of_cell? w _ hx178_1)).trans hx178_1
              replace hx178_2 := (HB.out.cell (World.block_lt_of_cell? w _ hx178_2)).trans hx178_2
              replace hx178_3 := (HB.out.cell (World.block_lt_of_cell? w _ hx178_3)).trans hx178_3
              replace hx178_4 := (HB.out.cell (World.block_lt_of_cell? w _ hx178_4)).trans hx178_4
              replace p178 := eq_true p178
              replace q178 := eq_true q178
              go_wp2_with (first | ((with_reducible refine gate_dst (N := 5) rfl ?_); refine box_event ?hg (N := 5) ?hd (cs := #[.string (⟨#[]⟩ : ByteArray), .int .i64 0, .int .i64 0, .int .i64 0, .string (⟨#[]⟩ : ByteArray)]) (t := 46) ?hr ?_; (case hd => rfl); (case hg => rfl); (case hr => first | (go_simp; done) | (go_simp; rfl)); intro gb179 hg w8 hbox hb; have n0_ := Aside0.mk (Kd.R_below (by (with_reducible repeat (first | apply Kd.R_alloc | apply Kd.R_drewN | apply Kd.R_drew)); exact HO_3.out) hb); have n1_ := Aside0.mk (below_step (by repeat (first | (with_reducible first | exact HB.out | apply below_alloc | apply pw_below_drewN | apply below_drew1) | exact HB.out)) hb); have n2_ := Aside0.mk (hbox); have n3_ := Aside0.mk ((by rw [hg]; exact (below_size (by repeat (first | (with_reducible first | exact HB.out | apply below_alloc | apply pw_below_drewN | apply below_drew1) | exact HB.out))) : w.heap.size ≤ gb179)); have n4_ := Aside0.mk ((by rw [hg]; exact (below_size (by repeat (first | (with_reducible first | exact HB.out | apply below_alloc | apply pw_below_drewN | apply below_drew1) | exact HB.out))) : w.heap.size ≤ gb179)); clear HO_3; clear HB; have HO_3 := n0_; have HB := n1_; have BK179 := n2_; have GW179 := n3_; have GE179 := n4_; clear n0_ n1_ n2_ n3_ n4_; clear hb hbox hg; have hcz9_0 : w8.cell? ⟨gb179, 0, none⟩ = some (.string (⟨#[]⟩ : ByteArray)) := (blk_cell BK179.out 0).trans rfl; have hcz9_1 : w8.cell? ⟨gb179, 1, none⟩ = some (.int .i64 0) := (blk_cell BK179.out 1).trans rfl; have hcz9_2 : w8.cell? ⟨gb179, 2, none⟩ = some (.int .i64 0) := (blk_cell BK179.out 2).trans rfl; have hcz9_3 : w8.cell? ⟨gb179, 3, none⟩ = some (.int .i64 0) := (blk_cell BK179.out 3).trans rfl; have hcz9_4 : w8.cell? ⟨gb179, 4, none⟩ = some (.string (⟨#[]⟩ : ByteArray)) := (blk_cell BK179.out 4).trans rfl; have hfz9_0 := blk_frozen BK179.out 0; have hfz9_1 := blk_frozen BK179.out 1; have hfz9_2 := blk_frozen BK179.out 2; have hfz9_3 := blk_frozen BK179.out 3; have hfz9_4 := blk_frozen BK179.out 4) | ((with_reducible refine gate_builtin (b := .append) (xs := #[.tmp 13, .tmp 15]) rfl ?_); at_builtin; refine Kd.R_append k77 (w0 := w) w.heap.size rfl (.tmp 13) (.tmp 15) 32 77 (.agg #[(.string ⟨#[]⟩), (.int .i64 0), (.int .i64 0), (.int .i64 0), (.string ⟨#[]⟩)]) 56 rfl Tryd.underlying32 info77 rfl (by decide) (by omega) u3 x3_1 (⟨(rd_T46 l0 x9_1).f0, (rd_T46 l0 x9_1).f1, (rd_T46 l0 x9_1).f2, (rd_T46 l0 x9_1).f3, (rd_T46 l0 x9_1).f4⟩ : S77) [.string ((rd_T46 l0 x9_1).f0), .int .i64 ((rd_T46 l0 x9_1).f1), .int .i64 ((rd_T46 l0 x9_1).f2), .int .i64 ((rd_T46 l0 x9_1).f3), .string ((rd_T46 l0 x9_1).f4)] (fun _ => True) (fun _ => False) rfl (by first | (go_simp; done) | (go_simp; rfl)) ?aP (fun _ hk => hk.elim) ?aF ?aO ?aB ?aS ?aL ?_; (case aP => exact k77_mkM _ _ _ (⟨(rd_T46 l0 x9_1).f0, (rd_T46 l0 x9_1).f1, (rd_T46 l0 x9_1).f2, (rd_T46 l0 x9_1).f3, (rd_T46 l0 x9_1).f4⟩ : S77)); (case aB => exact (by repeat (first | (with_reducible first | exact HB.out | apply below_alloc | apply pw_below_drewN | apply below_drew1 | refine below_set ?_ GE179.out) | exact HB.out))); (case aF => exact (fun _ _ => trivial)); (case aO => exact (by (with_reducible repeat (first | apply Kd.R_alloc | apply Kd.R_drewN | apply Kd.R_drew)); exact Kd.R_mono (Kd.R_far (p := ⟨gb179, 4, none⟩) (Kd.R_far (p := ⟨gb179, 3, none⟩) (Kd.R_far (p := ⟨gb179, 2, none⟩) (Kd.R_far (p := ⟨gb179, 1, none⟩) (Kd.R_far (p := ⟨gb179, 0, none⟩) (Kd.R_types HO_3.out BK179.out (by decide)) (fun _ hk => hk.2) (.string ((rd_T46 l0 x9_1).f0))) (fun _ hk => hk.2) (.int .i64 ((rd_T46 l0 x9_1).f1))) (fun _ hk => hk.2) (.int .i64 ((rd_T46 l0 x9_1).f2))) (fun _ hk => hk.2) (.int .i64 ((rd_T46 l0 x9_1).f3))) (fun _ hk => hk.2) (.string ((rd_T46 l0 x9_1).f4))) (fun _ hk => trivial))); (case aS => exact (below_size (by repeat (first | (with_reducible first | exact HB.out | apply below_alloc | apply pw_below_drewN | apply below_drew1 | refine below_set ?_ GE179.out) | exact HB.out)))); (case aL => have := LMc7.out; omega); intro v181 w10 ho hb hg hat; rw [← Ny180.out] at ho; have n0_ := Aside0.mk (blk_grown (g := gb179) (o := .cells #[.string ((rd_T46 l0 x9_1).f0), .int .i64 ((rd_T46 l0 x9_1).f1), .int .i64 ((rd_T46 l0 x9_1).f2), .int .i64 ((rd_T46 l0 x9_1).f3), .string ((rd_T46 l0 x9_1).f4)] 46 (0, 0)) (by (with_reducible repeat (first | refine blk_drewN ?_ _ | refine blk_drew ?_ | refine blk_alloc ?_ _)); refine blk_put (cs := #[.string ((rd_T46 l0 x9_1).f0), .int .i64 ((rd_T46 l0 x9_1).f1), .int .i64 ((rd_T46 l0 x9_1).f2), .int .i64 ((rd_T46 l0 x9_1).f3), .string (⟨#[]⟩ : ByteArray)]) ?_ 4 _ rfl; (with_reducible repeat (first | refine blk_drewN ?_ _ | refine blk_drew ?_ | refine blk_alloc ?_ _)); refine blk_put (cs := #[.string ((rd_T46 l0 x9_1).f0), .int .i64 ((rd_T46 l0 x9_1).f1), .int .i64 ((rd_T46 l0 x9_1).f2), .int .i64 0, .string (⟨#[]⟩ : ByteArray)]) ?_ 3 _ rfl; (with_reducible repeat (first | refine blk_drewN ?_ _ | refine blk_drew ?_ | refine blk_alloc ?_ _)); refine blk_put (cs := #[.string ((rd_T46 l0 x9_1).f0), .int .i64 ((rd_T46 l0 x9_1).f1), .int .i64 0, .int .i64 0, .string (⟨#[]⟩ : ByteArray)]) ?_ 2 _ rfl; (with_reducible repeat (first | refine blk_drewN ?_ _ | refine blk_drew ?_ | refine blk_alloc ?_ _)); refine blk_put (cs := #[.string ((rd_T46 l0 x9_1).f0), .int .i64 0, .int .i64 0, .int .i64 0, .string (⟨#[]⟩ : ByteArray)]) ?_ 1 _ rfl; (with_reducible repeat (first | refine blk_drewN ?_ _ | refine blk_drew ?_ | refine blk_alloc ?_ _)); refine blk_put (cs := #[.string (⟨#[]⟩ : ByteArray), .int .i64 0, .int .i64 0, .int .i64 0, .string (⟨#[]⟩ : ByteArray)]) ?_ 0 _ rfl; (with_reducible repeat (first | refine blk_drewN ?_ _ | refine blk_drew ?_ | refine blk_alloc ?_ _)); exact BK179.out) hg (Kd.R_ne HO_3.out BK179.out (by decide))); have n1_ := Aside0.mk (hb); have n2_ := Aside0.mk (ho); clear BK179; clear HB; clear HO_3; have BK179 := n0_; have HB := n1_; have HO182 := n2_; clear n0_ n1_ n2_; clear ho hb hg hat))
              go_roundg k1
              case measure => have := HK1.out; omega
              case rel => exact ⟨(y180), (wrap64 (x9_1 + 1)), (by first | rfl | (simp; done) | (simp [*]; done)), H', ⟨by have := HK1.out; omega⟩, ⟨by (with_reducible repeat (first | apply Kd.R_alloc | apply Kd.R_drewN | apply Kd.R_drew)); exact HO182.out⟩, ⟨by repeat (first | (with_reducible first | exact HB.out | apply below_alloc | apply pw_below_drewN | apply below_drew1 | refine below_set ?_ GE179.out) | exact HB.out)⟩⟩
            · rw [if_neg c7] at H
              exact absurd H (by simp)
          · rw [if_neg c6] at H
            exact absurd H (by simp)
        · rw [if_neg c5] at H
          exact absurd H (by simp)
      · rw [if_neg c4] at H
        have c4b0 : decide (x9_1 < (l0.length : Int)) = false := decide_eq_false c4
        clear c4
        obtain rfl := Option.some.inj H
        go_wp2
        go_ret
        exact ⟨_, by first | rfl | (simp [errW_none, errW_some] <;> rfl) | (simp [*, errW_none, errW_some] <;> rfl), by (with_reducible repeat (first | apply Kd.R_alloc | apply Kd.R_drewN | apply Kd.R_drew)); exact HO_3.out, by repeat (first | (with_reducible first | exact HB.out | apply below_alloc | apply pw_below_drewN | apply below_drew1) | exact HB.out)⟩

end Go.Proofs.YthaapijjjgkacaaDoor.Mine
end
section
/-
  awake: answers that the document fixes; and the contract of Parse at any text of at most 1000 bytes.
-/
namespace Go.Proofs.YthaapijjjgkacaaDoor.Mine
open Go.RowKit Go.Proofs.YthaapijjjgkacaaDoorW.PrintWords Go.Proofs.YthaapijjjgkacaaDoorW.PrintLast Go.Proofs.YthaapijjjgkacaaDoorW.PrintMore
open Go.Proofs.YthaapijjjgkacaaDoor.PFilterReads

theorem parse_P (s : ByteArray) (w : World) (h : s.size ≤ 1000) : Calls Tryd.prog 13 #[.string s] w (ParsePost w s) := by
  by_cases h3 : 300 < s.size
  · exact parse_long s w h h3
  · exact parse_any s w (by omega)
def sA1 : ByteArray := ⟨#[112, 114, 105, 99, 101, 32, 105, 110, 32, 51, 46, 46, 57, 32, 97, 110, 100, 32, 116, 97, 103, 32, 94, 61, 32, 34, 97, 34]⟩
def sA2 : ByteArray := ⟨#[112, 114, 105, 99, 101]⟩
def xA1 : List Pr := [⟨[112, 114, 105, 99, 101], 1, 3, 9, []⟩, ⟨[116, 97, 103], 3, 0, 0, [97]⟩]
theorem parse_A1 : parseR sA1 = .inl xA1 := by rfl
theorem parse_A2 : parseR sA2 = .inr (5, 2) := by rfl

theorem ErrTy.below {w w' : World} (h : ErrTy w) (hb : Below w.heap.size w w') : ErrTy w' := by
  have h0 : (0 : Nat) < w.heap.size := by
    rcases Nat.eq_zero_or_pos w.heap.size with h0 | h1
    · simp [ErrTy, World.cell?, h0] at h
    · exact h1
  exact (hb.cell (p := ⟨0, 0, none⟩) h0).trans h
theorem ParsePost.ok {w w' : World} {s : ByteArray} {xs : List Pr} {e : Ending} (h : ParsePost w s e w') (hr : parseR s = .inl xs) : ParseOk w xs e w' := by
  unfold ParsePost at h
  rw [hr] at h
  exact h
theorem ParsePost.no {w w' : World} {s : ByteArray} {a c : Int} {e : Ending} (h : ParsePost w s e w') (hr : parseR s = .inr (a, c)) : ParseNo w a c e w' := by
  unfold ParsePost at h
  rw [hr] at h
  exact h
theorem IsFault.errIs {w : World} {b : Nat} {wh : ByteArray} {at_ c : Int} (h : IsFault w b wh at_ c) : ErrIs w c 1 (.iface 67 (.pointer (some ⟨b, 0, none⟩))) := ⟨b, wh, at_, _, rfl, h, rfl⟩
theorem IsFault.keep {w w' : World} {b : Nat} {wh : ByteArray} {at_ c : Int} (h : IsFault w b wh at_ c) (hb : Below w.heap.size w w') : IsFault w' b wh at_ c := (hb.block b (Array.getElem?_eq_some_iff.1 h).1).trans h

theorem R_head {α : Type} {d : Kd α} {e : Nat} {w : World} {base : Nat} {ok : Nat → Prop} {v : Value} {xs : List α} (h : d.R e w base ok v xs) (hx : 0 < xs.length) : ∃ g cap, v = .slice (some ⟨g, 0, none⟩) xs.length cap ∧ xs.length ≤ cap := by
  obtain ⟨A, c, hv, hc, _⟩ := Kd.R_reads h
  obtain ⟨_, inner, hown, hr⟩ := h
  rcases hown.2 with ⟨h1, _⟩ | ⟨g, cap, cur, h1, _⟩
  · rw [hv] at h1
    injection h1 with _ h2 _
    omega
  · rw [hv] at h1
    injection h1 with h2 h3 h4
    subst h2 h4
    exact ⟨g, c, hv, hc⟩
set_option maxHeartbeats 4000000 in
set_option maxRecDepth 100000 in
theorem awake_calls (w : World) (hg : ErrTy w) : Calls Tryd.prog 12 #[] w fun e w' => e = .returned (.bool true) ∧ Below w.heap.size w w' := by
  have HG := Aside0.mk hg
  clear hg
  go_enter Tryd.func12, Tryd.ntmps12
  go_wp2_with fail
  refine (parse_P sA1 _ (by decide)).mono ?_
  rintro e w1 hp
  obtain ⟨v1, rfl, ho, hb1⟩ := hp.ok parse_A1
  obtain ⟨g, c, hv, hcap⟩ := R_head ho (by decide)
  subst hv
  obtain ⟨A, c', hv, hle, hC⟩ := Kd.R_reads ho
  injection hv with hv1 hv2 hv3
  subst hv1 hv3
  clear hv2
  have HB1 := Aside0.mk hb1
  have HCC := Aside0.mk hC
  clear hp ho hb1 hle hC hcap
  go_wp2_with fail
  refine (parse_P sA2 _ (by decide)).mono ?_
  rintro e w2 hp
  obtain ⟨b, hbl, rfl, hf, hb2⟩ := hp.no parse_A2
  have HB2 := Aside0.mk hb2
  have HF := Aside0.mk hf
  have HBL := Aside0.mk hbl
  clear hp hf hb2 hbl
  obtain ⟨ad, hA, _, _, _, h03, _⟩ := at_T46 HCC.out 0 (by omega) (by decide)
  obtain ⟨ad2, hA2, _, h11, _, _, _⟩ := at_T46 HCC.out 1 (by omega) (by decide)
  cases hA
  cases hA2
  have h03' : (w2.alloc (.cells #[.pointer none] 67)).cell? ⟨g, 3, none⟩ = some (.int .i64 9) := World.cell?_alloc_lt w2 (.cells #[.pointer none] 67) _ (World.block_lt_of_cell? _ _ ((HB2.out.cell (World.block_lt_of_cell? _ _ h03)).trans h03)) |>.trans ((HB2.out.cell (World.block_lt_of_cell? _ _ h03)).trans h03)
  have h11' : (w2.alloc (.cells #[.pointer none] 67)).cell? ⟨g, 6, none⟩ = some (.int .i64 3) := World.cell?_alloc_lt w2 (.cells #[.pointer none] 67) _ (World.block_lt_of_cell? _ _ ((HB2.out.cell (World.block_lt_of_cell? _ _ h11)).trans h11)) |>.trans ((HB2.out.cell (World.block_lt_of_cell? _ _ h11)).trans h11)
  clear h03 h11
  go_wp2_with fail
  refine (is_err 2 2 1 _ _ (IsFault.errIs (IsFault.keep HF.out ((Below.refl _ _).alloc (Nat.le_refl _) _)))).mono ?_
  rintro e w3 ⟨rfl, rfl⟩
  go_wp2_with fail
  refine (as_fault ⟨b, 0, none⟩ w2.heap.size (.pointer none) _ (ErrTy.alloc (ErrTy.below (ErrTy.below HG.out HB1.out) HB2.out) _) (heap_new _ _)).mono ?_
  rintro e w4 ⟨rfl, hput⟩
  have HB4 := Aside0.mk (Put.back hput)
  have hc4 : w4.cell? ⟨w2.heap.size, 0, none⟩ = some (.pointer (some ⟨b, 0, none⟩)) := cell_of_row w4 w2.heap.size 0 _ _ _ hput.2.2.2.2.2
  have hc5 : w4.cell? ⟨b, 1, none⟩ = some (.int .i64 5) := cell_of_row w4 b 1 _ _ _ (IsFault.keep HF.out HB4.out)
  clear hput
  go_wp2
  go_ret
  exact ⟨rfl, below_then (below_then HB1.out HB1.out.size HB2.out) (Nat.le_trans HB1.out.size HB2.out.size) HB4.out⟩
end Go.Proofs.YthaapijjjgkacaaDoor.Mine
end
section
/-
  The filter parser as plain functions: texts joined by 'and', blanks ahead and behind, something else behind.
-/
namespace Go.Proofs.YthaapijjjgkacaaDoor.Mine

theorem inS_good {nm : List UInt8} {st : St} (h : (inS nm st).2.bad = none) : st.bad = none := by
  have h0 : (numberS (markS [46, 46] (numberS (if (wordS st).1 = [105, 110] then (wordS st).2 else stopS (wordS st).2 st.l.length)).2)).2.bad = none := h
  have h3 := numberS_good (markS_good (numberS_good h0))
  split at h3
  · exact wordS_good h3
  · exact (stopS_none h3).elim
theorem predS_ext {l : List UInt8} (t : List UInt8) (h : (predS ⟨l, none⟩).2.bad = none) : predS ⟨l ++ 32 :: t, none⟩ = ((predS ⟨l, none⟩).1, ⟨(predS ⟨l, none⟩).2.l ++ 32 :: t, none⟩) := by
  have hp : ∀ l, predS ⟨l, none⟩ = (if (blanksS (wordS ⟨l, none⟩).2).l.head? = some 61 then
      (⟨(wordS ⟨l, none⟩).1, 2, 0, 0, (textS (markS [61] (blanksS (wordS ⟨l, none⟩).2))).1⟩, (textS (markS [61] (blanksS (wordS ⟨l, none⟩).2))).2)
    else if (blanksS (wordS ⟨l, none⟩).2).l.head? = some 94 then
      (⟨(wordS ⟨l, none⟩).1, 3, 0, 0, (textS (markS [94, 61] (blanksS (wordS ⟨l, none⟩).2))).1⟩, (textS (markS [94, 61] (blanksS (wordS ⟨l, none⟩).2))).2)
    else inS (wordS ⟨l, none⟩).1 (blanksS (wordS ⟨l, none⟩).2)) := fun _ => rfl
  have hw : (wordS ⟨l, none⟩).2.bad = none := by
    rw [hp] at h
    split at h
    · exact blanksS_good (markS_good (textS_good h))
    · split at h
      · exact blanksS_good (markS_good (textS_good h))
      · exact blanksS_good (inS_good h)
  cases ew : wordS ⟨l, none⟩ with
  | mk w a =>
    rw [ew] at hw
    simp only at hw
    rw [good_eta hw] at ew
    have ex := wordS_ext t ew
    rw [hp, hp, ex]
    rw [hp] at h
    rw [ew] at h ⊢
    simp only at h ⊢
    have hb : blanksS ⟨a.l, none⟩ = ⟨skip a.l, none⟩ := rfl
    have hbx : blanksS ⟨a.l ++ 32 :: t, none⟩ = ⟨skip (a.l ++ 32 :: t), none⟩ := rfl
    rw [hb, hbx]
    rw [hb] at h
    simp only at h ⊢
    -- what stands behind the name isn't blank alone
    have hne : skip a.l ≠ [] := by
      intro e
      rw [e] at h
      rw [if_neg (show ¬ ([] : List UInt8).head? = some 61 by simp), if_neg (show ¬ ([] : List UInt8).head? = some 94 by simp)] at h
      have h0 : (numberS (markS [46, 46] (numberS (if (wordS ⟨[], none⟩).1 = [105, 110] then (wordS ⟨[], none⟩).2 else stopS (wordS ⟨[], none⟩).2 ([] : List UInt8).length)).2)).2.bad = none := h
      have h3 := numberS_good (markS_good (numberS_good h0))
      rw [if_neg (by simp [wordS, skip, wordL])] at h3
      exact stopS_none h3
    rw [skip_ext _ hne]
    obtain ⟨c, r, hcr⟩ : ∃ c r, skip a.l = c :: r := by
      cases hs : skip a.l with
      | nil => exact absurd hs hne
      | cons c r => exact ⟨c, r, rfl⟩
    rw [hcr] at h ⊢
    by_cases h61 : c = 61
    · rw [if_pos (show (c :: r).head? = some 61 by simp [h61])] at h
      rw [if_pos (show (c :: r ++ 32 :: t).head? = some 61 by simp [h61]), if_pos (show (c :: r).head? = some 61 by simp [h61])]
      have hm := good_eta (textS_good h)
      rw [markS_ext (32 :: t) (by simp) hm]
      rw [hm] at h ⊢
      have ht : textS ⟨(markS [61] ⟨c :: r, none⟩).l, none⟩ = ((textS ⟨(markS [61] ⟨c :: r, none⟩).l, none⟩).1, ⟨(textS ⟨(markS [61] ⟨c :: r, none⟩).l, none⟩).2.l, none⟩) := Prod.ext rfl (good_eta h)
      rw [textS_ext (32 :: t) ht]
    · rw [if_neg (show ¬ (c :: r).head? = some 61 by simp [h61])] at h
      rw [if_neg (show ¬ (c :: r ++ 32 :: t).head? = some 61 by simp [h61]), if_neg (show ¬ (c :: r).head? = some 61 by simp [h61])]
      by_cases h94 : c = 94
      · rw [if_pos (show (c :: r).head? = some 94 by simp [h94])] at h
        rw [if_pos (show (c :: r ++ 32 :: t).head? = some 94 by simp [h94]), if_pos (show (c :: r).head? = some 94 by simp [h94])]
        have hm := good_eta (textS_good h)
        rw [markS_ext (32 :: t) (by simp) hm]
        rw [hm] at h ⊢
        have ht : textS ⟨(markS [94, 61] ⟨c :: r, none⟩).l, none⟩ = ((textS ⟨(markS [94, 61] ⟨c :: r, none⟩).l, none⟩).1, ⟨(textS ⟨(markS [94, 61] ⟨c :: r, none⟩).l, none⟩).2.l, none⟩) := Prod.ext rfl (good_eta h)
        rw [textS_ext (32 :: t) ht]
      · rw [if_neg (show ¬ (c :: r).head? = some 94 by simp [h94])] at h
        rw [if_neg (show ¬ (c :: r ++ 32 :: t).head? = some 94 by simp [h94]), if_neg (show ¬ (c :: r).head? = some 94 by simp [h94])]
        exact inS_ext t h

/-- What comes behind a filter's text: nothing, or 'and' and more. -/
def tailS (t : List UInt8) (acc : List Pr) : List Pr ⊕ Nat := if skip t = [] then .inl acc else PN (andS ⟨skip t, none⟩) acc
theorem andS_ext {l : List UInt8} (t : List UInt8) (h : (andS ⟨l, none⟩).bad = none) : andS ⟨l ++ 32 :: t, none⟩ = ⟨(andS ⟨l, none⟩).l ++ 32 :: t, none⟩ := by
  unfold andS at h ⊢
  by_cases hw : (wordS ⟨l, none⟩).1 = [97, 110, 100]
  · rw [if_pos hw] at h
    have hx : wordS ⟨l, none⟩ = ((wordS ⟨l, none⟩).1, ⟨(wordS ⟨l, none⟩).2.l, none⟩) := Prod.ext rfl (good_eta h)
    rw [wordS_ext t hx, if_pos hw, if_pos hw]
  · rw [if_neg hw] at h
    exact (stopS_none h).elim
theorem PS_ext (t : List UInt8) : ∀ (n : Nat) (l : List UInt8) (acc xs : List Pr), l.length ≤ n → PS l acc = .inl xs → PS (l ++ 32 :: t) acc = tailS t xs
  | n, l, acc, xs, hn, h => by
    rw [PS_eq] at h
    rw [PS_eq]
    cases hb : (blanksS (predS ⟨l, none⟩).2).bad with
    | some m => rw [hb] at h; cases h
    | none =>
      rw [hb] at h
      simp only at h
      have hg := blanksS_good hb
      rw [predS_ext t hg]
      have e1 : blanksS (predS ⟨l, none⟩).2 = ⟨skip (predS ⟨l, none⟩).2.l, none⟩ := by rw [good_eta hg]; rfl
      have hle : (predS ⟨l, none⟩).2.l.length ≤ l.length := predS_le (st := ⟨l, none⟩) rfl
      rw [e1] at h
      simp only at h
      have e2 : ∀ q : List UInt8, blanksS ⟨q, none⟩ = ⟨skip q, none⟩ := fun _ => rfl
      rw [e2]
      simp only
      by_cases hs : skip (predS ⟨l, none⟩).2.l = []
      · rw [if_pos hs] at h
        cases h
        rw [skip_ext0 _ hs]
        unfold tailS
        have e3 : skip (32 :: t) = skip t := by simp [skip]
        rw [e3]
      · rw [if_neg hs] at h
        rw [skip_ext _ hs, if_neg (by simp)]
        cases ha : (andS ⟨skip (predS ⟨l, none⟩).2.l, none⟩).bad with
        | some m => unfold PN at h; rw [ha] at h; cases h
        | none =>
          have hlt := andS_lt (st := ⟨skip (predS ⟨l, none⟩).2.l, none⟩) rfl ha
          have hle2 := (skip_suf (predS ⟨l, none⟩).2.l).length_le
          simp only at hlt
          have h4 : PS (andS ⟨skip (predS ⟨l, none⟩).2.l, none⟩).l (acc ++ [(predS ⟨l, none⟩).1]) = .inl xs := by
            have : PN (andS ⟨skip (predS ⟨l, none⟩).2.l, none⟩) (acc ++ [(predS ⟨l, none⟩).1]) = PS (andS ⟨skip (predS ⟨l, none⟩).2.l, none⟩).l (acc ++ [(predS ⟨l, none⟩).1]) := by unfold PN; rw [ha]
            rw [← this]; exact h
          rw [andS_ext t ha]
          match n with
          | 0 => omega
          | n + 1 => exact PS_ext t n _ _ _ (by omega) h4
/-- The predicates that were there stay ahead. -/
theorem PS_acc : ∀ (n : Nat) (l : List UInt8) (a acc : List Pr), l.length ≤ n → PS l (a ++ acc) = match PS l acc with | .inl xs => .inl (a ++ xs) | .inr m => .inr m
  | n, l, a, acc, hn => by
    rw [PS_eq, PS_eq]
    cases hb : (blanksS (predS ⟨l, none⟩).2).bad with
    | some m => rfl
    | none =>
      simp only
      by_cases hs : (blanksS (predS ⟨l, none⟩).2).l = []
      · rw [if_pos hs, if_pos hs]; simp
      · rw [if_neg hs, if_neg hs]
        unfold PN
        cases ha : (andS (blanksS (predS ⟨l, none⟩).2)).bad with
        | some m => rfl
        | none =>
          simp only
          have h1 := andS_lt hb ha
          have h2 := blanksS_le (predS ⟨l, none⟩).2
          have h3 : (predS ⟨l, none⟩).2.l.length ≤ l.length := predS_le (st := ⟨l, none⟩) rfl
          match n with
          | 0 => omega
          | n + 1 =>
            rw [List.append_assoc]
            exact PS_acc n _ a _ (by omega)
theorem PS_ne : ∀ (n : Nat) (l : List UInt8) (acc xs : List Pr), l.length ≤ n → PS l acc = .inl xs → xs ≠ []
  | n, l, acc, xs, hn, h => by
    rw [PS_eq] at h
    cases hb : (blanksS (predS ⟨l, none⟩).2).bad with
    | some m => rw [hb] at h; cases h
    | none =>
      rw [hb] at h
      simp only at h
      by_cases hs : (blanksS (predS ⟨l, none⟩).2).l = []
      · rw [if_pos hs] at h
        cases h
        simp
      · rw [if_neg hs] at h
        unfold PN at h
        cases ha : (andS (blanksS (predS ⟨l, none⟩).2)).bad with
        | some m => rw [ha] at h; cases h
        | none =>
          rw [ha] at h
          have h1 := andS_lt hb ha
          have h2 := blanksS_le (predS ⟨l, none⟩).2
          have h3 : (predS ⟨l, none⟩).2.l.length ≤ l.length := predS_le (st := ⟨l, none⟩) rfl
          match n with
          | 0 => omega
          | n + 1 => exact PS_ne n _ _ _ (by omega) h
theorem tailS_and (t : List UInt8) (acc : List Pr) : tailS (97 :: 110 :: 100 :: 32 :: t) acc = PS (32 :: t) acc := by
  unfold tailS
  have e1 : skip (97 :: 110 :: 100 :: 32 :: t) = 97 :: 110 :: 100 :: 32 :: t := by simp [skip]
  rw [e1, if_neg (by simp)]
  have e2 : wordS ⟨97 :: 110 :: 100 :: 32 :: t, none⟩ = ([97, 110, 100], ⟨32 :: t, none⟩) := by
    show wordL (skip (97 :: 110 :: 100 :: 32 :: t)) = _
    rw [e1]
    simp [wordL, isL, isA, isD, List.takeWhile_cons, List.dropWhile_cons]
  unfold andS PN
  rw [e2]
  rfl
/-- Blanks ahead change nothing. -/
theorem predS_blank (l : List UInt8) : predS ⟨32 :: l, none⟩ = predS ⟨l, none⟩ := by
  have h : wordS ⟨32 :: l, none⟩ = wordS ⟨l, none⟩ := by
    show wordL (skip (32 :: l)) = wordL (skip l)
    simp [skip]
  unfold predS
  rw [h]
theorem PS_blank (l : List UInt8) (acc : List Pr) : PS (32 :: l) acc = PS l acc := by rw [PS_eq, PS_eq, predS_blank]
end Go.Proofs.YthaapijjjgkacaaDoor.Mine
end
section
/-
  wigwaglaw06.FilterPlaces, walked: true at every input. Condition: errors.errorType holds what its initialiser lays.
-/
namespace Go.Proofs.YthaapijjjgkacaaDoor.Mine
open Go.RowKit Go.Proofs.YthaapijjjgkacaaDoorW.PrintWords Go.Proofs.YthaapijjjgkacaaDoorW.PrintLast Go.Proofs.YthaapijjjgkacaaDoorW.PrintMore
open Go.Proofs.YthaapijjjgkacaaDoor.PFilterReads

def cutB (s : ByteArray) (n : Nat) : ByteArray := if n < s.size then s.extract 0 n else s
theorem cutB_le (s : ByteArray) (n : Nat) : (cutB s n).size ≤ n := by
  unfold cutB
  split
  · simp; omega
  · omega
theorem cut_P (s : ByteArray) (n : Nat) (w : World) (hs : s.size ≤ 9223372036854775807) (hn : n ≤ 100000) : Calls Tryd.prog 11 #[.string s, .int .i64 (n : Int)] w fun e w' => e = .returned (.string (cutB s n)) ∧ w = w' := by
  by_cases h : n < s.size
  · have h1 := decide_eq_true (show (n : Int) < (s.size : Int) by omega)
    have h2 := decide_eq_true h
    have h3 : (0 : Int) ≤ (n : Int) := by omega
    have h4 : (n : Int) ≤ (s.size : Int) := by omega
    go_enter Tryd.func11, Tryd.ntmps11
    go_wp2
    go_ret
    exact ⟨by unfold cutB; rw [if_pos h]; first | rfl | simp, rfl⟩
  · have h1 := decide_eq_false (show ¬ (n : Int) < (s.size : Int) by omega)
    have h2 := decide_eq_false h
    go_enter Tryd.func11, Tryd.ntmps11
    go_wp2
    go_ret
    exact ⟨by unfold cutB; rw [if_neg h]; first | rfl | simp, rfl⟩

def sAnd : ByteArray := ⟨#[32, 97, 110, 100, 32]⟩
theorem parseR_PS {s : ByteArray} (h : s.size ≤ 300) : parseR s = match PS (bytes s) [] with | .inl xs => .inl xs | .inr n => .inr (((s.size - n : Nat) : Int), 2) := by
  unfold parseR PS
  rw [if_neg (by omega), bytes_len]
  cases parseS (s.size + 1) ⟨bytes s, none⟩ [] <;> rfl
theorem bytes_append (a b : ByteArray) : bytes (a ++ b) = bytes a ++ bytes b := by simp [bytes]
theorem parseR_ok {s : ByteArray} {xs : List Pr} (h : parseR s = .inl xs) : s.size ≤ 300 ∧ PS (bytes s) [] = .inl xs := by
  unfold parseR at h
  split at h
  · cases h
  · rename_i hs
    refine ⟨by omega, ?_⟩
    unfold PS
    rw [bytes_len]
    split at h
    · rename_i ys hy
      rw [hy]
      exact congrArg _ (by injection h)
    · cases h
def sB0 : ByteArray := ⟨#[120, 32, 105, 110]⟩
def sB1 : ByteArray := ⟨#[120, 32, 61, 32, 34]⟩
def sB2 : ByteArray := ⟨#[88, 32, 105, 110, 32, 49, 46, 46, 50]⟩
theorem places_plain (a bad : ByteArray) (xs : List Pr) (n : Nat) (h : parseR a = .inl xs) (ha : a.size ≤ 100) (hb : bad.size ≤ 20) (hn : PS (bytes bad) [] = .inr n) :
    parseR (a ++ sAnd ++ bad) = .inr (((a.size + 5 + bad.size - n : Nat) : Int), 2) := by
  obtain ⟨h1, h2⟩ := parseR_ok h
  have hsz : (a ++ sAnd ++ bad).size = a.size + 5 + bad.size := by simp [sAnd, ByteArray.size_append]; rfl
  rw [parseR_PS (by rw [hsz]; omega), bytes_append, bytes_append, List.append_assoc]
  have h3 : bytes sAnd ++ bytes bad = 32 :: (97 :: 110 :: 100 :: 32 :: bytes bad) := rfl
  rw [h3, PS_ext _ _ _ _ _ (Nat.le_refl _) h2, tailS_and, PS_blank]
  have h4 := PS_acc _ (bytes bad) xs [] (Nat.le_refl _)
  rw [List.append_nil, hn] at h4
  rw [h4, hsz]
set_option maxHeartbeats 4000000 in
set_option maxRecDepth 100000 in
theorem places_calls (s : ByteArray) (n : Int) (w : World) (hg : ErrTy w) (hs : s.size ≤ 9223372036854775807) : Calls Tryd.prog 5 #[.string s, .int .i64 n] w fun e w' => e = .returned (.bool true) ∧ Below w.heap.size w w' := by
  have HG := Aside0.mk hg
  clear hg
  go_enter Tryd.func5, Tryd.ntmps5
  go_wp2_with fail
  refine (cut_P s 100 _ hs (by omega)).mono ?_
  rintro e w' ⟨rfl, rfl⟩
  have hle := cutB_le s 100
  generalize cutB s 100 = a at hle ⊢
  go_wp2_with fail
  refine (parse_P a _ (by omega)).mono ?_
  rintro e w1 hp
  cases hr : parseR a with
  | inr z =>
    obtain ⟨at_, c⟩ := z
    obtain ⟨b, hbl, rfl, hf, hb1⟩ := hp.no hr
    have HB1 := Aside0.mk hb1
    clear hp hr hf hb1
    go_wp2_with fail
    refine (awake_calls _ (ErrTy.below HG.out HB1.out)).mono ?_
    rintro e w2 ⟨rfl, hb2⟩
    have HB2 := Aside0.mk hb2
    clear hb2
    go_wp2
    go_ret
    exact ⟨rfl, below_then HB1.out HB1.out.size HB2.out⟩
  | inl xs =>
    obtain ⟨v1, rfl, ho, hb1⟩ := hp.ok hr
    obtain ⟨A, cp, rfl, _, _⟩ := Kd.R_reads ho
    have hlen : (1 : Int) ≤ (((xs.map toP).length : Nat) : Int) := by
      have := PS_ne _ _ _ _ (Nat.le_refl _) (parseR_ok hr).2
      have := List.length_pos_iff.mpr this
      simp
      omega
    generalize (xs.map toP).length = m at hlen ⊢
    have HB1 := Aside0.mk hb1
    have HR := Aside0.mk hr
    clear hp hr ho hb1
    by_cases hn0 : n < 0
    · go_wp2_with fail
      refine (awake_calls _ (ErrTy.below HG.out HB1.out)).mono ?_
      rintro e w2 ⟨rfl, hb2⟩
      have HB2 := Aside0.mk hb2
      clear hb2
      go_wp2
      go_ret
      exact ⟨rfl, below_then HB1.out HB1.out.size HB2.out⟩
    · by_cases hn2 : 2 < n
      · go_wp2_with fail
        refine (awake_calls _ (ErrTy.below HG.out HB1.out)).mono ?_
        rintro e w2 ⟨rfl, hb2⟩
        have HB2 := Aside0.mk hb2
        clear hb2
        go_wp2
        go_ret
        exact ⟨rfl, below_then HB1.out HB1.out.size HB2.out⟩
      · have h3 : n = 0 ∨ n = 1 ∨ n = 2 := by omega
        clear hn0 hn2
        rcases h3 with rfl | rfl | rfl
        · skip
          go_wp2_with fail
          refine (parse_P (a ++ sAnd ++ sB0) _ (by have : (a ++ sAnd ++ sB0).size = a.size + 5 + sB0.size := (by simp [sAnd, ByteArray.size_append]; rfl); rw [this]; have : sB0.size ≤ 20 := (by decide); omega)).mono ?_
          rintro e w2 hp
          have hz : sB0.size ≤ 20 := by decide
          have hzn : 0 ≤ sB0.size := by decide
          obtain ⟨b, hbl, rfl, hf, hb2⟩ := hp.no (places_plain a sB0 xs 0 HR.out hle hz (by rfl))
          generalize hq : a.size + 5 + sB0.size - 0 = q at hf
          have hqq : (a.size : Int) + 5 ≤ (q : Int) := by omega
          have HB2 := Aside0.mk hb2
          have HF := Aside0.mk hf
          clear hp hf hb2 hq hz hzn
          have HB12 := Aside0.mk (below_then (below_alloc HB1.out (.cells #[.string sB0, .string sB1, .string sB2] 9)) (below_size (below_alloc HB1.out _)) HB2.out)
          go_wp2_with fail
          refine (awake_calls _ (ErrTy.below HG.out HB12.out)).mono ?_
          rintro e w3 ⟨rfl, hb3⟩
          have HB3 := Aside0.mk hb3
          have HF3 := Aside0.mk (IsFault.keep HF.out hb3)
          clear hb3
          go_wp2_with fail
          refine (is_err 2 2 1 _ _ (IsFault.errIs HF3.out)).mono ?_
          rintro e w4 ⟨rfl, rfl⟩
          go_wp2_with fail
          refine (at_fault b _ _ _ _ HF3.out (ErrTy.below (ErrTy.below HG.out HB12.out) HB3.out)).mono ?_
          rintro e w5 ⟨rfl, hb5⟩
          have HB5 := Aside0.mk hb5
          clear hb5
          go_wp2
          go_ret
          exact ⟨rfl, below_then (below_then HB12.out HB12.out.size HB3.out) (Nat.le_trans HB12.out.size HB3.out.size) HB5.out⟩
        · skip
          go_wp2_with fail
          refine (parse_P (a ++ sAnd ++ sB1) _ (by have : (a ++ sAnd ++ sB1).size = a.size + 5 + sB1.size := (by simp [sAnd, ByteArray.size_append]; rfl); rw [this]; have : sB1.size ≤ 20 := (by decide); omega)).mono ?_
          rintro e w2 hp
          have hz : sB1.size ≤ 20 := by decide
          have hzn : 0 ≤ sB1.size := by decide
          obtain ⟨b, hbl, rfl, hf, hb2⟩ := hp.no (places_plain a sB1 xs 0 HR.out hle hz (by rfl))
          generalize hq : a.size + 5 + sB1.size - 0 = q at hf
          have hqq : (a.size : Int) + 5 ≤ (q : Int) := by omega
          have HB2 := Aside0.mk hb2
          have HF := Aside0.mk hf
          clear hp hf hb2 hq hz hzn
          have HB12 := Aside0.mk (below_then (below_alloc HB1.out (.cells #[.string sB0, .string sB1, .string sB2] 9)) (below_size (below_alloc HB1.out _)) HB2.out)
          go_wp2_with fail
          refine (awake_calls _ (ErrTy.below HG.out HB12.out)).mono ?_
          rintro e w3 ⟨rfl, hb3⟩
          have HB3 := Aside0.mk hb3
          have HF3 := Aside0.mk (IsFault.keep HF.out hb3)
          clear hb3
          go_wp2_with fail
          refine (is_err 2 2 1 _ _ (IsFault.errIs HF3.out)).mono ?_
          rintro e w4 ⟨rfl, rfl⟩
          go_wp2_with fail
          refine (at_fault b _ _ _ _ HF3.out (ErrTy.below (ErrTy.below HG.out HB12.out) HB3.out)).mono ?_
          rintro e w5 ⟨rfl, hb5⟩
          have HB5 := Aside0.mk hb5
          clear hb5
          go_wp2
          go_ret
          exact ⟨rfl, below_then (below_then HB12.out HB12.out.size HB3.out) (Nat.le_trans HB12.out.size HB3.out.size) HB5.out⟩
        · skip
          go_wp2_with fail
          refine (parse_P (a ++ sAnd ++ sB2) _ (by have : (a ++ sAnd ++ sB2).size = a.size + 5 + sB2.size := (by simp [sAnd, ByteArray.size_append]; rfl); rw [this]; have : sB2.size ≤ 20 := (by decide); omega)).mono ?_
          rintro e w2 hp
          have hz : sB2.size ≤ 20 := by decide
          have hzn : 9 ≤ sB2.size := by decide
          obtain ⟨b, hbl, rfl, hf, hb2⟩ := hp.no (places_plain a sB2 xs 9 HR.out hle hz (by rfl))
          generalize hq : a.size + 5 + sB2.size - 9 = q at hf
          have hqq : (a.size : Int) + 5 ≤ (q : Int) := by omega
          have HB2 := Aside0.mk hb2
          have HF := Aside0.mk hf
          clear hp hf hb2 hq hz hzn
          have HB12 := Aside0.mk (below_then (below_alloc HB1.out (.cells #[.string sB0, .string sB1, .string sB2] 9)) (below_size (below_alloc HB1.out _)) HB2.out)
          go_wp2_with fail
          refine (awake_calls _ (ErrTy.below HG.out HB12.out)).mono ?_
          rintro e w3 ⟨rfl, hb3⟩
          have HB3 := Aside0.mk hb3
          have HF3 := Aside0.mk (IsFault.keep HF.out hb3)
          clear hb3
          go_wp2_with fail
          refine (is_err 2 2 1 _ _ (IsFault.errIs HF3.out)).mono ?_
          rintro e w4 ⟨rfl, rfl⟩
          go_wp2_with fail
          refine (at_fault b _ _ _ _ HF3.out (ErrTy.below (ErrTy.below HG.out HB12.out) HB3.out)).mono ?_
          rintro e w5 ⟨rfl, hb5⟩
          have HB5 := Aside0.mk hb5
          clear hb5
          go_wp2
          go_ret
          exact ⟨rfl, below_then (below_then HB12.out HB12.out.size HB3.out) (Nat.le_trans HB12.out.size HB3.out.size) HB5.out⟩
end Go.Proofs.YthaapijjjgkacaaDoor.Mine
end
section
/-
  wigwaglaw06.FilterJoins, walked: true at every input. Condition: errors.errorType holds what its initialiser lays.
-/
namespace Go.Proofs.YthaapijjjgkacaaDoor.Mine
open Go.RowKit Go.Proofs.YthaapijjjgkacaaDoorW.PrintWords Go.Proofs.YthaapijjjgkacaaDoorW.PrintLast Go.Proofs.YthaapijjjgkacaaDoorW.PrintMore
open Go.Proofs.YthaapijjjgkacaaDoor.PFilterReads

/-! ### told and Same, what they come to -/
def toQ (x : S46) : S77 := ⟨x.f0, x.f1, x.f2, x.f3, x.f4⟩
theorem told_l0 (l : List S46) (hl : l.length ≤ 1000) (d : Nat) : ∀ (k i : Nat) (acc : List S77), i ≤ l.length → l.length - i = d → d < k → acc.length ≤ i → wigwaglaw06_told.l0 k acc l (l.length : Int) (i : Int) = some (acc ++ (l.drop i).map toQ) := by
  induction d with
  | zero =>
    intro k i acc h0 hd hk ha
    obtain ⟨k, rfl⟩ : ∃ m, k = m + 1 := ⟨k - 1, by omega⟩
    simp only [wigwaglaw06_told.l0]
    rw [if_neg (by omega), List.drop_eq_nil_of_le (by omega)]
    simp
  | succ d ih =>
    intro k i acc h0 hd hk ha
    obtain ⟨k, rfl⟩ : ∃ m, k = m + 1 := ⟨k - 1, by omega⟩
    have hlt : i < l.length := by omega
    simp only [wigwaglaw06_told.l0]
    rw [if_pos (by omega), if_pos (by omega), if_pos (by omega), if_pos (by omega), wrap_in (by omega) (by omega), show (i : Int) + 1 = ((i + 1 : Nat) : Int) by omega]
    have hr : rd_T46 l (i : Int) = l[i] := by simp [rd_T46, List.getD, hlt]
    rw [hr, ih k (i + 1) _ (by omega) (by omega) (by omega) (by simp; omega), List.drop_eq_getElem_cons hlt, List.map_cons, List.append_assoc]
    rfl
theorem told_f (l : List S46) (hl : l.length ≤ 1000) : wigwaglaw06_told.f (l.length + 1) l = some (l.map toQ) := by
  have := told_l0 l hl l.length (l.length + 1) 0 [] (by omega) (by omega) (by omega) (by simp)
  simpa [wigwaglaw06_told.f] using this
theorem same_l0 (l : List S77) (hl : l.length ≤ 2000) (d : Nat) : ∀ (k i : Nat), i ≤ l.length → l.length - i = d → d < k → wigwagref06_Same.l0 k l l (l.length : Int) (i : Int) = some true := by
  induction d with
  | zero =>
    intro k i h0 hd hk
    obtain ⟨k, rfl⟩ : ∃ m, k = m + 1 := ⟨k - 1, by omega⟩
    simp only [wigwagref06_Same.l0]
    rw [if_neg (by omega)]
  | succ d ih =>
    intro k i h0 hd hk
    obtain ⟨k, rfl⟩ : ∃ m, k = m + 1 := ⟨k - 1, by omega⟩
    simp only [wigwagref06_Same.l0]
    rw [if_pos (by omega), if_pos (by omega), if_pos (by omega), if_pos (by omega), wrap_in (by omega) (by omega), show (i : Int) + 1 = ((i + 1 : Nat) : Int) by omega]
    rw [if_neg (by simp)]
    exact ih k (i + 1) (by omega) (by omega) (by omega)
theorem same_f (l : List S77) (hl : l.length ≤ 2000) : wigwagref06_Same.f (l.length + 1) l l = some true := by
  unfold wigwagref06_Same.f
  rw [if_pos rfl]
  exact same_l0 l hl l.length _ 0 (by omega) (by omega) (by omega)
/-- told of a slice of the call's own. -/
theorem told_P (A : Option Addr) (n c : Nat) (l : List S46) (w : World) (hn : l.length = n) (hr : Kd.C k46 w A n l) (hc : n ≤ c) (hl : n ≤ 1000) :
    Calls Tryd.prog 15 #[.slice A n c] w fun e w' => ∃ v : Value, e = .returned v ∧ Kd.R k77 77 w' w.heap.size (fun _ => True) v (l.map toQ) ∧ Below w.heap.size w w' := by
  subst hn
  exact wigwaglaw06_told.calls _ A c l _ w hr hc (told_f l hl)
theorem same_P (A B : Option Addr) (n m c d : Nat) (l : List S77) (w : World) (hn : l.length = n) (hm : l.length = m) (hr : Kd.C k77 w A n l) (hc : n ≤ c) (hr2 : Kd.C k77 w B m l) (hd : m ≤ d) (hl : n ≤ 2000) :
    Calls Tryd.prog 14 #[.slice A n c, .slice B m d] w fun e w' => e = .returned (.bool true) ∧ Below w.heap.size w w' := by
  subst hn
  subst hm
  exact (wigwagref06_Same.calls _ A c l B d l true w hr hc hr2 hd (same_f l hl)).mono fun _ _ ⟨h1, h2⟩ => ⟨h1, h2.below⟩
theorem PS_count : ∀ (n : Nat) (l : List UInt8) (acc xs : List Pr), l.length ≤ n → PS l acc = .inl xs → xs.length ≤ acc.length + l.length + 1
  | n, l, acc, xs, hn, h => by
    rw [PS_eq] at h
    cases hb : (blanksS (predS ⟨l, none⟩).2).bad with
    | some m => rw [hb] at h; cases h
    | none =>
      rw [hb] at h
      simp only at h
      by_cases hs : (blanksS (predS ⟨l, none⟩).2).l = []
      · rw [if_pos hs] at h
        cases h
        simp
      · rw [if_neg hs] at h
        unfold PN at h
        cases ha : (andS (blanksS (predS ⟨l, none⟩).2)).bad with
        | some m => rw [ha] at h; cases h
        | none =>
          rw [ha] at h
          have h1 := andS_lt hb ha
          have h2 := blanksS_le (predS ⟨l, none⟩).2
          have h3 : (predS ⟨l, none⟩).2.l.length ≤ l.length := predS_le (st := ⟨l, none⟩) rfl
          match n with
          | 0 => omega
          | n + 1 =>
            have := PS_count n _ _ _ (by omega) h
            simp at this
            omega
theorem parse_count {s : ByteArray} {xs : List Pr} (h : parseR s = .inl xs) : xs.length ≤ 301 := by
  obtain ⟨h1, h2⟩ := parseR_ok h
  have := PS_count _ _ _ _ (Nat.le_refl _) h2
  rw [bytes_len] at this
  simp at this
  omega
theorem joins_plain (a b : ByteArray) (xs ys : List Pr) (h : parseR a = .inl xs) (h' : parseR b = .inl ys) (ha : a.size ≤ 140) (hb : b.size ≤ 140) : parseR (a ++ sAnd ++ b) = .inl (xs ++ ys) := by
  obtain ⟨h1, h2⟩ := parseR_ok h
  obtain ⟨h3, h4⟩ := parseR_ok h'
  have hsz : (a ++ sAnd ++ b).size = a.size + 5 + b.size := by simp [sAnd, ByteArray.size_append]; rfl
  rw [parseR_PS (by rw [hsz]; omega), bytes_append, bytes_append, List.append_assoc]
  have h5 : bytes sAnd ++ bytes b = 32 :: (97 :: 110 :: 100 :: 32 :: bytes b) := rfl
  rw [h5, PS_ext _ _ _ _ _ (Nat.le_refl _) h2, tailS_and, PS_blank]
  have h6 := PS_acc _ (bytes b) xs [] (Nat.le_refl _)
  rw [List.append_nil, h4] at h6
  rw [h6]

/-- Kd.R_append_rows at a guarded operation whose guard is met. -/
theorem R_append_rows_g {α : Type} {P : Program} {ops : Array Oper} {Q : Exit → Act → World → Prop} {a : Act} {rest : List Oper} {o : Oper} (d : Kd α) {Rr : α → List Value → Prop} {w0 W : World} (base : Nat) (hw : Region.wanted o (yielded ops a.tmps) = true) (s x : Operand) (t e : TypeId) (z : Value) (bytes : Nat)
    (ho : o.op = .call { callee := .builtin .append, args := #[s, x], argTypes := #[t, t] })
    (ht : P.underlying t = some (.slice e)) (hinfo : (P.info? e).map (fun i => (i.zero, i.size, i.bytes)) = some (some z, d.sz, bytes)) (hz : z.cells.size = d.sz) (hs0 : 0 < d.sz) (hb0 : 0 < bytes)
    (v : Value) (xs ys : List α) (A : Option Addr) (m c : Nat) (ok okp : Nat → Prop) (hs : a.eval s = v) (hx : a.eval x = .slice A m c)
    (HO : d.R e W base ok v xs) (HR : ReadsRow Rr d.sz W A m ys) (hKM : ∀ x cs, Rr x cs → d.M W base okp x cs) (hokp : ∀ k, okp k → ok k ∧ some k ≠ v.ownBlock) (hfresh : ∀ k, W.heap.size ≤ k → ok k)
    (HB : Below base w0 W) (hbase : base ≤ W.heap.size) (hl : (xs.length + m) * bytes ≤ 140737488355328)
    (h : ∀ v1 w1, d.R e w1 base ok v1 (xs ++ ys) → Below base w0 w1 → W.grownBy w1 v.ownBlock → (v1.ownBlock = v.ownBlock ∨ ∃ b, v1.ownBlock = some b ∧ W.heap.size ≤ b) → wpList P ops Q rest (a.put o.dst v1) w1) :
    wpList P ops Q (o :: rest) a W := by
  have h1 := Kd.R_append_rows_step (Kc := wpList P ops Q rest) (Q := Q) d base hw s x t e z bytes ho ht hinfo hz hs0 hb0 v xs ys A m c ok okp hs hx HO HR hKM hokp hfresh HB hbase hl h
  rw [if_pos hw] at h1
  unfold wpList
  rw [if_pos hw]
  exact Or.inl h1
theorem k77_flat {W : World} {base : Nat} (x : S77) (cs : List Value) (h : k77.K W x cs) : k77.M W base (fun _ => False) x cs := by rw [k77_open h]; exact k77_mkM _ _ _ x
set_option maxHeartbeats 4000000 in
set_option maxRecDepth 100000 in
theorem joins_calls (s1 s2 : ByteArray) (w : World) (hg : ErrTy w) (hs1 : s1.size ≤ 9223372036854775807) (hs2 : s2.size ≤ 9223372036854775807) : Calls Tryd.prog 4 #[.string s1, .string s2] w fun e w' => e = .returned (.bool true) ∧ Below w.heap.size w w' := by
  have HG := Aside0.mk hg
  have HB := Aside0.mk (Below.refl w.heap.size w)
  clear hg
  go_enter Tryd.func4, Tryd.ntmps4
  go_wp2_with fail
  refine (cut_P s1 140 _ hs1 (by omega)).mono ?_
  rintro e w' ⟨rfl, rfl⟩
  have hle1 := cutB_le s1 140
  generalize cutB s1 140 = a at hle1 ⊢
  go_wp2_with fail
  refine (cut_P s2 140 _ hs2 (by omega)).mono ?_
  rintro e w' ⟨rfl, rfl⟩
  have hle2 := cutB_le s2 140
  generalize cutB s2 140 = b at hle2 ⊢
  go_wp2_with fail
  refine (parse_P a _ (by omega)).mono ?_
  rintro e w1 hp
  cases hr : parseR a with
  | inr z =>
    obtain ⟨at_, c⟩ := z
    obtain ⟨bk, hbl, rfl, hf, hb1⟩ := hp.no hr
    have n_ := Aside0.mk (below_then HB.out HB.out.size hb1)
    clear HB hb1 hp hf hr
    have HB := n_
    clear n_
    go_wp2_with fail
    refine (parse_P b _ (by omega)).mono ?_
    rintro e w2 hp
    cases hr2 : parseR b with
    | inr z =>
      obtain ⟨at2, c2⟩ := z
      obtain ⟨bk2, hbl2, rfl, hf, hb1⟩ := hp.no hr2
      have n_ := Aside0.mk (below_then HB.out HB.out.size hb1)
      clear HB hb1 hf hr2
      have HB := n_
      clear n_
      clear hp
      go_wp2_with fail
      refine (awake_calls _ (ErrTy.below HG.out HB.out)).mono ?_
      rintro e w9 ⟨rfl, hb⟩
      have n_ := Aside0.mk (below_then HB.out HB.out.size hb)
      clear HB hb
      have HB := n_
      clear n_
      go_wp2
      go_ret
      exact ⟨rfl, HB.out⟩
    | inl ys =>
      obtain ⟨v2, rfl, ho2, hb1⟩ := hp.ok hr2
      have n_ := Aside0.mk (below_then HB.out HB.out.size hb1)
      clear HB hb1 ho2 hr2
      have HB := n_
      clear n_
      clear hp
      go_wp2_with fail
      refine (awake_calls _ (ErrTy.below HG.out HB.out)).mono ?_
      rintro e w9 ⟨rfl, hb⟩
      have n_ := Aside0.mk (below_then HB.out HB.out.size hb)
      clear HB hb
      have HB := n_
      clear n_
      go_wp2
      go_ret
      exact ⟨rfl, HB.out⟩
  | inl xs =>
    obtain ⟨v1, rfl, ho, hb1⟩ := hp.ok hr
    have HO1 := Aside0.mk (Kd.R_lower ho HB.out.size)
    have n_ := Aside0.mk (below_then HB.out HB.out.size hb1)
    have HR1 := Aside0.mk hr
    clear HB hb1 ho hr hp
    have HB := n_
    clear n_
    go_wp2_with fail
    refine (parse_P b _ (by omega)).mono ?_
    rintro e w2 hp
    cases hr2 : parseR b with
    | inr z =>
      obtain ⟨at2, c2⟩ := z
      obtain ⟨bk2, hbl2, rfl, hf, hb1⟩ := hp.no hr2
      have n_ := Aside0.mk (below_then HB.out HB.out.size hb1)
      clear HB hb1 hf hr2 HO1
      have HB := n_
      clear n_
      clear hp
      go_wp2_with fail
      refine (awake_calls _ (ErrTy.below HG.out HB.out)).mono ?_
      rintro e w9 ⟨rfl, hb⟩
      have n_ := Aside0.mk (below_then HB.out HB.out.size hb)
      clear HB hb
      have HB := n_
      clear n_
      go_wp2
      go_ret
      exact ⟨rfl, HB.out⟩
    | inl ys =>
      obtain ⟨v2, rfl, ho2, hb1⟩ := hp.ok hr2
      have HO2 := Aside0.mk (Kd.R_lower ho2 HB.out.size)
      have n1_ := Aside0.mk (Kd.R_below HO1.out hb1)
      have n_ := Aside0.mk (below_then HB.out HB.out.size hb1)
      have HR2 := Aside0.mk hr2
      clear HB hb1 ho2 hr2 HO1 hp
      have HB := n_
      have HO1 := n1_
      clear n_ n1_
      go_wp2_with fail
      refine (parse_P (a ++ sAnd ++ b) _ (by have : (a ++ sAnd ++ b).size = a.size + 5 + b.size := (by simp [sAnd, ByteArray.size_append]; rfl); rw [this]; omega)).mono ?_
      rintro e w3 hp
      obtain ⟨v3, rfl, ho3, hb3⟩ := hp.ok (joins_plain a b xs ys HR1.out HR2.out hle1 hle2)
      have hO1 := Kd.R_below HO1.out hb3
      have hO2 := Kd.R_below HO2.out hb3
      obtain ⟨A1, c1, rfl, hc1, hC1⟩ := Kd.R_reads hO1
      obtain ⟨A2, c2, rfl, hc2, hC2⟩ := Kd.R_reads hO2
      obtain ⟨A3, c3, rfl, hc3, hC3⟩ := Kd.R_reads ho3
      have lx : (xs.map toP).length ≤ 301 := by simpa using parse_count HR1.out
      have ly : (ys.map toP).length ≤ 301 := by simpa using parse_count HR2.out
      have lz : ((xs ++ ys).map toP).length = (xs.map toP).length + (ys.map toP).length := by simp
      generalize hn1 : (xs.map toP).length = n1 at *
      generalize hn2 : (ys.map toP).length = n2 at *
      generalize hn3 : ((xs ++ ys).map toP).length = n3 at *
      have N1 := Aside0.mk hn1
      have N2 := Aside0.mk hn2
      have N3 := Aside0.mk hn3
      have LZ := Aside0.mk lz
      clear hn1 hn2 hn3
      have n_ := Aside0.mk (below_then HB.out HB.out.size hb3)
      have D1 := Aside0.mk (And.intro hc1 hC1)
      have D2 := Aside0.mk (And.intro hc2 hC2)
      have D3 := Aside0.mk (And.intro hc3 hC3)
      clear HB hb3 hO1 hO2 ho3 hp hc1 hC1 hc2 hC2 hc3 hC3 HO1 HO2 HR1 HR2 lz
      have HB := n_
      clear n_
      go_wp2_with fail
      refine (awake_calls _ (ErrTy.below HG.out HB.out)).mono ?_
      rintro e w4 ⟨rfl, hb4⟩
      have B4 := Aside0.mk hb4
      have n_ := Aside0.mk (below_then HB.out HB.out.size hb4)
      clear HB hb4
      have HB := n_
      clear n_
      go_wp2_with fail
      refine (told_P A3 n3 c3 _ _ N3.out (Kd.C_below D3.out.2 B4.out) D3.out.1 (by have := LZ.out; omega)).mono ?_
      rintro e w5 ⟨v5, rfl, ho5, hb5⟩
      obtain ⟨A5, c5, rfl, hc5, hC5⟩ := Kd.R_reads ho5
      have hn5 : (((xs ++ ys).map toP).map toQ).length = n3 := by rw [List.length_map]; exact N3.out
      rw [hn5] at hc5 hC5 ⊢
      have N5 := Aside0.mk hn5
      have D5 := Aside0.mk (And.intro hc5 hC5)
      clear hn5 hc5 hC5
      have B5 := Aside0.mk hb5
      have n_ := Aside0.mk (below_then HB.out HB.out.size hb5)
      clear HB hb5 ho5
      have HB := n_
      clear n_
      go_wp2_with fail
      refine (told_P A1 n1 c1 _ _ N1.out (Kd.C_below (Kd.C_below D1.out.2 B4.out) B5.out) D1.out.1 (by omega)).mono ?_
      rintro e w6 ⟨v6, rfl, ho6, hb6⟩
      have HO6 := Aside0.mk ho6
      have B6 := Aside0.mk hb6
      have HB5 := HB
      clear HB hb6 ho6
      go_wp2_with fail
      refine (told_P A2 n2 c2 _ _ N2.out (Kd.C_below (Kd.C_below (Kd.C_below D2.out.2 B4.out) B5.out) B6.out) D2.out.1 (by omega)).mono ?_
      rintro e w7 ⟨v7, rfl, ho7, hb7⟩
      obtain ⟨A7, c7, rfl, hc7, hC7⟩ := Kd.R_reads ho7
      have hn7 : ((ys.map toP).map toQ).length = n2 := by rw [List.length_map]; exact N2.out
      rw [hn7] at hc7 hC7 ⊢
      have N7 := Aside0.mk hn7
      clear hn7
      have D7 := Aside0.mk (And.intro hc7 hC7)
      have n6_ := Aside0.mk (Kd.R_below HO6.out hb7)
      have B57 := Aside0.mk (below_then B6.out B6.out.size hb7)
      clear hb7 ho7 HO6 hc7 hC7
      have HO6 := n6_
      clear n6_
      go_wp2_with ((with_reducible refine gate_builtin (b := .append) (xs := #[.tmp 49, .tmp 51]) rfl ?_); at_builtin; go_loud (refine R_append_rows_g k77 (w0 := w5) w5.heap.size ?hw (.tmp 49) (.tmp 51) 32 77 (.agg #[(.string ⟨#[]⟩), (.int .i64 0), (.int .i64 0), (.int .i64 0), (.string ⟨#[]⟩)]) 56 rfl Tryd.underlying32 info77 rfl (by decide) (by omega) v6 ((xs.map toP).map toQ) ((ys.map toP).map toQ) A7 n2 c7 (fun _ => True) (fun _ => False) rfl rfl ?aO ?aR (fun x cs h => k77_flat x cs h) (fun _ hk => hk.elim) (fun _ _ => trivial) ?aB ?aS ?aL ?_; (case hw => rfl); (case aO => exact HO6.out); (case aR => exact D7.out.2); (case aB => exact B57.out); (case aS => exact B57.out.size); (case aL => rw [List.length_map]; have := N1.out; omega); intro v8 w8 ho8 hb8 hg8 hat8; have HO8 := Aside0.mk ho8; have G8 := Aside0.mk hg8; have HB8 := Aside0.mk hb8; clear ho8 hb8 hg8 hat8))
      obtain ⟨A8, c8, rfl, hc8, hC8⟩ := Kd.R_reads HO8.out
      have hn8 : ((xs.map toP).map toQ ++ (ys.map toP).map toQ).length = n3 := by rw [← N3.out]; simp
      rw [hn8] at hc8 hC8 ⊢
      have N8 := Aside0.mk hn8
      refine (same_P A5 A8 n3 n3 c5 c8 (((xs ++ ys).map toP).map toQ) _ N5.out N5.out (Kd.C_below D5.out.2 HB8.out) D5.out.1 (by rw [List.map_append, List.map_append]; exact hC8) hc8 (by have := LZ.out; omega)).mono ?_
      rintro e w9 ⟨rfl, hb9⟩
      have B9 := Aside0.mk (below_then (below_then HB5.out HB5.out.size HB8.out) (Nat.le_trans HB5.out.size HB8.out.size) hb9)
      clear hb9 hc8 hC8
      go_wp2
      go_ret
      exact ⟨rfl, B9.out⟩
end Go.Proofs.YthaapijjjgkacaaDoor.Mine
end
section
/-
  The reference's Parse of filters, walked: the same as the program's. Condition: the text at most 1000 bytes.
-/
namespace Go.Proofs.YthaapijjjgkacaaDoor.Mine
open Go.RowKit Go.Proofs.YthaapijjjgkacaaDoorW.PrintWords Go.Proofs.YthaapijjjgkacaaDoorW.PrintLast Go.Proofs.YthaapijjjgkacaaDoorW.PrintMore
open Go.Proofs.YthaapijjjgkacaaDoor.PFilterReads
def toPQ (x : Pr) : S77 := toQ (toP x)
def RParseOk (w : World) (xs : List Pr) (e : Ending) (w' : World) : Prop := ∃ v, e = .returned (.tuple #[v, .int .i64 0, .int .i64 0]) ∧ Kd.R k77 77 w' w.heap.size (fun _ => True) v (xs.map toPQ) ∧ Below w.heap.size w w'
def RParseNo (w : World) (at_ c : Int) (e : Ending) (w' : World) : Prop := e = .returned (.tuple #[.slice none 0 0, .int .i64 c, .int .i64 at_]) ∧ Below w.heap.size w w'
def RParsePost (w : World) (s : ByteArray) (e : Ending) (w' : World) : Prop :=
  match parseR s with
  | .inl xs => RParseOk w xs e w'
  | .inr (at_, c) => RParseNo w at_ c e w'
theorem rp_ok {w w' : World} {s : ByteArray} {xs : List Pr} {e : Ending} (hs : s.size ≤ 300) (h : PS (bytes s) [] = .inl xs) (ho : RParseOk w xs e w') : RParsePost w s e w' := by
  unfold RParsePost
  rw [parseR_PS hs, h]
  exact ho
theorem rp_no {w w' : World} {s : ByteArray} {n : Nat} {e : Ending} (hs : s.size ≤ 300) (h : PS (bytes s) [] = .inr n) (ho : RParseNo w ((s.size - n : Nat) : Int) 2 e w') : RParsePost w s e w' := by
  unfold RParsePost
  rw [parseR_PS hs, h]
  exact ho
theorem heap_push2 {α : Type} (h : Array α) (a b : α) : ((h.push a).push b)[h.size]? = some a ∧ ((h.push a).push b)[h.size + 1]? = some b := by
  refine ⟨?_, ?_⟩
  · simp only [Array.getElem?_push, Array.size_push]; rw [if_neg (by omega), if_pos trivial]
  · simp only [Array.getElem?_push, Array.size_push]; rw [if_pos trivial]
theorem wordL_badn {l : List UInt8} {n : Nat} (h : (wordL l).2.bad = some n) : n = l.length := by
  cases l with
  | nil => simp [wordL] at h; simp [h]
  | cons c r =>
    cases hc : isL c with
    | true => simp [wordL, hc] at h
    | false => simp [wordL, hc] at h; simp [← h]
theorem andS_bad1 {M : List UInt8} {L : List UInt8} (hL : L = skip M) {n : Nat} (h : (wordS ⟨L, none⟩).2.bad = some n) : (andS ⟨L, none⟩).bad = some L.length := by
  have h1 : wordS ⟨L, none⟩ = wordL L := by show wordL (skip L) = _; rw [hL, skip_skip]
  have h2 := wordS_nil h
  unfold andS
  rw [if_neg (by rw [h2]; simp), stopS_bad h, h]
  rw [h1] at h
  rw [wordL_badn h]
theorem andS_bad2 {L : List UInt8} (h : (wordS ⟨L, none⟩).2.bad = none) (h2 : (wordS ⟨L, none⟩).1 ≠ [97, 110, 100]) : (andS ⟨L, none⟩).bad = some L.length := by
  unfold andS
  rw [if_neg h2]
  unfold stopS
  rw [h]
set_option maxHeartbeats 4000000 in
set_option maxRecDepth 100000 in
theorem rparse_calls (s : ByteArray) (w : World) (hs : s.size ≤ 1000) : Calls Tryd.prog 18 #[.string s] w (RParsePost w s) := by
  by_cases h300 : 300 < s.size
  · have hR : parseR s = .inr (0, 1) := by unfold parseR; rw [if_pos h300]
    have q1 : decide ((300 : Int) < (s.size : Int)) = true := decide_eq_true (by omega)
    have HR : ∀ e w', RParseNo w 0 1 e w' → RParsePost w s e w' := fun e w' h => by unfold RParsePost; rw [hR]; exact h
    have HR := Aside0.mk HR
    generalize RParsePost w s = POST at HR ⊢
    clear hR
    go_enter Tryd.func18, Tryd.ntmps18
    go_wp2
    go_ret3
    exact HR.out _ _ ⟨rfl, Below.refl _ _⟩
  · have hs3 : s.size ≤ 300 := by omega
    have q1 : decide ((300 : Int) < (s.size : Int)) = false := decide_eq_false (by omega)
    have HOKP := Aside0.mk (fun xs e w' (h : PS (bytes s) [] = .inl xs) (ho : RParseOk w xs e w') => rp_ok hs3 h ho)
    have HNOP := Aside0.mk (fun n e w' (h : PS (bytes s) [] = .inr n) (ho : RParseNo w ((s.size - n : Nat) : Int) 2 e w') => rp_no hs3 h ho)
    generalize RParsePost w s = POST at HOKP HNOP ⊢
    clear h300
    go_enter Tryd.func18, Tryd.ntmps18
    go_wp2_with fail
    have K1 : Aside0 ((((w.alloc (.cells #[.string s, .int .i64 0, .bool false] 83)).alloc (.cells #[] 77)).heap[w.heap.size]? = some (spotC s 0 false))) := ⟨by
      show ((w.heap.push _).push _)[_]? = _
      simp only [Array.getElem?_push, Array.size_push]
      rw [if_neg (by omega), if_pos trivial]
      rfl⟩
    have HB := Aside0.mk (below_alloc (below_alloc (Below.refl w.heap.size w) (.cells #[.string s, .int .i64 0, .bool false] 83)) (.cells #[] 77))
    have HO : Aside0 (Kd.R k77 77 ((w.alloc (.cells #[.string s, .int .i64 0, .bool false] 83)).alloc (.cells #[] 77)) w.heap.size (fun k => k ≠ w.heap.size) (.slice (some ⟨w.heap.size + 1, 0, none⟩) 0 0) (([] : List Pr).map toPQ)) :=
      ⟨fun k hk => by have : w.heap.size + 1 = k := by simpa [Value.ownBlock] using hk
                      omega, [], by have := World.ownsRow_lit (base := w.heap.size) (e := 77) (size := 5) (w.alloc (.cells #[.string s, .int .i64 0, .bool false] 83)) #[] 0 (by show _ ≤ (w.heap.push _).size; rw [Array.size_push]; omega) (by decide) rfl
                                    have e : (w.alloc (.cells #[.string s, .int .i64 0, .bool false] 83)).heap.size = w.heap.size + 1 := by show (w.heap.push _).size = _; exact Array.size_push _
                                    rw [e] at this
                                    exact this, Reps.none _ _⟩
    generalize (w.alloc (.cells #[.string s, .int .i64 0, .bool false] 83)).alloc (.cells #[] 77) = w0 at K1 HB HO ⊢
    generalize Value.slice (some { block := w.heap.size + 1, off := 0 }) 0 0 = v0 at HO ⊢
    have HS3 := Aside0.mk hs3
    clear hs3
    go_loopg [6, 7, 8, 9, 10, 11] (s.size + 2) (fun k v6 v7 v8 v9 v10 v11 W => ∃ (acc : List Pr) (l : List UInt8) (j : Nat), Aside0 (l <:+ bytes s ∧ PS l acc = PS (bytes s) [] ∧ j + l.length ≤ s.size ∧ acc.length ≤ j ∧ l.length < k) ∧ v7 = .int .i64 (j : Int) ∧ Aside0 (Kd.R k77 77 W w.heap.size (fun k => k ≠ w.heap.size) v6 (acc.map toPQ)) ∧ Aside0 (W.heap[w.heap.size]? = some (spotC s ((s.size - l.length : Nat) : Int) false)) ∧ Aside0 (Below w.heap.size w W))
    case atStart => exact ⟨[], bytes s, 0, ⟨List.suffix_refl _, rfl, by rw [bytes_len]; omega, by simp, by rw [bytes_len]; omega⟩, rfl, HO, ⟨by rw [bytes_len, Nat.sub_self]; exact K1.out⟩, HB⟩
    case round =>
      clear HO HB K1
      obtain ⟨acc, l, j, HN, rfl, HO, KB1, HB⟩ := hrel
      have q2 : decide ((j : Int) ≤ (s.size : Int)) = true := decide_eq_true (by have := HN.out; omega)
      have q3 : decide (j ≤ s.size) = true := decide_eq_true (by have := HN.out; omega)
      have q4 : (j : Int) ≤ 1000 := by have := HN.out; omega
      have q5 : (0 : Int) ≤ (j : Int) := by omega
      have hok : St.ok (bytes s) ⟨l, none⟩ := ⟨HN.out.1, fun n hn => by cases hn⟩
      have hok2 := predS_ok hok
      have hok3 := blanksS_ok hok2
      have hpc := fun w => rpred_calls s ⟨l, none⟩ w hs hok
      rw [stV_good] at hpc
      have hps := PS_eq l acc
      rw [HN.out.2.1] at hps
      generalize ((s.size - l.length : Nat) : Int) = i0 at KB1 hpc
      have hlt := predS_le (st := ⟨l, none⟩) rfl
      have hple := blanksS_le (predS ⟨l, none⟩).2
      have hbl := fun w => rblanks_calls s (predS ⟨l, none⟩).2 w hs hok2
      have hskip : ∀ L, blanksS (predS ⟨l, none⟩).2 = ⟨L, none⟩ → ∃ M, L = skip M := fun L h => by
        unfold blanksS at h
        split at h
        · rename_i hb
          rw [h] at hb
          cases hb
        · injection h with h1 h2
          exact ⟨_, h1.symm⟩
      unfold predPost at hpc
      obtain ⟨i1, hi1⟩ : ∃ x, x = spI s (predS ⟨l, none⟩).2 := ⟨_, rfl⟩
      obtain ⟨b1, hb1⟩ : ∃ x, x = (predS ⟨l, none⟩).2.bad.isSome := ⟨_, rfl⟩
      have hst1 : stV s (predS ⟨l, none⟩).2 = .agg #[.string s, .int .i64 i1, .bool b1] := by rw [hi1, hb1]; rfl
      rw [hst1] at hpc hbl
      have HPC := Aside0.mk hpc
      have HBL := Aside0.mk hbl
      have HPS := Aside0.mk hps
      have HLE := Aside0.mk (And.intro hlt hple)
      have HOK3 := Aside0.mk hok3
      have HSK := Aside0.mk hskip
      have HX := Aside0.mk (fun (h : (blanksS (predS ⟨l, none⟩).2).bad = none) => blanksS_good h)
      clear hok hok2 hok3 hpc hps hlt hple hbl hskip hi1 hb1 hst1
      obtain ⟨c0, c1, c2, f0, f1, f2⟩ := spot_cells KB1.out
      go_wp2_with fail
      refine (HPC.out _).mono ?_
      rintro e w1 ⟨v, rfl, ⟨x, rfl, hx⟩, hb⟩
      unfold prV
      clear c0 c1 c2 f0 f1 f2
      -- behind a call: the facts take the place of the elder ones
      have k1_ := Aside0.mk ((hb.block _ (blk_lt KB1.out)).trans KB1.out)
      have n_ := Aside0.mk (below_then HB.out HB.out.size hb)
      have o_ := Aside0.mk (Kd.R_below HO.out hb)
      clear KB1 HB HO
      have KB1 := k1_
      have HB := n_
      have HO := o_
      clear k1_ n_ o_
      obtain ⟨c0, c1, c2, f0, f1, f2⟩ := spot_cells KB1.out
      have HXE := Aside0.mk (fun h => hx (HX.out h))
      clear hx HX HPC
      go_upto_region 9 with (fail)
      go_wp2_with fail
      have hb := below_alloc (below_alloc (Below.refl w1.heap.size w1) (.cells #[.string s, .int .i64 i1, .bool b1] 83)) (.cells #[.string ⟨x.name.toArray⟩, .int .i64 x.op, .int .i64 x.lo, .int .i64 x.hi, .string ⟨x.str.toArray⟩] 77)
      obtain ⟨m1, m2⟩ := heap_push2 w1.heap (.cells #[.string s, .int .i64 i1, .bool b1] 83 (0, 0)) (.cells #[.string ⟨x.name.toArray⟩, .int .i64 x.op, .int .i64 x.lo, .int .i64 x.hi, .string ⟨x.str.toArray⟩] 77 (0, 0))
      have KB8 : Aside0 (((w1.alloc (.cells #[.string s, .int .i64 i1, .bool b1] 83)).alloc (.cells #[.string ⟨x.name.toArray⟩, .int .i64 x.op, .int .i64 x.lo, .int .i64 x.hi, .string ⟨x.str.toArray⟩] 77)).heap[w1.heap.size]? = some (spotC s i1 b1)) := ⟨m1⟩
      have KB9 : Aside0 (((w1.alloc (.cells #[.string s, .int .i64 i1, .bool b1] 83)).alloc (.cells #[.string ⟨x.name.toArray⟩, .int .i64 x.op, .int .i64 x.lo, .int .i64 x.hi, .string ⟨x.str.toArray⟩] 77)).heap[w1.heap.size + 1]? = some (prC ⟨x.name.toArray⟩ x.op x.lo x.hi ⟨x.str.toArray⟩)) := ⟨m2⟩
      have HLT := Aside0.mk (blk_lt KB1.out)
      have HOB := Aside0.mk (Kd.R_mono (Kd.R_bound HO.out) (ok' := fun k => k ≠ w.heap.size ∧ k < w1.heap.size) (fun k hk => ⟨hk.1, hk.2.2.1⟩))
      clear m1 m2
      clear c0 c1 c2 f0 f1 f2
      -- behind a call: the facts take the place of the elder ones
      have k1_ := Aside0.mk ((hb.block _ (blk_lt KB1.out)).trans KB1.out)
      have n_ := Aside0.mk (below_then HB.out HB.out.size hb)
      have o_ := Aside0.mk (Kd.R_below HO.out hb)
      clear KB1 HB HO
      have KB1 := k1_
      have HB := n_
      have HO := o_
      clear k1_ n_ o_
      have ho8 := Kd.R_alloc (Kd.R_alloc HOB.out (.cells #[.string s, .int .i64 i1, .bool b1] 83)) (.cells #[.string ⟨x.name.toArray⟩, .int .i64 x.op, .int .i64 x.lo, .int .i64 x.hi, .string ⟨x.str.toArray⟩] 77)
      have HO8 := Aside0.mk (Kd.R_mono ho8 (ok' := fun k => k ≠ w.heap.size ∧ k ≠ w1.heap.size ∧ k ≠ w1.heap.size + 1) (fun k hk => ⟨hk.1, by omega, by omega⟩))
      clear ho8 HOB HO
      generalize (w1.alloc (.cells #[.string s, .int .i64 i1, .bool b1] 83)).alloc (.cells #[.string ⟨x.name.toArray⟩, .int .i64 x.op, .int .i64 x.lo, .int .i64 x.hi, .string ⟨x.str.toArray⟩] 77) = w2 at KB1 KB8 KB9 HB HO8 ⊢
      generalize w1.heap.size = g8 at KB8 KB9 HLT HO8 ⊢
      refine (HBL.out _).mono ?_
      rintro e w3 ⟨rfl, hb⟩
      clear HBL
      have HO := HO8
      clear HO8
      -- behind a call: the facts take the place of the elder ones
      have k1_ := Aside0.mk ((hb.block _ (blk_lt KB1.out)).trans KB1.out)
      have n_ := Aside0.mk (below_then HB.out HB.out.size hb)
      have o_ := Aside0.mk (Kd.R_below HO.out hb)
      clear KB1 HB HO
      have KB1 := k1_
      have HB := n_
      have HO := o_
      clear k1_ n_ o_
      have k8_ := Aside0.mk ((hb.block _ (blk_lt KB8.out)).trans KB8.out)
      have k9_ := Aside0.mk ((hb.block _ (blk_lt KB9.out)).trans KB9.out)
      clear KB8 KB9
      have KB8 := k8_
      have KB9 := k9_
      clear k8_ k9_
      have ne1 : ¬ (w.heap.size = g8) := by have := HLT.out; omega
      have ne2 : ¬ (w.heap.size = g8 + 1) := by have := HLT.out; omega
      cases hbb : (blanksS (predS ⟨l, none⟩).2).bad with
      | some n =>
        have hst3 : stV s (blanksS (predS ⟨l, none⟩).2) = .agg #[.string s, .int .i64 ((s.size - n : Nat) : Int), .bool true] := stV_of_bad hbb
        rw [hst3]
        have hres := HPS.out
        rw [hbb] at hres
        have HF := Aside0.mk (fun e w' (ho : RParseNo w ((s.size - n : Nat) : Int) 2 e w') => HNOP.out n e w' hres ho)
        generalize ((s.size - n : Nat) : Int) = i3 at HF ⊢
        clear hres hbb hst3
        obtain ⟨c0, c1, c2, f0, f1, f2⟩ := spot_cells KB1.out
        obtain ⟨d0, d1, d2, g0, g1, g2⟩ := spot_cells KB8.out
        obtain ⟨x0, x1, x2, x3, x4, y0, y1, y2, y3, y4⟩ := prc_cells KB9.out
        go_wp2_with fail
        go_quiet (fail)
        go_wp2
        go_ret3
        have hbe := spot_below (g := g8) HB.out (by have := HLT.out; omega) s i3 true
        exact HF.out _ _ ⟨rfl, pw_below_drewN hbe _⟩
      | none =>
        obtain ⟨L, hbe⟩ : ∃ L, blanksS (predS ⟨l, none⟩).2 = ⟨L, none⟩ := ⟨_, good_eta hbb⟩
        have hxe := HXE.out hbb
        obtain ⟨M, hM⟩ := HSK.out L hbe
        have hres := HPS.out
        have hle := HLE.out
        have hok := HOK3.out
        rw [hbb, ← hxe] at hres
        rw [hbe] at hres hle hok ⊢
        rw [stV_good]
        simp only at hres hle
        have hLs : L.length ≤ s.size := P_le hok
        obtain ⟨i3, hi3⟩ : ∃ i, s.size - L.length = i := ⟨_, rfl⟩
        rw [hi3]
        have HI3 := Aside0.mk (And.intro hi3 hLs)
        have HRES := Aside0.mk hres
        have HM := Aside0.mk hM
        have HOK := Aside0.mk hok
        have HLL := Aside0.mk (Nat.le_trans hle.2 hle.1)
        clear hbb hbe hxe hM hres hle hok hi3 hLs HXE HSK HPS HLE HOK3
        obtain ⟨c0, c1, c2, f0, f1, f2⟩ := spot_cells KB1.out
        obtain ⟨d0, d1, d2, g0, g1, g2⟩ := spot_cells KB8.out
        obtain ⟨x0, x1, x2, x3, x4, y0, y1, y2, y3, y4⟩ := prc_cells KB9.out
        go_upto_region 10 with (fail)
        clear c0 c1 c2 f0 f1 f2
        clear d0 d1 d2 g0 g1 g2 x0 x1 x2 x3 x4 y0 y1 y2 y3 y4
        have k1_ := Aside0.mk (spot_far KB1.out ne1 s (i3 : Int) false)
        have k8_ := Aside0.mk (spot_set KB8.out s (i3 : Int) false)
        have k9_ := Aside0.mk (spot_far KB9.out (show g8 + 1 ≠ g8 by omega) s (i3 : Int) false)
        have n_ := Aside0.mk (spot_below (g := g8) HB.out (by have := HLT.out; omega) s (i3 : Int) false)
        have o_ := Aside0.mk (Kd.R_far (p := ⟨g8, 2, none⟩) (Kd.R_far (p := ⟨g8, 1, none⟩) (Kd.R_far (p := ⟨g8, 0, none⟩) HO.out (fun k hk => hk.2.1) (.string s)) (fun k hk => hk.2.1) (.int .i64 (i3 : Int))) (fun k hk => hk.2.1) (.bool false))
        clear KB1 KB8 KB9 HB HO
        have KB1 := k1_
        have KB8 := k8_
        have KB9 := k9_
        have HB := n_
        have HO8 := Aside0.mk (Kd.R_mono o_.out (ok' := fun k => k ≠ w.heap.size ∧ k ≠ g8) (fun k hk => ⟨hk.1, hk.2.1⟩))
        clear k1_ k8_ k9_ n_ o_
        generalize ((w3.setCell ⟨g8, 0, none⟩ (.string s)).setCell ⟨g8, 1, none⟩ (.int .i64 (i3 : Int))).setCell ⟨g8, 2, none⟩ (.bool false) = w4 at KB1 KB8 KB9 HB HO8 ⊢
        have HLT := Aside0.mk (And.intro HLT.out (And.intro (blk_lt KB8.out) (blk_lt KB1.out)))
        have HO := HO8
        obtain ⟨c0, c1, c2, f0, f1, f2⟩ := spot_cells KB1.out
        obtain ⟨d0, d1, d2, g0, g1, g2⟩ := spot_cells KB8.out
        obtain ⟨x0, x1, x2, x3, x4, y0, y1, y2, y3, y4⟩ := prc_cells KB9.out
        by_cases hL : L = []
        · have he : ((i3 : Int) == (s.size : Int)) = true := by have h := HI3.out.1; rw [hL] at h; simp at h; simp [h]
          have hres := HRES.out
          rw [if_pos hL] at hres
          have HF := Aside0.mk (fun e w' (ho : RParseOk w (acc ++ [x]) e w') => HOKP.out (acc ++ [x]) e w' hres ho)
          clear hres hL
          go_wp2_with ((with_reducible refine gate_builtin (b := .append) (xs := #[.tmp 35, .tmp 37]) rfl ?_); at_builtin; go_loud (refine Kd.R_append k77 (w0 := w) w.heap.size rfl (.tmp 35) (.tmp 37) 32 77 (.agg #[(.string ⟨#[]⟩), (.int .i64 0), (.int .i64 0), (.int .i64 0), (.string ⟨#[]⟩)]) 56 rfl Tryd.underlying32 info77 rfl (by decide) (by omega) _ (acc.map toPQ) (toPQ x) [.string ⟨x.name.toArray⟩, .int .i64 x.op, .int .i64 x.lo, .int .i64 x.hi, .string ⟨x.str.toArray⟩] (fun k => k ≠ w.heap.size ∧ k ≠ g8) (fun _ => False) rfl ?aX ?aP (fun _ hk => hk.elim) ?aF ?aO HB.out HB.out.size ?aL ?_; (case aX => first | rfl | (go_simp; done) | (go_simp; rfl)); (case aP => exact k77_mkM _ _ _ (toPQ x)); (case aF => exact (fun k hk => by have := HLT.out; omega)); (case aO => exact (Kd.R_mono (Kd.R_bound HO8.out) (fun k hk => hk.1))); (case aL => have := HN.out; simp; omega); intro v9 w9 ho hb hg hat; rw [show acc.map toPQ ++ [toPQ x] = (acc ++ [x]).map toPQ by simp] at ho; have n0_ := Aside0.mk ho; have n1_ := Aside0.mk hb; have n2_ := Aside0.mk ((hg.block _ (blk_lt KB1.out) (fun e => (HO8.out.1 _ e.symm).1 rfl)).trans KB1.out); have n3_ := Aside0.mk ((hg.block _ (blk_lt KB8.out) (fun e => (HO8.out.1 _ e.symm).2 rfl)).trans KB8.out); clear HO HO8 HB KB1 KB8 ho hb hg hat KB9 c0 c1 c2 f0 f1 f2 d0 d1 d2 g0 g1 g2 x0 x1 x2 x3 x4 y0 y1 y2 y3 y4; have HO := n0_; have HB := n1_; have KB1 := n2_; have KB8 := n3_; clear n0_ n1_ n2_ n3_; obtain ⟨c0, c1, c2, f0, f1, f2⟩ := spot_cells KB1.out; obtain ⟨d0, d1, d2, g0, g1, g2⟩ := spot_cells KB8.out))
          go_ret3
          exact HF.out _ _ ⟨_, rfl, Kd.R_mono HO.out (fun _ _ => trivial), HB.out⟩
        · have hL0 : 0 < L.length := List.length_pos_iff.mpr hL
          have he : ((i3 : Int) == (s.size : Int)) = false := by have h := HI3.out; simp; omega
          have hres := HRES.out
          rw [if_neg hL] at hres
          have HRES := Aside0.mk hres
          have hwd := fun w => rword_calls s ⟨L, none⟩ w hs HOK.out
          rw [stV_good, HI3.out.1] at hwd
          have hoka := wordS_ok HOK.out
          obtain ⟨a, ha⟩ : ∃ a, a = wordS ⟨L, none⟩ := ⟨_, rfl⟩
          rw [← ha] at hwd hoka
          have HA := Aside0.mk ha
          obtain ⟨i5, hi5⟩ : ∃ x, x = spI s a.2 := ⟨_, rfl⟩
          obtain ⟨b5, hb5⟩ : ∃ x, x = a.2.bad.isSome := ⟨_, rfl⟩
          have hst5 : stV s a.2 = .agg #[.string s, .int .i64 i5, .bool b5] := by rw [hi5, hb5]; rfl
          rw [hst5] at hwd
          have HWD := Aside0.mk hwd
          have HI5 := Aside0.mk hi5
          have HB5 := Aside0.mk hb5
          have HOKA := Aside0.mk hoka
          clear hL hL0 hres hwd hoka ha hi5 hb5 hst5
          go_wp2_with ((with_reducible refine gate_builtin (b := .append) (xs := #[.tmp 35, .tmp 37]) rfl ?_); at_builtin; go_loud (refine Kd.R_append k77 (w0 := w) w.heap.size rfl (.tmp 35) (.tmp 37) 32 77 (.agg #[(.string ⟨#[]⟩), (.int .i64 0), (.int .i64 0), (.int .i64 0), (.string ⟨#[]⟩)]) 56 rfl Tryd.underlying32 info77 rfl (by decide) (by omega) _ (acc.map toPQ) (toPQ x) [.string ⟨x.name.toArray⟩, .int .i64 x.op, .int .i64 x.lo, .int .i64 x.hi, .string ⟨x.str.toArray⟩] (fun k => k ≠ w.heap.size ∧ k ≠ g8) (fun _ => False) rfl ?aX ?aP (fun _ hk => hk.elim) ?aF ?aO HB.out HB.out.size ?aL ?_; (case aX => first | rfl | (go_simp; done) | (go_simp; rfl)); (case aP => exact k77_mkM _ _ _ (toPQ x)); (case aF => exact (fun k hk => by have := HLT.out; omega)); (case aO => exact (Kd.R_mono (Kd.R_bound HO8.out) (fun k hk => hk.1))); (case aL => have := HN.out; simp; omega); intro v9 w9 ho hb hg hat; rw [show acc.map toPQ ++ [toPQ x] = (acc ++ [x]).map toPQ by simp] at ho; have n0_ := Aside0.mk ho; have n1_ := Aside0.mk hb; have n2_ := Aside0.mk ((hg.block _ (blk_lt KB1.out) (fun e => (HO8.out.1 _ e.symm).1 rfl)).trans KB1.out); have n3_ := Aside0.mk ((hg.block _ (blk_lt KB8.out) (fun e => (HO8.out.1 _ e.symm).2 rfl)).trans KB8.out); clear HO HO8 HB KB1 KB8 ho hb hg hat KB9 c0 c1 c2 f0 f1 f2 d0 d1 d2 g0 g1 g2 x0 x1 x2 x3 x4 y0 y1 y2 y3 y4; have HO := n0_; have HB := n1_; have KB1 := n2_; have KB8 := n3_; clear n0_ n1_ n2_ n3_; obtain ⟨c0, c1, c2, f0, f1, f2⟩ := spot_cells KB1.out; obtain ⟨d0, d1, d2, g0, g1, g2⟩ := spot_cells KB8.out))
          refine (HWD.out _).mono ?_
          rintro e w10 ⟨rfl, hb⟩
          clear HWD
          have k8_ := Aside0.mk ((hb.block _ (blk_lt KB8.out)).trans KB8.out)
          clear KB8 d0 d1 d2 g0 g1 g2
          have KB8 := k8_
          clear k8_
          clear c0 c1 c2 f0 f1 f2
          -- behind a call: the facts take the place of the elder ones
          have k1_ := Aside0.mk ((hb.block _ (blk_lt KB1.out)).trans KB1.out)
          have n_ := Aside0.mk (below_then HB.out HB.out.size hb)
          have o_ := Aside0.mk (Kd.R_below HO.out hb)
          clear KB1 HB HO
          have KB1 := k1_
          have HB := n_
          have HO := o_
          clear k1_ n_ o_
          go_upto_region 16 with (fail)
          have hb := below_alloc (Below.refl w10.heap.size w10) (.cells #[.string s, .int .i64 i5, .bool b5] 83)
          have KB10 : Aside0 ((w10.alloc (.cells #[.string s, .int .i64 i5, .bool b5] 83)).heap[w10.heap.size]? = some (spotC s i5 b5)) := ⟨heap_alloc_new w10 _⟩
          have HL10 := Aside0.mk (blk_lt KB1.out)
          have k8_ := Aside0.mk ((hb.block _ (blk_lt KB8.out)).trans KB8.out)
          clear KB8
          have KB8 := k8_
          clear k8_
          -- behind a call: the facts take the place of the elder ones
          have k1_ := Aside0.mk ((hb.block _ (blk_lt KB1.out)).trans KB1.out)
          have n_ := Aside0.mk (below_then HB.out HB.out.size hb)
          have o_ := Aside0.mk (Kd.R_below HO.out hb)
          clear KB1 HB HO
          have KB1 := k1_
          have HB := n_
          have HO := o_
          clear k1_ n_ o_
          generalize w10.alloc (.cells #[.string s, .int .i64 i5, .bool b5] 83) = w11 at KB1 KB8 KB10 HB HO ⊢
          generalize w10.heap.size = g10 at KB10 HL10 ⊢
          obtain ⟨c0, c1, c2, f0, f1, f2⟩ := spot_cells KB1.out
          obtain ⟨d0, d1, d2, g0, g1, g2⟩ := spot_cells KB8.out
          obtain ⟨z0, z1, z2, z3, z4, z5⟩ := spot_cells KB10.out
          cases hab : a.2.bad with
          | some n =>
            have hb5 : b5 = true := by rw [HB5.out, hab]; rfl
            subst hb5
            have hbad : (andS ⟨L, none⟩).bad = some L.length := andS_bad1 HM.out (by rw [← HA.out]; exact hab)
            have hres := HRES.out
            unfold PN at hres
            rw [hbad] at hres
            have HF := Aside0.mk (fun e w' (ho : RParseNo w ((s.size - L.length : Nat) : Int) 2 e w') => HNOP.out L.length e w' hres ho)
            rw [HI3.out.1] at HF
            clear hab hbad hres
            go_wp2_with fail
            go_quiet (fail)
            go_wp2
            go_ret3
            exact HF.out _ _ ⟨rfl, pw_below_drewN HB.out _⟩
          | none =>
            have hb5 : b5 = false := by rw [HB5.out, hab]; rfl
            subst hb5
            by_cases han : a.1 = [97, 110, 100]
            · have q9 : (a.1 == [97, 110, 100]) = true := by simpa using han
              have hand : andS ⟨L, none⟩ = a.2 := by unfold andS; rw [← HA.out, if_pos han]
              have hres := HRES.out
              rw [hand] at hres
              unfold PN at hres
              rw [hab] at hres
              have hlt2 : a.2.l.length < L.length := by rw [← hand]; exact andS_lt rfl (by rw [hand]; exact hab)
              have hi5 : i5 = ((s.size - a.2.l.length : Nat) : Int) := by rw [HI5.out]; unfold spI; rw [hab]; rfl
              have HREL := Aside0.mk (And.intro hres (And.intro hlt2 (And.intro hi5 HOKA.out.1)))
              clear hab han hand hres hlt2 hi5
              go_wp2_with fail
              go_roundg (gk - 1)
              case measure => have := HN.out; have := HREL.out; have := HLL.out; omega
              case rel => exact ⟨acc ++ [x], a.2.l, j + 1, ⟨HREL.out.2.2.2, HREL.out.1.symm, by have := HN.out; have := HREL.out; have := HLL.out; omega, by have := HN.out; simp; omega, by have := HN.out; have := HREL.out; have := HLL.out; omega⟩, by first | rfl | (congr 1; omega), ⟨Kd.R_far (p := ⟨w.heap.size, 2, none⟩) (Kd.R_far (p := ⟨w.heap.size, 1, none⟩) (Kd.R_far (p := ⟨w.heap.size, 0, none⟩) (Kd.R_mono HO.out (ok' := fun k => k ≠ w.heap.size) (fun k hk => hk.1)) (fun k hk => hk) _) (fun k hk => hk) _) (fun k hk => hk) _⟩, ⟨by rw [← HREL.out.2.2.1]; exact spot_set KB1.out s i5 false⟩, ⟨spot_below (g := w.heap.size) HB.out (Nat.le_refl _) s i5 false⟩⟩
            · have q9 : (a.1 == [97, 110, 100]) = false := by simpa using han
              have hbad : (andS ⟨L, none⟩).bad = some L.length := andS_bad2 (by rw [← HA.out]; exact hab) (by rw [← HA.out]; exact han)
              have hres := HRES.out
              unfold PN at hres
              rw [hbad] at hres
              have HF := Aside0.mk (fun e w' (ho : RParseNo w ((s.size - L.length : Nat) : Int) 2 e w') => HNOP.out L.length e w' hres ho)
              rw [HI3.out.1] at HF
              clear hab han hbad hres
              go_wp2_with fail
              go_quiet (fail)
              go_wp2
              go_ret3
              exact HF.out _ _ ⟨rfl, pw_below_drewN HB.out _⟩
end Go.Proofs.YthaapijjjgkacaaDoor.Mine
end
section
/-
  The filter parser as plain functions: blanks ahead and behind change nothing, be the text read or not; a byte behind a blank is no filter.
-/
namespace Go.Proofs.YthaapijjjgkacaaDoor.Mine

theorem skip_back {l : List UInt8} (h : skip l = []) : skip (l ++ [32]) = [] := by rw [skip_ext0 _ h]; rfl
theorem wordS_back {l : List UInt8} (h : (wordS ⟨l ++ [32], none⟩).2.bad = none) : (wordS ⟨l, none⟩).2.bad = none := by
  change (wordL (skip (l ++ [32]))).2.bad = none at h
  show (wordL (skip l)).2.bad = none
  cases hs : skip l with
  | nil => rw [skip_back hs] at h; simp [wordL] at h
  | cons c r =>
    rw [skip_ext _ (by rw [hs]; simp), hs, List.cons_append] at h
    by_cases hc : isL c = true
    · simp only [wordL, if_pos hc]
    · simp [wordL, hc] at h
theorem markS_back {m l : List UInt8} (hm : m ≠ []) (h32 : (32 : UInt8) ∉ m) (h : (markS m ⟨l ++ [32], none⟩).bad = none) : (markS m ⟨l, none⟩).bad = none := by
  change (markL m (skip (l ++ [32]))).bad = none at h
  show (markL m (skip l)).bad = none
  by_cases hs : skip l = []
  · rw [skip_back hs] at h
    unfold markL at h
    cases m with
    | nil => exact absurd rfl hm
    | cons a b => simp at h
  · rw [skip_ext _ hs] at h
    unfold markL at h ⊢
    cases hp : m.isPrefixOf (skip l ++ [32]) with
    | false => rw [hp] at h; simp at h
    | true =>
      have h1 := List.isPrefixOf_iff_prefix.mp hp
      rcases List.prefix_concat_iff.mp h1 with h2 | h2
      · exact absurd (by rw [h2]; simp) h32
      · rw [List.isPrefixOf_iff_prefix.mpr h2, if_pos rfl]
theorem textL_back : ∀ (n : Nat) (l acc : List UInt8), l.length ≤ n → ∀ (s r : List UInt8), textL (l ++ [32]) acc = (some s, r) → ∃ r', textL l acc = (some s, r')
  | n, [], acc, _, s, r, h => by
    rw [List.nil_append, textL_p _ _ (by decide) (by decide) (by decide), textL_nil] at h
    simp at h
  | n, c :: r0, acc, hn, s, r, h => by
    rw [List.cons_append] at h
    by_cases h1 : c = 34
    · rw [textL_q _ _ h1] at h ⊢
      simp at h
      exact ⟨r0, by rw [h.1]⟩
    · match n with
      | 0 => simp at hn
      | n + 1 =>
        by_cases h2 : c = 92
        · match r0 with
          | [] =>
            rw [List.nil_append, textL_b2 _ _ h2 (by decide)] at h
            simp at h
          | d :: r' =>
            rw [List.cons_append] at h
            by_cases h3 : d = 34 ∨ d = 92
            · rw [textL_b1 _ _ h2 h3] at h ⊢
              exact textL_back n r' _ (by simp at hn; omega) s r h
            · rw [textL_b2 _ _ h2 h3] at h; simp at h
        · by_cases h3 : 32 ≤ c ∧ c ≤ 126
          · rw [textL_p _ _ h1 h2 h3] at h ⊢
            exact textL_back n r0 _ (by simp at hn; omega) s r h
          · rw [textL_n _ _ h1 h2 h3] at h; simp at h
theorem textS_mark {st : St} (h : (textS st).2.bad = none) : (markS [34] st).bad = none := by
  unfold textS at h
  cases hb : (markS [34] st).bad with
  | none => rfl
  | some n => rw [hb] at h; simp only at h; rw [hb] at h; cases h
theorem textS_back {l : List UInt8} (h : (textS ⟨l ++ [32], none⟩).2.bad = none) : (textS ⟨l, none⟩).2.bad = none := by
  have hm := textS_mark h
  have hm2 := markS_back (by simp) (by simp) hm
  have ex := markS_ext [32] (by simp) (good_eta hm2)
  unfold textS at h ⊢
  rw [ex] at h
  rw [hm2]
  simp only at h ⊢
  cases hx : textL ((markS [34] ⟨l, none⟩).l ++ [32]) [] with
  | mk o r1 =>
    rw [hx] at h
    cases o with
    | none => simp [textR] at h
    | some s =>
      obtain ⟨r', e⟩ := textL_back _ _ _ (Nat.le_refl _) s r1 hx
      rw [e]
      rfl
theorem numD_back {f f' : Nat} {sg : Int} {d : List UInt8} (h : (numD f' sg (d ++ [32])).2.bad = none) : (numD f sg d).2.bad = none := by
  obtain ⟨e1, e2⟩ := tw_ext isD d [] (by decide)
  unfold numD at h ⊢
  rw [e1, e2] at h
  by_cases h1 : 10 < (d.takeWhile isD).length
  · rw [if_pos h1] at h; simp at h
  · rw [if_neg h1] at h ⊢
    by_cases h2 : numBad sg (d ++ [32])
    · rw [if_pos h2] at h; simp at h
    · have h3 : ¬ numBad sg d := by
        intro hb
        apply h2
        unfold numBad at hb ⊢
        rw [e1]
        rcases hb with hb | hb | hb
        · exact Or.inl hb
        · refine Or.inr (Or.inl ⟨hb.1, ?_⟩)
          cases d with
          | nil => simp at hb
          | cons c d => simpa using hb.2
        · exact Or.inr (Or.inr hb)
      rw [if_neg h3]
theorem numberS_back {l : List UInt8} (h : (numberS ⟨l ++ [32], none⟩).2.bad = none) : (numberS ⟨l, none⟩).2.bad = none := by
  change (numL (skip (l ++ [32]))).2.bad = none at h
  show (numL (skip l)).2.bad = none
  cases hs : skip l with
  | nil => rw [skip_back hs] at h; simp [numL, numD, numBad] at h
  | cons c r =>
    rw [skip_ext _ (by rw [hs]; simp), hs, List.cons_append] at h
    by_cases hc : c = 45
    · simp only [numL, if_pos hc] at h ⊢
      exact numD_back h
    · simp only [numL, if_neg hc] at h ⊢
      rw [← List.cons_append] at h
      exact numD_back h
theorem inS_back {nm l : List UInt8} (h : (inS nm ⟨l ++ [32], none⟩).2.bad = none) : (inS nm ⟨l, none⟩).2.bad = none := by
  have h0 : (numberS (markS [46, 46] (numberS (if (wordS ⟨l ++ [32], none⟩).1 = [105, 110] then (wordS ⟨l ++ [32], none⟩).2 else stopS (wordS ⟨l ++ [32], none⟩).2 (l ++ [32]).length)).2)).2.bad = none := h
  have h1 := numberS_good h0
  have h2 := markS_good h1
  have h3 := numberS_good h2
  have hw : (wordS ⟨l ++ [32], none⟩).1 = [105, 110] := by
    by_cases hw : (wordS ⟨l ++ [32], none⟩).1 = [105, 110]
    · exact hw
    · rw [if_neg hw] at h3
      exact (stopS_none h3).elim
  rw [if_pos hw] at h0 h1 h2 h3
  have g3 := wordS_back h3
  have e3 : wordS ⟨l, none⟩ = ((wordS ⟨l, none⟩).1, ⟨(wordS ⟨l, none⟩).2.l, none⟩) := Prod.ext rfl (good_eta g3)
  have x3 := wordS_ext [] e3
  rw [x3] at h0 h1 h2 hw
  simp only at h0 h1 h2 hw
  have g2 := numberS_back h2
  have e2 : numberS ⟨(wordS ⟨l, none⟩).2.l, none⟩ = ((numberS ⟨(wordS ⟨l, none⟩).2.l, none⟩).1, ⟨(numberS ⟨(wordS ⟨l, none⟩).2.l, none⟩).2.l, none⟩) := Prod.ext rfl (good_eta g2)
  have x2 := numberS_ext [] e2
  rw [x2] at h0 h1
  simp only at h0 h1
  have g1 := markS_back (by simp) (by simp) h1
  have x1 := markS_ext [32] (by simp) (good_eta g1)
  rw [x1] at h0
  have g0 := numberS_back h0
  show (numberS (markS [46, 46] (numberS (if (wordS ⟨l, none⟩).1 = [105, 110] then (wordS ⟨l, none⟩).2 else stopS (wordS ⟨l, none⟩).2 l.length)).2)).2.bad = none
  rw [if_pos hw, good_eta g3, good_eta g2, good_eta g1]
  exact g0
theorem predS_back {l : List UInt8} (h : (predS ⟨l ++ [32], none⟩).2.bad = none) : (predS ⟨l, none⟩).2.bad = none := by
  have hp : ∀ l, predS ⟨l, none⟩ = (if (blanksS (wordS ⟨l, none⟩).2).l.head? = some 61 then
      (⟨(wordS ⟨l, none⟩).1, 2, 0, 0, (textS (markS [61] (blanksS (wordS ⟨l, none⟩).2))).1⟩, (textS (markS [61] (blanksS (wordS ⟨l, none⟩).2))).2)
    else if (blanksS (wordS ⟨l, none⟩).2).l.head? = some 94 then
      (⟨(wordS ⟨l, none⟩).1, 3, 0, 0, (textS (markS [94, 61] (blanksS (wordS ⟨l, none⟩).2))).1⟩, (textS (markS [94, 61] (blanksS (wordS ⟨l, none⟩).2))).2)
    else inS (wordS ⟨l, none⟩).1 (blanksS (wordS ⟨l, none⟩).2)) := fun _ => rfl
  have hw : (wordS ⟨l ++ [32], none⟩).2.bad = none := by
    rw [hp] at h
    split at h
    · exact blanksS_good (markS_good (textS_good h))
    · split at h
      · exact blanksS_good (markS_good (textS_good h))
      · exact blanksS_good (inS_good h)
  have gw := wordS_back hw
  have ew : wordS ⟨l, none⟩ = ((wordS ⟨l, none⟩).1, ⟨(wordS ⟨l, none⟩).2.l, none⟩) := Prod.ext rfl (good_eta gw)
  generalize (wordS ⟨l, none⟩).1 = w at ew
  generalize (wordS ⟨l, none⟩).2.l = al at ew
  have ex := wordS_ext [] ew
  rw [hp, ex] at h
  rw [hp, ew]
  have hb : ∀ q : List UInt8, blanksS ⟨q, none⟩ = ⟨skip q, none⟩ := fun _ => rfl
  simp only [hb] at h ⊢
  have hne : skip al ≠ [] := by
    intro e
    rw [skip_back e] at h
    rw [if_neg (show ¬ ([] : List UInt8).head? = some 61 by simp), if_neg (show ¬ ([] : List UInt8).head? = some 94 by simp)] at h
    have h0 : (numberS (markS [46, 46] (numberS (if (wordS ⟨[], none⟩).1 = [105, 110] then (wordS ⟨[], none⟩).2 else stopS (wordS ⟨[], none⟩).2 ([] : List UInt8).length)).2)).2.bad = none := h
    have h3 := numberS_good (markS_good (numberS_good h0))
    rw [if_neg (by simp [wordS, skip, wordL])] at h3
    exact stopS_none h3
  rw [skip_ext _ hne] at h
  obtain ⟨c, r, hcr⟩ : ∃ c r, skip al = c :: r := by
    cases hs : skip al with
    | nil => exact absurd hs hne
    | cons c r => exact ⟨c, r, rfl⟩
  rw [hcr] at h ⊢
  by_cases h61 : c = 61
  · rw [if_pos (show (c :: r).head? = some 61 by simp [h61])]
    rw [if_pos (show (c :: r ++ [32] : List UInt8).head? = some 61 by simp [h61])] at h
    have hm := markS_back (by simp) (by simp) (textS_good h)
    rw [markS_ext [32] (by simp) (good_eta hm)] at h
    rw [good_eta hm]
    exact textS_back h
  · rw [if_neg (show ¬ (c :: r).head? = some 61 by simp [h61])]
    rw [if_neg (show ¬ (c :: r ++ [32] : List UInt8).head? = some 61 by simp [h61])] at h
    by_cases h94 : c = 94
    · rw [if_pos (show (c :: r).head? = some 94 by simp [h94])]
      rw [if_pos (show (c :: r ++ [32] : List UInt8).head? = some 94 by simp [h94])] at h
      have hm := markS_back (by simp) (by simp) (textS_good h)
      rw [markS_ext [32] (by simp) (good_eta hm)] at h
      rw [good_eta hm]
      exact textS_back h
    · rw [if_neg (show ¬ (c :: r).head? = some 94 by simp [h94])]
      rw [if_neg (show ¬ (c :: r ++ [32] : List UInt8).head? = some 94 by simp [h94])] at h
      exact inS_back h
theorem andS_back {l : List UInt8} (h : (andS ⟨l ++ [32], none⟩).bad = none) : (andS ⟨l, none⟩).bad = none := by
  unfold andS at h ⊢
  by_cases hw : (wordS ⟨l ++ [32], none⟩).1 = [97, 110, 100]
  · rw [if_pos hw] at h
    have g := wordS_back h
    have e : wordS ⟨l, none⟩ = ((wordS ⟨l, none⟩).1, ⟨(wordS ⟨l, none⟩).2.l, none⟩) := Prod.ext rfl (good_eta g)
    rw [wordS_ext [] e] at hw
    rw [if_pos hw]
    exact g
  · rw [if_neg hw] at h
    exact (stopS_none h).elim
theorem PS_back : ∀ (n : Nat) (l : List UInt8) (acc xs : List Pr), l.length ≤ n → PS (l ++ [32]) acc = .inl xs → PS l acc = .inl xs
  | n, l, acc, xs, hn, h => by
    rw [PS_eq] at h
    rw [PS_eq]
    cases hb : (blanksS (predS ⟨l ++ [32], none⟩).2).bad with
    | some m => rw [hb] at h; cases h
    | none =>
      rw [hb] at h
      simp only at h
      have hg := predS_back (blanksS_good hb)
      rw [predS_ext [] hg] at h
      have e1 : blanksS (predS ⟨l, none⟩).2 = ⟨skip (predS ⟨l, none⟩).2.l, none⟩ := by rw [good_eta hg]; rfl
      have hle : (predS ⟨l, none⟩).2.l.length ≤ l.length := predS_le (st := ⟨l, none⟩) rfl
      rw [e1]
      simp only
      have e2 : ∀ q : List UInt8, blanksS ⟨q, none⟩ = ⟨skip q, none⟩ := fun _ => rfl
      rw [e2] at h
      simp only at h
      by_cases hs : skip (predS ⟨l, none⟩).2.l = []
      · rw [if_pos hs]
        rw [if_pos (skip_back hs)] at h
        exact h
      · rw [if_neg hs]
        rw [skip_ext _ hs, if_neg (by simp)] at h
        cases ha : (andS ⟨skip (predS ⟨l, none⟩).2.l ++ [32], none⟩).bad with
        | some m => unfold PN at h; rw [ha] at h; cases h
        | none =>
          have ha2 := andS_back ha
          have hlt := andS_lt (st := ⟨skip (predS ⟨l, none⟩).2.l, none⟩) rfl ha2
          have hle2 := (skip_suf (predS ⟨l, none⟩).2.l).length_le
          simp only at hlt
          rw [andS_ext [] ha2] at h
          unfold PN at h ⊢
          rw [ha2]
          simp only at h ⊢
          match n with
          | 0 => omega
          | n + 1 => exact PS_back n _ _ _ (by omega) h
theorem PS_behind (l : List UInt8) (acc xs : List Pr) (h : PS l acc = .inl xs) : PS (l ++ [32]) acc = .inl xs := by
  rw [PS_ext [] _ _ _ _ (Nat.le_refl _) h]
  rfl
theorem PS_blanks1 (l : List UInt8) (acc : List Pr) : ∀ m, PS (List.replicate m 32 ++ l) acc = PS l acc
  | 0 => rfl
  | m + 1 => by rw [List.replicate_succ, List.cons_append, PS_blank, PS_blanks1 l acc m]
theorem PS_blanks2 (l : List UInt8) (acc xs : List Pr) : ∀ m, PS (l ++ List.replicate m 32) acc = .inl xs ↔ PS l acc = .inl xs
  | 0 => by simp
  | m + 1 => by
    rw [List.replicate_succ', ← List.append_assoc]
    refine Iff.trans ⟨PS_back _ _ _ _ (Nat.le_refl _), PS_behind _ _ _⟩ (PS_blanks2 l acc xs m)
theorem PS_blanks (l : List UInt8) (acc xs : List Pr) (m : Nat) : PS (List.replicate m 32 ++ l ++ List.replicate m 32) acc = .inl xs ↔ PS l acc = .inl xs := by
  rw [PS_blanks2, PS_blanks1]
/-- Behind a filter's text and a blank, a byte that is none: bad. -/
theorem tailS_byte (c : UInt8) (hc : c ≠ 32) (acc : List Pr) : ∃ n, tailS [c] acc = .inr n := by
  have hs : skip [c] = [c] := by simp [skip, hc]
  unfold tailS
  rw [hs, if_neg (by simp)]
  have hw : (wordS ⟨[c], none⟩).1 ≠ [97, 110, 100] := by
    show (wordL (skip [c])).1 ≠ _
    rw [hs]
    simp only [wordL]
    by_cases hi : isL c = true
    · rw [if_pos hi]; simp
    · rw [if_neg hi]; simp
  have ha : (andS ⟨[c], none⟩) = stopS (wordS ⟨[c], none⟩).2 1 := by
    unfold andS
    rw [if_neg hw]
    rfl
  rw [ha]
  unfold PN
  cases hb : (stopS (wordS ⟨[c], none⟩).2 1).bad with
  | none => exact (stopS_none hb).elim
  | some n => exact ⟨n, rfl⟩
theorem PS_byte (l : List UInt8) (c : UInt8) (hc : c ≠ 32) (acc xs : List Pr) (h : PS l acc = .inl xs) : ∃ n, PS (l ++ [32, c]) acc = .inr n := by
  rw [PS_ext [c] _ _ _ _ (Nat.le_refl _) h]
  exact tailS_byte c hc xs
end Go.Proofs.YthaapijjjgkacaaDoor.Mine
end
