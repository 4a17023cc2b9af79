/-
  Contracts of errors.As: an error that is a fault, the target a *api.Fault; an error that is a code within faults, the target an api.Code; of api.Of.
-/
import Derived.Test.YthaapijjjgkacaaDoorAs
namespace Go.Proofs.YthaapijjjgkacaaDoor.Mine
open Go.RowKit Go.Extern.Stop Go.Stop Go.Extern
/-- errorType, where it lies. -/
def ErrTy (w : World) : Prop := w.cell? ⟨0, 0, none⟩ = some (.iface 121 (.agg #[.pointer (some ⟨4, 28, none⟩)]))
/-- one block alone has got another cell, and new blocks are there. -/
def Put (w w' : World) (t : Nat) (v : Value) (T : Nat) : Prop := w'.os = w.os ∧ w'.tape = w.tape ∧ w'.output = w.output ∧ w.heap.size ≤ w'.heap.size ∧ (∀ k, k < w.heap.size → k ≠ t → w'.heap[k]? = w.heap[k]?) ∧ w'.heap[t]? = some (.cells #[v] T (0, 0))
theorem put_mk {w : World} {t T : Nat} {old v : Value} (ht : w.heap[t]? = some (.cells #[old] T (0, 0))) (A B : Obj) : Put w (((w.setCell ⟨t, 0, none⟩ v).alloc A).alloc B) t v T := by
  have hlt : t < w.heap.size := (Array.getElem?_eq_some_iff.1 ht).1
  have hz : (w.setCell ⟨t, 0, none⟩ v).heap.size = w.heap.size := by simp [World.setCell]
  refine ⟨rfl, rfl, rfl, by simp [World.setCell]; omega, fun k hk hn => ?_, ?_⟩
  · rw [Below.heap_alloc _ _ _ (by simp; omega), Below.heap_alloc _ _ _ (by rw [hz]; exact hk), Below.heap_setCell _ _ _ _ hn]
  · rw [Below.heap_alloc _ _ _ (by simp; omega), Below.heap_alloc _ _ _ (by rw [hz]; exact hlt)]
    simp [World.setCell, Array.getElem?_modify, ht]
def rV (T : Nat) (a : Addr) (fl : Int) : Value := .agg #[.pointer (some ⟨4, T, none⟩), .pointer (some a), .int .u64 fl]
set_option maxHeartbeats 4000000 in
set_option maxRecDepth 100000 in
/-- errors.as where the error's own type is the target's. -/
theorem asHitF (e : Addr) (a : Addr) (t : Nat) (old : Value) (w : World) (ha : w.cell? a = some (.pointer (some ⟨t, 0, none⟩))) (ht : w.heap[t]? = some (.cells #[old] 67 (0, 0))) :
    Calls Tryd.prog 61 #[.iface 67 (valF e), .iface 69 (.pointer (some ⟨t, 0, none⟩)), .agg #[.pointer (some ⟨4, 69, none⟩), .pointer (some a), .int .u64 150], .iface 121 (.agg #[.pointer (some ⟨4, 67, none⟩)])] w
      fun ev w' => ev = .returned (.bool true) ∧ Put w w' t (valF e) 67 := by
  have tO := typeOfF
  have a25 := assignableF
  have v25 := valueOfEF
  have hlt : t < w.heap.size := (Array.getElem?_eq_some_iff.1 ht).1
  have hal : a.block < w.heap.size := by
    rcases Nat.lt_or_ge a.block w.heap.size with h | h
    · exact h
    · simp [World.cell?, Array.getElem?_eq_none h] at ha
  have hc0 : w.cell? ⟨t, 0, none⟩ = some old := cell_of_row w t 0 _ _ _ ht
  have hf0 : w.frozen? ⟨t, 0, none⟩ = false := by simp [World.frozen?, ht]
  have el := elemVF a ⟨t, 0, none⟩ (w.alloc (.cells #[.pointer (some ⟨4, 69, none⟩), .pointer (some a), .int .u64 150] 111)) (by rw [World.cell?_alloc_lt _ _ a hal]; exact ha)
  have st := setF ⟨t, 0, none⟩ ⟨w.heap.size + 1, 0, none⟩ e old ((w.alloc (.cells #[.pointer (some ⟨4, 69, none⟩), .pointer (some a), .int .u64 150] 111)).alloc (.cells #[valF e] 67))
    (by rw [World.cell?_alloc_at _ _ _ _ (by simp)]; rfl)
    (by rw [World.cell?_alloc_lt _ _ ⟨t, 0, none⟩ (by simp; omega), World.cell?_alloc_lt _ _ ⟨t, 0, none⟩ hlt]; exact hc0)
    (by rw [World.frozen?_alloc_old _ _ ⟨t, 0, none⟩ (by simp; omega), World.frozen?_alloc_old _ _ ⟨t, 0, none⟩ (Nat.ne_of_lt hlt)]; exact hf0)
  have h10 := @run_callFunc_extern Tryd.prog 37 _ (ReflectliteType.typeOf) Tryd.func37 (by kernel_rfl) (by kernel_rfl) (by kernel_rfl) (by kernel_rfl)
  have h35 := @run_callFunc_extern Tryd.prog 122 _ (ReflectliteType.relation "AssignableTo" ReflectliteType.assignableTo) Tryd.func122 (by kernel_rfl) (by kernel_rfl) (by kernel_rfl) (by kernel_rfl)
  have h11 := @run_callFunc_extern Tryd.prog 81 _ (ReflectliteValue.method (ReflectliteValue.valueError "reflectlite.Value.Elem" 0) ReflectliteValue.elem) Tryd.func81 (by kernel_rfl) (by kernel_rfl) (by kernel_rfl) (by kernel_rfl)
  have h12 := @run_callFunc_extern Tryd.prog 82 _ (ReflectliteValue.set) Tryd.func82 (by kernel_rfl) (by kernel_rfl) (by kernel_rfl) (by kernel_rfl)
  have h6 := @run_callFunc_extern Tryd.prog 58 _ (fun args => ReflectliteValue.unpack (args.getD 0 (.tuple #[]))) Tryd.func58 (by kernel_rfl) (by kernel_rfl) (by kernel_rfl) (by kernel_rfl)
  have mA := methodAssignableTo
  have HP := Aside.out (p := Aside (∀ A B : Obj, Put w (((w.setCell ⟨t, 0, none⟩ (valF e)).alloc A).alloc B) t (valF e) 67)) (fun A B => put_mk ht A B)
  clear ht ha hc0 hf0
  go_enter Tryd.func61, Tryd.ntmps61
  go_wp2
  refine wp_loop_rounds 1 ?_
  rw [rounds_succ]
  go_wp2
  go_ret
  exact ⟨rfl, HP.out _ _⟩
set_option maxHeartbeats 4000000 in
set_option maxRecDepth 100000 in
/-- errors.as where the error's own type is the target's. -/
theorem asHitC (e : Int) (a : Addr) (t : Nat) (old : Value) (w : World) (ha : w.cell? a = some (.pointer (some ⟨t, 0, none⟩))) (ht : w.heap[t]? = some (.cells #[old] 35 (0, 0))) :
    Calls Tryd.prog 61 #[.iface 35 (valC e), .iface 89 (.pointer (some ⟨t, 0, none⟩)), .agg #[.pointer (some ⟨4, 89, none⟩), .pointer (some a), .int .u64 150], .iface 121 (.agg #[.pointer (some ⟨4, 35, none⟩)])] w
      fun ev w' => ev = .returned (.bool true) ∧ Put w w' t (valC e) 35 := by
  have tO := typeOfC
  have a25 := assignableC
  have v25 := valueOfEC
  have hlt : t < w.heap.size := (Array.getElem?_eq_some_iff.1 ht).1
  have hal : a.block < w.heap.size := by
    rcases Nat.lt_or_ge a.block w.heap.size with h | h
    · exact h
    · simp [World.cell?, Array.getElem?_eq_none h] at ha
  have hc0 : w.cell? ⟨t, 0, none⟩ = some old := cell_of_row w t 0 _ _ _ ht
  have hf0 : w.frozen? ⟨t, 0, none⟩ = false := by simp [World.frozen?, ht]
  have el := elemVC a ⟨t, 0, none⟩ (w.alloc (.cells #[.pointer (some ⟨4, 89, none⟩), .pointer (some a), .int .u64 150] 111)) (by rw [World.cell?_alloc_lt _ _ a hal]; exact ha)
  have st := setC ⟨t, 0, none⟩ ⟨w.heap.size + 1, 0, none⟩ e old ((w.alloc (.cells #[.pointer (some ⟨4, 89, none⟩), .pointer (some a), .int .u64 150] 111)).alloc (.cells #[valC e] 35))
    (by rw [World.cell?_alloc_at _ _ _ _ (by simp)]; rfl)
    (by rw [World.cell?_alloc_lt _ _ ⟨t, 0, none⟩ (by simp; omega), World.cell?_alloc_lt _ _ ⟨t, 0, none⟩ hlt]; exact hc0)
    (by rw [World.frozen?_alloc_old _ _ ⟨t, 0, none⟩ (by simp; omega), World.frozen?_alloc_old _ _ ⟨t, 0, none⟩ (Nat.ne_of_lt hlt)]; exact hf0)
  have h10 := @run_callFunc_extern Tryd.prog 37 _ (ReflectliteType.typeOf) Tryd.func37 (by kernel_rfl) (by kernel_rfl) (by kernel_rfl) (by kernel_rfl)
  have h35 := @run_callFunc_extern Tryd.prog 122 _ (ReflectliteType.relation "AssignableTo" ReflectliteType.assignableTo) Tryd.func122 (by kernel_rfl) (by kernel_rfl) (by kernel_rfl) (by kernel_rfl)
  have h11 := @run_callFunc_extern Tryd.prog 81 _ (ReflectliteValue.method (ReflectliteValue.valueError "reflectlite.Value.Elem" 0) ReflectliteValue.elem) Tryd.func81 (by kernel_rfl) (by kernel_rfl) (by kernel_rfl) (by kernel_rfl)
  have h12 := @run_callFunc_extern Tryd.prog 82 _ (ReflectliteValue.set) Tryd.func82 (by kernel_rfl) (by kernel_rfl) (by kernel_rfl) (by kernel_rfl)
  have h6 := @run_callFunc_extern Tryd.prog 58 _ (fun args => ReflectliteValue.unpack (args.getD 0 (.tuple #[]))) Tryd.func58 (by kernel_rfl) (by kernel_rfl) (by kernel_rfl) (by kernel_rfl)
  have mA := methodAssignableTo
  have HP := Aside.out (p := Aside (∀ A B : Obj, Put w (((w.setCell ⟨t, 0, none⟩ (valC e)).alloc A).alloc B) t (valC e) 35)) (fun A B => put_mk ht A B)
  clear ht ha hc0 hf0
  go_enter Tryd.func61, Tryd.ntmps61
  go_wp2
  refine wp_loop_rounds 1 ?_
  rw [rounds_succ]
  go_wp2
  go_ret
  exact ⟨rfl, HP.out _ _⟩

theorem Put.weaken {w w1 w2 : World} {t T : Nat} {v : Value} (h1 : Below w.heap.size w w1) (h2 : Put w1 w2 t v T) : Put w w2 t v T :=
  ⟨h2.1.trans h1.os, h2.2.1.trans h1.tape, h2.2.2.1.trans h1.output, Nat.le_trans h1.size h2.2.2.2.1, fun k hk hn => (h2.2.2.2.2.1 k (Nat.lt_of_lt_of_le hk h1.size) hn).trans (h1.block k hk), h2.2.2.2.2.2⟩
structure Aside0' (p : Prop) : Prop where mk :: (out : p)
set_option maxHeartbeats 4000000 in
set_option maxRecDepth 100000 in
/-- errors.As of a fault, the target a *api.Fault. -/
theorem as_fault (e : Addr) (t : Nat) (old : Value) (w : World) (hg : ErrTy w) (ht : w.heap[t]? = some (.cells #[old] 67 (0, 0))) :
    Calls Tryd.prog 32 #[.iface 67 (valF e), .iface 69 (.pointer (some ⟨t, 0, none⟩))] w fun ev w' => ev = .returned (.bool true) ∧ Put w w' t (valF e) 67 := by
  have hlt : t < w.heap.size := (Array.getElem?_eq_some_iff.1 ht).1
  have h0 : (0 : Nat) < w.heap.size := by
    rcases Nat.eq_zero_or_pos w.heap.size with h0 | h
    · simp [ErrTy, World.cell?, h0] at hg
    · exact h
  have hg2 : ((w.alloc (.cells #[.pointer (some ⟨t, 0, none⟩)] 69)).alloc (.cells #[.pointer (some ⟨4, 69, none⟩), .pointer (some ⟨w.heap.size, 0, none⟩), .int .u64 150] 111)).cell? ⟨0, 0, none⟩ = some (.iface 121 (.agg #[.pointer (some ⟨4, 28, none⟩)])) := by
    rw [World.cell?_alloc_lt _ _ ⟨0, 0, none⟩ (by simp), World.cell?_alloc_lt _ _ ⟨0, 0, none⟩ h0]; exact hg
  have hn8 := isNilF ⟨w.heap.size, 0, none⟩ ⟨t, 0, none⟩ ((w.alloc (.cells #[.pointer (some ⟨t, 0, none⟩)] 69)).alloc (.cells #[.pointer (some ⟨4, 69, none⟩), .pointer (some ⟨w.heap.size, 0, none⟩), .int .u64 150] 111)) (by simp)
  have HT := Aside0'.mk (show ((w.alloc (.cells #[.pointer (some ⟨t, 0, none⟩)] 69)).alloc (.cells #[.pointer (some ⟨4, 69, none⟩), .pointer (some ⟨w.heap.size, 0, none⟩), .int .u64 150] 111)).heap[t]? = some (.cells #[old] 67 (0, 0)) by rw [Below.heap_alloc _ _ _ (by simp; omega), Below.heap_alloc _ _ _ hlt]; exact ht)
  have HC := Aside0'.mk (show ((w.alloc (.cells #[.pointer (some ⟨t, 0, none⟩)] 69)).alloc (.cells #[.pointer (some ⟨4, 69, none⟩), .pointer (some ⟨w.heap.size, 0, none⟩), .int .u64 150] 111)).cell? ⟨w.heap.size, 0, none⟩ = some (.pointer (some ⟨t, 0, none⟩)) by simp)
  have HBL := Aside0'.mk (show Below w.heap.size w ((w.alloc (.cells #[.pointer (some ⟨t, 0, none⟩)] 69)).alloc (.cells #[.pointer (some ⟨4, 69, none⟩), .pointer (some ⟨w.heap.size, 0, none⟩), .int .u64 150] 111)) from ((Below.refl _ _).alloc (Nat.le_refl _) _).alloc (by simp) _)
  clear ht hg h0
  have v6 := valueOfF
  have y7 := typeF
  have k1 := kindF
  have k2 := kindEF
  have e2 := elemF
  have i2 := implementsF
  have h6 := @run_callFunc_extern Tryd.prog 58 _ (fun args => ReflectliteValue.unpack (args.getD 0 (.tuple #[]))) Tryd.func58 (by kernel_rfl) (by kernel_rfl) (by kernel_rfl) (by kernel_rfl)
  have h7 := @run_callFunc_extern Tryd.prog 59 _ (ReflectliteValue.methodAny (ReflectliteValue.valueError "reflectlite.Value.Type" 0) (fun t _ _ _ => ReflectliteType.toType t)) Tryd.func59 (by kernel_rfl) (by kernel_rfl) (by kernel_rfl) (by kernel_rfl)
  have h8 := @run_callFunc_extern Tryd.prog 60 _ (ReflectliteValue.method (ReflectliteValue.valueError "reflectlite.Value.IsNil" 0) ReflectliteValue.isNil) Tryd.func60 (by kernel_rfl) (by kernel_rfl) (by kernel_rfl) (by kernel_rfl)
  have h27 := @run_callFunc_extern Tryd.prog 110 _ (ReflectliteType.abiMethod fun t => do pure (.int .u8 (← Rtype.kind t))) Tryd.func110 (by kernel_rfl) (by kernel_rfl) (by kernel_rfl) (by kernel_rfl)
  have h37 := @run_callFunc_extern Tryd.prog 124 _ (ReflectliteType.method ReflectliteType.elem) Tryd.func124 (by kernel_rfl) (by kernel_rfl) (by kernel_rfl) (by kernel_rfl)
  have h38 := @run_callFunc_extern Tryd.prog 125 _ (ReflectliteType.relation "Implements" ReflectliteType.implements_) Tryd.func125 (by kernel_rfl) (by kernel_rfl) (by kernel_rfl) (by kernel_rfl)
  have mK := methodKind
  have mE := methodElem
  have mI := methodImplements
  go_enter Tryd.func32, Tryd.ntmps32
  go_wp2_with (go_at_call 61; refine (asHitF e ⟨w.heap.size, 0, none⟩ t old _ HC.out HT.out).mono ?_; rintro ev w' ⟨rfl, hp⟩; have HPP := Aside0'.mk (Put.weaken HBL.out hp); clear hp)
  go_ret
  exact ⟨rfl, HPP.out⟩

set_option maxHeartbeats 4000000 in
set_option maxRecDepth 100000 in
/-- errors.as of a code within faults, the target an api.Code. -/
theorem asCode (c : Int) (n : Nat) (v : Value) (a : Addr) (t : Nat) (old : Value) (w : World) (h : ErrIs w c n v) (ha : w.cell? a = some (.pointer (some ⟨t, 0, none⟩))) (ht : w.heap[t]? = some (.cells #[old] 35 (0, 0))) :
    Calls Tryd.prog 61 #[v, .iface 89 (.pointer (some ⟨t, 0, none⟩)), .agg #[.pointer (some ⟨4, 89, none⟩), .pointer (some a), .int .u64 150], .iface 121 (.agg #[.pointer (some ⟨4, 35, none⟩)])] w
      fun ev w' => ev = .returned (.bool true) ∧ Put w w' t (valC c) 35 := by
  have tO := typeOfC
  have tF := typeOfF
  have a25 := assignableC
  have a26 := notAssignable
  have v25 := valueOfEC
  have nA := noAsFault
  have e5 := unwrapFault
  have e8 := nilAheadF
  have e9 := methodUnwrap
  have hlt : t < w.heap.size := (Array.getElem?_eq_some_iff.1 ht).1
  have hal : a.block < w.heap.size := by
    rcases Nat.lt_or_ge a.block w.heap.size with h | h
    · exact h
    · simp [World.cell?, Array.getElem?_eq_none h] at ha
  have hc0 : w.cell? ⟨t, 0, none⟩ = some old := cell_of_row w t 0 _ _ _ ht
  have hf0 : w.frozen? ⟨t, 0, none⟩ = false := by simp [World.frozen?, ht]
  have el := elemVC a ⟨t, 0, none⟩ (w.alloc (.cells #[.pointer (some ⟨4, 89, none⟩), .pointer (some a), .int .u64 150] 111)) (by rw [World.cell?_alloc_lt _ _ a hal]; exact ha)
  have st := setC ⟨t, 0, none⟩ ⟨w.heap.size + 1, 0, none⟩ c old ((w.alloc (.cells #[.pointer (some ⟨4, 89, none⟩), .pointer (some a), .int .u64 150] 111)).alloc (.cells #[valC c] 35))
    (by rw [World.cell?_alloc_at _ _ _ _ (by simp)]; rfl)
    (by rw [World.cell?_alloc_lt _ _ ⟨t, 0, none⟩ (by simp; omega), World.cell?_alloc_lt _ _ ⟨t, 0, none⟩ hlt]; exact hc0)
    (by rw [World.frozen?_alloc_old _ _ ⟨t, 0, none⟩ (by simp; omega), World.frozen?_alloc_old _ _ ⟨t, 0, none⟩ (Nat.ne_of_lt hlt)]; exact hf0)
  have h10 := @run_callFunc_extern Tryd.prog 37 _ (ReflectliteType.typeOf) Tryd.func37 (by kernel_rfl) (by kernel_rfl) (by kernel_rfl) (by kernel_rfl)
  have h35 := @run_callFunc_extern Tryd.prog 122 _ (ReflectliteType.relation "AssignableTo" ReflectliteType.assignableTo) Tryd.func122 (by kernel_rfl) (by kernel_rfl) (by kernel_rfl) (by kernel_rfl)
  have h11 := @run_callFunc_extern Tryd.prog 81 _ (ReflectliteValue.method (ReflectliteValue.valueError "reflectlite.Value.Elem" 0) ReflectliteValue.elem) Tryd.func81 (by kernel_rfl) (by kernel_rfl) (by kernel_rfl) (by kernel_rfl)
  have h12 := @run_callFunc_extern Tryd.prog 82 _ (ReflectliteValue.set) Tryd.func82 (by kernel_rfl) (by kernel_rfl) (by kernel_rfl) (by kernel_rfl)
  have h6 := @run_callFunc_extern Tryd.prog 58 _ (fun args => ReflectliteValue.unpack (args.getD 0 (.tuple #[]))) Tryd.func58 (by kernel_rfl) (by kernel_rfl) (by kernel_rfl) (by kernel_rfl)
  have mA := methodAssignableTo
  have HP := Aside0'.mk (fun A B : Obj => put_mk (v := valC c) ht A B)
  have HH := Aside0'.mk (show ErrIs (w.alloc (.cells #[.pointer (some ⟨4, 89, none⟩), .pointer (some a), .int .u64 150] 111)) c n v from h.below (fun b hb => Below.heap_alloc _ _ _ hb))
  clear ht ha hc0 hf0 h
  go_enter Tryd.func61, Tryd.ntmps61
  go_wp2
  go_loopg [0] (n + 1) (fun k v0 wr => wr = w.alloc (.cells #[.pointer (some ⟨4, 89, none⟩), .pointer (some a), .int .u64 150] 111) ∧ 0 < k ∧ Aside0' (ErrIs (w.alloc (.cells #[.pointer (some ⟨4, 89, none⟩), .pointer (some a), .int .u64 150] 111)) c (k - 1) v0))
  case atStart => exact ⟨rfl, by omega, HH⟩
  case round =>
    obtain ⟨hw, hk, HE⟩ := hrel
    subst hw
    obtain ⟨k, rfl⟩ : ∃ k, gk = k + 1 := ⟨gk - 1, by omega⟩
    simp only [Nat.add_sub_cancel] at HE
    cases k with
    | zero =>
      have hv : u0 = .iface 35 (valC c) := HE.out
      subst hv
      go_wp2
      go_ret
      exact ⟨rfl, HP.out _ _⟩
    | succ k =>
      obtain ⟨b, wh, at_, x, hv, hb, hx⟩ := HE.out
      subst hv
      have hc' := Aside0'.mk (cell_of_row _ b 2 _ _ _ hb)
      have HX := Aside0'.mk hx
      obtain ⟨tx, vx, hxv⟩ := hx.iface
      have hxn := fun w => run_eql_held_nil (P := Tryd.prog) w 28 tx vx Tryd.underlying28
      subst hxv
      clear hb hx
      go_wp2_with (first | (go_at_call 116; refine (unwrap_calls b _ _ hc'.out).mono ?_; rintro e w' ⟨rfl, rfl⟩))
      go_roundg (k + 1)
      case measure => omega
      case rel => exact ⟨rfl, by omega, HX⟩
set_option maxHeartbeats 4000000 in
set_option maxRecDepth 100000 in
/-- errors.As of a code within faults, the target an api.Code. -/
theorem as_code (c : Int) (n : Nat) (v : Value) (t : Nat) (old : Value) (w : World) (h : ErrIs w c n v) (hg : ErrTy w) (ht : w.heap[t]? = some (.cells #[old] 35 (0, 0))) :
    Calls Tryd.prog 32 #[v, .iface 89 (.pointer (some ⟨t, 0, none⟩))] w fun ev w' => ev = .returned (.bool true) ∧ Put w w' t (valC c) 35 := by
  obtain ⟨tx, vx, rfl⟩ := h.iface
  have n1 := run_eql_held_nil (P := Tryd.prog) w 28 tx vx Tryd.underlying28
  have HH := Aside0'.mk (fun A B : Obj => (h.below (w' := (w.alloc A).alloc B) (fun b hb => by rw [Below.heap_alloc _ _ _ (by simp; omega), Below.heap_alloc _ _ _ hb])))
  clear h
  have hlt : t < w.heap.size := (Array.getElem?_eq_some_iff.1 ht).1
  have h0 : (0 : Nat) < w.heap.size := by
    rcases Nat.eq_zero_or_pos w.heap.size with h0 | h
    · simp [ErrTy, World.cell?, h0] at hg
    · exact h
  have hg2 : ((w.alloc (.cells #[.pointer (some ⟨t, 0, none⟩)] 89)).alloc (.cells #[.pointer (some ⟨4, 89, none⟩), .pointer (some ⟨w.heap.size, 0, none⟩), .int .u64 150] 111)).cell? ⟨0, 0, none⟩ = some (.iface 121 (.agg #[.pointer (some ⟨4, 28, none⟩)])) := by
    rw [World.cell?_alloc_lt _ _ ⟨0, 0, none⟩ (by simp), World.cell?_alloc_lt _ _ ⟨0, 0, none⟩ h0]; exact hg
  have hn8 := isNilC ⟨w.heap.size, 0, none⟩ ⟨t, 0, none⟩ ((w.alloc (.cells #[.pointer (some ⟨t, 0, none⟩)] 89)).alloc (.cells #[.pointer (some ⟨4, 89, none⟩), .pointer (some ⟨w.heap.size, 0, none⟩), .int .u64 150] 111)) (by simp)
  have HT := Aside0'.mk (show ((w.alloc (.cells #[.pointer (some ⟨t, 0, none⟩)] 89)).alloc (.cells #[.pointer (some ⟨4, 89, none⟩), .pointer (some ⟨w.heap.size, 0, none⟩), .int .u64 150] 111)).heap[t]? = some (.cells #[old] 35 (0, 0)) by rw [Below.heap_alloc _ _ _ (by simp; omega), Below.heap_alloc _ _ _ hlt]; exact ht)
  have HC := Aside0'.mk (show ((w.alloc (.cells #[.pointer (some ⟨t, 0, none⟩)] 89)).alloc (.cells #[.pointer (some ⟨4, 89, none⟩), .pointer (some ⟨w.heap.size, 0, none⟩), .int .u64 150] 111)).cell? ⟨w.heap.size, 0, none⟩ = some (.pointer (some ⟨t, 0, none⟩)) by simp)
  have HBL := Aside0'.mk (show Below w.heap.size w ((w.alloc (.cells #[.pointer (some ⟨t, 0, none⟩)] 89)).alloc (.cells #[.pointer (some ⟨4, 89, none⟩), .pointer (some ⟨w.heap.size, 0, none⟩), .int .u64 150] 111)) from ((Below.refl _ _).alloc (Nat.le_refl _) _).alloc (by simp) _)
  clear ht hg h0
  have v6 := valueOfC
  have y7 := typeC
  have k1 := kindC
  have k2 := kindEC
  have e2 := elemC
  have i2 := implementsC
  have h6 := @run_callFunc_extern Tryd.prog 58 _ (fun args => ReflectliteValue.unpack (args.getD 0 (.tuple #[]))) Tryd.func58 (by kernel_rfl) (by kernel_rfl) (by kernel_rfl) (by kernel_rfl)
  have h7 := @run_callFunc_extern Tryd.prog 59 _ (ReflectliteValue.methodAny (ReflectliteValue.valueError "reflectlite.Value.Type" 0) (fun t _ _ _ => ReflectliteType.toType t)) Tryd.func59 (by kernel_rfl) (by kernel_rfl) (by kernel_rfl) (by kernel_rfl)
  have h8 := @run_callFunc_extern Tryd.prog 60 _ (ReflectliteValue.method (ReflectliteValue.valueError "reflectlite.Value.IsNil" 0) ReflectliteValue.isNil) Tryd.func60 (by kernel_rfl) (by kernel_rfl) (by kernel_rfl) (by kernel_rfl)
  have h27 := @run_callFunc_extern Tryd.prog 110 _ (ReflectliteType.abiMethod fun t => do pure (.int .u8 (← Rtype.kind t))) Tryd.func110 (by kernel_rfl) (by kernel_rfl) (by kernel_rfl) (by kernel_rfl)
  have h37 := @run_callFunc_extern Tryd.prog 124 _ (ReflectliteType.method ReflectliteType.elem) Tryd.func124 (by kernel_rfl) (by kernel_rfl) (by kernel_rfl) (by kernel_rfl)
  have h38 := @run_callFunc_extern Tryd.prog 125 _ (ReflectliteType.relation "Implements" ReflectliteType.implements_) Tryd.func125 (by kernel_rfl) (by kernel_rfl) (by kernel_rfl) (by kernel_rfl)
  have mK := methodKind
  have mE := methodElem
  have mI := methodImplements
  go_enter Tryd.func32, Tryd.ntmps32
  go_wp2_with (go_at_call 61; refine (asCode c n _ ⟨w.heap.size, 0, none⟩ t old _ (HH.out _ _) HC.out HT.out).mono ?_; rintro ev w' ⟨rfl, hp⟩; have HPP := Aside0'.mk (Put.weaken HBL.out hp); clear hp)
  go_ret
  exact ⟨rfl, HPP.out⟩
theorem heap_new (w : World) (o : Obj) : (w.alloc o).heap[w.heap.size]? = some o := by
  show (w.heap.push o)[w.heap.size]? = _
  simp
theorem Put.back {w w' : World} {T : Nat} {v : Value} {o : Obj} (h : Put (w.alloc o) w' w.heap.size v T) : Below w.heap.size w w' :=
  ⟨h.1, h.2.1, h.2.2.1, by have := h.2.2.2.1; simp at this; omega, fun k hk => (h.2.2.2.2.1 k (by simp; omega) (by omega)).trans (Below.heap_alloc _ _ _ hk)⟩
theorem ErrTy.alloc {w : World} (h : ErrTy w) (o : Obj) : ErrTy (w.alloc o) := by
  have h0 : (0 : Nat) < w.heap.size := by
    rcases Nat.eq_zero_or_pos w.heap.size with h0 | h1
    · simp [ErrTy, World.cell?, h0] at h
    · exact h1
  unfold ErrTy
  rw [World.cell?_alloc_lt _ _ ⟨0, 0, none⟩ h0]
  exact h
set_option maxRecDepth 100000 in
theorem of_nil (w : World) : Calls Tryd.prog 19 #[.nilIface] w fun ev w' => ev = .returned (.int .i64 0) ∧ Below w.heap.size w w' := by
  go_enter Tryd.func19, Tryd.ntmps19
  go_wp2
  go_ret
  exact ⟨rfl, Below.refl _ _⟩
set_option maxHeartbeats 1000000 in
set_option maxRecDepth 100000 in
theorem of_err (c : Int) (n : Nat) (v : Value) (w : World) (h : ErrIs w c n v) (hg : ErrTy w) : Calls Tryd.prog 19 #[v] w fun ev w' => ev = .returned (.int .i64 c) ∧ Below w.heap.size w w' := by
  obtain ⟨tx, vx, rfl⟩ := h.iface
  have n1 := run_eql_held_nil (P := Tryd.prog) w 28 tx vx Tryd.underlying28
  have HH := Aside0'.mk (h.below (w' := w.alloc (.cells #[.int .i64 0] 35)) (fun b hb => Below.heap_alloc _ _ _ hb))
  have HG := Aside0'.mk (hg.alloc (.cells #[.int .i64 0] 35))
  clear h hg
  go_enter Tryd.func19, Tryd.ntmps19
  go_wp2_with (go_at_call 32; refine (as_code c n _ w.heap.size (.int .i64 0) _ HH.out HG.out (heap_new _ _)).mono ?_; rintro ev w' ⟨rfl, hp⟩; have HB := Aside0'.mk (Put.back hp); have hcc := cell_of_row w' w.heap.size 0 _ _ _ hp.2.2.2.2.2; clear hp)
  go_ret
  exact ⟨rfl, HB.out⟩
set_option maxHeartbeats 1000000 in
set_option maxRecDepth 100000 in
theorem at_nil (w : World) : Calls Tryd.prog 17 #[.nilIface] w fun ev w' => ev = .returned (.int .i64 (-1)) ∧ Below w.heap.size w w' := by
  go_enter Tryd.func17, Tryd.ntmps17
  go_wp2_with (go_at_call 32; refine (as_nil _ _).mono ?_; rintro ev w' ⟨rfl, rfl⟩)
  go_ret
  exact ⟨rfl, (Below.refl _ _).alloc (Nat.le_refl _) _⟩
set_option maxHeartbeats 1000000 in
set_option maxRecDepth 100000 in
theorem at_fault (b : Nat) (wh : ByteArray) (at_ : Int) (x : Value) (w : World) (hb : w.heap[b]? = some (.cells #[.string wh, .int .i64 at_, x] 71 (0, 0))) (hg : ErrTy w) :
    Calls Tryd.prog 17 #[.iface 67 (.pointer (some ⟨b, 0, none⟩))] w fun ev w' => ev = .returned (.int .i64 at_) ∧ Below w.heap.size w w' := by
  have HG := Aside0'.mk (hg.alloc (.cells #[.pointer none] 67))
  have hbl : b < w.heap.size := (Array.getElem?_eq_some_iff.1 hb).1
  have HBB := Aside0'.mk hb
  clear hb hg
  go_enter Tryd.func17, Tryd.ntmps17
  go_wp2_with (go_at_call 32; refine (as_fault ⟨b, 0, none⟩ w.heap.size (.pointer none) _ HG.out (heap_new _ _)).mono ?_; rintro ev w' ⟨rfl, hp⟩; have HB := Aside0'.mk (Put.back hp); have hcc : w'.cell? ⟨w.heap.size, 0, none⟩ = some (.pointer (some ⟨b, 0, none⟩)) := cell_of_row w' w.heap.size 0 _ _ _ hp.2.2.2.2.2; have hcf : w'.cell? ⟨b, 1, none⟩ = some (.int .i64 at_) := cell_of_row w' b 1 _ _ _ ((HB.out.block b hbl).trans HBB.out); clear hp)
  go_ret
  exact ⟨rfl, HB.out⟩
end Go.Proofs.YthaapijjjgkacaaDoor.Mine
