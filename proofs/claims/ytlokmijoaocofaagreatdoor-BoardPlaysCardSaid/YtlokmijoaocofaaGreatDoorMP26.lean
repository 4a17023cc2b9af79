/- Texts of one claim, one behind the other, made short by a program. -/
import Derived.Test.YtlokmijoaocofaaGreatDoorMP8
set_option linter.unusedSimpArgs false
set_option linter.unusedVariables false
set_option maxRecDepth 100000
section
namespace Go.Proofs.YtlokmijoaocofaaGreatDoor.Mine
open Go.RowKit Go.Extern.Stop Go.Stop Go.Extern
theorem rlm (z : Sem Value) (f : TypeId → Addr → Nat → Nat → Sem Value) (v : Value) :
 ReflectliteValue.method z f #[v] = (do match ← ReflectliteValue.parts v with | none => z | some (t, a, fl) => f t a fl (fl % 32)) := rfl
theorem rls (v x : Value) : ReflectliteValue.set #[v, x] = (do
 let (some (dst, a, fl), some (src, b, _)) := (← ReflectliteValue.parts v, ← ReflectliteValue.parts x)
  | unsupported (.noEntry "extern/(internal/reflectlite.Value).Set.zeroValue")
 if fl / ReflectliteValue.flagAddr % 2 == 0 then unsupported (.noEntry "extern/(internal/reflectlite.Value).Set.unaddressable")
 let val ← loadVar src b
 if ← Rtype.directlyAssignable dst src then storeVar dst a val
 else if ← Rtype.implements dst src then
  if (← Rtype.kind src) == 20 then
   match val with
   | .nilIface => unsupported (.noEntry "extern/reflectlite: a nil value of one interface type handed on as a value of another")
   | _ => storeVar dst a val
  else storeVar dst a (.iface src val)
 else panicString ("reflectlite.Set: value of type " ++ (← Rtype.spelt src) ++ " is not assignable to type " ++ (← Rtype.spelt dst))
 pure (.tuple #[])) := rfl
theorem methodKind (h : Value) (w : World) : (Go.method 355 126 (.agg #[h]) "Kind").run Tryz.prog w = .ok (133, h) w := by kernel_rfl
theorem methodElem (h : Value) (w : World) : (Go.method 355 126 (.agg #[h]) "Elem").run Tryz.prog w = .ok (140, .agg #[h]) w := by kernel_rfl
theorem methodImplements (h : Value) (w : World) : (Go.method 355 126 (.agg #[h]) "Implements").run Tryz.prog w = .ok (141, .agg #[h]) w := by kernel_rfl
theorem methodAssignableTo (h : Value) (w : World) : (Go.method 355 126 (.agg #[h]) "AssignableTo").run Tryz.prog w = .ok (138, .agg #[h]) w := by kernel_rfl
def valC (e : Int) : Value := .int .i64 e
theorem typeOfF (v : Value) (w : World) : (ReflectliteType.typeOf #[.iface 143 v]).run Tryz.prog w = .ok (.iface 126 (.agg #[.pointer (some ⟨1, 143, none⟩)])) w := by kernel_rfl
theorem valueOfC (t : Addr) (w : World) : (ReflectliteValue.unpack (.iface 115 (.pointer (some t)))).run Tryz.prog w
 = .ok (.agg #[.pointer (some ⟨1, 115, none⟩), .pointer (some ⟨w.heap.size, 0, none⟩), .int .u64 150]) (w.alloc (.cells #[.pointer (some t)] 115)) := by kernel_rfl
theorem typeC (a : Addr) (w : World) : (ReflectliteValue.methodAny (ReflectliteValue.valueError "reflectlite.Value.Type" 0) (fun t _ _ _ => ReflectliteType.toType t) #[.agg #[.pointer (some ⟨1, 115, none⟩), .pointer (some a), .int .u64 150]]).run Tryz.prog w
 = .ok (.iface 126 (.agg #[.pointer (some ⟨1, 115, none⟩)])) w := by kernel_rfl
theorem kindC (w : World) : ((ReflectliteType.abiMethod fun t => (fun a : Nat => Value.int IntKind.u8 (a : Int)) <$> Rtype.kind t) #[.pointer (some ⟨1, 115, none⟩)]).run Tryz.prog w = .ok (.int .u8 22) w := by kernel_rfl
theorem kindEC (w : World) : ((ReflectliteType.abiMethod fun t => (fun a : Nat => Value.int IntKind.u8 (a : Int)) <$> Rtype.kind t) #[.pointer (some ⟨1, 36, none⟩)]).run Tryz.prog w = .ok (.int .u8 2) w := by kernel_rfl
theorem partsC (a : Addr) (w : World) : (ReflectliteValue.parts (.agg #[.pointer (some ⟨1, 115, none⟩), .pointer (some a), .int .u64 150])).run Tryz.prog w = .ok (some (115, a, 150)) w := by kernel_rfl
theorem isNilC (a p : Addr) (W : World) (ha : W.cell? a = some (.pointer (some p))) :
 (ReflectliteValue.method (ReflectliteValue.valueError "reflectlite.Value.IsNil" 0) ReflectliteValue.isNil #[.agg #[.pointer (some ⟨1, 115, none⟩), .pointer (some a), .int .u64 150]]).run Tryz.prog W = .ok (.bool false) W := by
 rw [rlm]
 simp only [Sem.run_bind, partsC, Result.andThen]
 simp [ReflectliteValue.isNil, loadVar, isAgg, underlying, Tryz.underlying115, ha, Result.andThen]
theorem elemC (w : World) : (ReflectliteType.method ReflectliteType.elem #[.agg #[.pointer (some ⟨1, 115, none⟩)]]).run Tryz.prog w = .ok (.iface 126 (.agg #[.pointer (some ⟨1, 36, none⟩)])) w := by kernel_rfl
theorem implementsC (w : World) : (ReflectliteType.relation "Implements" ReflectliteType.implements_ #[.agg #[.pointer (some ⟨1, 36, none⟩)], .iface 126 (.agg #[.pointer (some ⟨1, 30, none⟩)])]).run Tryz.prog w = .ok (.bool true) w := by kernel_rfl
theorem typeOfC (v : Value) (w : World) : (ReflectliteType.typeOf #[.iface 36 v]).run Tryz.prog w = .ok (.iface 126 (.agg #[.pointer (some ⟨1, 36, none⟩)])) w := by kernel_rfl
theorem assignableC (w : World) : (ReflectliteType.relation "AssignableTo" ReflectliteType.assignableTo #[.agg #[.pointer (some ⟨1, 36, none⟩)], .iface 126 (.agg #[.pointer (some ⟨1, 36, none⟩)])]).run Tryz.prog w = .ok (.bool true) w := by kernel_rfl
theorem elemOfC (w : World) : (Rtype.elem? 115).run Tryz.prog w = .ok (some 36) w := by kernel_rfl
theorem mkC (p : Addr) (w : World) : (ReflectliteValue.mk 36 p ReflectliteValue.flagAddr).run Tryz.prog w = .ok (.agg #[.pointer (some ⟨1, 36, none⟩), .pointer (some p), .int .u64 386]) w := by kernel_rfl
theorem elemVC (a p : Addr) (W : World) (ha : W.cell? a = some (.pointer (some p))) :
 (ReflectliteValue.method (ReflectliteValue.valueError "reflectlite.Value.Elem" 0) ReflectliteValue.elem #[.agg #[.pointer (some ⟨1, 115, none⟩), .pointer (some a), .int .u64 150]]).run Tryz.prog W
  = .ok (.agg #[.pointer (some ⟨1, 36, none⟩), .pointer (some p), .int .u64 386]) W := by
 rw [rlm]
 simp only [Sem.run_bind, partsC, Result.andThen]
 simp [ReflectliteValue.elem, loadVar, isAgg, underlying, Tryz.underlying115, ha, Result.andThen, elemOfC, mkC]
theorem partsAC (a : Addr) (w : World) : (ReflectliteValue.parts (.agg #[.pointer (some ⟨1, 36, none⟩), .pointer (some a), .int .u64 386])).run Tryz.prog w = .ok (some (36, a, 386)) w := by kernel_rfl
theorem partsEC (a : Addr) (w : World) : (ReflectliteValue.parts (.agg #[.pointer (some ⟨1, 36, none⟩), .pointer (some a), .int .u64 130])).run Tryz.prog w = .ok (some (36, a, 130)) w := by kernel_rfl
theorem directC (w : World) : (Rtype.directlyAssignable 36 36).run Tryz.prog w = .ok true w := by kernel_rfl
theorem setC (ta b : Addr) (e : Int) (old : Value) (W : World) (hb : W.cell? b = some (valC e)) (ht : W.cell? ta = some old) (hf : W.frozen? ta = false) :
 (ReflectliteValue.set #[.agg #[.pointer (some ⟨1, 36, none⟩), .pointer (some ta), .int .u64 386], .agg #[.pointer (some ⟨1, 36, none⟩), .pointer (some b), .int .u64 130]]).run Tryz.prog W
  = .ok (.tuple #[]) (W.setCell ta (valC e)) := by
 rw [rls]
 unfold valC at *
 simp only [Sem.run_bind, partsAC, partsEC, Result.andThen]
 simp [ReflectliteValue.flagAddr, loadVar, isAgg, underlying, Tryz.underlying36, hb, Result.andThen, directC, storeVar, Value.cells, storeCells, Addr.add]
 rw [run_store Tryz.prog W ta _ _ (by rfl)]
 simp [ht, hf]
theorem valueOfEC (e : Int) (w : World) : (ReflectliteValue.unpack (.iface 36 (valC e))).run Tryz.prog w
 = .ok (.agg #[.pointer (some ⟨1, 36, none⟩), .pointer (some ⟨w.heap.size, 0, none⟩), .int .u64 130]) (w.alloc (.cells #[valC e] 36)) := by kernel_rfl
theorem notAssignable (w : World) : (ReflectliteType.relation "AssignableTo" ReflectliteType.assignableTo #[.agg #[.pointer (some ⟨1, 143, none⟩)], .iface 126 (.agg #[.pointer (some ⟨1, 36, none⟩)])]).run Tryz.prog w = .ok (.bool false) w := by kernel_rfl
theorem noAsFault (v : Value) (xT : TypeId) (w : World) : (Instr.typeAssert (.iface 143 v) xT 200 true).run Tryz.prog w = .ok (.tuple #[.nilIface, .bool false]) w := run_typeAssert_lacksB Tryz.underlying200 (by kernel_rfl) (by kernel_rfl) v xT w
def ErrTy (w : World) : Prop := w.cell? ⟨0, 0, none⟩ = some (.iface 126 (.agg #[.pointer (some ⟨1, 30, none⟩)]))
def Put (w w' : World) (t : Nat) (v : Value) (T : Nat) : Prop := w'.os = w.os ∧ w'.tape = w.tape ∧ w'.output = w.output ∧ w.heap.size ≤ w'.heap.size ∧ (∀ k, k < w.heap.size → k ≠ t → w'.heap[k]? = w.heap[k]?) ∧ w'.heap[t]? = some (.cells #[v] T (0, 0))
theorem put_mk {w : World} {t T : Nat} {old v : Value} (ht : w.heap[t]? = some (.cells #[old] T (0, 0))) (A B : Obj) : Put w (((w.setCell ⟨t, 0, none⟩ v).alloc A).alloc B) t v T := by
 have hlt : t < w.heap.size := (Array.getElem?_eq_some_iff.1 ht).1
 have hz : (w.setCell ⟨t, 0, none⟩ v).heap.size = w.heap.size := by simp [World.setCell]
 refine ⟨rfl, rfl, rfl, by simp [World.setCell]; omega, fun k hk hn => ?_, ?_⟩
 ·
  rw [Below.heap_alloc _ _ _ (by simp; omega), Below.heap_alloc _ _ _ (by rw [hz]; exact hk), Below.heap_setCell _ _ _ _ hn]
 ·
  rw [Below.heap_alloc _ _ _ (by simp; omega), Below.heap_alloc _ _ _ (by rw [hz]; exact hlt)]
  simp [World.setCell, Array.getElem?_modify, ht]
theorem Put.weaken {w w1 w2 : World} {t T : Nat} {v : Value} (h1 : Below w.heap.size w w1) (h2 : Put w1 w2 t v T) : Put w w2 t v T :=
 ⟨h2.1.trans h1.os, h2.2.1.trans h1.tape, h2.2.2.1.trans h1.output, Nat.le_trans h1.size h2.2.2.2.1, fun k hk hn => (h2.2.2.2.2.1 k (Nat.lt_of_lt_of_le hk h1.size) hn).trans (h1.block k hk), h2.2.2.2.2.2⟩
structure Aside0' (p : Prop) : Prop where mk :: (out : p)
set_option maxHeartbeats 4000000 in
theorem asCode (c : Int) (n : Nat) (v : Value) (a : Addr) (t : Nat) (old : Value) (w : World) (h : ErrIs w c n v) (ha : w.cell? a = some (.pointer (some ⟨t, 0, none⟩))) (ht : w.heap[t]? = some (.cells #[old] 36 (0, 0))) :
 Calls Tryz.prog 65 #[v, .iface 115 (.pointer (some ⟨t, 0, none⟩)), .agg #[.pointer (some ⟨1, 115, none⟩), .pointer (some a), .int .u64 150], .iface 126 (.agg #[.pointer (some ⟨1, 36, none⟩)])] w
  fun ev w' => ev = .returned (.bool true) ∧ Put w w' t (valC c) 36 := by
 have tO := typeOfC
 have tF := typeOfF
 have a25 := assignableC
 have a26 := notAssignable
 have v25 := valueOfEC
 have nA := noAsFault
 have e5 := unwrapFault
 have e8 := nilAheadF
 have e9 := methodUnwrap
 have hlt : t < w.heap.size := (Array.getElem?_eq_some_iff.1 ht).1
 have hal : a.block < w.heap.size := by
  rcases Nat.lt_or_ge a.block w.heap.size with h | h
  ·
   exact h
  ·
   simp [World.cell?, Array.getElem?_eq_none h] at ha
 have hc0 : w.cell? ⟨t, 0, none⟩ = some old := cell_of_row w t 0 _ _ _ ht
 have hf0 : w.frozen? ⟨t, 0, none⟩ = false := by simp [World.frozen?, ht]
 have el := elemVC a ⟨t, 0, none⟩ (w.alloc (.cells #[.pointer (some ⟨1, 115, none⟩), .pointer (some a), .int .u64 150] 164)) (by rw [World.cell?_alloc_lt _ _ a hal]; exact ha)
 have st := setC ⟨t, 0, none⟩ ⟨w.heap.size + 1, 0, none⟩ c old ((w.alloc (.cells #[.pointer (some ⟨1, 115, none⟩), .pointer (some a), .int .u64 150] 164)).alloc (.cells #[valC c] 36))
  (by rw [World.cell?_alloc_at _ _ _ _ (by simp)]; rfl)
  (by rw [World.cell?_alloc_lt _ _ ⟨t, 0, none⟩ (by simp; omega), World.cell?_alloc_lt _ _ ⟨t, 0, none⟩ hlt]; exact hc0)
  (by rw [World.frozen?_alloc_old _ _ ⟨t, 0, none⟩ (by simp; omega), World.frozen?_alloc_old _ _ ⟨t, 0, none⟩ (Nat.ne_of_lt hlt)]; exact hf0)
 have h10 := @run_callFunc_extern Tryz.prog 20 _ (ReflectliteType.typeOf) Tryz.func20 (by kernel_rfl) (by kernel_rfl) (by kernel_rfl) (by kernel_rfl)
 have h35 := @run_callFunc_extern Tryz.prog 138 _ (ReflectliteType.relation "AssignableTo" ReflectliteType.assignableTo) Tryz.func138 (by kernel_rfl) (by kernel_rfl) (by kernel_rfl) (by kernel_rfl)
 have h11 := @run_callFunc_extern Tryz.prog 92 _ (ReflectliteValue.method (ReflectliteValue.valueError "reflectlite.Value.Elem" 0) ReflectliteValue.elem) Tryz.func92 (by kernel_rfl) (by kernel_rfl) (by kernel_rfl) (by kernel_rfl)
 have h12 := @run_callFunc_extern Tryz.prog 93 _ (ReflectliteValue.set) Tryz.func93 (by kernel_rfl) (by kernel_rfl) (by kernel_rfl) (by kernel_rfl)
 have h6 := @run_callFunc_extern Tryz.prog 62 _ (fun args => ReflectliteValue.unpack (args.getD 0 (.tuple #[]))) Tryz.func62 (by kernel_rfl) (by kernel_rfl) (by kernel_rfl) (by kernel_rfl)
 have mA := methodAssignableTo
 have HP := Aside0'.mk (fun A B : Obj => put_mk (v := valC c) ht A B)
 have HH := Aside0'.mk (show ErrIs (w.alloc (.cells #[.pointer (some ⟨1, 115, none⟩), .pointer (some a), .int .u64 150] 164)) c n v from h.below (fun b hb => Below.heap_alloc _ _ _ hb))
 clear ht ha hc0 hf0 h
 go_enter Tryz.func65, Tryz.ntmps65
 go_wp2
 go_loopg [0] (n + 1) (fun k v0 wr => wr = w.alloc (.cells #[.pointer (some ⟨1, 115, none⟩), .pointer (some a), .int .u64 150] 164) ∧ 0 < k ∧ Aside0' (ErrIs (w.alloc (.cells #[.pointer (some ⟨1, 115, none⟩), .pointer (some a), .int .u64 150] 164)) c (k - 1) v0))
 case atStart => exact ⟨rfl, by omega, HH⟩
 case round =>
  obtain ⟨hw, hk, HE⟩ := hrel
  subst hw
  obtain ⟨k, rfl⟩ : ∃ k, gk = k + 1 := ⟨gk - 1, by omega⟩
  simp only [Nat.add_sub_cancel] at HE
  cases k with
  | zero =>
   have hv : u0 = .iface 36 (valC c) := HE.out
   subst hv
   go_wp2
   go_ret
   exact ⟨rfl, HP.out _ _⟩
  | succ k =>
   obtain ⟨b, wh, at_, x, hv, hb, hx⟩ := HE.out
   subst hv
   have hc' := Aside0'.mk (cell_of_row _ b 2 _ _ _ hb)
   have HX := Aside0'.mk hx
   obtain ⟨tx, vx, hxv⟩ := hx.iface
   have hxn := fun w => run_eql_held_nil (P := Tryz.prog) w 30 tx vx Tryz.underlying30
   subst hxv
   clear hb hx
   go_wp2_with (first | (go_at_call 149; refine (unwrap_calls b _ _ hc'.out).mono ?_; rintro e w' ⟨rfl, rfl⟩))
   go_roundg (k + 1)
   case measure => omega
   case rel => exact ⟨rfl, by omega, HX⟩
set_option maxHeartbeats 4000000 in
theorem as_code (c : Int) (n : Nat) (v : Value) (t : Nat) (old : Value) (w : World) (h : ErrIs w c n v) (hg : ErrTy w) (ht : w.heap[t]? = some (.cells #[old] 36 (0, 0))) :
 Calls Tryz.prog 38 #[v, .iface 115 (.pointer (some ⟨t, 0, none⟩))] w fun ev w' => ev = .returned (.bool true) ∧ Put w w' t (valC c) 36 := by
 obtain ⟨tx, vx, rfl⟩ := h.iface
 have n1 := run_eql_held_nil (P := Tryz.prog) w 30 tx vx Tryz.underlying30
 have HH := Aside0'.mk (fun A B : Obj => (h.below (w' := (w.alloc A).alloc B) (fun b hb => by rw [Below.heap_alloc _ _ _ (by simp; omega), Below.heap_alloc _ _ _ hb])))
 clear h
 have hlt : t < w.heap.size := (Array.getElem?_eq_some_iff.1 ht).1
 have h0 : (0 : Nat) < w.heap.size := by
  rcases Nat.eq_zero_or_pos w.heap.size with h0 | h
  ·
   simp [ErrTy, World.cell?, h0] at hg
  ·
   exact h
 have hg2 : ((w.alloc (.cells #[.pointer (some ⟨t, 0, none⟩)] 115)).alloc (.cells #[.pointer (some ⟨1, 115, none⟩), .pointer (some ⟨w.heap.size, 0, none⟩), .int .u64 150] 164)).cell? ⟨0, 0, none⟩ = some (.iface 126 (.agg #[.pointer (some ⟨1, 30, none⟩)])) := by
  rw [World.cell?_alloc_lt _ _ ⟨0, 0, none⟩ (by simp), World.cell?_alloc_lt _ _ ⟨0, 0, none⟩ h0]; exact hg
 have hn8 := isNilC ⟨w.heap.size, 0, none⟩ ⟨t, 0, none⟩ ((w.alloc (.cells #[.pointer (some ⟨t, 0, none⟩)] 115)).alloc (.cells #[.pointer (some ⟨1, 115, none⟩), .pointer (some ⟨w.heap.size, 0, none⟩), .int .u64 150] 164)) (by simp)
 have HT := Aside0'.mk (show ((w.alloc (.cells #[.pointer (some ⟨t, 0, none⟩)] 115)).alloc (.cells #[.pointer (some ⟨1, 115, none⟩), .pointer (some ⟨w.heap.size, 0, none⟩), .int .u64 150] 164)).heap[t]? = some (.cells #[old] 36 (0, 0)) by rw [Below.heap_alloc _ _ _ (by simp; omega), Below.heap_alloc _ _ _ hlt]; exact ht)
 have HC := Aside0'.mk (show ((w.alloc (.cells #[.pointer (some ⟨t, 0, none⟩)] 115)).alloc (.cells #[.pointer (some ⟨1, 115, none⟩), .pointer (some ⟨w.heap.size, 0, none⟩), .int .u64 150] 164)).cell? ⟨w.heap.size, 0, none⟩ = some (.pointer (some ⟨t, 0, none⟩)) by simp)
 have HBL := Aside0'.mk (show Below w.heap.size w ((w.alloc (.cells #[.pointer (some ⟨t, 0, none⟩)] 115)).alloc (.cells #[.pointer (some ⟨1, 115, none⟩), .pointer (some ⟨w.heap.size, 0, none⟩), .int .u64 150] 164)) from ((Below.refl _ _).alloc (Nat.le_refl _) _).alloc (by simp) _)
 clear ht hg h0
 have v6 := valueOfC
 have y7 := typeC
 have k1 := kindC
 have k2 := kindEC
 have e2 := elemC
 have i2 := implementsC
 have h6 := @run_callFunc_extern Tryz.prog 62 _ (fun args => ReflectliteValue.unpack (args.getD 0 (.tuple #[]))) Tryz.func62 (by kernel_rfl) (by kernel_rfl) (by kernel_rfl) (by kernel_rfl)
 have h7 := @run_callFunc_extern Tryz.prog 63 _ (ReflectliteValue.methodAny (ReflectliteValue.valueError "reflectlite.Value.Type" 0) (fun t _ _ _ => ReflectliteType.toType t)) Tryz.func63 (by kernel_rfl) (by kernel_rfl) (by kernel_rfl) (by kernel_rfl)
 have h8 := @run_callFunc_extern Tryz.prog 64 _ (ReflectliteValue.method (ReflectliteValue.valueError "reflectlite.Value.IsNil" 0) ReflectliteValue.isNil) Tryz.func64 (by kernel_rfl) (by kernel_rfl) (by kernel_rfl) (by kernel_rfl)
 have h27 := @run_callFunc_extern Tryz.prog 133 _ (ReflectliteType.abiMethod fun t => do pure (.int .u8 (← Rtype.kind t))) Tryz.func133 (by kernel_rfl) (by kernel_rfl) (by kernel_rfl) (by kernel_rfl)
 have h37 := @run_callFunc_extern Tryz.prog 140 _ (ReflectliteType.method ReflectliteType.elem) Tryz.func140 (by kernel_rfl) (by kernel_rfl) (by kernel_rfl) (by kernel_rfl)
 have h38 := @run_callFunc_extern Tryz.prog 141 _ (ReflectliteType.relation "Implements" ReflectliteType.implements_) Tryz.func141 (by kernel_rfl) (by kernel_rfl) (by kernel_rfl) (by kernel_rfl)
 have mK := methodKind
 have mE := methodElem
 have mI := methodImplements
 go_enter Tryz.func38, Tryz.ntmps38
 go_wp2_with (go_at_call 65; refine (asCode c n _ ⟨w.heap.size, 0, none⟩ t old _ (HH.out _ _) HC.out HT.out).mono ?_; rintro ev w' ⟨rfl, hp⟩; have HPP := Aside0'.mk (Put.weaken HBL.out hp); clear hp)
 go_ret
 exact ⟨rfl, HPP.out⟩
theorem heap_new (w : World) (o : Obj) : (w.alloc o).heap[w.heap.size]? = some o := by
 show (w.heap.push o)[w.heap.size]? = _
 simp
theorem Put.back {w w' : World} {T : Nat} {v : Value} {o : Obj} (h : Put (w.alloc o) w' w.heap.size v T) : Below w.heap.size w w' :=
 ⟨h.1, h.2.1, h.2.2.1, by have := h.2.2.2.1; simp at this; omega, fun k hk => (h.2.2.2.2.1 k (by simp; omega) (by omega)).trans (Below.heap_alloc _ _ _ hk)⟩
theorem ErrTy.alloc {w : World} (h : ErrTy w) (o : Obj) : ErrTy (w.alloc o) := by
 have h0 : (0 : Nat) < w.heap.size := by
  rcases Nat.eq_zero_or_pos w.heap.size with h0 | h1
  ·
   simp [ErrTy, World.cell?, h0] at h
  ·
   exact h1
 unfold ErrTy
 rw [World.cell?_alloc_lt _ _ ⟨0, 0, none⟩ h0]
 exact h
theorem of_nil (w : World) : Calls Tryz.prog 12 #[.nilIface] w fun ev w' => ev = .returned (.int .i64 0) ∧ Below w.heap.size w w' := by
 go_enter Tryz.func12, Tryz.ntmps12
 go_wp2
 go_ret
 exact ⟨rfl, Below.refl _ _⟩
set_option maxHeartbeats 1000000 in
theorem of_err (c : Int) (n : Nat) (v : Value) (w : World) (h : ErrIs w c n v) (hg : ErrTy w) : Calls Tryz.prog 12 #[v] w fun ev w' => ev = .returned (.int .i64 c) ∧ Below w.heap.size w w' := by
 obtain ⟨tx, vx, rfl⟩ := h.iface
 have n1 := run_eql_held_nil (P := Tryz.prog) w 30 tx vx Tryz.underlying30
 have HH := Aside0'.mk (h.below (w' := w.alloc (.cells #[.int .i64 0] 36)) (fun b hb => Below.heap_alloc _ _ _ hb))
 have HG := Aside0'.mk (hg.alloc (.cells #[.int .i64 0] 36))
 clear h hg
 go_enter Tryz.func12, Tryz.ntmps12
 go_wp2_with (go_at_call 38; refine (as_code c n _ w.heap.size (.int .i64 0) _ HH.out HG.out (heap_new _ _)).mono ?_; rintro ev w' ⟨rfl, hp⟩; have HB := Aside0'.mk (Put.back hp); have hcc := cell_of_row w' w.heap.size 0 _ _ _ hp.2.2.2.2.2; clear hp)
 go_ret
 exact ⟨rfl, HB.out⟩
end Go.Proofs.YtlokmijoaocofaaGreatDoor.Mine
end
