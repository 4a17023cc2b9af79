/-
  Contracts of errors.Is, errors.As at errors that are codes, or faults around them (as this program makes them); of api.Of.
-/
import Derived.Test.YthaapijjjgkacaaDoorProg
import Derived.WalkKit
import Derived.LaidEql
import Derived.Stop.Asserts
import Derived.RowKitTokens
import Derived.Deep.LoopGhost
import Derived.Deep.RegionWith
import Derived.Outline
import Derived.BigQuiet
import Derived.KernelRfl
import Derived.WideLaws
namespace Go.Proofs.YthaapijjjgkacaaDoor.Mine
open Go.RowKit Go.Extern.Stop Go.Stop Go.Extern

section
variable {P : Program} (w : World)
theorem run_equalIn_iface_int (d : Nat) {ti tn : TypeId} {ms : Array (String × TypeId)} {i : TypeInfo} {k : IntKind} (a b : Int)
    (hi : P.underlying ti = some (.interface ms)) (hn : P.underlying tn = some (.int k)) (hinfo : P.info? tn = some i) (hcomp : i.comparable = true) :
    (Op.equalIn (d + 2) ti (.iface tn (.int k a)) (.iface tn (.int k b))).run P w = .ok (a == b) w := by
  simp [Op.equalIn, run_underlying hi, run_underlying hn, typeInfo, hinfo, hcomp]
theorem run_eql_iface_int {ti tn : TypeId} {ms : Array (String × TypeId)} {i : TypeInfo} {k : IntKind} (a b : Int)
    (hi : P.underlying ti = some (.interface ms)) (hn : P.underlying tn = some (.int k)) (hinfo : P.info? tn = some i) (hcomp : i.comparable = true) :
    (binOp .eql ti (.iface tn (.int k a)) (.iface tn (.int k b))).run P w = .ok (.bool (a == b)) w := by
  simp only [binOp]
  simp [Op.equal, Op.maxDepth, run_equalIn_iface_int w 9998 a b hi hn hinfo hcomp]
end

/-- An error that is a code, within n faults. -/
def ErrIs (w : World) (c : Int) : Nat → Value → Prop
  | 0, v => v = .iface 35 (.int .i64 c)
  | n + 1, v => ∃ (b : Nat) (wh : ByteArray) (at_ : Int) (x : Value), v = .iface 67 (.pointer (some ⟨b, 0, none⟩)) ∧ w.heap[b]? = some (.cells #[.string wh, .int .i64 at_, x] 71 (0, 0)) ∧ ErrIs w c n x
theorem ErrIs.below {w w' : World} {c : Int} (hb : ∀ b, b < w.heap.size → w'.heap[b]? = w.heap[b]?) : ∀ {n : Nat} {v : Value}, ErrIs w c n v → ErrIs w' c n v
  | 0, _, h => h
  | _ + 1, _, ⟨b, wh, at_, x, hv, hc, hx⟩ => ⟨b, wh, at_, x, hv, (hb b (Array.getElem?_eq_some_iff.1 hc).1).trans hc, ErrIs.below hb hx⟩

theorem ErrIs.iface {w : World} {c : Int} : ∀ {n : Nat} {v : Value}, ErrIs w c n v → ∃ t y, v = .iface t y
  | 0, _, h => ⟨_, _, h⟩
  | _ + 1, _, ⟨_, _, _, _, h, _⟩ => ⟨_, _, h⟩
theorem info35 : (Tryd.prog.info? 35).map (·.comparable) = some true := by kernel_rfl
theorem eqCode (a b : Int) (w : World) : (binOp .eql 28 (.iface 35 (.int .i64 a)) (.iface 35 (.int .i64 b))).run Tryd.prog w = .ok (.bool (a == b)) w := by
  obtain ⟨i, hi, hc⟩ := Option.map_eq_some_iff.1 info35
  exact run_eql_iface_int w a b Tryd.underlying28 Tryd.underlying35 hi hc
theorem eqFault (a : Value) (b : Int) (w : World) : (binOp .eql 28 (.iface 67 a) (.iface 35 (.int .i64 b))).run Tryd.prog w = .ok (.bool false) w :=
  run_eql_iface_types _ _ _ _ Tryd.underlying28 (by decide) w
theorem noIsFault (v : Value) (xT : TypeId) (w : World) : (Instr.typeAssert (.iface 67 v) xT 123 true).run Tryd.prog w = .ok (.tuple #[.nilIface, .bool false]) w := run_typeAssert_lacksB Tryd.underlying123 (by kernel_rfl) (by kernel_rfl) v xT w
theorem noIsCode (v : Value) (xT : TypeId) (w : World) : (Instr.typeAssert (.iface 35 v) xT 123 true).run Tryd.prog w = .ok (.tuple #[.nilIface, .bool false]) w := run_typeAssert_lacksB Tryd.underlying123 (by kernel_rfl) (by kernel_rfl) v xT w
theorem unwrapFault (v : Value) (xT : TypeId) (w : World) : (Instr.typeAssert (.iface 67 v) xT 126 true).run Tryd.prog w = .ok (.tuple #[.iface 67 v, .bool true]) w := run_typeAssert_hasB Tryd.underlying126 (by kernel_rfl) v xT w
theorem noUnwrapCode (v : Value) (xT : TypeId) (w : World) : (Instr.typeAssert (.iface 35 v) xT 126 true).run Tryd.prog w = .ok (.tuple #[.nilIface, .bool false]) w := run_typeAssert_lacksB Tryd.underlying126 (by kernel_rfl) (by kernel_rfl) v xT w
theorem noUnwrapsCode (v : Value) (xT : TypeId) (w : World) : (Instr.typeAssert (.iface 35 v) xT 127 true).run Tryd.prog w = .ok (.tuple #[.nilIface, .bool false]) w := run_typeAssert_lacksB Tryd.underlying127 (by kernel_rfl) (by kernel_rfl) v xT w
theorem nilAheadF (a : Addr) (w : World) : (nilAhead 291 67 (.pointer (some a)) "Unwrap").run Tryd.prog w = .ok (some false) w := by kernel_rfl
theorem methodUnwrap (a : Addr) (w : World) : (Go.method 291 67 (.pointer (some a)) "Unwrap").run Tryd.prog w = .ok (116, .pointer (some a)) w := by kernel_rfl

theorem unwrap_calls (b : Nat) (x : Value) (w : World) (hc : w.cell? ⟨b, 2, none⟩ = some x) : Calls Tryd.prog 116 #[.pointer (some ⟨b, 0, none⟩)] w fun e w' => e = .returned x ∧ w = w' := by
  go_enter Tryd.func116, Tryd.ntmps116
  go_wp2
  go_ret
  exact ⟨rfl, rfl⟩

set_option maxHeartbeats 1000000 in
set_option maxRecDepth 100000 in
theorem is_loop (c c2 : Int) (n : Nat) (v : Value) (w : World) (h : ErrIs w c n v) :
    Calls Tryd.prog 38 #[v, .iface 35 (.int .i64 c2), .bool true] w fun e w' => e = .returned (.bool (c == c2)) ∧ w = w' := by
  have e1 := eqCode
  have e2 := eqFault
  have e3 := noIsFault
  have e4 := noIsCode
  have e5 := unwrapFault
  have e6 := noUnwrapCode
  have e7 := noUnwrapsCode
  have e8 := nilAheadF
  have e9 := methodUnwrap
  have HH : Aside (ErrIs w c n v) := h
  clear h
  go_enter Tryd.func38, Tryd.ntmps38
  go_wp2
  go_loopg [0] (n + 1) (fun k v0 wr => wr = w ∧ 0 < k ∧ Aside (ErrIs w c (k - 1) v0))
  case atStart => exact ⟨rfl, by omega, HH⟩
  case round =>
    obtain ⟨hw, hk, HE⟩ := hrel
    subst hw
    obtain ⟨k, rfl⟩ : ∃ k, gk = k + 1 := ⟨gk - 1, by omega⟩
    simp only [Nat.add_sub_cancel] at HE
    cases k with
    | zero =>
      have hv : u0 = .iface 35 (.int .i64 c) := HE.out
      subst hv
      cases hcc : (c == c2) with
      | true =>
        go_wp2
        repeat (go_quiet (fail); try go_wp2)
        go_ret
        exact ⟨by rw [hcc]; rfl, rfl⟩
      | false =>
        go_wp2
        repeat (go_quiet (fail); try go_wp2)
        go_ret
        exact ⟨by rw [hcc]; rfl, rfl⟩
    | succ k =>
      obtain ⟨b, wh, at_, x, hv, hb, hx⟩ := HE.out
      subst hv
      have hc := cell_of_row wr b 2 _ _ _ hb
      have hc' : wr.cell? ⟨b, 2, none⟩ = some x := hc
      have HX : Aside (ErrIs wr c k x) := hx
      obtain ⟨tx, vx, hxv⟩ := hx.iface
      have hxn := run_eql_held_nil (P := Tryd.prog) wr 28 tx vx Tryd.underlying28
      subst hxv
      clear hc hb hx
      go_wp2_with (first | (go_at_call 116; refine (unwrap_calls b _ _ hc').mono ?_; rintro e w' ⟨rfl, rfl⟩))
      go_roundg (k + 1)
      case measure => omega
      case rel => exact ⟨rfl, by omega, HX⟩

theorem typeOfCode (v : Value) (w : World) : (ReflectliteType.typeOf #[.iface 35 v]).run Tryd.prog w = .ok (.iface 121 (.agg #[.pointer (some ⟨4, 35, none⟩)])) w := by kernel_rfl
theorem methodComparable (h : Value) (w : World) : (Go.method 291 121 (.agg #[h]) "Comparable").run Tryd.prog w = .ok (123, .agg #[h]) w := by kernel_rfl
theorem isComparable (w : World) : ((ReflectliteType.method fun t => do Rtype.noPackHeld "Comparable" t; (fun a => Value.bool a.comparable) <$> typeInfo t) #[.agg #[.pointer (some ⟨4, 35, none⟩)]]).run Tryd.prog w = .ok (.bool true) w := by kernel_rfl
set_option maxHeartbeats 1000000 in
set_option maxRecDepth 100000 in
theorem is_err (c c2 : Int) (n : Nat) (v : Value) (w : World) (h : ErrIs w c n v) :
    Calls Tryd.prog 16 #[v, .iface 35 (.int .i64 c2)] w fun e w' => e = .returned (.bool (c == c2)) ∧ w = w' := by
  obtain ⟨tx, vx, rfl⟩ := h.iface
  have HH : Aside (ErrIs w c n (.iface tx vx)) := h
  clear h
  have n1 := run_eql_held_nil (P := Tryd.prog) w 28 tx vx Tryd.underlying28
  have n2 := run_eql_held_nil (P := Tryd.prog) w 28 35 (.int .i64 c2) Tryd.underlying28
  have h8 := @run_callFunc_extern Tryd.prog 37 _ ReflectliteType.typeOf Tryd.func37 (by kernel_rfl) (by kernel_rfl) (by kernel_rfl) (by kernel_rfl)
  have h32 := @run_callFunc_extern Tryd.prog 123 _ (ReflectliteType.method fun t => do Rtype.noPackHeld "Comparable" t; pure (.bool (← typeInfo t).comparable)) Tryd.func123 (by kernel_rfl) (by kernel_rfl) (by kernel_rfl) (by kernel_rfl)
  have t1 := typeOfCode
  have m1 := methodComparable
  have c1 := isComparable
  go_enter Tryd.func16, Tryd.ntmps16
  go_wp2_with (first | (go_at_call 38; refine (is_loop c c2 n _ _ HH.out).mono ?_; rintro e w' ⟨rfl, rfl⟩))
  go_ret
  exact ⟨rfl, rfl⟩
set_option maxRecDepth 100000 in
theorem is_nil (c2 : Int) (w : World) : Calls Tryd.prog 16 #[.nilIface, .iface 35 (.int .i64 c2)] w fun e w' => e = .returned (.bool false) ∧ w = w' := by
  have hn := run_eql_iface_nil_left (P := Tryd.prog) w 35 (.int .i64 c2) Tryd.underlying28
  go_enter Tryd.func16, Tryd.ntmps16
  go_wp2
  go_ret
  exact ⟨rfl, rfl⟩
end Go.Proofs.YthaapijjjgkacaaDoor.Mine
