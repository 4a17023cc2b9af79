/- Texts of one claim, one behind the other, made short by a program. -/
import Derived.Test.YtnmpijbcajclgaaGreatDoorMN18
set_option linter.unusedSimpArgs false
set_option linter.unusedVariables false
set_option maxRecDepth 100000
section
namespace Go.Proofs.YtnmpijbcajclgaaGreatDoor.Mine
open Go.Maps Go.RowKit YtnmpijbcajclgaaGreatDoorW.PrintWords YtnmpijbcajclgaaGreatDoorW.PrintLast YtnmpijbcajclgaaGreatDoorW.PrintMore
open PNodeAlone
theorem lit_attr (w : World) (nm : ByteArray) (k lo hi : Int) : Kd.R kAt tA (w.alloc (.cells #[.string nm, .int .i64 k, .int .i64 lo, .int .i64 hi] tA)) w.heap.size (fun _ => True) (.slice (some ⟨w.heap.size, 0, none⟩) 1 1) [⟨nm, k, lo, hi⟩] :=
 ⟨fun _ _ => trivial, [.string nm, .int .i64 k, .int .i64 lo, .int .i64 hi], World.ownsRow_lit (base := w.heap.size) (e := tA) (size := 4) w #[.string nm, .int .i64 k, .int .i64 lo, .int .i64 hi] 1 (Nat.le_refl _) (by decide) rfl, ⟨rfl, fun i x hx => by
  match i, hx with
  | 0, hx =>
   obtain rfl := Option.some.inj hx
   exact k30_mkM _ _ _ _⟩⟩
theorem lit_val (w : World) (n : Int) (s : ByteArray) : Kd.R kVa tV (w.alloc (.cells #[.int .i64 n, .string s] tV)) w.heap.size (fun _ => True) (.slice (some ⟨w.heap.size, 0, none⟩) 1 1) [⟨n, s⟩] :=
 ⟨fun _ _ => trivial, [.int .i64 n, .string s], World.ownsRow_lit (base := w.heap.size) (e := tV) (size := 2) w #[.int .i64 n, .string s] 1 (Nat.le_refl _) (by decide) rfl, ⟨rfl, fun i x hx => by
  match i, hx with
  | 0, hx =>
   obtain rfl := Option.some.inj hx
   exact k37_mkM _ _ _ _⟩⟩
def SAw : List SA := [⟨⟨#[112, 114, 105, 99, 101]⟩, 1, 0, 99⟩]
def VAw : List SV := [⟨5, ⟨#[]⟩⟩]
def TAw : ByteArray := ⟨#[112, 114, 105, 99, 101, 32, 105, 110, 32, 51, 46, 46, 57]⟩
theorem ckAw : checkBad SAw = none := by decide +kernel
theorem ebAw : evBad SAw VAw ⟨#[]⟩ = none := by decide +kernel
theorem rdAw : ∃ xs, readR SAw TAw = .inl xs ∧ matchB SAw (xs.map toP) VAw ⟨#[]⟩ = true := by
 have h : (match readR SAw TAw with | .inl xs => matchB SAw (xs.map toP) VAw ⟨#[]⟩ | .inr _ => false) = true := by decide +kernel
 cases hr : readR SAw TAw with
 | inl xs => rw [hr] at h; exact ⟨xs, rfl, h⟩
 | inr c => rw [hr] at h; cases h
def PA2 (F : List SP) : Nd := (((Nd.new 0).sub F).pub VAw ⟨#[]⟩)
theorem tickAw {F : List SP} (h : matchB SAw F VAw ⟨#[]⟩ = true) : (PA2 F).tick SAw = ⟨0, [⟨1, F⟩], 1, [⟨1, 0, 1, VAw, ⟨#[]⟩⟩], [], 1, 0⟩ := by
 show ({ (PA2 F).arrive SAw ⟨1, VAw, ⟨#[]⟩⟩ with opn := [] } : Nd) = _
 have e : arrS SAw 0 ⟨1, VAw, ⟨#[]⟩⟩ [⟨1, F⟩] ([], 0) = ([⟨1, 0, 1, VAw, ⟨#[]⟩⟩], 0) := by
  show (if matchB SAw F VAw ⟨#[]⟩ = true then _ else _) = _
  rw [if_pos h]
  rfl
 show (⟨0, [⟨1, F⟩], 1, (arrS SAw 0 ⟨1, VAw, ⟨#[]⟩⟩ [⟨1, F⟩] ([], 0)).1, [], 1, (arrS SAw 0 ⟨1, VAw, ⟨#[]⟩⟩ [⟨1, F⟩] ([], 0)).2⟩ : Nd) = _
 rw [e]
theorem al_open {base g : Nat} {w0 w : World} {S : List SA} {lev : Int} {P : Nd} (al : Al base g w0 w S lev P) : Calls Tryz.prog 33 #[ptr g] w fun e w' => (∃ A c, e = .returned (.slice A P.opn.length c)) ∧ Below w.heap.size w w' := by
 obtain ⟨h, N, h1, h2, rfl, rfl, hF, hG⟩ := al.nd
 have hlen := NdM.pl_len h2
 have := open_calls base g h N w h1 hF.nOpn
 rw [hlen.2.1] at this
 exact this
set_option maxHeartbeats 8000000 in
theorem awake_calls (w : World) (hT : TabI w) : Calls Tryz.prog 9 #[] w fun e w' => e = .returned (.bool true) ∧ Below w.heap.size w w' := by
 obtain ⟨xs, hrd, hmt⟩ := rdAw
 have HT := mk0 hT
 have HM := mk0 (And.intro hrd hmt)
 clear hT hrd hmt
 go_enter Tryz.func9, Tryz.ntmps9
 go_wp2_with fail
 have hb1 := below_alloc (Below.refl w.heap.size w) (.cells #[.string ⟨#[112, 114, 105, 99, 101]⟩, .int .i64 1, .int .i64 0, .int .i64 99] tA)
 have hr1 := lit_attr w ⟨#[112, 114, 105, 99, 101]⟩ 1 0 99
 generalize w.alloc (.cells #[.string ⟨#[112, 114, 105, 99, 101]⟩, .int .i64 1, .int .i64 0, .int .i64 99] tA) = w1 at hb1 hr1 ⊢
 refine (al_new (some ⟨w.heap.size, 0, none⟩) 1 1 SAw 0 3 w.heap.size (fun _ => True) w w1 ⟨by decide, by decide⟩ ⟨by decide, by decide⟩ hr1 hb1.size ckAw (TabI.below HT.out hb1) hb1).mono ?_
 rintro e w2 ⟨g, rfl, al⟩
 generalize w1.heap.size = base at al
 have HA := mk0 al
 unfold ptr
 clear al hb1 hr1 HT
 go_wp2_with fail
 have hs : Calls Tryz.prog 11 #[.pointer (some ⟨g, 0, none⟩), .string ⟨#[112, 114, 105, 99, 101, 32, 105, 110, 32, 51, 46, 46, 57]⟩] w2 fun e w' => e = .returned (.tuple #[.int .i64 1, .nilIface]) ∧ Al base g w w' SAw 3 ((Nd.new 0).sub (xs.map toP)) := al_sub_ok HA.out TAw xs (by decide) HM.out.1 (by decide) (by decide)
 refine hs.mono ?_
 rintro e w3 ⟨rfl, al⟩
 have HA3 := mk0 al
 clear HA al hs
 go_wp2_with fail
 have hb4 := below_alloc (Below.refl w3.heap.size w3) (.cells #[.int .i64 5, .string ⟨#[]⟩] tV)
 have hr4 := lit_val w3 5 ⟨#[]⟩
 generalize w3.alloc (.cells #[.int .i64 5, .string ⟨#[]⟩] tV) = w4 at hb4 hr4 ⊢
 have hs : Calls Tryz.prog 12 #[.pointer (some ⟨g, 0, none⟩), .agg #[.slice (some ⟨w3.heap.size, 0, none⟩) 1 1, .string ⟨#[]⟩]] w4 fun e w' => e = .returned (.tuple #[.int .i64 1, .nilIface]) ∧ Al base g w w' SAw 3 (PA2 (xs.map toP)) := al_pub_ok (HA3.out.keep hb4) 1 1 w3.heap.size (fun _ => True) (some ⟨w3.heap.size, 0, none⟩) VAw ⟨#[]⟩ hr4 ebAw (by show (0 : Nat) < 8; decide) (by show (0 : Int) < 1073741824; decide)
 refine hs.mono ?_
 rintro e w5 ⟨rfl, al⟩
 have HA5 := mk0 al
 clear HA3 al hs hb4 hr4
 go_wp2_with fail
 have hs : Calls Tryz.prog 13 #[.pointer (some ⟨g, 0, none⟩), .int .i64 1, .iface tOwn (.int .i64 0)] w5 fun e w' => e = .returned (.tuple #[]) ∧ Al base g w w' SAw 3 ⟨0, [⟨1, xs.map toP⟩], 1, [⟨1, 0, 1, VAw, ⟨#[]⟩⟩], [], 1, 0⟩ := by
  have := al_tick HA5.out 1 0 (by show (0 : Int) ≤ 900000; decide)
  rw [tickAw HM.out.2] at this
  exact this
 refine hs.mono ?_
 rintro e w6 ⟨rfl, al⟩
 have HA6 := mk0 al
 clear HA5 al hs
 go_wp2_with fail
 have hs : Calls Tryz.prog 14 #[.pointer (some ⟨g, 0, none⟩), .int .i64 9] w6 fun e w' => ∃ A c L, e = .returned (.slice A 1 c) ∧ Kd.R kDl tDl w' base (fun _ => True) (.slice A 1 c) L ∧ L.map MDl.pl = [⟨1, 0, 1, VAw, ⟨#[]⟩⟩] ∧ Al base g w w' SAw 3 ⟨0, [⟨1, xs.map toP⟩], 1, [], [], 1, 0⟩ := al_poll HA6.out 9
 refine hs.mono ?_
 rintro e w7 ⟨A, c, L, rfl, hR, hL, al⟩
 obtain ⟨d, rfl, hd⟩ : ∃ d, L = [d] ∧ d.pl = ⟨1, 0, 1, VAw, ⟨#[]⟩⟩ := by
  match L, hL with
  | [d], hL => exact ⟨d, rfl, (List.cons.inj hL).1⟩
 have h1 : d.sub = 1 := congrArg NDl.sub hd
 have h2 : d.seq = 1 := congrArg NDl.seq hd
 obtain ⟨gd, cap, hv, _, _, _⟩ := Kd.R_form hR (show 0 < 1 by decide)
 injection hv with hv1 hv2 hv3
 subst hv1 hv3
 obtain ⟨ad, x, B, b, hA, hx, c0, c1, c2, c3, c4, _⟩ := at_Dl (Kd.R_reads' hR).2.2 0 (show 0 < 1 by decide)
 obtain rfl : (⟨gd, 0, none⟩ : Addr) = ad := Option.some.inj hA
 obtain rfl : d = x := Option.some.inj hx
 rw [h1] at c0
 rw [h2] at c2
 replace c0 : w7.cell? ⟨gd, 0, none⟩ = some (.int .i64 1) := c0
 replace c2 : w7.cell? ⟨gd, 2, none⟩ = some (.int .i64 1) := c2
 have HA7 := mk0 al
 clear HA6 al hs hR hL hx hd h1 h2 c1 c3 c4 hA hv2
 go_upto_region 8 with (fail)
 have hs := al_open HA7.out
 unfold ptr at hs
 have HOP := mk0 hs
 clear hs
 go_wp2_with fail
 refine HOP.out.mono ?_
 rintro e w8 ⟨⟨A9, c9, rfl⟩, hb8⟩
 have HF := mk0 (HA7.out.keep hb8).below
 clear HA7 hb8 HOP
 go_wp2
 go_ret
 exact ⟨rfl, HF.out⟩
end Go.Proofs.YtnmpijbcajclgaaGreatDoor.Mine
end
section
namespace Go.Proofs.YtnmpijbcajclgaaGreatDoor.Mine
open Go.RowKit Go.Extern.Stop Go.Stop Go.Extern
theorem rlm (z : Sem Value) (f : TypeId → Addr → Nat → Nat → Sem Value) (v : Value) :
 ReflectliteValue.method z f #[v] = (do match ← ReflectliteValue.parts v with | none => z | some (t, a, fl) => f t a fl (fl % 32)) := rfl
theorem rls (v x : Value) : ReflectliteValue.set #[v, x] = (do
 let (some (dst, a, fl), some (src, b, _)) := (← ReflectliteValue.parts v, ← ReflectliteValue.parts x)
  | unsupported (.noEntry "extern/(internal/reflectlite.Value).Set.zeroValue")
 if fl / ReflectliteValue.flagAddr % 2 == 0 then unsupported (.noEntry "extern/(internal/reflectlite.Value).Set.unaddressable")
 let val ← loadVar src b
 if ← Rtype.directlyAssignable dst src then storeVar dst a val
 else if ← Rtype.implements dst src then
  if (← Rtype.kind src) == 20 then
   match val with
   | .nilIface => unsupported (.noEntry "extern/reflectlite: a nil value of one interface type handed on as a value of another")
   | _ => storeVar dst a val
  else storeVar dst a (.iface src val)
 else panicString ("reflectlite.Set: value of type " ++ (← Rtype.spelt src) ++ " is not assignable to type " ++ (← Rtype.spelt dst))
 pure (.tuple #[])) := rfl
theorem methodKind (h : Value) (w : World) : (Go.method 489 278 (.agg #[h]) "Kind").run Tryz.prog w = .ok (271, h) w := by kernel_rfl
theorem methodElem (h : Value) (w : World) : (Go.method 489 278 (.agg #[h]) "Elem").run Tryz.prog w = .ok (288, .agg #[h]) w := by kernel_rfl
theorem methodImplements (h : Value) (w : World) : (Go.method 489 278 (.agg #[h]) "Implements").run Tryz.prog w = .ok (289, .agg #[h]) w := by kernel_rfl
theorem methodAssignableTo (h : Value) (w : World) : (Go.method 489 278 (.agg #[h]) "AssignableTo").run Tryz.prog w = .ok (286, .agg #[h]) w := by kernel_rfl
def valC (e : Int) : Value := .int .i64 e
theorem typeOfF (v : Value) (w : World) : (ReflectliteType.typeOf #[.iface 178 v]).run Tryz.prog w = .ok (.iface 278 (.agg #[.pointer (some ⟨4, 178, none⟩)])) w := by kernel_rfl
theorem valueOfC (t : Addr) (w : World) : (ReflectliteValue.unpack (.iface 146 (.pointer (some t)))).run Tryz.prog w
 = .ok (.agg #[.pointer (some ⟨4, 146, none⟩), .pointer (some ⟨w.heap.size, 0, none⟩), .int .u64 150]) (w.alloc (.cells #[.pointer (some t)] 146)) := by kernel_rfl
theorem typeC (a : Addr) (w : World) : (ReflectliteValue.methodAny (ReflectliteValue.valueError "reflectlite.Value.Type" 0) (fun t _ _ _ => ReflectliteType.toType t) #[.agg #[.pointer (some ⟨4, 146, none⟩), .pointer (some a), .int .u64 150]]).run Tryz.prog w
 = .ok (.iface 278 (.agg #[.pointer (some ⟨4, 146, none⟩)])) w := by kernel_rfl
theorem kindC (w : World) : ((ReflectliteType.abiMethod fun t => (fun a : Nat => Value.int IntKind.u8 (a : Int)) <$> Rtype.kind t) #[.pointer (some ⟨4, 146, none⟩)]).run Tryz.prog w = .ok (.int .u8 22) w := by kernel_rfl
theorem kindEC (w : World) : ((ReflectliteType.abiMethod fun t => (fun a : Nat => Value.int IntKind.u8 (a : Int)) <$> Rtype.kind t) #[.pointer (some ⟨4, 49, none⟩)]).run Tryz.prog w = .ok (.int .u8 2) w := by kernel_rfl
theorem partsC (a : Addr) (w : World) : (ReflectliteValue.parts (.agg #[.pointer (some ⟨4, 146, none⟩), .pointer (some a), .int .u64 150])).run Tryz.prog w = .ok (some (146, a, 150)) w := by kernel_rfl
theorem isNilC (a p : Addr) (W : World) (ha : W.cell? a = some (.pointer (some p))) :
 (ReflectliteValue.method (ReflectliteValue.valueError "reflectlite.Value.IsNil" 0) ReflectliteValue.isNil #[.agg #[.pointer (some ⟨4, 146, none⟩), .pointer (some a), .int .u64 150]]).run Tryz.prog W = .ok (.bool false) W := by
 rw [rlm]
 simp only [Sem.run_bind, partsC, Result.andThen]
 simp [ReflectliteValue.isNil, loadVar, isAgg, underlying, Tryz.underlying146, ha, Result.andThen]
theorem elemC (w : World) : (ReflectliteType.method ReflectliteType.elem #[.agg #[.pointer (some ⟨4, 146, none⟩)]]).run Tryz.prog w = .ok (.iface 278 (.agg #[.pointer (some ⟨4, 49, none⟩)])) w := by kernel_rfl
theorem implementsC (w : World) : (ReflectliteType.relation "Implements" ReflectliteType.implements_ #[.agg #[.pointer (some ⟨4, 49, none⟩)], .iface 278 (.agg #[.pointer (some ⟨4, 26, none⟩)])]).run Tryz.prog w = .ok (.bool true) w := by kernel_rfl
theorem typeOfC (v : Value) (w : World) : (ReflectliteType.typeOf #[.iface 49 v]).run Tryz.prog w = .ok (.iface 278 (.agg #[.pointer (some ⟨4, 49, none⟩)])) w := by kernel_rfl
theorem assignableC (w : World) : (ReflectliteType.relation "AssignableTo" ReflectliteType.assignableTo #[.agg #[.pointer (some ⟨4, 49, none⟩)], .iface 278 (.agg #[.pointer (some ⟨4, 49, none⟩)])]).run Tryz.prog w = .ok (.bool true) w := by kernel_rfl
theorem elemOfC (w : World) : (Rtype.elem? 146).run Tryz.prog w = .ok (some 49) w := by kernel_rfl
theorem mkC (p : Addr) (w : World) : (ReflectliteValue.mk 49 p ReflectliteValue.flagAddr).run Tryz.prog w = .ok (.agg #[.pointer (some ⟨4, 49, none⟩), .pointer (some p), .int .u64 386]) w := by kernel_rfl
theorem elemVC (a p : Addr) (W : World) (ha : W.cell? a = some (.pointer (some p))) :
 (ReflectliteValue.method (ReflectliteValue.valueError "reflectlite.Value.Elem" 0) ReflectliteValue.elem #[.agg #[.pointer (some ⟨4, 146, none⟩), .pointer (some a), .int .u64 150]]).run Tryz.prog W
  = .ok (.agg #[.pointer (some ⟨4, 49, none⟩), .pointer (some p), .int .u64 386]) W := by
 rw [rlm]
 simp only [Sem.run_bind, partsC, Result.andThen]
 simp [ReflectliteValue.elem, loadVar, isAgg, underlying, Tryz.underlying146, ha, Result.andThen, elemOfC, mkC]
theorem partsAC (a : Addr) (w : World) : (ReflectliteValue.parts (.agg #[.pointer (some ⟨4, 49, none⟩), .pointer (some a), .int .u64 386])).run Tryz.prog w = .ok (some (49, a, 386)) w := by kernel_rfl
theorem partsEC (a : Addr) (w : World) : (ReflectliteValue.parts (.agg #[.pointer (some ⟨4, 49, none⟩), .pointer (some a), .int .u64 130])).run Tryz.prog w = .ok (some (49, a, 130)) w := by kernel_rfl
theorem directC (w : World) : (Rtype.directlyAssignable 49 49).run Tryz.prog w = .ok true w := by kernel_rfl
theorem setC (ta b : Addr) (e : Int) (old : Value) (W : World) (hb : W.cell? b = some (valC e)) (ht : W.cell? ta = some old) (hf : W.frozen? ta = false) :
 (ReflectliteValue.set #[.agg #[.pointer (some ⟨4, 49, none⟩), .pointer (some ta), .int .u64 386], .agg #[.pointer (some ⟨4, 49, none⟩), .pointer (some b), .int .u64 130]]).run Tryz.prog W
  = .ok (.tuple #[]) (W.setCell ta (valC e)) := by
 rw [rls]
 unfold valC at *
 simp only [Sem.run_bind, partsAC, partsEC, Result.andThen]
 simp [ReflectliteValue.flagAddr, loadVar, isAgg, underlying, Tryz.underlying49, hb, Result.andThen, directC, storeVar, Value.cells, storeCells, Addr.add]
 rw [run_store Tryz.prog W ta _ _ (by rfl)]
 simp [ht, hf]
theorem valueOfEC (e : Int) (w : World) : (ReflectliteValue.unpack (.iface 49 (valC e))).run Tryz.prog w
 = .ok (.agg #[.pointer (some ⟨4, 49, none⟩), .pointer (some ⟨w.heap.size, 0, none⟩), .int .u64 130]) (w.alloc (.cells #[valC e] 49)) := by kernel_rfl
theorem notAssignable (w : World) : (ReflectliteType.relation "AssignableTo" ReflectliteType.assignableTo #[.agg #[.pointer (some ⟨4, 178, none⟩)], .iface 278 (.agg #[.pointer (some ⟨4, 49, none⟩)])]).run Tryz.prog w = .ok (.bool false) w := by kernel_rfl
theorem noAsFault (v : Value) (xT : TypeId) (w : World) : (Instr.typeAssert (.iface 178 v) xT 282 true).run Tryz.prog w = .ok (.tuple #[.nilIface, .bool false]) w := run_typeAssert_lacksB Tryz.underlying282 (by kernel_rfl) (by kernel_rfl) v xT w
def ErrTy (w : World) : Prop := w.cell? ⟨0, 0, none⟩ = some (.iface 278 (.agg #[.pointer (some ⟨4, 26, none⟩)]))
def Put (w w' : World) (t : Nat) (v : Value) (T : Nat) : Prop := w'.os = w.os ∧ w'.tape = w.tape ∧ w'.output = w.output ∧ w.heap.size ≤ w'.heap.size ∧ (∀ k, k < w.heap.size → k ≠ t → w'.heap[k]? = w.heap[k]?) ∧ w'.heap[t]? = some (.cells #[v] T (0, 0))
theorem put_mk {w : World} {t T : Nat} {old v : Value} (ht : w.heap[t]? = some (.cells #[old] T (0, 0))) (A B : Obj) : Put w (((w.setCell ⟨t, 0, none⟩ v).alloc A).alloc B) t v T := by
 have hlt : t < w.heap.size := (Array.getElem?_eq_some_iff.1 ht).1
 have hz : (w.setCell ⟨t, 0, none⟩ v).heap.size = w.heap.size := by simp [World.setCell]
 refine ⟨rfl, rfl, rfl, by simp [World.setCell]; omega, fun k hk hn => ?_, ?_⟩
 ·
  rw [Below.heap_alloc _ _ _ (by simp; omega), Below.heap_alloc _ _ _ (by rw [hz]; exact hk), Below.heap_setCell _ _ _ _ hn]
 ·
  rw [Below.heap_alloc _ _ _ (by simp; omega), Below.heap_alloc _ _ _ (by rw [hz]; exact hlt)]
  simp [World.setCell, Array.getElem?_modify, ht]
theorem Put.weaken {w w1 w2 : World} {t T : Nat} {v : Value} (h1 : Below w.heap.size w w1) (h2 : Put w1 w2 t v T) : Put w w2 t v T :=
 ⟨h2.1.trans h1.os, h2.2.1.trans h1.tape, h2.2.2.1.trans h1.output, Nat.le_trans h1.size h2.2.2.2.1, fun k hk hn => (h2.2.2.2.2.1 k (Nat.lt_of_lt_of_le hk h1.size) hn).trans (h1.block k hk), h2.2.2.2.2.2⟩
structure Aside0' (p : Prop) : Prop where mk :: (out : p)
set_option maxHeartbeats 4000000 in
theorem asCode (c : Int) (n : Nat) (v : Value) (a : Addr) (t : Nat) (old : Value) (w : World) (h : ErrIs w c n v) (ha : w.cell? a = some (.pointer (some ⟨t, 0, none⟩))) (ht : w.heap[t]? = some (.cells #[old] 49 (0, 0))) :
 Calls Tryz.prog 112 #[v, .iface 146 (.pointer (some ⟨t, 0, none⟩)), .agg #[.pointer (some ⟨4, 146, none⟩), .pointer (some a), .int .u64 150], .iface 278 (.agg #[.pointer (some ⟨4, 49, none⟩)])] w
  fun ev w' => ev = .returned (.bool true) ∧ Put w w' t (valC c) 49 := by
 have tO := typeOfC
 have tF := typeOfF
 have a25 := assignableC
 have a26 := notAssignable
 have v25 := valueOfEC
 have nA := noAsFault
 have e5 := unwrapFault
 have e8 := nilAheadF
 have e9 := methodUnwrap
 have hlt : t < w.heap.size := (Array.getElem?_eq_some_iff.1 ht).1
 have hal : a.block < w.heap.size := by
  rcases Nat.lt_or_ge a.block w.heap.size with h | h
  ·
   exact h
  ·
   simp [World.cell?, Array.getElem?_eq_none h] at ha
 have hc0 : w.cell? ⟨t, 0, none⟩ = some old := cell_of_row w t 0 _ _ _ ht
 have hf0 : w.frozen? ⟨t, 0, none⟩ = false := by simp [World.frozen?, ht]
 have el := elemVC a ⟨t, 0, none⟩ (w.alloc (.cells #[.pointer (some ⟨4, 146, none⟩), .pointer (some a), .int .u64 150] 215)) (by rw [World.cell?_alloc_lt _ _ a hal]; exact ha)
 have st := setC ⟨t, 0, none⟩ ⟨w.heap.size + 1, 0, none⟩ c old ((w.alloc (.cells #[.pointer (some ⟨4, 146, none⟩), .pointer (some a), .int .u64 150] 215)).alloc (.cells #[valC c] 49))
  (by rw [World.cell?_alloc_at _ _ _ _ (by simp)]; rfl)
  (by rw [World.cell?_alloc_lt _ _ ⟨t, 0, none⟩ (by simp; omega), World.cell?_alloc_lt _ _ ⟨t, 0, none⟩ hlt]; exact hc0)
  (by rw [World.frozen?_alloc_old _ _ ⟨t, 0, none⟩ (by simp; omega), World.frozen?_alloc_old _ _ ⟨t, 0, none⟩ (Nat.ne_of_lt hlt)]; exact hf0)
 have h10 := @run_callFunc_extern Tryz.prog 150 _ (ReflectliteType.typeOf) Tryz.func150 (by kernel_rfl) (by kernel_rfl) (by kernel_rfl) (by kernel_rfl)
 have h35 := @run_callFunc_extern Tryz.prog 286 _ (ReflectliteType.relation "AssignableTo" ReflectliteType.assignableTo) Tryz.func286 (by kernel_rfl) (by kernel_rfl) (by kernel_rfl) (by kernel_rfl)
 have h11 := @run_callFunc_extern Tryz.prog 169 _ (ReflectliteValue.method (ReflectliteValue.valueError "reflectlite.Value.Elem" 0) ReflectliteValue.elem) Tryz.func169 (by kernel_rfl) (by kernel_rfl) (by kernel_rfl) (by kernel_rfl)
 have h12 := @run_callFunc_extern Tryz.prog 170 _ (ReflectliteValue.set) Tryz.func170 (by kernel_rfl) (by kernel_rfl) (by kernel_rfl) (by kernel_rfl)
 have h6 := @run_callFunc_extern Tryz.prog 109 _ (fun args => ReflectliteValue.unpack (args.getD 0 (.tuple #[]))) Tryz.func109 (by kernel_rfl) (by kernel_rfl) (by kernel_rfl) (by kernel_rfl)
 have mA := methodAssignableTo
 have HP := Aside0'.mk (fun A B : Obj => put_mk (v := valC c) ht A B)
 have HH := Aside0'.mk (show ErrIs (w.alloc (.cells #[.pointer (some ⟨4, 146, none⟩), .pointer (some a), .int .u64 150] 215)) c n v from h.below (fun b hb => Below.heap_alloc _ _ _ hb))
 clear ht ha hc0 hf0 h
 go_enter Tryz.func112, Tryz.ntmps112
 go_wp2
 go_loopg [0] (n + 1) (fun k v0 wr => wr = w.alloc (.cells #[.pointer (some ⟨4, 146, none⟩), .pointer (some a), .int .u64 150] 215) ∧ 0 < k ∧ Aside0' (ErrIs (w.alloc (.cells #[.pointer (some ⟨4, 146, none⟩), .pointer (some a), .int .u64 150] 215)) c (k - 1) v0))
 case atStart => exact ⟨rfl, by omega, HH⟩
 case round =>
  obtain ⟨hw, hk, HE⟩ := hrel
  subst hw
  obtain ⟨k, rfl⟩ : ∃ k, gk = k + 1 := ⟨gk - 1, by omega⟩
  simp only [Nat.add_sub_cancel] at HE
  cases k with
  | zero =>
   have hv : u0 = .iface 49 (valC c) := HE.out
   subst hv
   go_wp2
   go_ret
   exact ⟨rfl, HP.out _ _⟩
  | succ k =>
   obtain ⟨b, wh, at_, x, hv, hb, hx⟩ := HE.out
   subst hv
   have hc' := Aside0'.mk (cell_of_row _ b 2 _ _ _ hb)
   have HX := Aside0'.mk hx
   obtain ⟨tx, vx, hxv⟩ := hx.iface
   have hxn := fun w => run_eql_held_nil (P := Tryz.prog) w 26 tx vx Tryz.underlying26
   subst hxv
   clear hb hx
   go_wp2_with (first | (go_at_call 280; refine (unwrap_calls b _ _ hc'.out).mono ?_; rintro e w' ⟨rfl, rfl⟩))
   go_roundg (k + 1)
   case measure => omega
   case rel => exact ⟨rfl, by omega, HX⟩
set_option maxHeartbeats 4000000 in
theorem as_code (c : Int) (n : Nat) (v : Value) (t : Nat) (old : Value) (w : World) (h : ErrIs w c n v) (hg : ErrTy w) (ht : w.heap[t]? = some (.cells #[old] 49 (0, 0))) :
 Calls Tryz.prog 57 #[v, .iface 146 (.pointer (some ⟨t, 0, none⟩))] w fun ev w' => ev = .returned (.bool true) ∧ Put w w' t (valC c) 49 := by
 obtain ⟨tx, vx, rfl⟩ := h.iface
 have n1 := run_eql_held_nil (P := Tryz.prog) w 26 tx vx Tryz.underlying26
 have HH := Aside0'.mk (fun A B : Obj => (h.below (w' := (w.alloc A).alloc B) (fun b hb => by rw [Below.heap_alloc _ _ _ (by simp; omega), Below.heap_alloc _ _ _ hb])))
 clear h
 have hlt : t < w.heap.size := (Array.getElem?_eq_some_iff.1 ht).1
 have h0 : (0 : Nat) < w.heap.size := by
  rcases Nat.eq_zero_or_pos w.heap.size with h0 | h
  ·
   simp [ErrTy, World.cell?, h0] at hg
  ·
   exact h
 have hg2 : ((w.alloc (.cells #[.pointer (some ⟨t, 0, none⟩)] 146)).alloc (.cells #[.pointer (some ⟨4, 146, none⟩), .pointer (some ⟨w.heap.size, 0, none⟩), .int .u64 150] 215)).cell? ⟨0, 0, none⟩ = some (.iface 278 (.agg #[.pointer (some ⟨4, 26, none⟩)])) := by
  rw [World.cell?_alloc_lt _ _ ⟨0, 0, none⟩ (by simp), World.cell?_alloc_lt _ _ ⟨0, 0, none⟩ h0]; exact hg
 have hn8 := isNilC ⟨w.heap.size, 0, none⟩ ⟨t, 0, none⟩ ((w.alloc (.cells #[.pointer (some ⟨t, 0, none⟩)] 146)).alloc (.cells #[.pointer (some ⟨4, 146, none⟩), .pointer (some ⟨w.heap.size, 0, none⟩), .int .u64 150] 215)) (by simp)
 have HT := Aside0'.mk (show ((w.alloc (.cells #[.pointer (some ⟨t, 0, none⟩)] 146)).alloc (.cells #[.pointer (some ⟨4, 146, none⟩), .pointer (some ⟨w.heap.size, 0, none⟩), .int .u64 150] 215)).heap[t]? = some (.cells #[old] 49 (0, 0)) by rw [Below.heap_alloc _ _ _ (by simp; omega), Below.heap_alloc _ _ _ hlt]; exact ht)
 have HC := Aside0'.mk (show ((w.alloc (.cells #[.pointer (some ⟨t, 0, none⟩)] 146)).alloc (.cells #[.pointer (some ⟨4, 146, none⟩), .pointer (some ⟨w.heap.size, 0, none⟩), .int .u64 150] 215)).cell? ⟨w.heap.size, 0, none⟩ = some (.pointer (some ⟨t, 0, none⟩)) by simp)
 have HBL := Aside0'.mk (show Below w.heap.size w ((w.alloc (.cells #[.pointer (some ⟨t, 0, none⟩)] 146)).alloc (.cells #[.pointer (some ⟨4, 146, none⟩), .pointer (some ⟨w.heap.size, 0, none⟩), .int .u64 150] 215)) from ((Below.refl _ _).alloc (Nat.le_refl _) _).alloc (by simp) _)
 clear ht hg h0
 have v6 := valueOfC
 have y7 := typeC
 have k1 := kindC
 have k2 := kindEC
 have e2 := elemC
 have i2 := implementsC
 have h6 := @run_callFunc_extern Tryz.prog 109 _ (fun args => ReflectliteValue.unpack (args.getD 0 (.tuple #[]))) Tryz.func109 (by kernel_rfl) (by kernel_rfl) (by kernel_rfl) (by kernel_rfl)
 have h7 := @run_callFunc_extern Tryz.prog 110 _ (ReflectliteValue.methodAny (ReflectliteValue.valueError "reflectlite.Value.Type" 0) (fun t _ _ _ => ReflectliteType.toType t)) Tryz.func110 (by kernel_rfl) (by kernel_rfl) (by kernel_rfl) (by kernel_rfl)
 have h8 := @run_callFunc_extern Tryz.prog 111 _ (ReflectliteValue.method (ReflectliteValue.valueError "reflectlite.Value.IsNil" 0) ReflectliteValue.isNil) Tryz.func111 (by kernel_rfl) (by kernel_rfl) (by kernel_rfl) (by kernel_rfl)
 have h27 := @run_callFunc_extern Tryz.prog 271 _ (ReflectliteType.abiMethod fun t => do pure (.int .u8 (← Rtype.kind t))) Tryz.func271 (by kernel_rfl) (by kernel_rfl) (by kernel_rfl) (by kernel_rfl)
 have h37 := @run_callFunc_extern Tryz.prog 288 _ (ReflectliteType.method ReflectliteType.elem) Tryz.func288 (by kernel_rfl) (by kernel_rfl) (by kernel_rfl) (by kernel_rfl)
 have h38 := @run_callFunc_extern Tryz.prog 289 _ (ReflectliteType.relation "Implements" ReflectliteType.implements_) Tryz.func289 (by kernel_rfl) (by kernel_rfl) (by kernel_rfl) (by kernel_rfl)
 have mK := methodKind
 have mE := methodElem
 have mI := methodImplements
 go_enter Tryz.func57, Tryz.ntmps57
 go_wp2_with (go_at_call 112; refine (asCode c n _ ⟨w.heap.size, 0, none⟩ t old _ (HH.out _ _) HC.out HT.out).mono ?_; rintro ev w' ⟨rfl, hp⟩; have HPP := Aside0'.mk (Put.weaken HBL.out hp); clear hp)
 go_ret
 exact ⟨rfl, HPP.out⟩
theorem heap_new (w : World) (o : Obj) : (w.alloc o).heap[w.heap.size]? = some o := by
 show (w.heap.push o)[w.heap.size]? = _
 simp
theorem Put.back {w w' : World} {T : Nat} {v : Value} {o : Obj} (h : Put (w.alloc o) w' w.heap.size v T) : Below w.heap.size w w' :=
 ⟨h.1, h.2.1, h.2.2.1, by have := h.2.2.2.1; simp at this; omega, fun k hk => (h.2.2.2.2.1 k (by simp; omega) (by omega)).trans (Below.heap_alloc _ _ _ hk)⟩
theorem ErrTy.alloc {w : World} (h : ErrTy w) (o : Obj) : ErrTy (w.alloc o) := by
 have h0 : (0 : Nat) < w.heap.size := by
  rcases Nat.eq_zero_or_pos w.heap.size with h0 | h1
  ·
   simp [ErrTy, World.cell?, h0] at h
  ·
   exact h1
 unfold ErrTy
 rw [World.cell?_alloc_lt _ _ ⟨0, 0, none⟩ h0]
 exact h
set_option maxHeartbeats 1000000 in
theorem of_err (c : Int) (n : Nat) (v : Value) (w : World) (h : ErrIs w c n v) (hg : ErrTy w) : Calls Tryz.prog 16 #[v] w fun ev w' => ev = .returned (.int .i64 c) ∧ Below w.heap.size w w' := by
 obtain ⟨tx, vx, rfl⟩ := h.iface
 have n1 := run_eql_held_nil (P := Tryz.prog) w 26 tx vx Tryz.underlying26
 have HH := Aside0'.mk (h.below (w' := w.alloc (.cells #[.int .i64 0] 49)) (fun b hb => Below.heap_alloc _ _ _ hb))
 have HG := Aside0'.mk (hg.alloc (.cells #[.int .i64 0] 49))
 clear h hg
 go_enter Tryz.func16, Tryz.ntmps16
 go_wp2_with (go_at_call 57; refine (as_code c n _ w.heap.size (.int .i64 0) _ HH.out HG.out (heap_new _ _)).mono ?_; rintro ev w' ⟨rfl, hp⟩; have HB := Aside0'.mk (Put.back hp); have hcc := cell_of_row w' w.heap.size 0 _ _ _ hp.2.2.2.2.2; clear hp)
 go_ret
 exact ⟨rfl, HB.out⟩
end Go.Proofs.YtnmpijbcajclgaaGreatDoor.Mine
end
section
namespace Go.Proofs.YtnmpijbcajclgaaGreatDoor.Mine
open Go.Maps Go.RowKit YtnmpijbcajclgaaGreatDoorW.PrintWords YtnmpijbcajclgaaGreatDoorW.PrintLast YtnmpijbcajclgaaGreatDoorW.PrintMore
open PNodeAlone
open Value renaming slice → Vs
attribute [local go_sem] min_two
theorem ErrTy.below {w w' : World} (h : ErrTy w) (hb : Below w.heap.size w w') : ErrTy w' := pw_cell_below hb h
def ndFull (i : Nat) : Nd := ndF (min i 16) (min i 8)
theorem ndFull_len (i : Nat) : (ndFull i).subs.length = min i 16 ∧ (ndFull i).opn.length = min i 8 ∧ (ndFull i).last = (min i 16 : Nat) ∧ (ndFull i).seq = (min i 8 : Nat) ∧ (ndFull i).lost = 0 := by
 refine ⟨by show (subsF _).length = _; unfold subsF; simp, by show (evsF 1 _).length = _; unfold evsF; simp, rfl, rfl, rfl⟩
theorem ndFull_A {i : Nat} (h : i < 8) : ((ndFull i).sub F09).pub [⟨1, ⟨#[]⟩⟩] ⟨#[]⟩ = ndFull (i + 1) := by
 unfold ndFull
 rw [ndF_sub, ndF_pub, show min i 16 + 1 = min (i + 1) 16 by omega, show min i 8 + 1 = min (i + 1) 8 by omega]
theorem ndFull_B {i : Nat} (h : 8 ≤ i) (h2 : i < 16) : (ndFull i).sub F09 = ndFull (i + 1) := by
 unfold ndFull
 rw [ndF_sub, show min i 16 + 1 = min (i + 1) 16 by omega, show min i 8 = min (i + 1) 8 by omega]
theorem ndFull_C {i : Nat} (h : 16 ≤ i) : ndFull i = ndFull (i + 1) := by
 unfold ndFull
 rw [show min i 16 = min (i + 1) 16 by omega, show min i 8 = min (i + 1) 8 by omega]
theorem w64_small {n : Int} (h0 : 0 ≤ n) (h : n ≤ 1000) : wrap64 n = n := w64 (by omega) (by omega)
theorem full_nums (i : Nat) : ∃ k l pr : Nat, k = min (min i 8 * min i 16) 64 ∧ l = min i 8 * min i 16 - min (min i 8 * min i 16) 64 ∧ (((min i 16 : Nat) : Int) * ((min i 8 : Nat) : Int)) = (pr : Int) ∧ ((pr : Int) - (k : Int)) = (l : Int) ∧ k = min pr 64 ∧ (pr : Int) ≤ 1000 ∧ (l : Int) ≤ 1000 := by
 have h : min i 8 * min i 16 ≤ 8 * 16 := Nat.mul_le_mul (Nat.min_le_right _ _) (Nat.min_le_right _ _)
 have e : (((min i 16 : Nat) : Int) * ((min i 8 : Nat) : Int)) = ((min i 8 * min i 16 : Nat) : Int) := by rw [Nat.mul_comm]; exact (Int.natCast_mul _ _).symm
 generalize min i 8 * min i 16 = q at h e
 exact ⟨min q 64, q - min q 64, q, rfl, rfl, e, by omega, rfl, by omega, by omega⟩
theorem full_mins (i k pr : Nat) (hk : k = min pr 64) : Builtin.min2 (.int .i64 (i : Int)) (.int .i64 16) = pure (.int .i64 ((min i 16 : Nat) : Int)) ∧ Builtin.min2 (.int .i64 (i : Int)) (.int .i64 8) = pure (.int .i64 ((min i 8 : Nat) : Int)) ∧ Builtin.min2 (.int .i64 (pr : Int)) (.int .i64 64) = pure (.int .i64 (k : Int)) := by
 refine ⟨?_, ?_, ?_⟩
 ·
  rw [min2_int]; congr 2; split <;> omega
 ·
  rw [min2_int]; congr 2; split <;> omega
 ·
  rw [min2_int]; congr 2; split <;> omega
set_option maxHeartbeats 8000000 in
theorem full_calls (n : Int) (w : World) (hT : TabI w) (hE : ErrTy w) : Calls Tryz.prog 4 #[.int .i64 n] w fun e w' => e = .returned (.bool true) ∧ Below w.heap.size w w' := by
 obtain ⟨xs, hrd, hxs⟩ := rd09
 have HT := mk0 hT
 have HE := mk0 hE
 have HR := mk0 (And.intro hrd hxs)
 clear hT hE hrd hxs
 by_cases h0 : n < 0
 ·
  have b0 : decide (n < 0) = true := decide_eq_true h0
  go_enter Tryz.func4, Tryz.ntmps4
  go_wp2_with fail
  refine (awake_calls w HT.out).mono ?_
  rintro e w2 ⟨rfl, hb⟩
  go_wp2
  go_ret
  exact ⟨rfl, hb⟩
 by_cases h20 : 20 < n
 ·
  have b0 : decide (n < 0) = false := decide_eq_false h0
  have b1 : decide (20 < n) = true := decide_eq_true h20
  go_enter Tryz.func4, Tryz.ntmps4
  go_wp2_with fail
  refine (awake_calls w HT.out).mono ?_
  rintro e w2 ⟨rfl, hb⟩
  go_wp2
  go_ret
  exact ⟨rfl, hb⟩
 obtain ⟨m, rfl⟩ := Int.eq_ofNat_of_zero_le (show 0 ≤ n by omega)
 have hm20 : m ≤ 20 := by omega
 have b0 : decide ((m : Int) < 0) = false := decide_eq_false h0
 have b1 : decide (20 < (m : Int)) = false := decide_eq_false h20
 have HM := mk0 hm20
 clear h0 h20 hm20
 go_enter Tryz.func4, Tryz.ntmps4
 go_wp2_with fail
 have hb1 := below_alloc (Below.refl w.heap.size w) (.cells #[.string ⟨#[97]⟩, .int .i64 1, .int .i64 0, .int .i64 9] tA)
 have hr1 := lit_attr w ⟨#[97]⟩ 1 0 9
 generalize w.alloc (.cells #[.string ⟨#[97]⟩, .int .i64 1, .int .i64 0, .int .i64 9] tA) = w1 at hb1 hr1 ⊢
 refine (al_new (some ⟨w.heap.size, 0, none⟩) 1 1 S1p 3 2 w.heap.size (fun _ => True) w w1 ⟨by decide, by decide⟩ ⟨by decide, by decide⟩ hr1 hb1.size ck1 (TabI.below HT.out hb1) hb1).mono ?_
 rintro e w2 ⟨g, rfl, al⟩
 generalize w1.heap.size = base at al
 have HA := mk0 (show Al base g w w2 S1p 2 (ndFull 0) from al)
 unfold ptr
 clear al hb1 hr1
 go_wp2_with fail
 go_loopg [5, 6, 7, 8, 9] (m + 1) (fun kk v5 v6 v7 v8 v9 W => ∃ i : Nat, Aside0 (i ≤ m ∧ kk + i = m + 1) ∧ v5 = .int .i64 (i : Int) ∧ Aside0 (Al base g w W S1p 2 (ndFull i)))
 case atStart => exact ⟨0, ⟨by omega, by omega⟩, rfl, HA⟩
 case round =>
  clear HA
  obtain ⟨i, HMI, rfl, HA⟩ := hrel
  by_cases hi : i < m
  ·
   have c1 : decide ((i : Int) < (m : Int)) = true := decide_eq_true (by omega)
   have c2 : decide (i < m) = true := decide_eq_true (by omega)
   have hl := ndFull_len i
   by_cases h8 : i < 8
   ·
    have c3 : decide ((i : Int) < 16) = true := decide_eq_true (by omega)
    have c4 : decide ((i : Int) < 8) = true := decide_eq_true (by omega)
    have hsb := al_sub_ok HA.out T09 xs (by decide) HR.out.1 (by rw [hl.1]; omega) (by rw [hl.2.2.1]; omega)
    rw [HR.out.2] at hsb
    unfold ptr at hsb
    have HSB := mk0 hsb
    clear hsb
    go_wp2_with fail
    refine (show Calls Tryz.prog 11 _ _ _ from HSB.out).mono ?_
    rintro e w3 ⟨rfl, al⟩
    have HA3 := mk0 al
    clear al HSB HA
    go_wp2_with fail
    have hb4 := below_alloc (Below.refl w3.heap.size w3) (.cells #[.int .i64 1, .string ⟨#[]⟩] tV)
    have hr4 := lit_val w3 1 ⟨#[]⟩
    generalize w3.alloc (.cells #[.int .i64 1, .string ⟨#[]⟩] tV) = w4 at hb4 hr4 ⊢
    have HA4 := mk0 (Al.keep HA3.out hb4)
    have HB4 := mk0 hb4
    generalize w3.heap.size = gv at hr4 ⊢
    have hpb := al_pub_ok HA4.out 1 1 _ (fun _ => True) (some ⟨gv, 0, none⟩) [⟨1, ⟨#[]⟩⟩] ⟨#[]⟩ hr4 ev1 (by show (ndFull i).opn.length < 8; rw [hl.2.1]; omega) (by show (ndFull i).seq < 1073741824; rw [hl.2.2.2.1]; omega)
    rw [ndFull_A h8] at hpb
    refine (show Calls Tryz.prog 12 #[.pointer (some ⟨g, 0, none⟩), .agg #[.slice (some ⟨gv, 0, none⟩) 1 1, .string ⟨#[]⟩]] w4 _ from hpb).mono ?_
    rintro e w5 ⟨rfl, al⟩
    have HA5 := mk0 al
    clear al hpb hb4 hr4 HA4 HB4 HA3
    go_wp2_with fail
    go_roundg (gk - 1)
    case measure => have := HMI.out; omega
    case rel => exact ⟨i + 1, ⟨by omega, by have := HMI.out; omega⟩, by first | rfl | (rw [w64 (by omega) (by have := HMI.out; have := HM.out; omega)]; rfl), HA5⟩
   ·
    by_cases h16 : i < 16
    ·
     have c3 : decide ((i : Int) < 16) = true := decide_eq_true (by omega)
     have c4 : decide ((i : Int) < 8) = false := decide_eq_false (by omega)
     have hsb := al_sub_ok HA.out T09 xs (by decide) HR.out.1 (by rw [hl.1]; omega) (by rw [hl.2.2.1]; omega)
     rw [HR.out.2, ndFull_B (by omega) h16] at hsb
     unfold ptr at hsb
     have HSB := mk0 hsb
     clear hsb
     go_wp2_with fail
     refine (show Calls Tryz.prog 11 _ _ _ from HSB.out).mono ?_
     rintro e w3 ⟨rfl, al⟩
     have HA3 := mk0 al
     clear al HSB HA
     go_wp2_with fail
     have hb4 := below_alloc (Below.refl w3.heap.size w3) (.cells #[.int .i64 1, .string ⟨#[]⟩] tV)
     have hr4 := lit_val w3 1 ⟨#[]⟩
     generalize w3.alloc (.cells #[.int .i64 1, .string ⟨#[]⟩] tV) = w4 at hb4 hr4 ⊢
     have HA4 := mk0 (Al.keep HA3.out hb4)
     have HB4 := mk0 hb4
     generalize w3.heap.size = gv at hr4 ⊢
     have hpb := al_pub_full HA4.out 1 1 (some ⟨gv, 0, none⟩) [⟨1, ⟨#[]⟩⟩] ⟨#[]⟩ rfl (Kd.R_reads' hr4).2.2 ev1 (by have h2 := (ndFull_len (i + 1)).2.1; rw [h2]; omega)
     refine (show Calls Tryz.prog 12 #[.pointer (some ⟨g, 0, none⟩), .agg #[.slice (some ⟨gv, 0, none⟩) 1 1, .string ⟨#[]⟩]] w4 _ from hpb).mono ?_
     rintro e w5 ⟨_, al, b, ne, rfl, her⟩
     have HA5 := mk0 al
     have HER := mk0 (And.intro her (ErrTy.below HE.out al.below))
     unfold faultV at HER ⊢
     clear al hpb hb4 hr4 HA4 HB4 HA3 her
     go_wp2_with fail
     refine (of_err 5 ne _ w5 HER.out.1 HER.out.2).mono ?_
     rintro e w6 ⟨rfl, hb6⟩
     have HA6 := mk0 (HA5.out.keep hb6)
     clear hb6 HA5 HER
     go_wp2_with fail
     go_roundg (gk - 1)
     case measure => have := HMI.out; omega
     case rel => exact ⟨i + 1, ⟨by omega, by have := HMI.out; omega⟩, by first | rfl | (rw [w64 (by omega) (by have := HMI.out; have := HM.out; omega)]; rfl), HA6⟩
    ·
     have c3 : decide ((i : Int) < 16) = false := decide_eq_false (by omega)
     have c4 : decide ((i : Int) < 8) = false := decide_eq_false (by omega)
     have hsb := al_sub_full HA.out T09 xs (by decide) HR.out.1 (by rw [hl.1]; omega)
     unfold ptr at hsb
     have HSB := mk0 hsb
     clear hsb
     go_wp2_with fail
     refine (show Calls Tryz.prog 11 _ _ _ from HSB.out).mono ?_
     rintro e w3 ⟨_, al, b, ne, rfl, her⟩
     have HA3 := mk0 al
     have HER := mk0 her
     unfold faultV at HER ⊢
     clear al HSB HA her
     go_wp2_with fail
     have hb4 := below_alloc (Below.refl w3.heap.size w3) (.cells #[.int .i64 1, .string ⟨#[]⟩] tV)
     have hr4 := lit_val w3 1 ⟨#[]⟩
     generalize w3.alloc (.cells #[.int .i64 1, .string ⟨#[]⟩] tV) = w4 at hb4 hr4 ⊢
     have HA4 := mk0 (Al.keep HA3.out hb4)
     have HB4 := mk0 hb4
     generalize w3.heap.size = gv at hr4 ⊢
     have hpb := al_pub_full HA4.out 1 1 (some ⟨gv, 0, none⟩) [⟨1, ⟨#[]⟩⟩] ⟨#[]⟩ rfl (Kd.R_reads' hr4).2.2 ev1 (by rw [hl.2.1]; omega)
     refine (show Calls Tryz.prog 12 #[.pointer (some ⟨g, 0, none⟩), .agg #[.slice (some ⟨gv, 0, none⟩) 1 1, .string ⟨#[]⟩]] w4 _ from hpb).mono ?_
     rintro e w5 ⟨hb5, al, b5, ne5, rfl, her5⟩
     have HA5 := mk0 al
     have HER1 := mk0 (ErrIs.below (fun k hk => hb5.block k hk) (ErrIs.below (fun k hk => HB4.out.block k hk) HER.out))
     have HER5 := mk0 (And.intro her5 (ErrTy.below HE.out al.below))
     unfold faultV at HER5 ⊢
     clear al hpb hb4 hr4 HA4 HB4 HA3 her5 hb5 HER
     go_wp2_with fail
     refine (of_err 4 ne _ w5 HER1.out HER5.out.2).mono ?_
     rintro e w6 ⟨rfl, hb6⟩
     have HA6 := mk0 (HA5.out.keep hb6)
     have HER6 := mk0 (And.intro (ErrIs.below (fun k hk => hb6.block k hk) HER5.out.1) (ErrTy.below HER5.out.2 hb6))
     clear hb6 HA5 HER1 HER5
     go_wp2_with fail
     refine (of_err 5 ne5 _ w6 HER6.out.1 HER6.out.2).mono ?_
     rintro e w7 ⟨rfl, hb7⟩
     have HA7 := mk0 (HA6.out.keep hb7)
     rw [ndFull_C (by omega)] at HA7
     clear hb7 HA6 HER6
     go_wp2_with fail
     go_roundg (gk - 1)
     case measure => have := HMI.out; omega
     case rel => exact ⟨i + 1, ⟨by omega, by have := HMI.out; omega⟩, by first | rfl | (rw [w64 (by omega) (by have := HMI.out; have := HM.out; omega)]; rfl), HA7⟩
  ·
   have c1 : decide ((i : Int) < (m : Int)) = false := decide_eq_false (by omega)
   have c2 : decide (i < m) = false := decide_eq_false (by omega)
   have him : i = m := by have := HMI.out; omega
   subst him
   obtain ⟨k, l, pr, hk, hl, m6, m7, hk2, hle, hle2⟩ := full_nums i
   have ht := ndF_tick (min i 16) (min i 8)
   rw [← hl, ← hk] at ht
   have HTK := mk0 (And.intro (show ((ndFull i).tick S1p).inbox.length = k from ht.1) (show ((ndFull i).tick S1p).lost = (l : Int) from ht.2))
   obtain ⟨m1, m2, m3⟩ := full_mins i k pr hk2
   have m4 : wrap64 (((min i 16 : Nat) : Int) * ((min i 8 : Nat) : Int)) = (pr : Int) := (congrArg wrap64 m6).trans (w64_small (Int.natCast_nonneg _) hle)
   have m5 : wrap64 ((pr : Int) - (k : Int)) = (l : Int) := (congrArg wrap64 m7).trans (w64_small (Int.natCast_nonneg _) hle2)
   have HM5 := mk0 (And.intro m4 (And.intro m5 (And.intro m6 m7)))
   have htk := al_tick HA.out 1 3 (by rw [(ndFull_len i).2.2.2.2]; omega)
   unfold ptr at htk
   have HTC := mk0 htk
   clear hk hl hle hle2 hk2 ht m4 m5 m6 m7 htk
   generalize ((min i 16 : Nat) : Int) = s16 at m1 HM5
   generalize ((min i 8 : Nat) : Int) = s8 at m2 HM5
   go_wp2_with fail
   refine HTC.out.mono ?_
   rintro e w3 ⟨rfl, al⟩
   have HA3 := mk0 al
   clear al HTC HA
   go_wp2_with fail
   have hwt := al_waits HA3.out
   unfold ptr at hwt
   rw [HTK.out.1] at hwt
   refine hwt.mono ?_
   rintro e w4 ⟨rfl, rfl⟩
   clear hwt
   go_wp2_with fail
   generalize w4 = wq at HA3 ⊢
   have hb4 := below_alloc (Below.refl wq.heap.size wq) (.cells #[.int .i64 1, .string ⟨#[]⟩] tV)
   have hr4 := lit_val wq 1 ⟨#[]⟩
   generalize wq.alloc (.cells #[.int .i64 1, .string ⟨#[]⟩] tV) = w4 at hb4 hr4 ⊢
   have HA4 := mk0 (Al.keep HA3.out hb4)
   have HB4 := mk0 hb4
   generalize wq.heap.size = gv at hr4 ⊢
   have hq := (ndFull_len i).2.2.2.1
   have hcm := come_kept S1p (ndFull i).opn (ndFull i)
   have hpb := al_pub_ok HA4.out 1 1 _ (fun _ => True) (some ⟨gv, 0, none⟩) [⟨1, ⟨#[]⟩⟩] ⟨#[]⟩ hr4 ev1 (by show (0 : Nat) < 8; omega) (by show ((ndFull i).come S1p (ndFull i).opn).seq < 1073741824; rw [hcm.2.2.1, hq]; omega)
   refine (show Calls Tryz.prog 12 #[.pointer (some ⟨g, 0, none⟩), .agg #[.slice (some ⟨gv, 0, none⟩) 1 1, .string ⟨#[]⟩]] w4 _ from hpb).mono ?_
   rintro e w5 ⟨rfl, al⟩
   have HA5 := mk0 al
   clear al hpb hb4 hr4 HA4 HB4 HA3 hq hcm
   go_wp2_with fail
   refine (awake_calls w5 (TabI.below HT.out HA5.out.below)).mono ?_
   rintro e w6 ⟨rfl, hb6⟩
   have HA6 := mk0 (HA5.out.keep hb6)
   have q4 := HM5.out.1
   have q5 := HM5.out.2.1
   clear hb6 HA5
   go_wp2_with fail
   have hlo := al_lost HA6.out
   unfold ptr at hlo
   refine (show Calls Tryz.prog 17 #[.pointer (some ⟨g, 0, none⟩)] w6 fun e w' => e = .returned (.int .i64 (l : Int)) ∧ w' = w6 from by rw [← HTK.out.2]; exact hlo).mono ?_
   rintro e w7 ⟨rfl, rfl⟩
   clear hlo
   have HFIN := mk0 HA6.out.below
   clear HA6
   go_wp2
   go_ret
   exact ⟨rfl, HFIN.out⟩
section
variable {P : Program} {α : Type} {d : Kd α} {e base g n c : Nat} {ok : Nat → Prop} {W : World} {xs : List α}
theorem app_over (h : Kd.R d e W base ok (.slice (some ⟨g, 0, none⟩) n c) xs) (i j : Nat) (hij : i ≤ j) (hj : j ≤ n) (t ty : TypeId) (z : Value) (bytes : Nat) (ht : P.underlying t = some (.slice e)) (hinfo : (P.info? e).map (fun i => (i.zero, i.size, i.bytes)) = some (some z, d.sz, bytes)) :
 ∃ w1, (Builtin.append_ #[t, t] ty #[.slice (some ⟨g, 0, none⟩) i c, .slice (if c = j then some ⟨g, 0, none⟩ else some ⟨g, j * d.sz, none⟩) (n - j) (c - j)]).run P W = .ok (.slice (some ⟨g, 0, none⟩) (i + (n - j)) c) w1 ∧ Kd.R d e w1 base ok (.slice (some ⟨g, 0, none⟩) (i + (n - j)) c) (xs.take i ++ xs.drop j) ∧ W.grownBy w1 (some g) := by
 obtain ⟨i0, hi, hzz⟩ := Option.map_eq_some_iff.1 hinfo
 simp only [Prod.mk.injEq] at hzz
 obtain ⟨hz0, hz1, hz2⟩ := hzz
 obtain ⟨hn, hnc, _⟩ := Kd.R_reads' h
 have hT := Kd.R_take h (m := i) (by omega)
 obtain ⟨h0, inner, hown, hr⟩ := h
 obtain ⟨_, inner2, hown2, hr2⟩ := hT
 have hlt : (xs.take i).length = i := by rw [List.length_take]; omega
 rw [hlt] at hown2
 have hr3 := Kd.reps_drop (m := j) hr
 have hld : (inner.drop (j * d.sz)).length = (n - j) * d.sz := by rw [List.length_drop, hown.1, ← hn, Nat.sub_mul]
 have hone := own_one (v := .slice none 0 0) hr3 List.length_drop (by rw [hld, hn])
 have hcells : ∀ q u, (inner.drop (j * d.sz))[q]? = some u → W.cell? ((if c = j then (⟨g, 0, none⟩ : Addr) else ⟨g, j * d.sz, none⟩).add q) = some u := fun q u hq => by
  by_cases hcj : c = j
  ·
   have e0 : inner.drop (j * d.sz) = [] := List.eq_nil_of_length_eq_zero (by rw [hld, show n - j = 0 by omega, Nat.zero_mul])
   rw [e0] at hq
   cases hq
  ·
   rw [if_neg hcj, Addr.add_lit]
   rw [List.getElem?_drop] at hq
   have := hown.cells (g := g) rfl _ u hq
   rwa [add_plain] at this
 have hmi : i + (n - j) ≤ c := by omega
 obtain ⟨w1, hrun, hown1, hg⟩ := run_append_fits (P := P) W base t ty e i0 d.sz ht hi hz1 g i c inner2 hown2 (if c = j then (⟨g, 0, none⟩ : Addr) else ⟨g, j * d.sz, none⟩) (n - j) (c - j) _ hld hcells hone hmi
 have hA : (if c = j then some (⟨g, 0, none⟩ : Addr) else some ⟨g, j * d.sz, none⟩) = some (if c = j then (⟨g, 0, none⟩ : Addr) else ⟨g, j * d.sz, none⟩) := by split <;> rfl
 have step : ∀ {q : α} {cs : List Value}, d.M W base (fun k => ok k ∧ some k ≠ some g) q cs → d.M w1 base (fun k => ok k ∧ some k ≠ some g) q cs := fun hq =>
  d.M_mono (fun k hk => hk.1) (d.M_move (fun k hk => hg.block k hk.2.2.1 hk.1.2) (d.M_bound hq))
 refine ⟨w1, by rw [hA]; exact hrun, ⟨h0, inner2 ++ inner.drop (j * d.sz), ?_, ?_⟩, hg⟩
 ·
  rw [List.length_append, hlt, List.length_drop, ← hn]
  exact hown1
 ·
  exact Kd.reps_append (hr2.imp_ (fun _ _ hq => step hq)) (hr3.imp_ (fun _ _ hq => step hq))
theorem step_run_app {ops : Array Oper} {o : Oper} {a : Act} {w w1 : World} {K : Act → World → Prop} {Q : Exit → Act → World → Prop} {E : Prop}
 (hg : o.guard = none) (s x : Operand) (t : TypeId) (hop : o.op = Op.call { callee := Callee.builtin Builtin.append, args := #[s, x], argTypes := #[t, t] }) (u y v : Value) (hs : a.eval s = u) (hx : a.eval x = y)
 (hr : (Builtin.append_ #[t, t] o.type #[u, y]).run P w = .ok v w1) (hK : K (a.put o.dst v) w1) :
 if Region.wanted o (yielded ops a.tmps) = true then Oper.wp P o a w K Q else E := by
 have hw : Region.wanted o (yielded ops a.tmps) = true := by simp [Region.wanted, hg]
 rw [if_pos hw]
 unfold Oper.wp execOp
 simp only [hop, resolve, invoke, builtin, Sem.run_bind, Sem.run_pure, Result.andThen_ok, List.map_toArray, List.map_cons, List.map_nil, hs, hx, hr]
 exact hK
theorem R_beyond {k m : Nat} (h : Kd.R d e W base ok (.slice (some ⟨g, 0, none⟩) k c) xs) (vs : List Value) (hm : vs.length = m * d.sz) (hin : k + m ≤ c) :
 Kd.R d e (W.setCells g (k * d.sz) vs) base ok (.slice (some ⟨g, 0, none⟩) k c) xs ∧ W.grownBy (W.setCells g (k * d.sz) vs) (some g) := by
 have hsame := setCells_same g vs (k * d.sz) W
 have hgr : W.grownBy (W.setCells g (k * d.sz) vs) (some g) := ⟨hsame.1, hsame.2.1, hsame.2.2.1, Nat.le_of_eq hsame.2.2.2.symm, fun q hq hne => setCells_far vs _ q (fun e => hne (by rw [e]))⟩
 obtain ⟨hn, hnc, _⟩ := Kd.R_reads' h
 obtain ⟨h0, inner, ho, hr⟩ := h
 refine ⟨⟨h0, inner, ?_, ?_⟩, hgr⟩
 ·
  rcases ho.2 with ⟨hv, _⟩ | ⟨g', cap, cur, hv, hg, hh, hnc, hcm, hcs, ht⟩
  ·
   cases hv
  ·
   injection hv with e1 e2 e3
   injection e1 with e1
   injection e1 with e1 _ _
   subst e1 e3
   have hmul : k * d.sz + vs.length ≤ cur.size := by rw [hcs, hm, ← Nat.add_mul]; exact Nat.mul_le_mul_right _ hin
   obtain ⟨cur', h1, h2, h3⟩ := setCells_row vs (k * d.sz) W cur hh hmul
   refine ⟨ho.1, .inr ⟨g, c, cur', by rw [← hn], hg, h1, by omega, hcm, by rw [h2, hcs], ?_⟩⟩
   rw [h3, ← hn, List.append_assoc, List.take_append_of_le_length (by rw [List.length_take, Array.length_toList]; omega), List.take_take, Nat.min_self, ← ht, ← hn]
 ·
  refine hr.imp_ (fun p cs hp => d.M_mono (fun k hk => hk.1) (d.M_move (fun q hq => setCells_far vs _ q (fun e => hq.1.2 (by rw [e]; rfl))) (d.M_bound hp)))
theorem R_cap {k : Nat} (h : Kd.R d e W base ok (.slice (some ⟨g, 0, none⟩) k c) xs) : ∃ cur, W.heap[g]? = some (.cells cur e (0, 0)) ∧ cur.size = c * d.sz := by
 obtain ⟨h0, inner, ho, hr⟩ := h
 rcases ho.2 with ⟨hv, _⟩ | ⟨g', cap, cur, hv, hg, hh, hnc, hcm, hcs, ht⟩
 ·
  cases hv
 ·
  injection hv with e1 e2 e3
  injection e1 with e1
  injection e1 with e1 _ _
  subst e1 e3
  exact ⟨cur, hh, hcs⟩
theorem clear_beyond {k m : Nat} (h : Kd.R d e W base ok (.slice (some ⟨g, 0, none⟩) k c) xs) (hm0 : 0 < m) (hin : k + m ≤ c) (t ty : TypeId) (z : Value) (c' : Nat) (ht : P.underlying t = some (.slice e)) (hv : ∀ w, (zeroValue e).run P w = .ok z w) (hz : z.cells.size = d.sz) (h0 : 0 < d.sz) (h1 : ∀ u ∈ z.cells.toList, u.oneCell' = true) :
 (Builtin.clear_ #[t] ty #[.slice (some ⟨g, k * d.sz, none⟩) m c']).run P W = .ok (.tuple #[]) (W.setCells g (k * d.sz) (Builtin.zeroCells z.cells m).toList) ∧ (Builtin.zeroCells z.cells m).toList.length = m * d.sz := by
 have hl : (Builtin.zeroCells z.cells m).toList.length = m * d.sz := by rw [Array.length_toList, size_zeroCells, hz]
 obtain ⟨cur, hb, hs⟩ := R_cap h
 have hsz : k * d.sz + m * d.sz ≤ cur.size := by rw [← Nat.add_mul, hs]; exact Nat.mul_le_mul_right _ hin
 refine ⟨run_clear_row W t e ty z ht hv g (k * d.sz) m c' hm0 (zeroCells_one (by omega) h1 _) (fun j hj => ?_) (fun j hj => blk_frozen hb _), hl⟩
 rw [hl] at hj
 rw [cell_of_row W g _ cur e (0, 0) hb, Array.getElem?_eq_getElem (by omega)]
 rfl
end
theorem infoSub9 : (Tryz.prog.info? 123).map (fun i => (i.zero, i.size, i.bytes)) = some (some (.agg #[(.int .i64 0), (.string ⟨#[]⟩), (.slice none 0 0), (.slice none 0 0)]), 4, 72) := by kernel_rfl
def subIs (id : Int) (x : MSub) : Bool := x.id == id
set_option maxHeartbeats 8000000 in
theorem issub_calls (id : Int) (gi : Nat) (x : MSub) (V U : Value) (w : World) (hc : w.cell? ⟨gi, 0, none⟩ = some (.int .i64 id)) :
 Calls Tryz.prog 59 #[.agg #[.int .i64 x.id, .string x.text, V, U], .pointer (some ⟨gi, 0, none⟩)] w fun r w' => r = .returned (.bool (subIs id x)) ∧ Below w.heap.size w w' := by
 go_enter Tryz.func59, Tryz.ntmps59
 have ha := below_alloc (Below.refl w.heap.size w) (.cells #[.int .i64 x.id, .string x.text, V, U] tSub)
 have hk := heap_alloc_new w (.cells #[.int .i64 x.id, .string x.text, V, U] tSub)
 have e3 := (blk_cell hk 0).trans (show _ = some (Value.int .i64 x.id) from rfl)
 have c3 := pw_cell_below ha hc
 have HB := mk0 ha
 clear hk ha hc
 go_wp2
 go_ret
 refine ⟨?_, HB.out⟩
 rfl
set_option maxHeartbeats 8000000 in
theorem idx_sub (id : Int) (gi : Nat) (A : Option Addr) (n c : Nat) (L : List MSub) (w : World) (hr : Kd.C kSub w A n L) (hl : n ≤ 100000) (hc : w.cell? ⟨gi, 0, none⟩ = some (.int .i64 id)) :
 Calls Tryz.prog 58 #[.slice A n c, .func (.func 59) #[] #[.pointer (some ⟨gi, 0, none⟩)]] w fun e w' => e = .returned (.int .i64 (idxFrom (subIs id) L 0)) ∧ Below w.heap.size w w' := by
 have HR := mk0 hr
 have HN := mk0 hr.1
 have HC := mk0 hc
 clear hr hc
 go_enter Tryz.func58, Tryz.ntmps58
 go_wp2_with fail
 go_loopg [5, 8] (n + 1) (fun k v5 v8 W => ∃ i : Nat, Aside0 (i ≤ n ∧ k + i = n + 1 ∧ idxFrom (subIs id) L 0 = idxFrom (subIs id) (L.drop i) i) ∧ v8 = .int .i64 (i : Int) ∧ Aside0 (Below w.heap.size w W))
 case atStart => exact ⟨0, ⟨by omega, by omega, rfl⟩, rfl, ⟨Below.refl _ _⟩⟩
 case round =>
  obtain ⟨i, HM, rfl, HB⟩ := hrel
  by_cases hi : i < n
  ·
   have b1 : decide ((i : Int) < (n : Int)) = true := decide_eq_true (by omega)
   have b2 : decide (i < n) = true := decide_eq_true (by omega)
   have p1 : (0 : Int) ≤ (i : Int) := by omega
   have p2 : (i : Int) < (n : Int) := by omega
   obtain ⟨ad, x, B, b, D, e, hA, hx, h0, h1, h2, h3, hF, hG⟩ := at_Sub (Kd.C_below HR.out HB.out) i hi
   cases hA
   have HD := mk0 (show L.drop i = x :: L.drop (i + 1) from by obtain ⟨hj, e⟩ := List.getElem?_eq_some_iff.1 hx; rw [List.drop_eq_getElem_cons hj, e])
   clear hx hF hG
   go_wp2_with fail
   refine (issub_calls id gi x (Vs B x.F.length b) (Vs D x.G.length e) wr ((HB.out.cell (World.block_lt_of_cell? w _ HC.out)).trans HC.out)).mono ?_
   rintro r w2 ⟨rfl, hb⟩
   have n_ := mk0 (below_then HB.out HB.out.size hb)
   clear HB hb h0 h1 h2 h3
   have HB := n_
   clear n_
   cases hpx : (subIs id) x with
   | true =>
    have HX := mk0 hpx
    clear hpx
    go_wp2
    go_ret
    exact ⟨by rw [HM.out.2.2, HD.out]; simp [idxFrom, HX.out], HB.out⟩
   | false =>
    have HX := mk0 hpx
    clear hpx
    go_wp2_with fail
    go_roundg (gk - 1)
    case measure => have := HM.out; omega
    case rel => exact ⟨i + 1, ⟨by omega, by have := HM.out; omega, by rw [HM.out.2.2, HD.out]; simp [idxFrom, HX.out]⟩, rfl, HB⟩
  ·
   have b1 : decide ((i : Int) < (n : Int)) = false := decide_eq_false (by omega)
   have b2 : decide (i < n) = false := decide_eq_false (by omega)
   have hend : idxFrom (subIs id) L 0 = -1 := by rw [HM.out.2.2, List.drop_eq_nil_of_le (by have := HN.out; omega)]; rfl
   have HE := mk0 hend
   clear hend
   go_wp2
   go_ret
   exact ⟨by rw [HE.out]; rfl, HB.out⟩
set_option maxHeartbeats 8000000 in
theorem del_sub (g n c i : Nat) (base : Nat) (ok : Nat → Prop) (xs : List MSub) (w : World) (hR : Kd.R kSub tSub w base ok (.slice (some ⟨g, 0, none⟩) n c) xs) (hl : n ≤ 100000) (hi : i < n) :
 Calls Tryz.prog 60 #[.slice (some ⟨g, 0, none⟩) n c, .int .i64 (i : Int), .int .i64 ((i + 1 : Nat) : Int)] w fun e w' => e = .returned (.slice (some ⟨g, 0, none⟩) (n - 1) c) ∧ Kd.R kSub tSub w' base ok (.slice (some ⟨g, 0, none⟩) (n - 1) c) (xs.take i ++ xs.drop (i + 1)) ∧ w.grownBy w' (some g) := by
 obtain ⟨hn, hnc, _⟩ := Kd.R_reads' hR
 obtain ⟨tI, htI, hts, htz⟩ := zero_info infoSub9
 obtain ⟨j, hj⟩ : ∃ j, j = i + 1 := ⟨_, rfl⟩
 rw [← hj]
 have hel : Tryz.prog.elem 94 = tSub := by kernel_rfl
 have hu : Tryz.prog.underlying 94 = some (.slice (Tryz.prog.elem 94)) := by rw [hel]; exact Tryz.underlying94
 have hni : ¬ n = i := by omega
 have hS0 : ∀ W : World, (Instr.slice 94 (.slice (some ⟨g, 0, none⟩) n c) (some (.int .i64 (i : Int))) (some (.int .i64 (j : Int))) (some (.int .i64 (n : Int)))).run Tryz.prog W = .ok (.slice (some ⟨g, i * 4, none⟩) (j - i) (n - i)) W := by
  intro W
  rw [run_slice_lhm W 94 _ n c hu .i64 .i64 .i64 (i : Int) (j : Int) (n : Int) (by omega) (by omega) (by omega) (by omega), hel]
  simp [sizeOf, typeInfo, htI, hts, sliced, Result.andThen, hni, add_plain]
 have hS1 : ∀ W : World, (Instr.slice 94 (.slice (some ⟨g, 0, none⟩) n c) none (some (.int .i64 (i : Int))) none).run Tryz.prog W = .ok (.slice (some ⟨g, 0, none⟩) i c) W := by
  intro W
  rw [cut_to (P := Tryz.prog) 94 tSub .i64 Tryz.underlying94 htI (some ⟨g, 0, none⟩) n c (i : Int) (by omega) (by omega) (by omega) W, Int.toNat_natCast]
 have hS2 : ∀ W : World, (Instr.slice 94 (.slice (some ⟨g, 0, none⟩) n c) (some (.int .i64 (j : Int))) none none).run Tryz.prog W = .ok (.slice (if c = j then some ⟨g, 0, none⟩ else some ⟨g, j * 4, none⟩) (n - j) (c - j)) W := by
  intro W
  rw [cut_from (P := Tryz.prog) 94 tSub .i64 Tryz.underlying94 htI 4 hts (some ⟨g, 0, none⟩) n c (j : Int) (by omega) (by omega) W, Int.toNat_natCast, Option.map_some, add_plain]
 have hS3 : ∀ W : World, (Instr.slice 94 (.slice (some ⟨g, 0, none⟩) (n - 1) c) (some (.int .i64 ((n - 1 : Nat) : Int))) (some (.int .i64 (n : Int))) none).run Tryz.prog W = .ok (.slice (some ⟨g, (n - 1) * 4, none⟩) 1 (c - (n - 1))) W := by
  intro W
  rw [run_slice_lh W 94 _ (n - 1) c hu .i64 .i64 ((n - 1 : Nat) : Int) (n : Int) (by omega) (by omega) (by omega), hel]
  simp [sizeOf, typeInfo, htI, hts, sliced, Result.andThen]
  refine ⟨?_, by omega⟩
  rw [if_neg (by omega), add_plain]
 obtain ⟨w1, hrun, hR1, hg1⟩ := app_over (P := Tryz.prog) (Kd.R_drew hR) i j (by omega) (by omega) 94 94 _ 72 Tryz.underlying94 infoSub9
 rw [show i + (n - j) = n - 1 by omega] at hrun hR1
 have hclr : ∀ ty, (Builtin.clear_ #[94] ty #[.slice (some ⟨g, (n - 1) * 4, none⟩) 1 (c - (n - 1))]).run Tryz.prog w1 = .ok (.tuple #[]) (w1.setCells g ((n - 1) * 4) (Builtin.zeroCells (Value.agg #[(.int .i64 0), (.string ⟨#[]⟩), (.slice none 0 0), (.slice none 0 0)]).cells 1).toList) := fun ty => (clear_beyond (P := Tryz.prog) hR1 (m := 1) (by decide) (by omega) 94 ty _ (c - (n - 1)) Tryz.underlying94 htz rfl (by decide) (by decide)).1
 have hzl := (clear_beyond (P := Tryz.prog) hR1 (m := 1) (by decide) (by omega) 94 0 _ (c - (n - 1)) Tryz.underlying94 htz rfl (by decide) (by decide)).2
 generalize (Builtin.zeroCells (Value.agg #[(.int .i64 0), (.string ⟨#[]⟩), (.slice none 0 0), (.slice none 0 0)]).cells 1).toList = zc at hclr hzl
 have hfin := R_beyond hR1 (m := 1) zc hzl (by omega)
 rw [show (n - 1) * kSub.sz = (n - 1) * 4 from rfl] at hfin
 have HFIN := mk0 (And.intro hfin.1 (grownBy_tr (grown_of_below (below_drew (Below.refl _ w)) (some g)) (grownBy_tr hg1 hfin.2)))
 have q1 : ((i : Int) == (j : Int)) = false := by rw [beq_eq_false_iff_ne]; omega
 clear hR1 hg1 hfin hzl hR htI hts htz hn hnc hel hu hj hi
 by_cases hcj : c = j
 ·
  subst hcj
  rw [if_pos rfl, Nat.sub_self] at hrun
  simp only [if_true, Nat.sub_self] at hS2
  have HRUN := mk0 hrun
  clear hrun
  go_enter Tryz.func60, Tryz.ntmps60
  go_upto_region 5 with (fail)
  go_region_law (first
   | (refine step_run_app rfl (.tmp 22) (.tmp 25) 94 rfl _ _ _ ?xa ?xb HRUN.out ?_; (case xa => first | rfl | (go_simp; done) | (go_simp; rfl)); (case xb => first | rfl | (go_simp; done) | (go_simp; rfl))))
  all_goals
   go_wp2
   go_ret
   exact ⟨rfl, HFIN.out⟩
 ·
  rw [if_neg hcj] at hrun
  simp only [if_neg hcj] at hS2
  have HRUN := mk0 hrun
  clear hrun
  go_enter Tryz.func60, Tryz.ntmps60
  go_upto_region 5 with (fail)
  go_region_law (first
   | (refine step_run_app rfl (.tmp 22) (.tmp 25) 94 rfl _ _ _ ?xa ?xb HRUN.out ?_; (case xa => first | rfl | (go_simp; done) | (go_simp; rfl)); (case xb => first | rfl | (go_simp; done) | (go_simp; rfl))))
  all_goals
   go_wp2
   go_ret
   exact ⟨rfl, HFIN.out⟩
theorem infoDl9 : (Tryz.prog.info? 46).map (fun i => (i.zero, i.size, i.bytes)) = some (some (.agg #[(.int .i64 0), (.int .i64 0), (.int .i64 0), (.slice none 0 0), (.string ⟨#[]⟩)]), 5, 64) := by kernel_rfl
def zDl : MDl := ⟨0, 0, 0, [], ⟨#[]⟩⟩
def ofSub (id : Int) (x : MDl) : Bool := x.sub == id
theorem kDl_openM {w : World} {base : Nat} {ok : Nat → Prop} {x : MDl} {cs : List Value} (h : kDl.M w base ok x cs) : ∃ v, cs = [.int .i64 x.sub, .int .i64 x.pub, .int .i64 x.seq, v, .string x.pay] ∧ Kd.R kVa tV w base ok v x.V := by
 obtain ⟨_, _, rfl, rfl, ⟨_, _, rfl, rfl, ⟨_, _, rfl, rfl, ⟨_, _, rfl, ⟨v, rfl, h1⟩, rfl⟩⟩⟩⟩ := h
 exact ⟨v, rfl, h1⟩
set_option maxHeartbeats 8000000 in
theorem isdl_calls (id : Int) (gi : Nat) (x : MDl) (V : Value) (w : World) (hc : w.cell? ⟨gi, 0, none⟩ = some (.int .i64 id)) :
 Calls Tryz.prog 62 #[.agg #[.int .i64 x.sub, .int .i64 x.pub, .int .i64 x.seq, V, .string x.pay], .pointer (some ⟨gi, 0, none⟩)] w fun r w' => r = .returned (.bool (ofSub id x)) ∧ Below w.heap.size w w' := by
 go_enter Tryz.func62, Tryz.ntmps62
 have ha := below_alloc (Below.refl w.heap.size w) (.cells #[.int .i64 x.sub, .int .i64 x.pub, .int .i64 x.seq, V, .string x.pay] tDl)
 have hk := heap_alloc_new w (.cells #[.int .i64 x.sub, .int .i64 x.pub, .int .i64 x.seq, V, .string x.pay] tDl)
 have e3 := (blk_cell hk 0).trans (show _ = some (Value.int .i64 x.sub) from rfl)
 have c3 := pw_cell_below ha hc
 have HB := mk0 ha
 clear hk ha hc
 go_wp2
 go_ret
 refine ⟨?_, HB.out⟩
 rfl
set_option maxHeartbeats 8000000 in
theorem idx_dl (id : Int) (gi : Nat) (A : Option Addr) (n c : Nat) (L : List MDl) (w : World) (hr : Kd.C kDl w A n L) (hl : n ≤ 100000) (hc : w.cell? ⟨gi, 0, none⟩ = some (.int .i64 id)) :
 Calls Tryz.prog 113 #[.slice A n c, .func (.func 62) #[] #[.pointer (some ⟨gi, 0, none⟩)]] w fun e w' => e = .returned (.int .i64 (idxFrom (ofSub id) L 0)) ∧ Below w.heap.size w w' := by
 have HR := mk0 hr
 have HN := mk0 hr.1
 have HC := mk0 hc
 clear hr hc
 go_enter Tryz.func113, Tryz.ntmps113
 go_wp2_with fail
 go_loopg [5, 8] (n + 1) (fun k v5 v8 W => ∃ i : Nat, Aside0 (i ≤ n ∧ k + i = n + 1 ∧ idxFrom (ofSub id) L 0 = idxFrom (ofSub id) (L.drop i) i) ∧ v8 = .int .i64 (i : Int) ∧ Aside0 (Below w.heap.size w W))
 case atStart => exact ⟨0, ⟨by omega, by omega, rfl⟩, rfl, ⟨Below.refl _ _⟩⟩
 case round =>
  obtain ⟨i, HM, rfl, HB⟩ := hrel
  by_cases hi : i < n
  ·
   have b1 : decide ((i : Int) < (n : Int)) = true := decide_eq_true (by omega)
   have b2 : decide (i < n) = true := decide_eq_true (by omega)
   have p1 : (0 : Int) ≤ (i : Int) := by omega
   have p2 : (i : Int) < (n : Int) := by omega
   obtain ⟨ad, x, B, b, hA, hx, h0, h1, h2, h3, h4, _, hG⟩ := at_Dl (Kd.C_below HR.out HB.out) i hi
   cases hA
   have HD := mk0 (show L.drop i = x :: L.drop (i + 1) from by obtain ⟨hj, e⟩ := List.getElem?_eq_some_iff.1 hx; rw [List.drop_eq_getElem_cons hj, e])
   clear hx hG
   go_wp2_with fail
   refine (isdl_calls id gi x (Vs B x.V.length b) wr ((HB.out.cell (World.block_lt_of_cell? w _ HC.out)).trans HC.out)).mono ?_
   rintro r w2 ⟨rfl, hb⟩
   have n_ := mk0 (below_then HB.out HB.out.size hb)
   clear HB hb h0 h1 h2 h3 h4
   have HB := n_
   clear n_
   cases hpx : (ofSub id) x with
   | true =>
    have HX := mk0 hpx
    clear hpx
    go_wp2
    go_ret
    exact ⟨by rw [HM.out.2.2, HD.out]; simp [idxFrom, HX.out], HB.out⟩
   | false =>
    have HX := mk0 hpx
    clear hpx
    go_wp2_with fail
    go_roundg (gk - 1)
    case measure => have := HM.out; omega
    case rel => exact ⟨i + 1, ⟨by omega, by have := HM.out; omega, by rw [HM.out.2.2, HD.out]; simp [idxFrom, HX.out]⟩, rfl, HB⟩
  ·
   have b1 : decide ((i : Int) < (n : Int)) = false := decide_eq_false (by omega)
   have b2 : decide (i < n) = false := decide_eq_false (by omega)
   have hend : idxFrom (ofSub id) L 0 = -1 := by rw [HM.out.2.2, List.drop_eq_nil_of_le (by have := HN.out; omega)]; rfl
   have HE := mk0 hend
   clear hend
   go_wp2
   go_ret
   exact ⟨by rw [HE.out]; rfl, HB.out⟩
set_option maxHeartbeats 8000000 in
theorem del_dl (id : Int) (gi : Nat) (base : Nat) (ok : Nat → Prop) (v : Value) (xs : List MDl) (w : World) (hR : Kd.R kDl tDl w base ok v xs) (hl : xs.length ≤ 100000) (hc : w.cell? ⟨gi, 0, none⟩ = some (.int .i64 id)) (hne : some gi ≠ v.ownBlock) :
 Calls Tryz.prog 61 #[v, .func (.func 62) #[] #[.pointer (some ⟨gi, 0, none⟩)]] w fun e w' => ∃ v', e = .returned v' ∧ Kd.R kDl tDl w' base ok v' (keepL (ofSub id) xs) ∧ w.grownBy w' v.ownBlock ∧ v'.ownBlock = v.ownBlock := by
 obtain ⟨A0, c0, rfl, hc0, hC0⟩ := Kd.R_reads hR
 have HR := mk0 hR
 have HL := mk0 hl
 have HC := mk0 hc
 have HNE := mk0 hne
 clear hR hc0 hl hc hne
 go_enter Tryz.func61, Tryz.ntmps61
 go_wp2_with fail
 refine (idx_dl id gi A0 xs.length c0 xs w hC0 HL.out HC.out).mono ?_
 rintro r w1 ⟨rfl, hb⟩
 have HB := mk0 hb
 clear hb hC0
 rcases idx_split (ofSub id) xs 0 with ⟨hi, hk⟩ | ⟨k, hi, hk, hs⟩
 ·
  have HK := mk0 hk
  rw [hi]
  clear hi hk
  go_wp2
  go_ret
  refine ⟨_, rfl, ?_, gby_below (World.grownBy.refl _ _) HB.out, rfl⟩
  rw [HK.out]
  exact Kd.R_below HR.out HB.out
 ·
  rw [hi]
  obtain ⟨g, cap, hv, hg, hglt, hgb⟩ := Kd.R_form HR.out (by omega)
  injection hv with hv1 hv2 hv3
  subst hv1 hv3
  have HDL : Aside0 (DelAt (ofSub id) xs xs k (k + 1)) := ⟨DelAt.start hk hs⟩
  have HR1 := mk0 (Kd.R_below HR.out HB.out)
  have HG1 := mk0 (show w.grownBy w1 (some g) from gby_below (World.grownBy.refl _ _) HB.out)
  have hk1 : k < xs.length := hk
  have e0 : ((0 + k : Nat) : Int) = (k : Int) := by omega
  rw [e0]
  obtain ⟨n, hn⟩ : ∃ n, n = xs.length := ⟨_, rfl⟩
  have HN := mk0 hn
  rw [← hn] at HR1 hk1 ⊢
  have hne : ((k : Int) == -1) = false := by rw [beq_eq_false_iff_ne]; omega
  clear hi hk hs hv2 hg hglt hgb hn e0
  go_wp2_with fail
  have HK1 := mk0 hk1
  clear HB HR hk1
  go_loopg [5, 6, 7] (n + 1) (fun kk v5 v6 v7 W => ∃ (i j : Nat) (C : List MDl), Aside0 (DelAt (ofSub id) xs C i j ∧ kk + j = n + k + 2 ∧ i < j) ∧ v5 = .int .i64 (i : Int) ∧ v6 = .int .i64 (j : Int) ∧ Aside0 (Kd.R kDl tDl W base ok (.slice (some ⟨g, 0, none⟩) n c0) C) ∧ Aside0 (w.grownBy W (some g)))
  case atStart => exact ⟨k, k + 1, xs, ⟨HDL.out, by omega, by omega⟩, rfl, by rw [w64 (by omega) (by have := HL.out; have := HN.out; have := HK1.out; omega)]; rfl, HR1, HG1⟩
  case round =>
   clear HDL HR1 HG1
   obtain ⟨i, j, C, HM, rfl, rfl, HR, HG⟩ := hrel
   by_cases hi : j < n
   ·
    have b1 : decide ((j : Int) < (n : Int)) = true := decide_eq_true (by omega)
    have b2 : decide (j < n) = true := decide_eq_true (by omega)
    have p1 : (0 : Int) ≤ (j : Int) := by omega
    have p2 : (j : Int) < (n : Int) := by omega
    have hcn := (Kd.R_reads' HR.out).1
    obtain ⟨cj, hcl, hM, hcc, _⟩ := Kd.R_elem HR.out zDl (j : Int) p1 p2
    rw [Int.toNat_natCast] at hM hcc
    have hx : C[j]? = some (C.getD j zDl) := by rw [List.getD_eq_getElem?_getD, List.getElem?_eq_getElem (by omega)]; rfl
    have HX := mk0 (And.intro hx (HM.out.1.at' hx))
    clear hx
    generalize C.getD j zDl = x at hM HX
    obtain ⟨v, rfl, hV⟩ := kDl_openM hM
    obtain ⟨B, b, rfl, _, _⟩ := Kd.R_reads hV
    have h0 : wr.cell? ⟨g, j * 5, none⟩ = some (Value.int .i64 x.sub) := hcc 0 _ rfl
    have h1 : wr.cell? ⟨g, j * 5 + 1, none⟩ = some (Value.int .i64 x.pub) := hcc 1 _ rfl
    have h2 : wr.cell? ⟨g, j * 5 + 2, none⟩ = some (Value.int .i64 x.seq) := hcc 2 _ rfl
    have h3 : wr.cell? ⟨g, j * 5 + 3, none⟩ = some (Vs B x.V.length b) := hcc 3 _ rfl
    have h4 : wr.cell? ⟨g, j * 5 + 4, none⟩ = some (Value.string x.pay) := hcc 4 _ rfl
    have HC1 := mk0 (HG.out.cell HC.out HNE.out)
    have HMM := mk0 hM
    clear hM hcc hcl hV hcn
    go_upto_region 8 with (fail)
    have ha := below_alloc (Below.refl wr.heap.size wr) (.cells #[.int .i64 x.sub, .int .i64 x.pub, .int .i64 x.seq, .slice B x.V.length b, .string x.pay] tDl)
    have hk := heap_alloc_new wr (.cells #[.int .i64 x.sub, .int .i64 x.pub, .int .i64 x.seq, .slice B x.V.length b, .string x.pay] tDl)
    have n0_ := mk0 (Kd.R_below HR.out ha)
    have n1_ := mk0 (gby_below HG.out ha)
    have n2_ := mk0 (Kd.M_below HMM.out ha)
    have n3_ := mk0 (pw_cell_below ha HC1.out)
    clear HR HG HMM h0 h1 h2 h3 h4 HC1
    generalize wr.alloc (.cells #[.int .i64 x.sub, .int .i64 x.pub, .int .i64 x.seq, .slice B x.V.length b, .string x.pay] tDl) = W4 at ha hk n0_ n1_ n2_ n3_ ⊢
    have HR := n0_
    have HG := n1_
    have HMM := n2_
    have HC1 := n3_
    clear n0_ n1_ n2_ n3_ ha
    generalize wr.heap.size = gb at hk ⊢
    have e0 := (blk_cell hk 0).trans (show _ = some (Value.int .i64 x.sub) from rfl)
    have e1 := (blk_cell hk 1).trans (show _ = some (Value.int .i64 x.pub) from rfl)
    have e2 := (blk_cell hk 2).trans (show _ = some (Value.int .i64 x.seq) from rfl)
    have e3 := (blk_cell hk 3).trans (show _ = some (Vs B x.V.length b) from rfl)
    have e4 := (blk_cell hk 4).trans (show _ = some (Value.string x.pay) from rfl)
    clear hk
    go_wp2_with fail
    refine (isdl_calls id gi x (Vs B x.V.length b) W4 HC1.out).mono ?_
    rintro r w2 ⟨rfl, hb⟩
    have n0_ := mk0 (Kd.R_below HR.out hb)
    have n1_ := mk0 (gby_below HG.out hb)
    have n2_ := mk0 (Kd.M_below HMM.out hb)
    replace e0 := (hb.cell (World.block_lt_of_cell? W4 _ e0)).trans e0
    replace e1 := (hb.cell (World.block_lt_of_cell? W4 _ e1)).trans e1
    replace e2 := (hb.cell (World.block_lt_of_cell? W4 _ e2)).trans e2
    replace e3 := (hb.cell (World.block_lt_of_cell? W4 _ e3)).trans e3
    replace e4 := (hb.cell (World.block_lt_of_cell? W4 _ e4)).trans e4
    clear HR HG HMM hb HC1
    have HR := n0_
    have HG := n1_
    have HMM := n2_
    clear n0_ n1_ n2_
    cases hpx : (ofSub id) x with
    | true =>
     have HP := mk0 hpx
     clear hpx e0 e1 e2 e3 e4
     go_wp2_with fail
     go_roundg (gk - 1)
     case measure => have := HM.out; omega
     case rel => exact ⟨i, j + 1, C, ⟨HM.out.1.skip HX.out.2 HP.out, by have := HM.out.2; omega, by have := HM.out.2; omega⟩, rfl, by rw [w64 (by omega) (by have := HL.out; have := HN.out; omega)]; rfl, HR, HG⟩
    | false =>
     have HP := mk0 hpx
     clear hpx
     have q1 : (0 : Int) ≤ (i : Int) := by omega
     have q2 : (i : Int) < (n : Int) := by have := HM.out.1.le; omega
     obtain ⟨ci, hcl, _, hcc, _⟩ := Kd.R_elem HR.out zDl (i : Int) q1 q2
     have HFM := mk0 (show kDl.M w2 base (fun k => ok k ∧ k ≠ g) x (ci.take 0 ++ [.int .i64 x.sub, .int .i64 x.pub, .int .i64 x.seq, .slice B x.V.length b, .string x.pay] ++ ci.drop (0 + 5)) from by rw [show List.drop (0 + 5) ci = [] from List.drop_eq_nil_of_le (Nat.le_of_eq hcl)]; exact HMM.out)
     have HON : Aside0 (∀ q ∈ [Value.int .i64 x.sub, .int .i64 x.pub, .int .i64 x.seq, .slice B x.V.length b, .string x.pay], q.oneCell' = true) := ⟨by intro q hq; simp only [List.mem_cons, List.not_mem_nil, or_false] at hq; rcases hq with rfl | rfl | rfl | rfl | rfl <;> rfl⟩
     have HCI := mk0 (And.intro hcl hcc)
     clear hcl hcc HMM
     go_wp2_with ((with_reducible refine gate_ (.store tDl (.tmp 33) (.tmp 32)) rfl ?_); go_loud (refine Kd.R_store kDl (w0 := w2) (o' := i * 5) base rfl rfl tDl (.tmp 33) (.tmp 32) rfl tDl (i : Int) 0 C x (.agg #[.int .i64 x.sub, .int .i64 x.pub, .int .i64 x.seq, .slice B x.V.length b, .string x.pay]) [.int .i64 x.sub, .int .i64 x.pub, .int .i64 x.seq, .slice B x.V.length b, .string x.pay] ci ok (fun k => ok k ∧ k ≠ g) ?hp ?hoff ?hx rfl ?ht ?h1 HR.out q1 q2 HCI.out.1 HCI.out.2 ?hj ?hM (fun _ hk => hk) (Below.refl _ _) ?_; (case hp => first | rfl | (go_simp; done) | (go_simp; rfl)); (case hoff => rfl); (case hx => first | rfl | (go_simp; done) | (go_simp; rfl)); (case ht => kernel_rfl); (case h1 => exact HON.out); (case hj => exact Nat.le_refl _); (case hM => exact HFM.out); intro w9 ho hb hg; have n0_ := mk0 ho; have n1_ := mk0 (grownBy_tr HG.out hg); clear HR HG HFM HCI HON ho hb hg; have HR := n0_; have HG := n1_; clear n0_ n1_))
     go_roundg (gk - 1)
     case measure => have := HM.out; omega
     case rel => exact ⟨i + 1, j + 1, C.set i x, ⟨HM.out.1.keep HX.out.2 HP.out, by have := HM.out.2; omega, by have := HM.out.2; omega⟩, by rw [w64 (by omega) (by have := HL.out; have := HN.out; omega)]; rfl, by rw [w64 (by omega) (by have := HL.out; have := HN.out; omega)]; rfl, HR, HG⟩
   ·
    have b1 : decide ((j : Int) < (n : Int)) = false := decide_eq_false (by omega)
    have b2 : decide (j < n) = false := decide_eq_false (by omega)
    have hjn : j = n := by have := HM.out.1.jle; have := HN.out; omega
    subst hjn
    have hij := HM.out.2.2
    obtain ⟨hcn, hc0, _⟩ := Kd.R_reads' HR.out
    obtain ⟨tI, htI, hts, htz⟩ := zero_info infoDl9
    have hS1 : ∀ W : World, (Instr.slice 43 (.slice (some ⟨g, 0, none⟩) j c0) (some (.int .i64 (i : Int))) none none).run Tryz.prog W = .ok (.slice (some ⟨g, i * 5, none⟩) (j - i) (c0 - i)) W := by
     intro W
     rw [cut_from (P := Tryz.prog) 43 tDl .i64 Tryz.underlying43 htI 5 hts (some ⟨g, 0, none⟩) j c0 (i : Int) (by omega) (by omega) W, Int.toNat_natCast, if_neg (by omega)]
     rw [Option.map_some, add_plain]
    have hS2 : ∀ W : World, (Instr.slice 43 (.slice (some ⟨g, 0, none⟩) j c0) none (some (.int .i64 (i : Int))) none).run Tryz.prog W = .ok (.slice (some ⟨g, 0, none⟩) i c0) W := by
     intro W
     rw [cut_to (P := Tryz.prog) 43 tDl .i64 Tryz.underlying43 htI (some ⟨g, 0, none⟩) j c0 (i : Int) (by omega) (by omega) hc0 W, Int.toNat_natCast]
    obtain ⟨hcl, hzl⟩ := clear_own HR.out i hij 43 0 _ (c0 - i) Tryz.underlying43 htz rfl (by decide) (by decide)
    have hCl : ∀ ty, (Builtin.clear_ #[43] ty #[.slice (some ⟨g, i * 5, none⟩) (j - i) (c0 - i)]).run Tryz.prog wr = .ok (.tuple #[]) (wr.setCells g (i * 5) (Builtin.zeroCells (Value.agg #[(.int .i64 0), (.int .i64 0), (.int .i64 0), (.slice none 0 0), (.string ⟨#[]⟩)]).cells (j - i)).toList) := fun ty => (clear_own HR.out i hij 43 ty _ (c0 - i) Tryz.underlying43 htz rfl (by decide) (by decide)).1
    generalize (Builtin.zeroCells (Value.agg #[(.int .i64 0), (.int .i64 0), (.int .i64 0), (.slice none 0 0), (.string ⟨#[]⟩)]).cells (j - i)).toList = zc at hCl hzl
    have hfin := R_behind HR.out (Nat.le_of_lt hij) (show C.take i = keepL (ofSub id) xs from DelAt.done (by rw [← HN.out]; exact HM.out.1)) zc hzl (by omega)
    have HFIN := mk0 (And.intro hfin.1 (grownBy_tr HG.out hfin.2))
    clear hcl hzl hfin hcn hc0 hij htI htz hts HR HG HM
    go_wp2
    go_ret
    exact ⟨_, rfl, HFIN.out.1, HFIN.out.2, rfl⟩
end Go.Proofs.YtnmpijbcajclgaaGreatDoor.Mine
end
