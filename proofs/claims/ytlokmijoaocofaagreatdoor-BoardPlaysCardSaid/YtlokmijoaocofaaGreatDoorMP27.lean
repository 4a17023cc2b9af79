/- Texts of one claim, one behind the other, made short by a program. -/
import Derived.Test.YtlokmijoaocofaaGreatDoorMP16
import Derived.Test.YtlokmijoaocofaaGreatDoorMP17
import Derived.Test.YtlokmijoaocofaaGreatDoorMP23
import Derived.Test.YtlokmijoaocofaaGreatDoorMP24
import Derived.Test.YtlokmijoaocofaaGreatDoorMP25
import Derived.Test.YtlokmijoaocofaaGreatDoorMP26
set_option linter.unusedSimpArgs false
set_option linter.unusedVariables false
section
namespace Go.Proofs.YtlokmijoaocofaaGreatDoor.Mine
open Go.Maps Go.RowKit YtlokmijoaocofaaGreatDoorW.PrintWords YtlokmijoaocofaaGreatDoorW.PrintLast YtlokmijoaocofaaGreatDoorW.PrintMore
open PBoardPlays
open Value renaming slice → Vs
theorem CRA_kept {base : Nat} {w w' : World} (hk : Kept base w w') {A : Option Addr} {n : Nat} {L : List S63} (h : Kd.C k63 w A n L) : Kd.C k63 w' A n L :=
 ⟨h.1, h.2.1, fun hn => by
  obtain ⟨ad, e, hc⟩ := h.2.2 hn
  refine ⟨ad, e, fun j p hj => ?_⟩
  obtain ⟨cs, h1, h2, h3⟩ := hc j p hj
  obtain rfl := k63_open h2
  exact ⟨_, h1, k63_mk w' p, fun i u hi => hk.cell (h3 i u hi)⟩⟩
theorem CRP_kept {base : Nat} {w w' : World} (hk : Kept base w w') {A : Option Addr} {n : Nat} {L : List S158} (h : Kd.C k158 w A n L) : Kd.C k158 w' A n L :=
 ⟨h.1, h.2.1, fun hn => by
  obtain ⟨ad, e, hc⟩ := h.2.2 hn
  refine ⟨ad, e, fun j p hj => ?_⟩
  obtain ⟨cs, h1, h2, h3⟩ := hc j p hj
  obtain rfl := k158_open h2
  exact ⟨_, h1, k158_mk w' p, fun i u hi => hk.cell (h3 i u hi)⟩⟩
theorem CRE_kept {base : Nat} {w w' : World} (hk : Kept base w w') {A : Option Addr} {n : Nat} {L : List REv} (h : Kd.C kRE w A n L) : Kd.C kRE w' A n L :=
 ⟨h.1, h.2.1, fun hn => by
  obtain ⟨ad, e, hc⟩ := h.2.2 hn
  refine ⟨ad, e, fun j p hj => ?_⟩
  obtain ⟨cs, h1, h2, h3⟩ := hc j p hj
  obtain rfl := kRE_open h2
  exact ⟨_, h1, kRE_mk w' p, fun i u hi => hk.cell (h3 i u hi)⟩⟩
theorem CRS_kept {base : Nat} {w w' : World} (hk : Kept base w w') {A : Option Addr} {n : Nat} {L : List RSub} (h : Kd.C kRS w A n L) : Kd.C kRS w' A n L :=
 ⟨h.1, h.2.1, fun hn => by
  obtain ⟨ad, e, hc⟩ := h.2.2 hn
  refine ⟨ad, e, fun j p hj => ?_⟩
  obtain ⟨cs, h1, h2, h3⟩ := hc j p hj
  obtain rfl := kRS_open h2
  exact ⟨_, h1, kRS_mk w' p, fun i u hi => hk.cell (h3 i u hi)⟩⟩
theorem CRG_kept {base : Nat} {w w' : World} (hk : Kept base w w') {A : Option Addr} {n : Nat} {L : List RGiv} (h : Kd.C kRG w A n L) : Kd.C kRG w' A n L :=
 ⟨h.1, h.2.1, fun hn => by
  obtain ⟨ad, e, hc⟩ := h.2.2 hn
  refine ⟨ad, e, fun j p hj => ?_⟩
  obtain ⟨cs, h1, h2, h3⟩ := hc j p hj
  obtain rfl := kRG_open h2
  exact ⟨_, h1, kRG_mk w' p, fun i u hi => hk.cell (h3 i u hi)⟩⟩
theorem EvRd.kept {base : Nat} {w w' : World} {x : REv} (hk : Kept base w w') (h : EvRd w x) : EvRd w' x := ⟨h.1, h.2.1, h.2.2.1, CR_kept hk h.2.2.2⟩
theorem SubRd.kept {base : Nat} {w w' : World} {x : RSub} (hk : Kept base w w') (h : SubRd w x) : SubRd w' x := ⟨h.1, h.2.1, h.2.2.1, h.2.2.2.1, CRP_kept hk h.2.2.2.2⟩
theorem IsRB.kept {base : Nat} {w w' : World} {S : List SA} {n : Nat} {h : RH} {B : RB} (hk : Kept base w w') (k : IsRB w S n h B) : IsRB w' S n h B :=
 ⟨k.len, k.cs, CRA_kept hk k.sch, k.ce, CRE_kept hk k.ev, fun x hx => (k.evs x hx).kept hk, k.cu, CRS_kept hk k.sub, fun x hx => (k.subs x hx).kept hk, k.cg, CRG_kept hk k.got⟩
theorem addB (a : Addr) (n : Nat) : (a.add n).block = a.block := by unfold Addr.add; split <;> rfl
def PutB (gr : Nat) (w w' : World) : Prop := (∀ k, k ≠ gr → w'.heap[k]? = w.heap[k]?) ∧ (∀ a u, w.cell? a = some u → a.block = gr → ∃ A n c, u = .slice A n c) ∧ (∃ cs t fr, w.heap[gr]? = some (.cells cs t fr))
theorem PutB.cell {gr : Nat} {w w' : World} (h : PutB gr w w') (a : Addr) (ha : a.block ≠ gr) : w'.cell? a = w.cell? a := by
 unfold World.cell?
 rw [h.1 _ ha]
theorem PutB.ne {gr : Nat} {w w' : World} (h : PutB gr w w') {b : Nat} {cs : Array Value} {t : TypeId} (hb : w.heap[b]? = some (.cells cs t (0, 0))) (j : Nat) {u : Value} (hj : cs[j]? = some u) (hu : ∀ A n c, u ≠ .slice A n c) : b ≠ gr := fun e => by
 obtain ⟨A, n, c, e2⟩ := h.2.1 ⟨b, j, none⟩ u ((blk_cell hb j).trans hj) e
 exact hu A n c e2
theorem PutB.nmap {gr : Nat} {w w' : World} (h : PutB gr w w') {b : Nat} {es : Array MapEntry} {cl : Nat} (hb : w.heap[b]? = some (.map es cl)) : b ≠ gr := fun e => by
 obtain ⟨cs, t, fr, h3⟩ := h.2.2
 rw [e, h3] at hb
 cases hb
theorem CV_put {gr : Nat} {w w' : World} (hp : PutB gr w w') {A : Option Addr} {n : Nat} {L : List SV} (h : Kd.C k72 w A n L) : Kd.C k72 w' A n L :=
 ⟨h.1, h.2.1, fun hn => by
  obtain ⟨ad, e, hc⟩ := h.2.2 hn
  refine ⟨ad, e, fun j p hj => ?_⟩
  obtain ⟨cs, h1, h2, h3⟩ := hc j p hj
  obtain rfl := k72_open h2
  have hne : ad.block ≠ gr := fun hb => by
   obtain ⟨A, n, c, hu⟩ := hp.2.1 _ _ (h3 0 _ rfl) ((addB _ _).trans hb)
   cases hu
  exact ⟨_, h1, k72_mk w' p, fun i u hi => (hp.cell _ (by rw [addB]; exact hne)).trans (h3 i u hi)⟩⟩
theorem CA_put {gr : Nat} {w w' : World} (hp : PutB gr w w') {A : Option Addr} {n : Nat} {L : List SA} (h : Kd.C k61 w A n L) : Kd.C k61 w' A n L :=
 ⟨h.1, h.2.1, fun hn => by
  obtain ⟨ad, e, hc⟩ := h.2.2 hn
  refine ⟨ad, e, fun j p hj => ?_⟩
  obtain ⟨cs, h1, h2, h3⟩ := hc j p hj
  obtain rfl := k61_open h2
  have hne : ad.block ≠ gr := fun hb => by
   obtain ⟨A, n, c, hu⟩ := hp.2.1 _ _ (h3 0 _ rfl) ((addB _ _).trans hb)
   cases hu
  exact ⟨_, h1, k61_mk w' p, fun i u hi => (hp.cell _ (by rw [addB]; exact hne)).trans (h3 i u hi)⟩⟩
theorem CP_put {gr : Nat} {w w' : World} (hp : PutB gr w w') {A : Option Addr} {n : Nat} {L : List SP} (h : Kd.C k149 w A n L) : Kd.C k149 w' A n L :=
 ⟨h.1, h.2.1, fun hn => by
  obtain ⟨ad, e, hc⟩ := h.2.2 hn
  refine ⟨ad, e, fun j p hj => ?_⟩
  obtain ⟨cs, h1, h2, h3⟩ := hc j p hj
  obtain rfl := k149_open h2
  have hne : ad.block ≠ gr := fun hb => by
   obtain ⟨A, n, c, hu⟩ := hp.2.1 _ _ (h3 0 _ rfl) ((addB _ _).trans hb)
   cases hu
  exact ⟨_, h1, k149_mk w' p, fun i u hi => (hp.cell _ (by rw [addB]; exact hne)).trans (h3 i u hi)⟩⟩
theorem CR_put {gr : Nat} {w w' : World} (hp : PutB gr w w') {A : Option Addr} {n : Nat} {L : List RV} (h : Kd.C k135 w A n L) : Kd.C k135 w' A n L :=
 ⟨h.1, h.2.1, fun hn => by
  obtain ⟨ad, e, hc⟩ := h.2.2 hn
  refine ⟨ad, e, fun j p hj => ?_⟩
  obtain ⟨cs, h1, h2, h3⟩ := hc j p hj
  obtain rfl := k135_open h2
  have hne : ad.block ≠ gr := fun hb => by
   obtain ⟨A, n, c, hu⟩ := hp.2.1 _ _ (h3 0 _ rfl) ((addB _ _).trans hb)
   cases hu
  exact ⟨_, h1, k135_mk w' p, fun i u hi => (hp.cell _ (by rw [addB]; exact hne)).trans (h3 i u hi)⟩⟩
theorem CRA_put {gr : Nat} {w w' : World} (hp : PutB gr w w') {A : Option Addr} {n : Nat} {L : List S63} (h : Kd.C k63 w A n L) : Kd.C k63 w' A n L :=
 ⟨h.1, h.2.1, fun hn => by
  obtain ⟨ad, e, hc⟩ := h.2.2 hn
  refine ⟨ad, e, fun j p hj => ?_⟩
  obtain ⟨cs, h1, h2, h3⟩ := hc j p hj
  obtain rfl := k63_open h2
  have hne : ad.block ≠ gr := fun hb => by
   obtain ⟨A, n, c, hu⟩ := hp.2.1 _ _ (h3 0 _ rfl) ((addB _ _).trans hb)
   cases hu
  exact ⟨_, h1, k63_mk w' p, fun i u hi => (hp.cell _ (by rw [addB]; exact hne)).trans (h3 i u hi)⟩⟩
theorem CRP_put {gr : Nat} {w w' : World} (hp : PutB gr w w') {A : Option Addr} {n : Nat} {L : List S158} (h : Kd.C k158 w A n L) : Kd.C k158 w' A n L :=
 ⟨h.1, h.2.1, fun hn => by
  obtain ⟨ad, e, hc⟩ := h.2.2 hn
  refine ⟨ad, e, fun j p hj => ?_⟩
  obtain ⟨cs, h1, h2, h3⟩ := hc j p hj
  obtain rfl := k158_open h2
  have hne : ad.block ≠ gr := fun hb => by
   obtain ⟨A, n, c, hu⟩ := hp.2.1 _ _ (h3 0 _ rfl) ((addB _ _).trans hb)
   cases hu
  exact ⟨_, h1, k158_mk w' p, fun i u hi => (hp.cell _ (by rw [addB]; exact hne)).trans (h3 i u hi)⟩⟩
theorem CRE_put {gr : Nat} {w w' : World} (hp : PutB gr w w') {A : Option Addr} {n : Nat} {L : List REv} (h : Kd.C kRE w A n L) : Kd.C kRE w' A n L :=
 ⟨h.1, h.2.1, fun hn => by
  obtain ⟨ad, e, hc⟩ := h.2.2 hn
  refine ⟨ad, e, fun j p hj => ?_⟩
  obtain ⟨cs, h1, h2, h3⟩ := hc j p hj
  obtain rfl := kRE_open h2
  have hne : ad.block ≠ gr := fun hb => by
   obtain ⟨A, n, c, hu⟩ := hp.2.1 _ _ (h3 0 _ rfl) ((addB _ _).trans hb)
   cases hu
  exact ⟨_, h1, kRE_mk w' p, fun i u hi => (hp.cell _ (by rw [addB]; exact hne)).trans (h3 i u hi)⟩⟩
theorem CRS_put {gr : Nat} {w w' : World} (hp : PutB gr w w') {A : Option Addr} {n : Nat} {L : List RSub} (h : Kd.C kRS w A n L) : Kd.C kRS w' A n L :=
 ⟨h.1, h.2.1, fun hn => by
  obtain ⟨ad, e, hc⟩ := h.2.2 hn
  refine ⟨ad, e, fun j p hj => ?_⟩
  obtain ⟨cs, h1, h2, h3⟩ := hc j p hj
  obtain rfl := kRS_open h2
  have hne : ad.block ≠ gr := fun hb => by
   obtain ⟨A, n, c, hu⟩ := hp.2.1 _ _ (h3 0 _ rfl) ((addB _ _).trans hb)
   cases hu
  exact ⟨_, h1, kRS_mk w' p, fun i u hi => (hp.cell _ (by rw [addB]; exact hne)).trans (h3 i u hi)⟩⟩
theorem CRG_put {gr : Nat} {w w' : World} (hp : PutB gr w w') {A : Option Addr} {n : Nat} {L : List RGiv} (h : Kd.C kRG w A n L) : Kd.C kRG w' A n L :=
 ⟨h.1, h.2.1, fun hn => by
  obtain ⟨ad, e, hc⟩ := h.2.2 hn
  refine ⟨ad, e, fun j p hj => ?_⟩
  obtain ⟨cs, h1, h2, h3⟩ := hc j p hj
  obtain rfl := kRG_open h2
  have hne : ad.block ≠ gr := fun hb => by
   obtain ⟨A, n, c, hu⟩ := hp.2.1 _ _ (h3 0 _ rfl) ((addB _ _).trans hb)
   cases hu
  exact ⟨_, h1, kRG_mk w' p, fun i u hi => (hp.cell _ (by rw [addB]; exact hne)).trans (h3 i u hi)⟩⟩
theorem EvRd.put {gr : Nat} {w w' : World} {x : REv} (hk : PutB gr w w') (h : EvRd w x) : EvRd w' x := ⟨h.1, h.2.1, h.2.2.1, CR_put hk h.2.2.2⟩
theorem SubRd.put {gr : Nat} {w w' : World} {x : RSub} (hk : PutB gr w w') (h : SubRd w x) : SubRd w' x := ⟨h.1, h.2.1, h.2.2.1, h.2.2.2.1, CRP_put hk h.2.2.2.2⟩
theorem IsRB.put {gr : Nat} {w w' : World} {S : List SA} {n : Nat} {h : RH} {B : RB} (hk : PutB gr w w') (k : IsRB w S n h B) : IsRB w' S n h B :=
 ⟨k.len, k.cs, CRA_put hk k.sch, k.ce, CRE_put hk k.ev, fun x hx => (k.evs x hx).put hk, k.cu, CRS_put hk k.sub, fun x hx => (k.subs x hx).put hk, k.cg, CRG_put hk k.got⟩
theorem IsBd.put {gr base : Nat} {w w' : World} {g : Nat} {S : List SA} {B : Bd} {N : Nat} (hk : PutB gr w w') (h : IsBd base w g S B N) : IsBd base w' g S B N := by
 obtain ⟨A, n, c, be, bs, bg, fe, fs, fg, h1, ⟨h2, h3, h4⟩, h5, h6, h7, h8, h8b, h9, h10, h11⟩ := h
 have hg : g ≠ gr := hk.ne h1 1 rfl (fun _ _ _ e => by cases e)
 have hm : ∀ {b : Nat} {es : Array MapEntry} {cl : Nat}, w.heap[b]? = some (.map es cl) → w'.heap[b]? = w.heap[b]? := fun hb => hk.1 _ (hk.nmap hb)
 obtain ⟨_, _, o5⟩ := h5.obj
 obtain ⟨_, _, o6⟩ := h6.obj
 obtain ⟨_, _, o7⟩ := h7.obj
 refine ⟨A, n, c, be, bs, bg, fe, fs, fg, (hk.1 _ hg).trans h1, ⟨h2, h3, CA_put hk h4⟩, h5.block (hm o5), h6.block (hm o6), h7.block (hm o7), h8, h8b, fun x => ⟨(h9 x).1, fun V p hx => ?_⟩, fun x => ⟨(h10 x).1, fun F hx => ?_⟩, h11⟩
 ·
  obtain ⟨A, n, c, q1, q2, q3, q4, q5⟩ := (h9 x).2 V p hx
  exact ⟨A, n, c, q1, q2, q3, q4, CV_put hk q5⟩
 ·
  obtain ⟨A, n, c, q1, q2, q3, q4, q5⟩ := (h10 x).2 F hx
  exact ⟨A, n, c, q1, q2, q3, q4, CP_put hk q5⟩
theorem ErrIs.put {gr : Nat} {w w' : World} (hk : PutB gr w w') {c : Int} : ∀ {n : Nat} {v : Value}, ErrIs w c n v → ErrIs w' c n v
 | 0, _, h => h
 | _ + 1, _, ⟨b, wh, at_, x, hv, hc, hx⟩ => ⟨b, wh, at_, x, hv, (hk.1 b (hk.ne hc 0 rfl (fun _ _ _ e => by cases e))).trans hc, ErrIs.put hk hx⟩
theorem ErrTy.kept {base : Nat} {w w' : World} (hk : Kept base w w') (h : ErrTy w) : ErrTy w' := hk.cell h
theorem ErrTy.put {gr : Nat} {w w' : World} (hk : PutB gr w w') (h : ErrTy w) : ErrTy w' := (hk.cell _ (fun e => by
 obtain ⟨A, n, c, hu⟩ := hk.2.1 _ _ h e
 cases hu)).trans h
def CodeV (w : World) (c : Int) (v : Value) : Prop := (c = 0 ∧ v = .nilIface) ∨ ∃ n, ErrIs w c n v
theorem CodeV.kept {base : Nat} {w w' : World} (hk : Kept base w w') {c : Int} {v : Value} (h : CodeV w c v) : CodeV w' c v := by
 rcases h with h | ⟨n, h⟩
 ·
  exact Or.inl h
 ·
  exact Or.inr ⟨n, h.kept hk⟩
theorem CodeV.put {gr : Nat} {w w' : World} (hk : PutB gr w w') {c : Int} {v : Value} (h : CodeV w c v) : CodeV w' c v := by
 rcases h with h | ⟨n, h⟩
 ·
  exact Or.inl h
 ·
  exact Or.inr ⟨n, h.put hk⟩
theorem of_any {c : Int} {v : Value} {w : World} (h : CodeV w c v) (hg : ErrTy w) : Calls Tryz.prog 12 #[v] w fun ev w' => ev = .returned (.int .i64 c) ∧ Below w.heap.size w w' := by
 rcases h with ⟨rfl, rfl⟩ | ⟨n, h⟩
 ·
  exact of_nil w
 ·
  exact of_err c n v w h hg
theorem put4 {w : World} {gr : Nat} {t : TypeId} {A1 A2 A3 A4 : Option Addr} {n1 n2 n3 n4 c1 c2 c3 c4 : Nat} (h : w.heap[gr]? = some (.cells #[.slice A1 n1 c1, .slice A2 n2 c2, .slice A3 n3 c3, .slice A4 n4 c4] t (0, 0))) (v0 v1 v2 v3 : Value) :
 PutB gr w ((((w.setCell ⟨gr, 0, none⟩ v0).setCell ⟨gr, 1, none⟩ v1).setCell ⟨gr, 2, none⟩ v2).setCell ⟨gr, 3, none⟩ v3) := by
 refine ⟨fun k hk => ?_, fun a u ha hb => ?_, ⟨_, _, _, h⟩⟩
 ·
  rw [Below.heap_setCell _ _ _ _ hk, Below.heap_setCell _ _ _ _ hk, Below.heap_setCell _ _ _ _ hk, Below.heap_setCell _ _ _ _ hk]
 ·
  unfold World.cell? at ha
  rw [hb, h] at ha
  dsimp only at ha
  split at ha
  ·
   cases ha
  ·
   obtain ⟨hlt, he⟩ := Array.getElem?_eq_some_iff.1 ha
   have h4 : a.off < 4 := hlt
   have : a.off = 0 ∨ a.off = 1 ∨ a.off = 2 ∨ a.off = 3 := by omega
   generalize a.off = o at ha this
   rcases this with rfl | rfl | rfl | rfl
   ·
    exact ⟨A1, n1, c1, (Option.some.inj ha).symm⟩
   ·
    exact ⟨A2, n2, c2, (Option.some.inj ha).symm⟩
   ·
    exact ⟨A3, n3, c3, (Option.some.inj ha).symm⟩
   ·
    exact ⟨A4, n4, c4, (Option.some.inj ha).symm⟩
theorem Kept.put {base gr : Nat} {w w1 w2 : World} (h : Kept base w w1) (hb : Below base w w2) (hg : w.heap.size ≤ gr) (hp : PutB gr w1 w2) : Kept base w w2 :=
 ⟨hb, fun b cs t fr hc => (hp.1 b (fun e => by
  have := (Array.getElem?_eq_some_iff.1 hc).1
  omega)).trans (h.2 b cs t fr hc)⟩
structure DFx (w : World) (a : ActR) (g5 g6 g8 g10 g11 : Nat) (E1 E2 : Option Addr) (m2 c2 : Nat) (V1 : List SV) (p1 : ByteArray) : Prop where
 ty : ErrTy w
 act : w.heap[g5]? = some (.cells #[.int .i64 a.kind, .int .i64 a.pub, .int .i64 a.seq, .int .i64 a.node, .int .i64 a.sub, .string a.text, .slice a.A a.n a.c, .string a.pay] 46 (0, 0))
 res : w.heap[g6]? = some (.cells #[.slice none 0 0, .slice none 0 0, .slice none 0 0, .slice none 0 0] 41 (0, 0))
 ev : w.heap[g8]? = some (.cells #[.slice E1 m2 c2, .string p1] 44 (0, 0))
 who : w.heap[g10]? = some (.cells #[.int .i64 a.node, .int .i64 a.sub] 56 (0, 0))
 giv : w.heap[g11]? = some (.cells #[.int .i64 a.node, .int .i64 a.sub, .int .i64 a.pub, .int .i64 a.seq] 58 (0, 0))
 v1 : Kd.C k72 w E1 m2 V1
 v2 : Kd.C k135 w E2 m2 (V1.map toV)
theorem DFx.kept {base : Nat} {w w' : World} {a : ActR} {g5 g6 g8 g10 g11 : Nat} {E1 E2 : Option Addr} {m2 c2 : Nat} {V1 : List SV} {p1 : ByteArray} (h : DFx w a g5 g6 g8 g10 g11 E1 E2 m2 c2 V1 p1) (hk : Kept base w w') : DFx w' a g5 g6 g8 g10 g11 E1 E2 m2 c2 V1 p1 :=
 ⟨h.ty.kept hk, hk.2 _ _ _ _ h.act, hk.2 _ _ _ _ h.res, hk.2 _ _ _ _ h.ev, hk.2 _ _ _ _ h.who, hk.2 _ _ _ _ h.giv, CV_kept hk h.v1, CR_kept hk h.v2⟩
theorem DFx.put {gr : Nat} {w w' : World} {a : ActR} {g5 g6 g8 g10 g11 : Nat} {E1 E2 : Option Addr} {m2 c2 : Nat} {V1 : List SV} {p1 : ByteArray} (h : DFx w a g5 g6 g8 g10 g11 E1 E2 m2 c2 V1 p1) (hk : PutB gr w w') (hg : g6 ≠ gr) : DFx w' a g5 g6 g8 g10 g11 E1 E2 m2 c2 V1 p1 :=
 ⟨h.ty.put hk, (hk.1 _ (hk.ne h.act 0 rfl (fun _ _ _ e => by cases e))).trans h.act, (hk.1 _ hg).trans h.res, (hk.1 _ (hk.ne h.ev 1 rfl (fun _ _ _ e => by cases e))).trans h.ev, (hk.1 _ (hk.ne h.who 0 rfl (fun _ _ _ e => by cases e))).trans h.who, (hk.1 _ (hk.ne h.giv 0 rfl (fun _ _ _ e => by cases e))).trans h.giv, CV_put hk h.v1, CR_put hk h.v2⟩
theorem R_at2 {α : Type} {k : Kd α} {e : Nat} {w : World} {base : Nat} {ok : Nat → Prop} {A : Option Addr} {n c : Nat} {xs : List α} (h : Kd.R k e w base ok (.slice A n c) xs) : ∃ b off, A = some ⟨b, off, none⟩ ∨ xs.length = 0 := by
 obtain ⟨_, inner, ho, _⟩ := h
 rcases ho.2 with ⟨_, h0⟩ | ⟨g, cap, cur, hv, _⟩
 ·
  exact ⟨0, 0, Or.inr h0⟩
 ·
  injection hv with h1 _ _
  exact ⟨g, 0, Or.inl h1⟩
theorem pub_any2 (base g N b off k c : Nat) (x : P2) (S : List SA) (B : Bd) (E : Option Addr) (V : List SV) (pay : ByteArray) (w : World) (hb : IsBd base w g S B N) (hbase : base ≤ w.heap.size) (hN : N ≤ 1000000) (hx : wf2 x) (hk : V.length = k) (hE : E = some ⟨b, off, none⟩ ∨ k = 0) (hr : Kd.C k72 w E k V) (hS1 : 0 < S.length) :
 Calls Tryz.prog 16 #[.pointer (some ⟨g, 0, none⟩), .int .i64 x.1, .int .i64 x.2, .agg #[.slice E k c, .string pay]] w fun e w' => ∃ v, e = .returned v ∧ Kept base w w' ∧ CodeV w' (pubC S B x V pay) v ∧ IsBd base w' g S (if pubC S B x V pay = 0 then B.pub x V pay else B) (N + 1) := by
 refine (publish_calls base g N b off k c x S B E V pay w hb hbase hN hx hk hE hr hS1).mono ?_
 rintro e w' ⟨h1, ⟨h2, ⟨bb, n, rfl, h4⟩, h5⟩ | ⟨h2, rfl, h4⟩⟩
 ·
  exact ⟨_, rfl, h1, Or.inr ⟨n, h4⟩, by rw [if_neg h2]; exact h5.mono (Nat.le_succ _)⟩
 ·
  exact ⟨_, rfl, h1, Or.inl ⟨h2, rfl⟩, by rw [if_pos h2]; exact h4⟩
theorem sub_any2 (base g N : Nat) (x : P2) (S : List SA) (B : Bd) (t : ByteArray) (w : World) (hb : IsBd base w g S B N) (hbase : base ≤ w.heap.size) (hN : N ≤ 1000000) (hx : wf2 x) (ht : t.size ≤ 1000) :
 Calls Tryz.prog 17 #[.pointer (some ⟨g, 0, none⟩), .agg #[.int .i64 x.1, .int .i64 x.2], .string t] w fun e w' => ∃ v B', e = .returned v ∧ Kept base w w' ∧ CodeV w' (subC S B x t) v ∧ IsBd base w' g S B' (N + 1) ∧ ((subC S B x t ≠ 0 ∧ B' = B) ∨ (subC S B x t = 0 ∧ ∃ xs, readR S t = .inl xs ∧ B' = B.sub x (xs.map toP))) := by
 refine (subscribe_calls base g N x S B t w hb hbase hN hx ht).mono ?_
 rintro e w' ⟨h1, ⟨h2, ⟨bb, n, rfl, h4⟩, h5⟩ | ⟨h2, rfl, xs, h3, h4⟩⟩
 ·
  exact ⟨_, B, rfl, h1, Or.inr ⟨n, h4⟩, h5.mono (Nat.le_succ _), Or.inl ⟨h2, rfl⟩⟩
 ·
  exact ⟨_, _, rfl, h1, Or.inl ⟨h2, rfl⟩, h4, Or.inr ⟨h2, xs, h3, rfl⟩⟩
theorem unsub_none {B : Bd} {x : P2} (h : B.subs x = none) : B.unsub x = B := by
 have : upd B.subs x none = B.subs := by
  funext y
  unfold upd
  by_cases hy : y = x
  ·
   rw [if_pos hy, hy, h]
  ·
   rw [if_neg hy]
 show { B with subs := upd B.subs x none } = B
 rw [this]
theorem unsub_any2 (base g N : Nat) (x : P2) (S : List SA) (B : Bd) (w : World) (hb : IsBd base w g S B N) (hbase : base ≤ w.heap.size) (hx : wf2 x) :
 Calls Tryz.prog 25 #[.pointer (some ⟨g, 0, none⟩), .agg #[.int .i64 x.1, .int .i64 x.2]] w fun e w' => ∃ v, e = .returned v ∧ Kept base w w' ∧ CodeV w' (if B.subs x = none then 9 else 0) v ∧ IsBd base w' g S (B.unsub x) (N + 1) := by
 refine (unsub_calls base g N x S B w hb hbase hx).mono ?_
 rintro e w' ⟨h1, ⟨h2, ⟨bb, n, rfl, h4⟩, h5⟩ | ⟨h2, rfl, h4⟩⟩
 ·
  exact ⟨_, rfl, h1, by rw [if_pos h2]; exact Or.inr ⟨n, h4⟩, by rw [unsub_none h2]; exact h5.mono (Nat.le_succ _)⟩
 ·
  exact ⟨_, rfl, h1, by rw [if_neg (fun h => by rw [h] at h2; cases h2)]; exact Or.inl ⟨rfl, rfl⟩, h4.mono (Nat.le_succ _)⟩
theorem give_any2 (base g N b off k c : Nat) (x t : P2) (S : List SA) (B : Bd) (E : Option Addr) (V : List SV) (pay : ByteArray) (w : World) (hb : IsBd base w g S B N) (hbase : base ≤ w.heap.size) (hN : N ≤ 1000000) (hx : wf2 x) (ht : wf2 t) (hk : V.length = k) (hkc : k ≤ c) (hr : Kd.C k72 w E k V) :
 Calls Tryz.prog 18 #[.pointer (some ⟨g, 0, none⟩), .int .i64 x.1, .agg #[.int .i64 x.2, .int .i64 t.1, .int .i64 t.2, .slice E k c, .string pay]] w fun e w' => ∃ v, e = .returned v ∧ Kept base w w' ∧ CodeV w' (giveC S B x t V pay) v ∧ IsBd base w' g S (if giveC S B x t V pay = 0 then B.give x t else B) (N + 1) := by
 refine (give_calls base g N b off k c x t S B E V pay w hb hbase hN hx ht hk hkc hr).mono ?_
 rintro e w' ⟨h1, ⟨h2, ⟨bb, n, rfl, h4⟩, h5⟩ | ⟨h2, rfl, h4⟩⟩
 ·
  exact ⟨_, rfl, h1, Or.inr ⟨n, h4⟩, by rw [if_neg h2]; exact h5.mono (Nat.le_succ _)⟩
 ·
  exact ⟨_, rfl, h1, Or.inl ⟨h2, rfl⟩, by rw [if_pos h2]; exact h4⟩
def Szs (R : RB) : Prop := ∀ e ∈ R.E, ∀ v ∈ e.V, v.f1.size ≤ 1000000000
def actV (a : ActR) : Value := .agg #[.int .i64 a.kind, .int .i64 a.pub, .int .i64 a.seq, .int .i64 a.node, .int .i64 a.sub, .string a.text, .slice a.A a.n a.c, .string a.pay]
def DoesPost (base g n N : Nat) (S : List SA) (w : World) (e : Ending) (w' : World) : Prop :=
 ∃ h' B' R', e = .returned (.tuple #[rbV n h' R', .int .i64 0]) ∧ Kept base w w' ∧ IsBd base w' g S B' (N + 1) ∧ IsRB w' S n h' R' ∧ Rel B' R' (N + 1) ∧ Szs R'
set_option maxHeartbeats 8000000 in
set_option maxRecDepth 100000 in
theorem does_calls (base g n N : Nat) (h : RH) (S : List SA) (B : Bd) (R : RB) (a : ActR) (w : World) (hbd : IsBd base w g S B N) (hrb : IsRB w S n h R) (hrel : Rel B R N) (hsz : Szs R) (hbase : base ≤ w.heap.size) (hN : N ≤ 100) (hok : ActOk w a) (hS1 : 0 < S.length) (hn9 : n ≤ 100000) (hty : ErrTy w) :
 Calls Tryz.prog 9 #[.pointer (some ⟨g, 0, none⟩), rbV n h R, actV a] w (DoesPost base g n N S w) := by
 have HEV := mk0 (fun W (hb : Below w.heap.size w W) => event5_calls a.A a.n a.c a.V a.pay W hok.len (Kd.C_below hok.vals hb) hok.cap (fun p hp => by have := hok.size p hp; have : maxLen = 9223372036854775807 := rfl; omega) (by have := hok.pay; have : maxLen = 9223372036854775807 := rfl; omega) (by have := hok.cap; have := hok.big; have : maxLen = 9223372036854775807 := rfl; omega))
 have HLE := mk0 (show (evOf a.V).length ≤ 6 ∧ ∀ v ∈ evOf a.V, v.f1.size ≤ 1000000000 from ⟨by unfold evOf; simp; omega, fun v hv => by
  unfold evOf at hv
  obtain ⟨x, _, rfl⟩ := List.mem_map.1 hv
  have := cutB_le x.f1 50
  show (cutB x.f1 50).size ≤ _
  omega⟩)
 have HCT := mk0 (fun W => show Calls Tryz.prog 13 #[.string a.text, .int .i64 400] W (fun e w' => e = .returned (.string (cutB a.text 400)) ∧ W = w') from cut_P a.text 400 W (by have := hok.text; have : maxLen = 9223372036854775807 := rfl; omega) (by omega))
 have HTL := mk0 (cutB_le a.text 400)
 have HBD := mk0 hbd
 have HRB := mk0 hrb
 have HREL := mk0 (And.intro hrel hsz)
 have HTY := mk0 hty
 have HP := mk0 (And.intro hbase (And.intro hN (And.intro hS1 hn9)))
 have HW := mk0 (show wf2 (a.node, a.sub) ∧ wf2 (a.pub, a.seq) from ⟨⟨hok.node, hok.sub⟩, ⟨hok.pub, hok.seq⟩⟩)
 have HPO := mk0 (fun (e : Ending) (w' : World) (hq : ∃ h' B' R', e = .returned (.tuple #[rbV n h' R', .int .i64 0]) ∧ Kept base w w' ∧ IsBd base w' g S B' (N + 1) ∧ IsRB w' S n h' R' ∧ Rel B' R' (N + 1) ∧ Szs R') => show DoesPost base g n N S w e w' from hq)
 generalize DoesPost base g n N S w = POST at HPO ⊢
 generalize cutB a.pay 210 = p1 at HEV
 generalize evOf a.V = V1 at HEV HLE
 generalize cutB a.text 400 = t1 at HCT HTL
 clear hbd hrb hrel hsz hbase hN hok hS1 hn9 hty
 unfold encE at HEV
 obtain ⟨a1, c1, a2, c2, a3, c3, a4, c4⟩ := h
 obtain ⟨nE, hnE⟩ : ∃ k, k = R.E.length := ⟨_, rfl⟩
 obtain ⟨nU, hnU⟩ : ∃ k, k = R.U.length := ⟨_, rfl⟩
 obtain ⟨nG, hnG⟩ : ∃ k, k = R.G.length := ⟨_, rfl⟩
 unfold rbV actV
 rw [← hnE, ← hnU, ← hnG]
 have HNN := mk0 (And.intro hnE (And.intro hnU hnG))
 clear hnE hnU hnG
 go_enter Tryz.func9, Tryz.ntmps9
 go_upto_region 1 with (fail)
 have hb3 := below_alloc (below_alloc (below_alloc (Below.refl w.heap.size w) (.cells #[.slice a1 n c1, .slice a2 nE c2, .slice a3 nU c3, .slice a4 nG c4] 41)) (.cells #[.int .i64 a.kind, .int .i64 a.pub, .int .i64 a.seq, .int .i64 a.node, .int .i64 a.sub, .string a.text, .slice a.A a.n a.c, .string a.pay] 46)) (.cells #[.slice none 0 0, .slice none 0 0, .slice none 0 0, .slice none 0 0] 41)
 obtain ⟨kb, ke, kr⟩ := push3_new w.heap (.cells #[.slice a1 n c1, .slice a2 nE c2, .slice a3 nU c3, .slice a4 nG c4] 41 (0, 0)) (.cells #[.int .i64 a.kind, .int .i64 a.pub, .int .i64 a.seq, .int .i64 a.node, .int .i64 a.sub, .string a.text, .slice a.A a.n a.c, .string a.pay] 46 (0, 0)) (.cells #[.slice none 0 0, .slice none 0 0, .slice none 0 0, .slice none 0 0] 41 (0, 0))
 have HB := mk0 hb3
 have HKR := mk0 (show (((w.alloc (.cells #[.slice a1 n c1, .slice a2 nE c2, .slice a3 nU c3, .slice a4 nG c4] 41)).alloc (.cells #[.int .i64 a.kind, .int .i64 a.pub, .int .i64 a.seq, .int .i64 a.node, .int .i64 a.sub, .string a.text, .slice a.A a.n a.c, .string a.pay] 46)).alloc (.cells #[.slice none 0 0, .slice none 0 0, .slice none 0 0, .slice none 0 0] 41)).heap[w.heap.size]? = _ from kb)
 have HKA := mk0 (show (((w.alloc (.cells #[.slice a1 n c1, .slice a2 nE c2, .slice a3 nU c3, .slice a4 nG c4] 41)).alloc (.cells #[.int .i64 a.kind, .int .i64 a.pub, .int .i64 a.seq, .int .i64 a.node, .int .i64 a.sub, .string a.text, .slice a.A a.n a.c, .string a.pay] 46)).alloc (.cells #[.slice none 0 0, .slice none 0 0, .slice none 0 0, .slice none 0 0] 41)).heap[w.heap.size + 1]? = _ from ke)
 have HKZ := mk0 (show (((w.alloc (.cells #[.slice a1 n c1, .slice a2 nE c2, .slice a3 nU c3, .slice a4 nG c4] 41)).alloc (.cells #[.int .i64 a.kind, .int .i64 a.pub, .int .i64 a.seq, .int .i64 a.node, .int .i64 a.sub, .string a.text, .slice a.A a.n a.c, .string a.pay] 46)).alloc (.cells #[.slice none 0 0, .slice none 0 0, .slice none 0 0, .slice none 0 0] 41)).heap[w.heap.size + 1 + 1]? = _ from kr)
 clear kb ke kr hb3
 generalize ((w.alloc (.cells #[.slice a1 n c1, .slice a2 nE c2, .slice a3 nU c3, .slice a4 nG c4] 41)).alloc (.cells #[.int .i64 a.kind, .int .i64 a.pub, .int .i64 a.seq, .int .i64 a.node, .int .i64 a.sub, .string a.text, .slice a.A a.n a.c, .string a.pay] 46)).alloc (.cells #[.slice none 0 0, .slice none 0 0, .slice none 0 0, .slice none 0 0] 41) = w0 at HB HKR HKA HKZ ⊢
 obtain ⟨g5, hg5⟩ : ∃ g, g = w.heap.size + 1 := ⟨_, rfl⟩
 obtain ⟨g6, hg6⟩ : ∃ g, g = w.heap.size + 1 + 1 := ⟨_, rfl⟩
 obtain ⟨gr, hgr⟩ : ∃ g, g = w.heap.size := ⟨_, rfl⟩
 rw [← hg6] at HKZ
 rw [← hg5] at HKA
 rw [← hgr] at HKR
 rw [← hg6, ← hg5, ← hgr]
 have HGN := mk0 (show w.heap.size ≤ gr ∧ base ≤ gr ∧ w.heap.size ≤ g6 ∧ base ≤ g6 ∧ g6 ≠ gr from by have := HP.out.1; omega)
 clear hg5 hg6 hgr
 have y6 := (blk_cell HKA.out 6).trans (show _ = some (Vs a.A a.n a.c) from rfl)
 have y7 := (blk_cell HKA.out 7).trans (show _ = some (Value.string a.pay) from rfl)
 go_wp2_with fail
 refine (HEV.out _ HB.out).mono ?_
 rintro e wc ⟨v2, v3, rfl, hR2, hR3, hbc⟩
 obtain ⟨E1, c2', rfl, hc2, hC2⟩ := Kd.R_reads hR2
 obtain ⟨E2, c3', rfl, hc3, hC3⟩ := Kd.R_reads hR3
 obtain ⟨ba, bo, hE1⟩ := R_at2 hR2
 obtain ⟨m2, hm2⟩ : ∃ n, n = V1.length := ⟨_, rfl⟩
 rw [List.length_map] at hc3 hC3 ⊢
 rw [← hm2] at hc2 hC2 hE1 hc3 hC3 ⊢
 have n1 := mk0 (below_then HB.out HB.out.size hbc)
 have n2 := mk0 ((hbc.block _ (blk_lt HKR.out)).trans HKR.out)
 have n3 := mk0 ((hbc.block _ (blk_lt HKA.out)).trans HKA.out)
 have n4 := mk0 ((hbc.block _ (blk_lt HKZ.out)).trans HKZ.out)
 have HM2 := mk0 (And.intro hm2 (And.intro hc2 (And.intro hE1 hc3)))
 have HC2 := mk0 (And.intro hC2 hC3)
 clear HB HKR HKA HKZ hR2 hR3 hbc hc2 hc3 hC2 hC3 hE1 hm2 y6 y7 HEV
 have HB := n1
 have HKR := n2
 have HKA := n3
 have HKZ := n4
 clear n1 n2 n3 n4
 go_upto_region 2 with (fail)
 have hbn := below_alloc (Below.refl (wc).heap.size (wc)) (.cells #[.slice E1 m2 c2', .string p1] 44)
 have nk0 := mk0 (heap_alloc_new (wc) (.cells #[.slice E1 m2 c2', .string p1] 44))
 have n1 := mk0 (below_then HB.out HB.out.size hbn)
 have n2 := mk0 ((hbn.block _ (blk_lt HKR.out)).trans HKR.out)
 have n3 := mk0 ((hbn.block _ (blk_lt HKA.out)).trans HKA.out)
 have n4 := mk0 ((hbn.block _ (blk_lt HKZ.out)).trans HKZ.out)
 have n5 := mk0 (And.intro (Kd.C_below HC2.out.1 hbn) (Kd.C_below HC2.out.2 hbn))
 clear HB HKR HKA HKZ HC2 hbn
 generalize (wc).alloc (.cells #[.slice E1 m2 c2', .string p1] 44) = wd at n1 n2 n3 n4 n5 nk0  ⊢
 generalize (wc).heap.size = g8 at nk0 ⊢
 have HB := n1
 have HKR := n2
 have HKA := n3
 have HKZ := n4
 have HC2 := n5
 have HKE := nk0
 clear n1 n2 n3 n4 n5 nk0
 have y1 := (blk_cell HKA.out 1).trans (show _ = some (Value.int .i64 a.pub) from rfl)
 have y2 := (blk_cell HKA.out 2).trans (show _ = some (Value.int .i64 a.seq) from rfl)
 have y3 := (blk_cell HKA.out 3).trans (show _ = some (Value.int .i64 a.node) from rfl)
 have y4 := (blk_cell HKA.out 4).trans (show _ = some (Value.int .i64 a.sub) from rfl)
 go_upto_region 3 with (fail)
 clear y1 y2 y3 y4
 have hbn := below_alloc (Below.refl (wd).heap.size (wd)) (.cells #[.int .i64 a.node, .int .i64 a.sub] 56)
 have nk0 := mk0 (heap_alloc_new (wd) (.cells #[.int .i64 a.node, .int .i64 a.sub] 56))
 have n1 := mk0 (below_then HB.out HB.out.size hbn)
 have n2 := mk0 ((hbn.block _ (blk_lt HKR.out)).trans HKR.out)
 have n3 := mk0 ((hbn.block _ (blk_lt HKA.out)).trans HKA.out)
 have n4 := mk0 ((hbn.block _ (blk_lt HKZ.out)).trans HKZ.out)
 have n5 := mk0 (And.intro (Kd.C_below HC2.out.1 hbn) (Kd.C_below HC2.out.2 hbn))
 have nHKE := mk0 ((hbn.block _ (blk_lt HKE.out)).trans HKE.out)
 clear HB HKR HKA HKZ HC2 hbn HKE
 generalize (wd).alloc (.cells #[.int .i64 a.node, .int .i64 a.sub] 56) = we at n1 n2 n3 n4 n5 nk0 nHKE ⊢
 generalize (wd).heap.size = g10 at nk0 ⊢
 have HB := n1
 have HKR := n2
 have HKA := n3
 have HKZ := n4
 have HC2 := n5
 have HKW := nk0
 have HKE := nHKE
 clear n1 n2 n3 n4 n5 nk0 nHKE
 have y1 := (blk_cell HKA.out 1).trans (show _ = some (Value.int .i64 a.pub) from rfl)
 have y2 := (blk_cell HKA.out 2).trans (show _ = some (Value.int .i64 a.seq) from rfl)
 have y3 := (blk_cell HKA.out 3).trans (show _ = some (Value.int .i64 a.node) from rfl)
 have y4 := (blk_cell HKA.out 4).trans (show _ = some (Value.int .i64 a.sub) from rfl)
 go_upto_region 4 with (fail)
 clear y1 y2 y3 y4
 have hbn := below_alloc (Below.refl (we).heap.size (we)) (.cells #[.int .i64 a.node, .int .i64 a.sub, .int .i64 a.pub, .int .i64 a.seq] 58)
 have nk0 := mk0 (heap_alloc_new (we) (.cells #[.int .i64 a.node, .int .i64 a.sub, .int .i64 a.pub, .int .i64 a.seq] 58))
 have n1 := mk0 (below_then HB.out HB.out.size hbn)
 have n2 := mk0 ((hbn.block _ (blk_lt HKR.out)).trans HKR.out)
 have n3 := mk0 ((hbn.block _ (blk_lt HKA.out)).trans HKA.out)
 have n4 := mk0 ((hbn.block _ (blk_lt HKZ.out)).trans HKZ.out)
 have n5 := mk0 (And.intro (Kd.C_below HC2.out.1 hbn) (Kd.C_below HC2.out.2 hbn))
 have nHKE := mk0 ((hbn.block _ (blk_lt HKE.out)).trans HKE.out)
 have nHKW := mk0 ((hbn.block _ (blk_lt HKW.out)).trans HKW.out)
 clear HB HKR HKA HKZ HC2 hbn HKE HKW
 generalize (we).alloc (.cells #[.int .i64 a.node, .int .i64 a.sub, .int .i64 a.pub, .int .i64 a.seq] 58) = w1 at n1 n2 n3 n4 n5 nk0 nHKE nHKW ⊢
 generalize (we).heap.size = g11 at nk0 ⊢
 have HB := n1
 have HKR := n2
 have HKA := n3
 have HKZ := n4
 have HC2 := n5
 have HKG := nk0
 have HKE := nHKE
 have HKW := nHKW
 clear n1 n2 n3 n4 n5 nk0 nHKE nHKW
 have HK := mk0 (Kept.of HB.out HP.out.1)
 have HF := mk0 (show DFx w1 a g5 g6 g8 g10 g11 E1 E2 m2 c2' V1 p1 from ⟨HTY.out.kept HK.out, HKA.out, HKZ.out, HKE.out, HKW.out, HKG.out, HC2.out.1, HC2.out.2⟩)
 have m1 := mk0 (HBD.out.below HB.out)
 have m2' := mk0 (HRB.out.kept HK.out)
 clear HBD HRB HTY HB HKA HKZ HC2 HKE HKW HKG
 have HBD := m1
 have HRB := m2'
 clear m1 m2'
 have a0 := (blk_cell HF.out.act 0).trans (show _ = some (Value.int .i64 a.kind) from rfl)
 by_cases hk1 : a.kind = 1
 focus
  have o1 : (a.kind == 1) = true := by simpa using hk1
  have z1 := (blk_cell HF.out.act 1).trans (show _ = some (Value.int .i64 a.pub) from rfl)
  have z2 := (blk_cell HF.out.act 2).trans (show _ = some (Value.int .i64 a.seq) from rfl)
  have e0 := (blk_cell HF.out.ev 0).trans (show _ = some (Vs E1 m2 c2') from rfl)
  have e1 := (blk_cell HF.out.ev 1).trans (show _ = some (Value.string p1) from rfl)
  go_wp2_with fail
  refine (pub_any2 base g N ba bo m2 c2' (a.pub, a.seq) S B E1 V1 p1 w1 HBD.out (Nat.le_trans HP.out.1 HK.out.1.size) (by have := HP.out.2.1; omega) HW.out.2 HM2.out.1.symm HM2.out.2.2.1 HF.out.v1 HP.out.2.2.1).mono ?_
  rintro e w2 ⟨v9, rfl, hk5, hv, hbd9⟩
  have HBD9 := mk0 hbd9
  have HRC := mk0 (rpubC_eq HREL.out.1 (a.pub, a.seq) V1 p1 (S := S))
  have HRP := mk0 (fun h0 => HREL.out.1.pub ⟨a.pub, a.seq, E2, m2, c3', V1, p1⟩ h0 (S := S))
  have HV := mk0 hv
  have HRB9 := mk0 (HRB.out.kept hk5)
  clear o1 a0 z1 z2 e0 e1 hk1
  have n1 := mk0 (HK.out.trans hk5)
  have n2 := mk0 (HF.out.kept hk5)
  have n3 := mk0 (hk5.2 _ _ _ _ HKR.out)
  clear HK HF HKR
  have HK := n1
  have HF := n2
  have HKR := n3
  clear n1 n2 n3
  clear HBD HRB hk5 hv hbd9
  have HBD := HBD9
  have HRB := HRB9
  clear HBD9 HRB9
  have z1 := (blk_cell HF.out.act 1).trans (show _ = some (Value.int .i64 a.pub) from rfl)
  have z2 := (blk_cell HF.out.act 2).trans (show _ = some (Value.int .i64 a.seq) from rfl)
  have e1 := (blk_cell HF.out.ev 1).trans (show _ = some (Value.string p1) from rfl)
  have y0 := (blk_cell HKR.out 0).trans (show _ = some (Vs a1 n c1) from rfl)
  have y1 := (blk_cell HKR.out 1).trans (show _ = some (Vs a2 nE c2) from rfl)
  have y2 := (blk_cell HKR.out 2).trans (show _ = some (Vs a3 nU c3) from rfl)
  have y3 := (blk_cell HKR.out 3).trans (show _ = some (Vs a4 nG c4) from rfl)
  have f0 := blk_frozen HKR.out 0
  have f1 := blk_frozen HKR.out 1
  have f2 := blk_frozen HKR.out 2
  have f3 := blk_frozen HKR.out 3
  have HRPC := mk0 (rpub_calls n ⟨a1, c1, a2, c2, a3, c3, a4, c4⟩ S R ⟨a.pub, a.seq, E2, m2, c3', V1, p1⟩ w2 HRB.out (by have := HREL.out.1.le; have := HP.out.2.1; omega) HP.out.2.2.2 ⟨HM2.out.1.symm, HM2.out.2.2.2, by have := HLE.out.1; have := HM2.out.1; show m2 ≤ 100000; omega, HF.out.v2⟩ HLE.out.2)
  unfold rbV at HRPC
  dsimp only at HRPC
  rw [← HNN.out.1, ← HNN.out.2.1, ← HNN.out.2.2] at HRPC
  rw [HRC.out] at HRPC
  go_wp2_with fail
  refine HRPC.out.mono ?_
  rintro e w3 ⟨⟨b1, d1, b2, d2, b3, d3, b4, d4⟩, rfl, hb3, hrb3⟩
  clear z1 z2 e1 y0 y1 y2 y3 f0 f1 f2 f3 HRPC
  have HFIN := mk0 (show Rel (if pubC S B (a.pub, a.seq) V1 p1 = 0 then B.pub (a.pub, a.seq) V1 p1 else B) (if pubC S B (a.pub, a.seq) V1 p1 = 0 then R.pub ⟨a.pub, a.seq, E2, m2, c3', V1, p1⟩ else R) (N + 1) ∧ Szs (if pubC S B (a.pub, a.seq) V1 p1 = 0 then R.pub ⟨a.pub, a.seq, E2, m2, c3', V1, p1⟩ else R) by
   by_cases h0 : pubC S B (a.pub, a.seq) V1 p1 = 0
   ·
    rw [if_pos h0, if_pos h0]
    refine ⟨HRP.out (by rw [HRC.out]; exact h0), fun y hy => ?_⟩
    rcases List.mem_append.1 hy with hy | hy
    ·
     exact HREL.out.2 y hy
    ·
     rw [List.mem_singleton.1 hy]; exact HLE.out.2
   ·
    rw [if_neg h0, if_neg h0]
    exact ⟨HREL.out.1.mono (Nat.le_succ _), HREL.out.2⟩)
  generalize (if pubC S B (a.pub, a.seq) V1 p1 = 0 then B.pub (a.pub, a.seq) V1 p1 else B) = B9 at HBD HFIN
  generalize (if pubC S B (a.pub, a.seq) V1 p1 = 0 then R.pub ⟨a.pub, a.seq, E2, m2, c3', V1, p1⟩ else R) = R3 at hrb3 HFIN ⊢
  generalize pubC S B (a.pub, a.seq) V1 p1 = cc at HV ⊢
  clear HRC HRP
 rotate_left 1
 have o1 : (a.kind == 1) = false := by simpa using hk1
 by_cases hk2 : a.kind = 2
 focus
  have o2 : (a.kind == 2) = true := by simpa using hk2
  have z5 := (blk_cell HF.out.act 5).trans (show _ = some (Value.string a.text) from rfl)
  have u0 := (blk_cell HF.out.who 0).trans (show _ = some (Value.int .i64 a.node) from rfl)
  have u1 := (blk_cell HF.out.who 1).trans (show _ = some (Value.int .i64 a.sub) from rfl)
  clear hk1 hk2
  go_wp2_with fail
  refine (HCT.out _).mono ?_
  rintro e w1' ⟨rfl, rfl⟩
  go_wp2_with fail
  refine (sub_any2 base g N (a.node, a.sub) S B t1 w1 HBD.out (Nat.le_trans HP.out.1 HK.out.1.size) (by have := HP.out.2.1; omega) HW.out.1 (by have := HTL.out; omega)).mono ?_
  rintro e w2 ⟨v9, B9, rfl, hk5, hv, hbd9, hb9⟩
  have HB9 := mk0 hb9
  clear o1 o2 a0 z5 u0 u1 hb9
  have HBD9 := mk0 hbd9
  have HV := mk0 hv
  have HRB9 := mk0 (HRB.out.kept hk5)
  have n1 := mk0 (HK.out.trans hk5)
  have n2 := mk0 (HF.out.kept hk5)
  have n3 := mk0 (hk5.2 _ _ _ _ HKR.out)
  clear HK HF HKR
  have HK := n1
  have HF := n2
  have HKR := n3
  clear n1 n2 n3
  clear HBD HRB hk5 hv hbd9
  have HBD := HBD9
  have HRB := HRB9
  clear HBD9 HRB9
  have z3 := (blk_cell HF.out.act 3).trans (show _ = some (Value.int .i64 a.node) from rfl)
  have z4 := (blk_cell HF.out.act 4).trans (show _ = some (Value.int .i64 a.sub) from rfl)
  have y0 := (blk_cell HKR.out 0).trans (show _ = some (Vs a1 n c1) from rfl)
  have y1 := (blk_cell HKR.out 1).trans (show _ = some (Vs a2 nE c2) from rfl)
  have y2 := (blk_cell HKR.out 2).trans (show _ = some (Vs a3 nU c3) from rfl)
  have y3 := (blk_cell HKR.out 3).trans (show _ = some (Vs a4 nG c4) from rfl)
  have f0 := blk_frozen HKR.out 0
  have f1 := blk_frozen HKR.out 1
  have f2 := blk_frozen HKR.out 2
  have f3 := blk_frozen HKR.out 3
  have HRPC := mk0 (rsub_calls n ⟨a1, c1, a2, c2, a3, c3, a4, c4⟩ S R (a.node, a.sub) t1 w2 HRB.out (by have := HREL.out.1.lu; have := HP.out.2.1; omega) HP.out.2.2.2 (by have := HTL.out; omega))
  unfold rbV at HRPC
  dsimp only at HRPC
  rw [← HNN.out.1, ← HNN.out.2.1, ← HNN.out.2.2] at HRPC
  go_wp2_with fail
  refine HRPC.out.mono ?_
  rintro e w3 hq
  have hrc := rsubC_eq HREL.out.1 (a.node, a.sub) t1 (S := S)
  obtain ⟨R3, ⟨⟨b1, d1, b2, d2, b3, d3, b4, d4⟩, rfl, hb3, hrb3⟩, hfin⟩ : ∃ R3, RBPost w2 S n R3 (subC S B (a.node, a.sub) t1) e w3 ∧ (Rel B9 R3 (N + 1) ∧ Szs R3) := by
   rcases hq with ⟨h0, h1⟩ | ⟨h0, xs, A, m, c, h1, h2, h3⟩
   ·
    rw [hrc] at h0 h1
    refine ⟨R, h1, ?_⟩
    rcases HB9.out with ⟨_, q⟩ | ⟨q, _⟩
    ·
     rw [q]; exact ⟨HREL.out.1.mono (Nat.le_succ _), HREL.out.2⟩
    ·
     exact absurd q h0
   ·
    rw [hrc] at h0
    rcases HB9.out with ⟨q, _⟩ | ⟨_, xs', q1, q2⟩
    ·
     exact absurd h0 q
    ·
     rw [h1] at q1
     injection q1 with q1
     subst q1
     refine ⟨_, by rw [h0]; exact h3, ?_⟩
     rw [q2]
     exact ⟨HREL.out.1.subscribe ⟨a.node, a.sub, A, m, c, xs.map toP⟩ HW.out.1 h2, HREL.out.2⟩
  have HFIN := mk0 hfin
  clear z3 z4 y0 y1 y2 y3 f0 f1 f2 f3 HRPC hq hrc hfin HB9
  generalize subC S B (a.node, a.sub) t1 = cc at HV ⊢
 rotate_left 1
 have o2 : (a.kind == 2) = false := by simpa using hk2
 by_cases hk3 : a.kind = 3
 focus
  have o3 : (a.kind == 3) = true := by simpa using hk3
  have u0 := (blk_cell HF.out.who 0).trans (show _ = some (Value.int .i64 a.node) from rfl)
  have u1 := (blk_cell HF.out.who 1).trans (show _ = some (Value.int .i64 a.sub) from rfl)
  clear hk1 hk2 hk3
  go_wp2_with fail
  refine (unsub_any2 base g N (a.node, a.sub) S B w1 HBD.out (Nat.le_trans HP.out.1 HK.out.1.size) HW.out.1).mono ?_
  rintro e w2 ⟨v9, rfl, hk5, hv, hbd9⟩
  clear o1 o2 o3 a0 u0 u1
  have HBD9 := mk0 hbd9
  have HV := mk0 hv
  have HRB9 := mk0 (HRB.out.kept hk5)
  have n1 := mk0 (HK.out.trans hk5)
  have n2 := mk0 (HF.out.kept hk5)
  have n3 := mk0 (hk5.2 _ _ _ _ HKR.out)
  clear HK HF HKR
  have HK := n1
  have HF := n2
  have HKR := n3
  clear n1 n2 n3
  clear HBD HRB hk5 hv hbd9
  have HBD := HBD9
  have HRB := HRB9
  clear HBD9 HRB9
  have z3 := (blk_cell HF.out.act 3).trans (show _ = some (Value.int .i64 a.node) from rfl)
  have z4 := (blk_cell HF.out.act 4).trans (show _ = some (Value.int .i64 a.sub) from rfl)
  have y0 := (blk_cell HKR.out 0).trans (show _ = some (Vs a1 n c1) from rfl)
  have y1 := (blk_cell HKR.out 1).trans (show _ = some (Vs a2 nE c2) from rfl)
  have y2 := (blk_cell HKR.out 2).trans (show _ = some (Vs a3 nU c3) from rfl)
  have y3 := (blk_cell HKR.out 3).trans (show _ = some (Vs a4 nG c4) from rfl)
  have f0 := blk_frozen HKR.out 0
  have f1 := blk_frozen HKR.out 1
  have f2 := blk_frozen HKR.out 2
  have f3 := blk_frozen HKR.out 3
  have HRPC := mk0 (rwout_calls n ⟨a1, c1, a2, c2, a3, c3, a4, c4⟩ S R a.node a.sub false w2 HRB.out (by have := HREL.out.1.lu; have := HP.out.2.1; omega))
  unfold rbV at HRPC
  dsimp only at HRPC
  rw [← HNN.out.1, ← HNN.out.2.1, ← HNN.out.2.2] at HRPC
  have HUC := mk0 (unsub_count HREL.out.1 (a.node, a.sub))
  have HFIN := mk0 (show Rel (B.unsub (a.node, a.sub)) (R.without a.node a.sub false) (N + 1) ∧ Szs (R.without a.node a.sub false) from ⟨(HREL.out.1.unsub (a.node, a.sub)).mono (Nat.le_succ _), HREL.out.2⟩)
  dsimp only at HUC
  rw [HNN.out.2.1] at HRPC
  generalize R.U.length - (R.without a.node a.sub false).U.length = kk at HRPC HUC
  rw [← HNN.out.2.1] at HRPC
  generalize B.unsub (a.node, a.sub) = B9 at HBD HFIN
  generalize R.without a.node a.sub false = R3 at HRPC HFIN
  go_wp2_with fail
  refine HRPC.out.mono ?_
  rintro e w3 ⟨⟨b1, d1, b2, d2, b3, d3, b4, d4⟩, rfl, hb3, hrb3⟩
  clear z3 z4 y0 y1 y2 y3 f0 f1 f2 f3 HRPC
 rotate_left 1
 have o3 : (a.kind == 3) = false := by simpa using hk3
 by_cases hk4 : a.kind = 4
 focus
  have o4 : (a.kind == 4) = true := by simpa using hk4
  have z3 := (blk_cell HF.out.act 3).trans (show _ = some (Value.int .i64 a.node) from rfl)
  clear hk1 hk2 hk3 hk4
  have HV := mk0 (show CodeV w1 0 .nilIface from Or.inl ⟨rfl, rfl⟩)
  have y0 := (blk_cell HKR.out 0).trans (show _ = some (Vs a1 n c1) from rfl)
  have y1 := (blk_cell HKR.out 1).trans (show _ = some (Vs a2 nE c2) from rfl)
  have y2 := (blk_cell HKR.out 2).trans (show _ = some (Vs a3 nU c3) from rfl)
  have y3 := (blk_cell HKR.out 3).trans (show _ = some (Vs a4 nG c4) from rfl)
  have f0 := blk_frozen HKR.out 0
  have f1 := blk_frozen HKR.out 1
  have f2 := blk_frozen HKR.out 2
  have f3 := blk_frozen HKR.out 3
  have HRPC := mk0 (rwout_calls n ⟨a1, c1, a2, c2, a3, c3, a4, c4⟩ S R a.node 0 true w1 HRB.out (by have := HREL.out.1.lu; have := HP.out.2.1; omega))
  unfold rbV at HRPC
  dsimp only at HRPC
  rw [← HNN.out.1, ← HNN.out.2.1, ← HNN.out.2.2] at HRPC
  have HUC := mk0 (fun r hr => gone_count HREL.out.1 a.node 0 r hr)
  have HFIN := mk0 (show Rel (B.gone a.node) (R.without a.node 0 true) (N + 1) ∧ Szs (R.without a.node 0 true) from ⟨(HREL.out.1.gone a.node 0).mono (Nat.le_succ _), HREL.out.2⟩)
  rw [HNN.out.2.1] at HRPC
  generalize R.U.length - (R.without a.node 0 true).U.length = kk at HRPC HUC
  rw [← HNN.out.2.1] at HRPC
  generalize R.without a.node 0 true = R3 at HRPC HFIN
  go_wp2_with fail
  refine HRPC.out.mono ?_
  rintro e w3 ⟨⟨b1, d1, b2, d2, b3, d3, b4, d4⟩, rfl, hb3, hrb3⟩
  clear z3 a0 o1 o2 o3 o4 y0 y1 y2 y3 f0 f1 f2 f3 HRPC
  have w2 := w1
 rotate_left 1
 have o4 : (a.kind == 4) = false := by simpa using hk4
 by_cases hk5' : a.kind = 5
 focus
  have o5 : (a.kind == 5) = true := by simpa using hk5'
  have z1 := (blk_cell HF.out.act 1).trans (show _ = some (Value.int .i64 a.pub) from rfl)
  have z2 := (blk_cell HF.out.act 2).trans (show _ = some (Value.int .i64 a.seq) from rfl)
  have z3 := (blk_cell HF.out.act 3).trans (show _ = some (Value.int .i64 a.node) from rfl)
  have z4 := (blk_cell HF.out.act 4).trans (show _ = some (Value.int .i64 a.sub) from rfl)
  have e0 := (blk_cell HF.out.ev 0).trans (show _ = some (Vs E1 m2 c2') from rfl)
  have e1 := (blk_cell HF.out.ev 1).trans (show _ = some (Value.string p1) from rfl)
  clear hk1 hk2 hk3 hk4 hk5'
  go_wp2_with fail
  refine (give_any2 base g N ba bo m2 c2' (a.node, a.sub) (a.pub, a.seq) S B E1 V1 p1 w1 HBD.out (Nat.le_trans HP.out.1 HK.out.1.size) (by have := HP.out.2.1; omega) HW.out.1 HW.out.2 HM2.out.1.symm HM2.out.2.1 HF.out.v1).mono ?_
  rintro e w2 ⟨v9, rfl, hk5, hv, hbd9⟩
  have HRC := mk0 (rgiveC_eq HREL.out.1 (a.node, a.sub) (a.pub, a.seq) V1 p1 (S := S))
  clear o1 o2 o3 o4 o5 a0 z1 z2 z3 z4 e0 e1
  have HBD9 := mk0 hbd9
  have HV := mk0 hv
  have HRB9 := mk0 (HRB.out.kept hk5)
  have n1 := mk0 (HK.out.trans hk5)
  have n2 := mk0 (HF.out.kept hk5)
  have n3 := mk0 (hk5.2 _ _ _ _ HKR.out)
  clear HK HF HKR
  have HK := n1
  have HF := n2
  have HKR := n3
  clear n1 n2 n3
  clear HBD HRB hk5 hv hbd9
  have HBD := HBD9
  have HRB := HRB9
  clear HBD9 HRB9
  have q0 := (blk_cell HF.out.giv 0).trans (show _ = some (Value.int .i64 a.node) from rfl)
  have q1 := (blk_cell HF.out.giv 1).trans (show _ = some (Value.int .i64 a.sub) from rfl)
  have q2 := (blk_cell HF.out.giv 2).trans (show _ = some (Value.int .i64 a.pub) from rfl)
  have q3 := (blk_cell HF.out.giv 3).trans (show _ = some (Value.int .i64 a.seq) from rfl)
  have e1 := (blk_cell HF.out.ev 1).trans (show _ = some (Value.string p1) from rfl)
  have y0 := (blk_cell HKR.out 0).trans (show _ = some (Vs a1 n c1) from rfl)
  have y1 := (blk_cell HKR.out 1).trans (show _ = some (Vs a2 nE c2) from rfl)
  have y2 := (blk_cell HKR.out 2).trans (show _ = some (Vs a3 nU c3) from rfl)
  have y3 := (blk_cell HKR.out 3).trans (show _ = some (Vs a4 nG c4) from rfl)
  have f0 := blk_frozen HKR.out 0
  have f1 := blk_frozen HKR.out 1
  have f2 := blk_frozen HKR.out 2
  have f3 := blk_frozen HKR.out 3
  have HRPC := mk0 (rgive_calls n ⟨a1, c1, a2, c2, a3, c3, a4, c4⟩ S R (givOf (a.node, a.sub) (a.pub, a.seq)) E2 m2 c3' V1 p1 w2 HRB.out (by have := HREL.out.1.le; have := HP.out.2.1; omega) (by have := HREL.out.1.lu; have := HP.out.2.1; omega) (by have := HREL.out.1.lg; have := HP.out.2.1; omega) HP.out.2.2.2 HM2.out.1.symm HM2.out.2.2.2 (by have := HLE.out.1; have := HM2.out.1; omega) HF.out.v2 HREL.out.2)
  unfold rbV at HRPC
  dsimp only at HRPC
  rw [← HNN.out.1, ← HNN.out.2.1, ← HNN.out.2.2] at HRPC
  rw [HRC.out] at HRPC
  unfold givOf at HRPC
  dsimp only at HRPC
  go_wp2_with fail
  refine HRPC.out.mono ?_
  rintro e w3 ⟨⟨b1, d1, b2, d2, b3, d3, b4, d4⟩, rfl, hb3, hrb3⟩
  clear q0 q1 q2 q3 e1 y0 y1 y2 y3 f0 f1 f2 f3 HRPC
  have HFIN := mk0 (show Rel (if giveC S B (a.node, a.sub) (a.pub, a.seq) V1 p1 = 0 then B.give (a.node, a.sub) (a.pub, a.seq) else B) (if giveC S B (a.node, a.sub) (a.pub, a.seq) V1 p1 = 0 then R.give ⟨a.node, a.sub, a.pub, a.seq⟩ else R) (N + 1) ∧ Szs (if giveC S B (a.node, a.sub) (a.pub, a.seq) V1 p1 = 0 then R.give ⟨a.node, a.sub, a.pub, a.seq⟩ else R) by
   by_cases h0 : giveC S B (a.node, a.sub) (a.pub, a.seq) V1 p1 = 0
   ·
    rw [if_pos h0, if_pos h0]
    exact ⟨HREL.out.1.give (a.node, a.sub) (a.pub, a.seq), HREL.out.2⟩
   ·
    rw [if_neg h0, if_neg h0]
    exact ⟨HREL.out.1.mono (Nat.le_succ _), HREL.out.2⟩)
  generalize (if giveC S B (a.node, a.sub) (a.pub, a.seq) V1 p1 = 0 then B.give (a.node, a.sub) (a.pub, a.seq) else B) = B9 at HBD HFIN
  generalize (if giveC S B (a.node, a.sub) (a.pub, a.seq) V1 p1 = 0 then R.give ⟨a.node, a.sub, a.pub, a.seq⟩ else R) = R3 at hrb3 HFIN ⊢
  generalize giveC S B (a.node, a.sub) (a.pub, a.seq) V1 p1 = cc at HV ⊢
  clear HRC
 rotate_left 1
 have o5 : (a.kind == 5) = false := by simpa using hk5'
 focus
  have HV := mk0 (show CodeV w1 0 .nilIface from Or.inl ⟨rfl, rfl⟩)
  have HFIN := mk0 (show Rel B R (N + 1) ∧ Szs R from ⟨HREL.out.1.mono (Nat.le_succ _), HREL.out.2⟩)
  have hbd9 := mk0 (HBD.out.mono (Nat.le_succ N))
  clear HBD hk1 hk2 hk3 hk4 hk5'
  have HBD := hbd9
  clear hbd9
  have HMM := HNN
  obtain ⟨b1, rfl⟩ : ∃ x, x = a1 := ⟨_, rfl⟩
  obtain ⟨d1, rfl⟩ : ∃ x, x = c1 := ⟨_, rfl⟩
  obtain ⟨b2, rfl⟩ : ∃ x, x = a2 := ⟨_, rfl⟩
  obtain ⟨d2, rfl⟩ : ∃ x, x = c2 := ⟨_, rfl⟩
  obtain ⟨b3, rfl⟩ : ∃ x, x = a3 := ⟨_, rfl⟩
  obtain ⟨d3, rfl⟩ : ∃ x, x = c3 := ⟨_, rfl⟩
  obtain ⟨b4, rfl⟩ : ∃ x, x = a4 := ⟨_, rfl⟩
  obtain ⟨d4, rfl⟩ : ∃ x, x = c4 := ⟨_, rfl⟩
  obtain ⟨mE, rfl⟩ : ∃ x, x = nE := ⟨_, rfl⟩
  obtain ⟨mU, rfl⟩ : ∃ x, x = nU := ⟨_, rfl⟩
  obtain ⟨mG, rfl⟩ : ∃ x, x = nG := ⟨_, rfl⟩
  obtain ⟨R3, rfl⟩ : ∃ x, x = R := ⟨_, rfl⟩
  try have qc : ((0 : Int) != (0 : Int)) = false := by simp
  go_wp2_with fail
  refine (of_any HV.out HF.out.ty).mono ?_
  rintro e w6 ⟨rfl, hb6⟩
  have hk5 := Kept.of hb6 (Nat.le_trans HP.out.1 HK.out.1.size)
  have n1 := mk0 (HBD.out.below hb6)
  have n3 := mk0 (HRB.out.below hb6)
  have n1 := mk0 (HK.out.trans hk5)
  have n2 := mk0 (HF.out.kept hk5)
  have n3 := mk0 (hk5.2 _ _ _ _ HKR.out)
  clear HK HF HKR
  have HK := n1
  have HF := n2
  have HKR := n3
  clear n1 n2 n3
  clear HBD HRB hk5 hb6 HV
  have x0 := (blk_cell HKR.out 0).trans (show _ = some (Vs b1 n d1) from rfl)
  have x1 := (blk_cell HKR.out 1).trans (show _ = some (Vs b2 mE d2) from rfl)
  have x2 := (blk_cell HKR.out 2).trans (show _ = some (Vs b3 mU d3) from rfl)
  have x3 := (blk_cell HKR.out 3).trans (show _ = some (Vs b4 mG d4) from rfl)
  have y0 := (blk_cell HF.out.res 0).trans (show _ = some (Vs none 0 0) from rfl)
  have y1 := (blk_cell HF.out.res 1).trans (show _ = some (Vs none 0 0) from rfl)
  have y2 := (blk_cell HF.out.res 2).trans (show _ = some (Vs none 0 0) from rfl)
  have y3 := (blk_cell HF.out.res 3).trans (show _ = some (Vs none 0 0) from rfl)
  have f0 := blk_frozen HF.out.res 0
  have f1 := blk_frozen HF.out.res 1
  have f2 := blk_frozen HF.out.res 2
  have f3 := blk_frozen HF.out.res 3
  go_wp2
  clear x0 x1 x2 x3 y0 y1 y2 y3 f0 f1 f2 f3
  have HB := mk0 HK.out.1
  have HGR := mk0 HGN.out.2.2.2.1
  have hpu := put4 HF.out.res (.slice b1 n d1) (.slice b2 mE d2) (.slice b3 mU d3) (.slice b4 mG d4)
  have k0 : ((w6).setCell ⟨g6, 0, none⟩ (Vs b1 n d1)).heap[g6]? = some (.cells #[(Vs b1 n d1), (Vs none 0 0), (Vs none 0 0), (Vs none 0 0)] 41 (0, 0)) := by simpa using blk_set HF.out.res 0 (Vs b1 n d1)
  have k1 : (((w6).setCell ⟨g6, 0, none⟩ (Vs b1 n d1)).setCell ⟨g6, 1, none⟩ (Vs b2 mE d2)).heap[g6]? = some (.cells #[(Vs b1 n d1), (Vs b2 mE d2), (Vs none 0 0), (Vs none 0 0)] 41 (0, 0)) := by simpa using blk_set k0 1 (Vs b2 mE d2)
  have k2 : ((((w6).setCell ⟨g6, 0, none⟩ (Vs b1 n d1)).setCell ⟨g6, 1, none⟩ (Vs b2 mE d2)).setCell ⟨g6, 2, none⟩ (Vs b3 mU d3)).heap[g6]? = some (.cells #[(Vs b1 n d1), (Vs b2 mE d2), (Vs b3 mU d3), (Vs none 0 0)] 41 (0, 0)) := by simpa using blk_set k1 2 (Vs b3 mU d3)
  have k3 : (((((w6).setCell ⟨g6, 0, none⟩ (Vs b1 n d1)).setCell ⟨g6, 1, none⟩ (Vs b2 mE d2)).setCell ⟨g6, 2, none⟩ (Vs b3 mU d3)).setCell ⟨g6, 3, none⟩ (Vs b4 mG d4)).heap[g6]? = some (.cells #[(Vs b1 n d1), (Vs b2 mE d2), (Vs b3 mU d3), (Vs b4 mG d4)] 41 (0, 0)) := by simpa using blk_set k2 3 (Vs b4 mG d4)
  have hbf := (((HB.out.setCell (p := ⟨g6, 0, none⟩) HGR.out (Vs b1 n d1)).setCell (p := ⟨g6, 1, none⟩) HGR.out (Vs b2 mE d2)).setCell (p := ⟨g6, 2, none⟩) HGR.out (Vs b3 mU d3)).setCell (p := ⟨g6, 3, none⟩) HGR.out (Vs b4 mG d4)
  have m1 := n1.out.put hpu
  have m3 := n3.out.put hpu
  have m4 := HK.out.put hbf HGN.out.2.2.1 hpu
  clear k0 k1 k2 n1 n3 hpu hbf
  generalize (((w6.setCell ⟨g6, 0, none⟩ (Vs b1 n d1)).setCell ⟨g6, 1, none⟩ (Vs b2 mE d2)).setCell ⟨g6, 2, none⟩ (Vs b3 mU d3)).setCell ⟨g6, 3, none⟩ (Vs b4 mG d4) = w9 at k3 m1 m3 m4 ⊢
  have z0 := (blk_cell k3 0).trans (show _ = some (Vs b1 n d1) from rfl)
  have z1 := (blk_cell k3 1).trans (show _ = some (Vs b2 mE d2) from rfl)
  have z2 := (blk_cell k3 2).trans (show _ = some (Vs b3 mU d3) from rfl)
  have z3 := (blk_cell k3 3).trans (show _ = some (Vs b4 mG d4) from rfl)
  exact bodyPost_ret (v := .tuple #[.agg #[.slice b1 n d1, .slice b2 mE d2, .slice b3 mU d3, .slice b4 mG d4], .int .i64 0]) (by simp [results, Tryz.results9, go_sem, z0, z1, z2, z3]) rfl (HPO.out _ _ ⟨⟨b1, d1, b2, d2, b3, d3, b4, d4⟩, B, R3, (by unfold rbV; dsimp only; rw [← HMM.out.1, ← HMM.out.2.1, ← HMM.out.2.2]), m4, m1, m3, HFIN.out.1, HFIN.out.2⟩)
 all_goals
  have hk5 := Kept.of hb3 (Nat.le_trans HP.out.1 HK.out.1.size)
  have n1 := mk0 (HBD.out.below hb3)
  have n2 := mk0 (HV.out.kept hk5)
  have HRB3 := mk0 hrb3
  have n1 := mk0 (HK.out.trans hk5)
  have n2 := mk0 (HF.out.kept hk5)
  have n3 := mk0 (hk5.2 _ _ _ _ HKR.out)
  clear HK HF HKR
  have HK := n1
  have HF := n2
  have HKR := n3
  clear n1 n2 n3
  clear HBD HV HRB hk5 hb3 hrb3
  have HBD := n1
  have HV := n2
  clear n1 n2
  obtain ⟨mE, hmE⟩ : ∃ k, k = R3.E.length := ⟨_, rfl⟩
  obtain ⟨mU, hmU⟩ : ∃ k, k = R3.U.length := ⟨_, rfl⟩
  obtain ⟨mG, hmG⟩ : ∃ k, k = R3.G.length := ⟨_, rfl⟩
  unfold rbV
  dsimp only
  rw [← hmE, ← hmU, ← hmG]
  have HMM := mk0 (And.intro hmE (And.intro hmU hmG))
  clear hmE hmU hmG
 focus
  go_upto_region 10 with (fail)
 rotate_left 1
 focus
  go_upto_region 16 with (fail)
 rotate_left 1
 focus
  go_upto_region 21 with (fail)
 rotate_left 1
 focus
  go_upto_region 26 with (fail)
 rotate_left 1
 focus
  go_upto_region 32 with (fail)
 rotate_left 1
 all_goals
  have hbn := below_alloc (Below.refl w3.heap.size w3) (.cells #[.slice b1 n d1, .slice b2 mE d2, .slice b3 mU d3, .slice b4 mG d4] 41)
  have kq := heap_alloc_new w3 (.cells #[.slice b1 n d1, .slice b2 mE d2, .slice b3 mU d3, .slice b4 mG d4] 41)
  have hk5 := Kept.of hbn (Nat.le_trans HP.out.1 HK.out.1.size)
  have n1 := mk0 (HBD.out.below hbn)
  have n2 := mk0 (HV.out.kept hk5)
  have n3 := mk0 (HRB3.out.below hbn)
  have n1 := mk0 (HK.out.trans hk5)
  have n2 := mk0 (HF.out.kept hk5)
  have n3 := mk0 (hk5.2 _ _ _ _ HKR.out)
  clear HK HF HKR
  have HK := n1
  have HF := n2
  have HKR := n3
  clear n1 n2 n3
  clear HBD HV HRB3 hk5 hbn
  generalize w3.alloc (.cells #[.slice b1 n d1, .slice b2 mE d2, .slice b3 mU d3, .slice b4 mG d4] 41) = w4 at n1 n2 n3 kq HK HF HKR ⊢
  generalize w3.heap.size = gq at kq ⊢
  have HBD := n1
  have HV := n2
  have HRB3 := n3
  clear n1 n2 n3
  have x0 := (blk_cell kq 0).trans (show _ = some (Vs b1 n d1) from rfl)
  have x1 := (blk_cell kq 1).trans (show _ = some (Vs b2 mE d2) from rfl)
  have x2 := (blk_cell kq 2).trans (show _ = some (Vs b3 mU d3) from rfl)
  have x3 := (blk_cell kq 3).trans (show _ = some (Vs b4 mG d4) from rfl)
  have y0 := (blk_cell HKR.out 0).trans (show _ = some (Vs a1 n c1) from rfl)
  have y1 := (blk_cell HKR.out 1).trans (show _ = some (Vs a2 nE c2) from rfl)
  have y2 := (blk_cell HKR.out 2).trans (show _ = some (Vs a3 nU c3) from rfl)
  have y3 := (blk_cell HKR.out 3).trans (show _ = some (Vs a4 nG c4) from rfl)
  have f0 := blk_frozen HKR.out 0
  have f1 := blk_frozen HKR.out 1
  have f2 := blk_frozen HKR.out 2
  have f3 := blk_frozen HKR.out 3
 focus
  go_upto_region 11 with (fail)
 rotate_left 1
 focus
  go_upto_region 17 with (fail)
 rotate_left 1
 focus
  go_upto_region 22 with (fail)
 rotate_left 1
 focus
  go_upto_region 27 with (fail)
 rotate_left 1
 focus
  go_upto_region 33 with (fail)
 rotate_left 1
 all_goals
  clear x0 x1 x2 x3 y0 y1 y2 y3 f0 f1 f2 f3 kq
  have HB := mk0 HK.out.1
  have HGR := mk0 HGN.out.2.1
  have hpu := put4 HKR.out (.slice b1 n d1) (.slice b2 mE d2) (.slice b3 mU d3) (.slice b4 mG d4)
  have k0 : ((w4).setCell ⟨gr, 0, none⟩ (Vs b1 n d1)).heap[gr]? = some (.cells #[(Vs b1 n d1), (Vs a2 nE c2), (Vs a3 nU c3), (Vs a4 nG c4)] 41 (0, 0)) := by simpa using blk_set HKR.out 0 (Vs b1 n d1)
  have k1 : (((w4).setCell ⟨gr, 0, none⟩ (Vs b1 n d1)).setCell ⟨gr, 1, none⟩ (Vs b2 mE d2)).heap[gr]? = some (.cells #[(Vs b1 n d1), (Vs b2 mE d2), (Vs a3 nU c3), (Vs a4 nG c4)] 41 (0, 0)) := by simpa using blk_set k0 1 (Vs b2 mE d2)
  have k2 : ((((w4).setCell ⟨gr, 0, none⟩ (Vs b1 n d1)).setCell ⟨gr, 1, none⟩ (Vs b2 mE d2)).setCell ⟨gr, 2, none⟩ (Vs b3 mU d3)).heap[gr]? = some (.cells #[(Vs b1 n d1), (Vs b2 mE d2), (Vs b3 mU d3), (Vs a4 nG c4)] 41 (0, 0)) := by simpa using blk_set k1 2 (Vs b3 mU d3)
  have k3 : (((((w4).setCell ⟨gr, 0, none⟩ (Vs b1 n d1)).setCell ⟨gr, 1, none⟩ (Vs b2 mE d2)).setCell ⟨gr, 2, none⟩ (Vs b3 mU d3)).setCell ⟨gr, 3, none⟩ (Vs b4 mG d4)).heap[gr]? = some (.cells #[(Vs b1 n d1), (Vs b2 mE d2), (Vs b3 mU d3), (Vs b4 mG d4)] 41 (0, 0)) := by simpa using blk_set k2 3 (Vs b4 mG d4)
  have hbf := (((HB.out.setCell (p := ⟨gr, 0, none⟩) HGR.out (Vs b1 n d1)).setCell (p := ⟨gr, 1, none⟩) HGR.out (Vs b2 mE d2)).setCell (p := ⟨gr, 2, none⟩) HGR.out (Vs b3 mU d3)).setCell (p := ⟨gr, 3, none⟩) HGR.out (Vs b4 mG d4)
  have n1 := mk0 (HBD.out.put hpu)
  have n2 := mk0 (HV.out.put hpu)
  have n3 := mk0 (HRB3.out.put hpu)
  have n4 := mk0 (HK.out.put hbf HGN.out.1 hpu)
  have n5 := mk0 (HF.out.put hpu HGN.out.2.2.2.2)
  have n6 := mk0 k3
  clear HBD HV HRB3 HK HF HKR HB HGR hpu hbf k0 k1 k2 k3
  generalize (((w4.setCell ⟨gr, 0, none⟩ (Vs b1 n d1)).setCell ⟨gr, 1, none⟩ (Vs b2 mE d2)).setCell ⟨gr, 2, none⟩ (Vs b3 mU d3)).setCell ⟨gr, 3, none⟩ (Vs b4 mG d4) = w5 at n1 n2 n3 n4 n5 n6 ⊢
  have HBD := n1
  have HV := n2
  have HRB := n3
  have HK := n4
  have HF := n5
  have HKR := n6
  clear n1 n2 n3 n4 n5 n6
 rotate_left 2
 focus
  by_cases h0 : B.subs (a.node, a.sub) = none
  focus
   rw [if_pos h0] at HV
   have hkk := HUC.out.2 h0
   subst hkk
   clear h0 HUC
  rotate_left 1
  rw [if_neg h0] at HV
  have q0 : (((kk : Nat) : Int) == 0) = false := beq_eq_false_iff_ne.2 (fun e => h0 (HUC.out.1 (by omega)))
  clear h0 HUC
 rotate_left 2
 focus
  have z3 := (blk_cell HF.out.act 3).trans (show _ = some (Value.int .i64 a.node) from rfl)
  have qk : (((kk : Nat) : Int) != (kk : Int)) = false := by simp
  go_wp2_with fail
  refine (gone_calls base g N a.node S B w5 HBD.out (by have := HP.out.2.1; omega)).mono ?_
  rintro e w7 ⟨hk5, hbd9, r, rfl, hr⟩
  obtain rfl := HUC.out r hr
  have hv := HV.out.kept hk5
  have hbd9' := hbd9.mono (Nat.le_succ N)
  clear hr hbd9 HUC z3 HV
  have hbd9 := hbd9'
  clear hbd9'
  have HBD9 := mk0 hbd9
  have HV := mk0 hv
  have HRB9 := mk0 (HRB.out.kept hk5)
  have n1 := mk0 (HK.out.trans hk5)
  have n2 := mk0 (HF.out.kept hk5)
  have n3 := mk0 (hk5.2 _ _ _ _ HKR.out)
  clear HK HF HKR
  have HK := n1
  have HF := n2
  have HKR := n3
  clear n1 n2 n3
  clear HBD HRB hk5 hv hbd9
  have HBD := HBD9
  have HRB := HRB9
  clear HBD9 HRB9
  generalize B.gone a.node = B9 at HBD HFIN
 all_goals
  try have qc : (cc != cc) = false := by simp
  go_wp2_with fail
  refine (of_any HV.out HF.out.ty).mono ?_
  rintro e w6 ⟨rfl, hb6⟩
  have hk5 := Kept.of hb6 (Nat.le_trans HP.out.1 HK.out.1.size)
  have n1 := mk0 (HBD.out.below hb6)
  have n3 := mk0 (HRB.out.below hb6)
  have n1 := mk0 (HK.out.trans hk5)
  have n2 := mk0 (HF.out.kept hk5)
  have n3 := mk0 (hk5.2 _ _ _ _ HKR.out)
  clear HK HF HKR
  have HK := n1
  have HF := n2
  have HKR := n3
  clear n1 n2 n3
  clear HBD HRB hk5 hb6 HV
  have x0 := (blk_cell HKR.out 0).trans (show _ = some (Vs b1 n d1) from rfl)
  have x1 := (blk_cell HKR.out 1).trans (show _ = some (Vs b2 mE d2) from rfl)
  have x2 := (blk_cell HKR.out 2).trans (show _ = some (Vs b3 mU d3) from rfl)
  have x3 := (blk_cell HKR.out 3).trans (show _ = some (Vs b4 mG d4) from rfl)
  have y0 := (blk_cell HF.out.res 0).trans (show _ = some (Vs none 0 0) from rfl)
  have y1 := (blk_cell HF.out.res 1).trans (show _ = some (Vs none 0 0) from rfl)
  have y2 := (blk_cell HF.out.res 2).trans (show _ = some (Vs none 0 0) from rfl)
  have y3 := (blk_cell HF.out.res 3).trans (show _ = some (Vs none 0 0) from rfl)
  have f0 := blk_frozen HF.out.res 0
  have f1 := blk_frozen HF.out.res 1
  have f2 := blk_frozen HF.out.res 2
  have f3 := blk_frozen HF.out.res 3
  go_wp2
  clear x0 x1 x2 x3 y0 y1 y2 y3 f0 f1 f2 f3
  have HB := mk0 HK.out.1
  have HGR := mk0 HGN.out.2.2.2.1
  have hpu := put4 HF.out.res (.slice b1 n d1) (.slice b2 mE d2) (.slice b3 mU d3) (.slice b4 mG d4)
  have k0 : ((w6).setCell ⟨g6, 0, none⟩ (Vs b1 n d1)).heap[g6]? = some (.cells #[(Vs b1 n d1), (Vs none 0 0), (Vs none 0 0), (Vs none 0 0)] 41 (0, 0)) := by simpa using blk_set HF.out.res 0 (Vs b1 n d1)
  have k1 : (((w6).setCell ⟨g6, 0, none⟩ (Vs b1 n d1)).setCell ⟨g6, 1, none⟩ (Vs b2 mE d2)).heap[g6]? = some (.cells #[(Vs b1 n d1), (Vs b2 mE d2), (Vs none 0 0), (Vs none 0 0)] 41 (0, 0)) := by simpa using blk_set k0 1 (Vs b2 mE d2)
  have k2 : ((((w6).setCell ⟨g6, 0, none⟩ (Vs b1 n d1)).setCell ⟨g6, 1, none⟩ (Vs b2 mE d2)).setCell ⟨g6, 2, none⟩ (Vs b3 mU d3)).heap[g6]? = some (.cells #[(Vs b1 n d1), (Vs b2 mE d2), (Vs b3 mU d3), (Vs none 0 0)] 41 (0, 0)) := by simpa using blk_set k1 2 (Vs b3 mU d3)
  have k3 : (((((w6).setCell ⟨g6, 0, none⟩ (Vs b1 n d1)).setCell ⟨g6, 1, none⟩ (Vs b2 mE d2)).setCell ⟨g6, 2, none⟩ (Vs b3 mU d3)).setCell ⟨g6, 3, none⟩ (Vs b4 mG d4)).heap[g6]? = some (.cells #[(Vs b1 n d1), (Vs b2 mE d2), (Vs b3 mU d3), (Vs b4 mG d4)] 41 (0, 0)) := by simpa using blk_set k2 3 (Vs b4 mG d4)
  have hbf := (((HB.out.setCell (p := ⟨g6, 0, none⟩) HGR.out (Vs b1 n d1)).setCell (p := ⟨g6, 1, none⟩) HGR.out (Vs b2 mE d2)).setCell (p := ⟨g6, 2, none⟩) HGR.out (Vs b3 mU d3)).setCell (p := ⟨g6, 3, none⟩) HGR.out (Vs b4 mG d4)
  have m1 := n1.out.put hpu
  have m3 := n3.out.put hpu
  have m4 := HK.out.put hbf HGN.out.2.2.1 hpu
  clear k0 k1 k2 n1 n3 hpu hbf
  generalize (((w6.setCell ⟨g6, 0, none⟩ (Vs b1 n d1)).setCell ⟨g6, 1, none⟩ (Vs b2 mE d2)).setCell ⟨g6, 2, none⟩ (Vs b3 mU d3)).setCell ⟨g6, 3, none⟩ (Vs b4 mG d4) = w9 at k3 m1 m3 m4 ⊢
  have z0 := (blk_cell k3 0).trans (show _ = some (Vs b1 n d1) from rfl)
  have z1 := (blk_cell k3 1).trans (show _ = some (Vs b2 mE d2) from rfl)
  have z2 := (blk_cell k3 2).trans (show _ = some (Vs b3 mU d3) from rfl)
  have z3 := (blk_cell k3 3).trans (show _ = some (Vs b4 mG d4) from rfl)
  exact bodyPost_ret (v := .tuple #[.agg #[.slice b1 n d1, .slice b2 mE d2, .slice b3 mU d3, .slice b4 mG d4], .int .i64 0]) (by simp [results, Tryz.results9, go_sem, z0, z1, z2, z3]) rfl (HPO.out _ _ ⟨⟨b1, d1, b2, d2, b3, d3, b4, d4⟩, B9, R3, (by unfold rbV; dsimp only; rw [← HMM.out.1, ← HMM.out.2.1, ← HMM.out.2.2]), m4, m1, m3, HFIN.out.1, HFIN.out.2⟩)
end Go.Proofs.YtlokmijoaocofaaGreatDoor.Mine
end
