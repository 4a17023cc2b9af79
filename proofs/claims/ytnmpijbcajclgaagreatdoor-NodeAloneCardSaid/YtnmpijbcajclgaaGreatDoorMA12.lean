/- Texts of one claim, one behind the other, made short by a program. -/
import Derived.Test.YtnmpijbcajclgaaGreatDoorMA11
import Derived.Lib.SmallJoins
import Derived.Lib.AppendIntMem
import Derived.Lib.ItoaLen
import Derived.StillTailTactics
import Derived.Sort.OwnSorted
import Derived.Lib.RowBridge
import Derived.Shelf.Slices.In.SortNone
set_option maxHeartbeats 8000000
set_option linter.unusedSimpArgs false
set_option linter.unusedVariables false
set_option maxRecDepth 100000
section
namespace Go.Proofs.YtnmpijbcajclgaaGreatDoor.Mine
open Tryz
open Go.RowKit YtnmpijbcajclgaaGreatDoorW.PrintWords YtnmpijbcajclgaaGreatDoorW.PrintLast YtnmpijbcajclgaaGreatDoorW.PrintMore
open PNodeAlone
def nk(s:ByteArray):List UInt8:=34::gG s.data.toList++ [34]
def nI(p:iI):List UInt8:=
 if p.f1=1 then p.f0.data.toList++ [32,105,110,32]++Lib.itoa p.f2++ [46,46]++Lib.itoa p.f3
 else if p.f1=2 then p.f0.data.toList++ [32,61,32]++nk p.f4
 else p.f0.data.toList++ [32,94,61,32]++nk p.f4
def nZ(i:Nat)(p:iI):List UInt8:=(if i=0 then [] else [32,97,110,100,32])++nI p
def gV(L:List iI):Nat->List UInt8
 |0=> []
 |i+1=>gV L i++nZ i (L.getD i z168)
theorem EL(L:List iI){i j:Nat}(h:i<=j):(gV L i).length<=(gV L j).length:=by
 induction j with
 |zero=>
  obtain rfl:i=0:=by omega
  exact Nat.le_refl _
 |succ j ih=>
  by_cases hi:i=j+1
  ·rw[hi];exact Nat.le_refl _
  ·have:=ih (by omega);show _<=(gV L j++_).length;rw[List.length_append];omega
theorem Lc(l:List UInt8):l.length<=(gG l).length:=by
 induction l with
 |nil=>simp
 |cons c r ih=>
  have:gG (c::r)=(if c=34∨c=92 then [92,c] else [c])++gG r:=rfl;rw[this,List.length_append,List.length_cons];by_cases h:c=34∨c=92
  ·rw[if_pos h];simp only[List.length_cons,List.length_nil];omega
  ·rw[if_neg h];simp only[List.length_cons,List.length_nil];omega
theorem GX(p:iI):p.f0.size<=(nI p).length:=by
 have e:p.f0.size=p.f0.data.toList.length:=by rw[Array.length_toList];rfl
 unfold nI;split
 ·simp only[List.length_append];omega
 ·split
  ·simp only[List.length_append];omega
  ·simp only[List.length_append];omega
theorem q8(p:iI)(h:p.f1≠1):p.f4.size<=(nI p).length:=by
 have e:p.f4.size=p.f4.data.toList.length:=by rw[Array.length_toList];rfl
 have:=Lc p.f4.data.toList;unfold nI nk;rw[if_neg h];split
 ·simp only[List.length_append,List.length_cons];omega
 ·simp only[List.length_append,List.length_cons];omega
def gF(w:World):Prop:=Lib.TabIs prog w "internal/strconv.uint64pow10" .u64 Lib.pow10Tab
theorem gF.below{w w':World}(h:gF w)(hb:Below w.heap.size w w'):gF w':=Go.Joins.tab_stays (by kernel_rfl:prog.globalNamed "internal/strconv.uint64pow10" =some 1) h hb (Nat.le_refl _)
theorem kT(n:Int)(h0: -9223372036854775808<=n)(h1:n<=9223372036854775807)(w:World)(hT:gF w):Calls prog 91 #[.int .i64 n] w fun e w'=>e=.returned (.string ⟨(Lib.itoa n).toArray⟩)∧Below w.heap.size w w':=
 (Any.strconv_Itoa Tryz.Nz n h0 h1 w hT).mono fun _ _ ⟨he,k,os,hw⟩=>⟨he,by rw[hw];exact Lib.below_grow _ _ (Nat.le_refl _) _ _⟩
theorem DD(A:Option Addr)(n c:Nat)(L:List iI)(w:World)(hn:L.length=n)(hr:Kd.C pG w A n L)(hT:gF w)(hb:∀p∈L, -9223372036854775808<=p.f2∧p.f2<=9223372036854775807∧ -9223372036854775808<=p.f3∧p.f3<=9223372036854775807)
 (hs:(gV L n).length<=1000000000) (hn2:n<=1000000):
 Calls prog 43 #[.slice A n c] w fun e w'=>e=.returned (.string ⟨(gV L n).toArray⟩)∧Below w.heap.size w w':=by
 have HR:=ai hr;have HT:=ai hT;have HM:=ai hb;have HS:=ai hs;have HNL:=ai hn;clear hr hT hb hs hn;go_enter func43,ntmps43
 go_wp2_with fail
 go_loopg [3,4,5,8] (n+1) (fun k v3 v4 v5 v8 W=>∃(i:Nat) (S:ByteArray),ay (i<=n∧k+i=n+1)∧ay (S.data.toList=gV L i)∧v3=.string S∧v8=.int .i64 i∧ay (Below w.heap.size w W))
 case atStart=>exact⟨0,⟨#[]⟩,⟨by omega,by omega⟩,⟨rfl⟩,rfl,rfl,⟨Below.refl _ _⟩⟩
 case round=>
  obtain⟨i,S,HN,HE,rfl,rfl,HB⟩:=hrel;by_cases hi:i<n
  ·have b1:decide ((i:Int)<(n:Int))=true:=decide_eq_true (by omega);have p1:(0:Int)<=(i:Int):=by omega
   have p2:(i:Int)<(n:Int):=by omega
   obtain⟨ad,e,h0,h1,h2,h3,h4⟩:=tL HR.o i p1 p2;cases e
   rw[Int.toNat_natCast] at h0 h1 h2 h3 h4;replace h0:=(HB.o.cell (World.block_lt_of_cell? w _ h0)).trans h0;replace h1:=(HB.o.cell (World.block_lt_of_cell? w _ h1)).trans h1;replace h2:=(HB.o.cell (World.block_lt_of_cell? w _ h2)).trans h2;replace h3:=(HB.o.cell (World.block_lt_of_cell? w _ h3)).trans h3;replace h4:=(HB.o.cell (World.block_lt_of_cell? w _ h4)).trans h4;have hrd:kZ L (i:Int)=L.getD i z168:=rfl;rw[hrd] at h0 h1 h2 h3 h4;have hmem:L.getD i z168∈L:=by
    rw[List.getD_eq_getElem?_getD,List.getElem?_eq_getElem (by have:=HNL.o;omega)];exact List.getElem_mem _
   have hrange:=HM.o _ hmem;have hT:(gV L i).length+(nZ i (L.getD i z168)).length<=1000000000:=by
    have h5:(gV L (i+1)).length<=_:=EL L (show i+1<=n by omega);have h6:=HS.o;have h7:gV L (i+1)=gV L i++nZ i (L.getD i z168):=rfl;rw[h7,List.length_append] at h5;omega
   have Dt:=ai (show gV L (i+1)=gV L i++nZ i (L.getD i z168) from rfl);generalize L.getD i z168=p at h0 h1 h2 h3 h4 hrange hT Dt;obtain⟨r1,r2,r3,r4⟩:=hrange;have hST:S.size<=1000000000:=by
    have:S.size=S.data.toList.length:=by rw[Array.length_toList];rfl
    rw[HE.o] at this;omega
   have hpl:(nI p).length<=1000000000:=by
    unfold nZ at hT;rw[List.length_append] at hT;omega
   have Lx:p.f0.size<=1000000000:=Nat.le_trans (GX p) hpl;have hRR:=ai (And.intro r1 (And.intro r2 (And.intro r3 r4)));have Yn:=ai hpl;clear hT hpl r1 r2 r3 r4 hmem hrd;by_cases hi0:i=0
   ·have c1:decide (0<i)=false:=decide_eq_false (by omega);have c2:decide ((0:Int)<(i:Int))=false:=decide_eq_false (by omega);have HI0:=ai hi0;clear hi0;by_cases ho1:p.f1=1
    ·have d1:(p.f1==1)=true:=by simp[ho1]
     go_wp2_with fail
     generalize hW:wr.alloc (Obj.cells #[.string p.f0,.int .i64 1,.int .i64 p.f2,.int .i64 p.f3,.string p.f4] 168)=W2;have HK:W2.heap[wr.heap.size]? =some (.cells #[.string p.f0,.int .i64 1,.int .i64 p.f2,.int .i64 p.f3,.string p.f4] 168 (0,0)):=by rw[<-hW];exact iX wr _
     replace HB:=ai (show Below w.heap.size w W2 by rw[<-hW];exact ae HB.o _);clear hW h0 h1 h2 h3 h4;have JH:gF W2:=gF.below HT.o HB.o;generalize wr.heap.size=gb at HK|-;have q0:∀q:aW W2,q.w.cell? ⟨gb,0,none⟩=some (.string p.f0):=fun q=>q.cell ((bK HK))
     have q2:∀q:aW W2,q.w.cell? ⟨gb,2,none⟩=some (.int .i64 p.f2):=fun q=>q.cell ((dh HK))
     have q3:∀q:aW W2,q.w.cell? ⟨gb,3,none⟩=some (.int .i64 p.f3):=fun q=>q.cell ((dA HK))
     have q4:∀q:aW W2,q.w.cell? ⟨gb,4,none⟩=some (.string p.f4):=fun q=>q.cell ((dI HK))
     clear HK;have hSz:S.size<=1000000005:=(by omega);have HE2:ay (S.data.toList=gV L i++ []):=⟨by rw[List.append_nil];exact HE.o⟩;clear hST HE;generalize S=S2 at HE2 hSz|-;obtain⟨QE,hLo,ZN,Xk⟩:∃b:ByteArray,b.data.toList=Lib.itoa p.f2∧b.size<=21∧∀q:aW W2,Calls prog 91 #[.int .i64 p.f2] q.w fun e w'=>e=.returned (.string b)∧Below q.w.heap.size q.w w':=⟨⟨(Lib.itoa p.f2).toArray⟩,rfl,(by show (Lib.itoa p.f2).toArray.size<=21;rw[List.size_toArray];exact Lib.itoa_length_le p.f2 hRR.o.1 hRR.o.2.1),fun q=>kT _ hRR.o.1 hRR.o.2.1 _ (JH.below q.h)⟩
     obtain⟨VF,hHi,sHi,VL⟩:∃b:ByteArray,b.data.toList=Lib.itoa p.f3∧b.size<=21∧∀q:aW W2,Calls prog 91 #[.int .i64 p.f3] q.w fun e w'=>e=.returned (.string b)∧Below q.w.heap.size q.w w':=⟨⟨(Lib.itoa p.f3).toArray⟩,rfl,(by show (Lib.itoa p.f3).toArray.size<=21;rw[List.size_toArray];exact Lib.itoa_length_le p.f3 hRR.o.2.2.1 hRR.o.2.2.2),fun q=>kT _ hRR.o.2.2.1 hRR.o.2.2.2 _ (JH.below q.h)⟩
     have Z6:=ai hLo;have HHi:=ai hHi;have vQ:=ai Xk;have TL:=ai VL;clear hLo hHi Xk VL;have z1:(9223372036854775807<p.f0.size+4)=False:=eq_false (by omega);have z2:(9223372036854775807<p.f0.size+4+QE.size)=False:=eq_false (by omega);have z3:(9223372036854775807<p.f0.size+4+QE.size+2)=False:=eq_false (by omega);have z4:(9223372036854775807<p.f0.size+4+QE.size+2+VF.size)=False:=eq_false (by omega);have z5:(9223372036854775807<S2.size+(p.f0.size+4+QE.size+2+VF.size))=False:=eq_false (by omega);clear Lx hSz ZN sHi;refine wp_region_quiet_below (by kernel_rfl) (by kernel_rfl) ?_
     repeat(quiet_step ((go_at_call 91;first|(with_reducible refine Calls.dF (vQ.o _))|(with_reducible refine Calls.dF (TL.o _)))))
     refine wpQuiet_nil ?_;rintro _ ⟨pq,rfl⟩;go_wp2;go_roundg (gk-1)
     case measure=>have:=HN.o;omega
     case rel=>exact⟨i+1,_,⟨by have:=HN.o;omega,by have:=HN.o;omega⟩,⟨by rw[ByteArray.data_append,Array.toList_append,HE2.o,Dt.o];simp[nZ,nI,ho1,Z6.o,HHi.o,ByteArray.data_append,HI0.o]⟩,rfl,rfl,⟨aD HB.o HB.o.size pq.h⟩⟩
    ·have d1:(p.f1==1)=false:=by simp[ho1]
     by_cases ho2:p.f1=2
     ·have d2:(p.f1==2)=true:=by simp[ho2]
      go_wp2_with fail
      generalize hW:wr.alloc (Obj.cells #[.string p.f0,.int .i64 2,.int .i64 p.f2,.int .i64 p.f3,.string p.f4] 168)=W2;have HK:W2.heap[wr.heap.size]? =some (.cells #[.string p.f0,.int .i64 2,.int .i64 p.f2,.int .i64 p.f3,.string p.f4] 168 (0,0)):=by rw[<-hW];exact iX wr _
      replace HB:=ai (show Below w.heap.size w W2 by rw[<-hW];exact ae HB.o _);clear hW h0 h1 h2 h3 h4;have JH:gF W2:=gF.below HT.o HB.o;generalize wr.heap.size=gb at HK|-;have q0:∀q:aW W2,q.w.cell? ⟨gb,0,none⟩=some (.string p.f0):=fun q=>q.cell ((bK HK))
      have q2:∀q:aW W2,q.w.cell? ⟨gb,2,none⟩=some (.int .i64 p.f2):=fun q=>q.cell ((dh HK))
      have q3:∀q:aW W2,q.w.cell? ⟨gb,3,none⟩=some (.int .i64 p.f3):=fun q=>q.cell ((dA HK))
      have q4:∀q:aW W2,q.w.cell? ⟨gb,4,none⟩=some (.string p.f4):=fun q=>q.cell ((dI HK))
      clear HK;have hSz:S.size<=1000000005:=(by omega);have HE2:ay (S.data.toList=gV L i++ []):=⟨by rw[List.append_nil];exact HE.o⟩;clear hST HE;generalize S=S2 at HE2 hSz|-;have IC:p.f4.size<=1000000000:=Nat.le_trans (q8 p ho1) Yn.o;obtain⟨bq,hq,sq,cq⟩:∃b:ByteArray,b.data.toList=nk p.f4∧b.size<=2000000002∧∀q:aW W2,Calls prog 92 #[.string p.f4] q.w fun e w'=>e=.returned (.string b)∧Below q.w.heap.size q.w w':=⟨⟨(34::gG p.f4.data.toList++ [34]).toArray⟩,rfl,(by show (34::gG p.f4.data.toList++ [34]).toArray.size<=_;rw[List.size_toArray];have h1:=mF p.f4.data.toList;have h2:p.f4.size=p.f4.data.toList.length:=(by rw[Array.length_toList];rfl);simp only[List.length_append,List.length_cons,List.length_nil];omega),fun q=>nD p.f4 q.w IC⟩
      have HQ:=ai hq;have R3:=ai cq;clear hq cq IC;have z1:(9223372036854775807<p.f0.size+3)=False:=eq_false (by omega);have z2:(9223372036854775807<p.f0.size+3+bq.size)=False:=eq_false (by omega);have z3:(9223372036854775807<S2.size+(p.f0.size+3+bq.size))=False:=eq_false (by omega);clear Lx hSz sq;refine wp_region_quiet_below (by kernel_rfl) (by kernel_rfl) ?_
      repeat(quiet_step ((go_at_call 92;(with_reducible refine Calls.dF (R3.o _)))))
      refine wpQuiet_nil ?_;rintro _ ⟨pq,rfl⟩;go_wp2;go_roundg (gk-1)
      case measure=>have:=HN.o;omega
      case rel=>exact⟨i+1,_,⟨by have:=HN.o;omega,by have:=HN.o;omega⟩,⟨by rw[ByteArray.data_append,Array.toList_append,HE2.o,Dt.o];simp[nZ,nI,ho1,HQ.o,ByteArray.data_append,HI0.o,ho2]⟩,rfl,rfl,⟨aD HB.o HB.o.size pq.h⟩⟩
     ·have d2:(p.f1==2)=false:=by simp[ho2]
      go_wp2_with fail
      generalize hW:wr.alloc (Obj.cells #[.string p.f0,.int .i64 p.f1,.int .i64 p.f2,.int .i64 p.f3,.string p.f4] 168)=W2;have HK:W2.heap[wr.heap.size]? =some (.cells #[.string p.f0,.int .i64 p.f1,.int .i64 p.f2,.int .i64 p.f3,.string p.f4] 168 (0,0)):=by rw[<-hW];exact iX wr _
      replace HB:=ai (show Below w.heap.size w W2 by rw[<-hW];exact ae HB.o _);clear hW h0 h1 h2 h3 h4;have JH:gF W2:=gF.below HT.o HB.o;generalize wr.heap.size=gb at HK|-;have q0:∀q:aW W2,q.w.cell? ⟨gb,0,none⟩=some (.string p.f0):=fun q=>q.cell ((bK HK))
      have q2:∀q:aW W2,q.w.cell? ⟨gb,2,none⟩=some (.int .i64 p.f2):=fun q=>q.cell ((dh HK))
      have q3:∀q:aW W2,q.w.cell? ⟨gb,3,none⟩=some (.int .i64 p.f3):=fun q=>q.cell ((dA HK))
      have q4:∀q:aW W2,q.w.cell? ⟨gb,4,none⟩=some (.string p.f4):=fun q=>q.cell ((dI HK))
      clear HK;have hSz:S.size<=1000000005:=(by omega);have HE2:ay (S.data.toList=gV L i++ []):=⟨by rw[List.append_nil];exact HE.o⟩;clear hST HE;generalize S=S2 at HE2 hSz|-;have IC:p.f4.size<=1000000000:=Nat.le_trans (q8 p ho1) Yn.o;obtain⟨bq,hq,sq,cq⟩:∃b:ByteArray,b.data.toList=nk p.f4∧b.size<=2000000002∧∀q:aW W2,Calls prog 92 #[.string p.f4] q.w fun e w'=>e=.returned (.string b)∧Below q.w.heap.size q.w w':=⟨⟨(34::gG p.f4.data.toList++ [34]).toArray⟩,rfl,(by show (34::gG p.f4.data.toList++ [34]).toArray.size<=_;rw[List.size_toArray];have h1:=mF p.f4.data.toList;have h2:p.f4.size=p.f4.data.toList.length:=(by rw[Array.length_toList];rfl);simp only[List.length_append,List.length_cons,List.length_nil];omega),fun q=>nD p.f4 q.w IC⟩
      have HQ:=ai hq;have R3:=ai cq;clear hq cq IC;have z1:(9223372036854775807<p.f0.size+4)=False:=eq_false (by omega);have z2:(9223372036854775807<p.f0.size+4+bq.size)=False:=eq_false (by omega);have z3:(9223372036854775807<S2.size+(p.f0.size+4+bq.size))=False:=eq_false (by omega);clear Lx hSz sq;refine wp_region_quiet_below (by kernel_rfl) (by kernel_rfl) ?_
      repeat(quiet_step ((go_at_call 92;(with_reducible refine Calls.dF (R3.o _)))))
      refine wpQuiet_nil ?_;rintro _ ⟨pq,rfl⟩;go_wp2;go_roundg (gk-1)
      case measure=>have:=HN.o;omega
      case rel=>exact⟨i+1,_,⟨by have:=HN.o;omega,by have:=HN.o;omega⟩,⟨by rw[ByteArray.data_append,Array.toList_append,HE2.o,Dt.o];simp[nZ,nI,ho1,HQ.o,ByteArray.data_append,HI0.o,ho2]⟩,rfl,rfl,⟨aD HB.o HB.o.size pq.h⟩⟩
   ·have c1:decide (0<i)=true:=decide_eq_true (by omega);have c2:decide ((0:Int)<(i:Int))=true:=decide_eq_true (by omega);have HI0:=ai hi0;clear hi0;by_cases ho1:p.f1=1
    ·have d1:(p.f1==1)=true:=by simp[ho1]
     go_wp2_with fail
     generalize hW:wr.alloc (Obj.cells #[.string p.f0,.int .i64 1,.int .i64 p.f2,.int .i64 p.f3,.string p.f4] 168)=W2;have HK:W2.heap[wr.heap.size]? =some (.cells #[.string p.f0,.int .i64 1,.int .i64 p.f2,.int .i64 p.f3,.string p.f4] 168 (0,0)):=by rw[<-hW];exact iX wr _
     replace HB:=ai (show Below w.heap.size w W2 by rw[<-hW];exact ae HB.o _);clear hW h0 h1 h2 h3 h4;have JH:gF W2:=gF.below HT.o HB.o;generalize wr.heap.size=gb at HK|-;have q0:∀q:aW W2,q.w.cell? ⟨gb,0,none⟩=some (.string p.f0):=fun q=>q.cell ((bK HK))
     have q2:∀q:aW W2,q.w.cell? ⟨gb,2,none⟩=some (.int .i64 p.f2):=fun q=>q.cell ((dh HK))
     have q3:∀q:aW W2,q.w.cell? ⟨gb,3,none⟩=some (.int .i64 p.f3):=fun q=>q.cell ((dA HK))
     have q4:∀q:aW W2,q.w.cell? ⟨gb,4,none⟩=some (.string p.f4):=fun q=>q.cell ((dI HK))
     clear HK;generalize hS2:S++⟨#[32,97,110,100,32]⟩=S2;have hSz:S2.size<=1000000005:=(by rw[<-hS2,ByteArray.size_append];exact Nat.add_le_add_right hST 5);have HE2:ay (S2.data.toList=gV L i++ [32,97,110,100,32]):=⟨by rw[<-hS2,ByteArray.data_append,Array.toList_append,HE.o]⟩;clear hS2 hST;obtain⟨QE,hLo,ZN,Xk⟩:∃b:ByteArray,b.data.toList=Lib.itoa p.f2∧b.size<=21∧∀q:aW W2,Calls prog 91 #[.int .i64 p.f2] q.w fun e w'=>e=.returned (.string b)∧Below q.w.heap.size q.w w':=⟨⟨(Lib.itoa p.f2).toArray⟩,rfl,(by show (Lib.itoa p.f2).toArray.size<=21;rw[List.size_toArray];exact Lib.itoa_length_le p.f2 hRR.o.1 hRR.o.2.1),fun q=>kT _ hRR.o.1 hRR.o.2.1 _ (JH.below q.h)⟩
     obtain⟨VF,hHi,sHi,VL⟩:∃b:ByteArray,b.data.toList=Lib.itoa p.f3∧b.size<=21∧∀q:aW W2,Calls prog 91 #[.int .i64 p.f3] q.w fun e w'=>e=.returned (.string b)∧Below q.w.heap.size q.w w':=⟨⟨(Lib.itoa p.f3).toArray⟩,rfl,(by show (Lib.itoa p.f3).toArray.size<=21;rw[List.size_toArray];exact Lib.itoa_length_le p.f3 hRR.o.2.2.1 hRR.o.2.2.2),fun q=>kT _ hRR.o.2.2.1 hRR.o.2.2.2 _ (JH.below q.h)⟩
     have Z6:=ai hLo;have HHi:=ai hHi;have vQ:=ai Xk;have TL:=ai VL;clear hLo hHi Xk VL;have z1:(9223372036854775807<p.f0.size+4)=False:=eq_false (by omega);have z2:(9223372036854775807<p.f0.size+4+QE.size)=False:=eq_false (by omega);have z3:(9223372036854775807<p.f0.size+4+QE.size+2)=False:=eq_false (by omega);have z4:(9223372036854775807<p.f0.size+4+QE.size+2+VF.size)=False:=eq_false (by omega);have z5:(9223372036854775807<S2.size+(p.f0.size+4+QE.size+2+VF.size))=False:=eq_false (by omega);clear Lx hSz ZN sHi;refine wp_region_quiet_below (by kernel_rfl) (by kernel_rfl) ?_
     repeat(quiet_step ((go_at_call 91;first|(with_reducible refine Calls.dF (vQ.o _))|(with_reducible refine Calls.dF (TL.o _)))))
     refine wpQuiet_nil ?_;rintro _ ⟨pq,rfl⟩;go_wp2;go_roundg (gk-1)
     case measure=>have:=HN.o;omega
     case rel=>exact⟨i+1,_,⟨by have:=HN.o;omega,by have:=HN.o;omega⟩,⟨by rw[ByteArray.data_append,Array.toList_append,HE2.o,Dt.o];simp[nZ,nI,ho1,Z6.o,HHi.o,ByteArray.data_append,HI0.o]⟩,rfl,rfl,⟨aD HB.o HB.o.size pq.h⟩⟩
    ·have d1:(p.f1==1)=false:=by simp[ho1]
     by_cases ho2:p.f1=2
     ·have d2:(p.f1==2)=true:=by simp[ho2]
      go_wp2_with fail
      generalize hW:wr.alloc (Obj.cells #[.string p.f0,.int .i64 2,.int .i64 p.f2,.int .i64 p.f3,.string p.f4] 168)=W2;have HK:W2.heap[wr.heap.size]? =some (.cells #[.string p.f0,.int .i64 2,.int .i64 p.f2,.int .i64 p.f3,.string p.f4] 168 (0,0)):=by rw[<-hW];exact iX wr _
      replace HB:=ai (show Below w.heap.size w W2 by rw[<-hW];exact ae HB.o _);clear hW h0 h1 h2 h3 h4;have JH:gF W2:=gF.below HT.o HB.o;generalize wr.heap.size=gb at HK|-;have q0:∀q:aW W2,q.w.cell? ⟨gb,0,none⟩=some (.string p.f0):=fun q=>q.cell ((bK HK))
      have q2:∀q:aW W2,q.w.cell? ⟨gb,2,none⟩=some (.int .i64 p.f2):=fun q=>q.cell ((dh HK))
      have q3:∀q:aW W2,q.w.cell? ⟨gb,3,none⟩=some (.int .i64 p.f3):=fun q=>q.cell ((dA HK))
      have q4:∀q:aW W2,q.w.cell? ⟨gb,4,none⟩=some (.string p.f4):=fun q=>q.cell ((dI HK))
      clear HK;generalize hS2:S++⟨#[32,97,110,100,32]⟩=S2;have hSz:S2.size<=1000000005:=(by rw[<-hS2,ByteArray.size_append];exact Nat.add_le_add_right hST 5);have HE2:ay (S2.data.toList=gV L i++ [32,97,110,100,32]):=⟨by rw[<-hS2,ByteArray.data_append,Array.toList_append,HE.o]⟩;clear hS2 hST;have IC:p.f4.size<=1000000000:=Nat.le_trans (q8 p ho1) Yn.o;obtain⟨bq,hq,sq,cq⟩:∃b:ByteArray,b.data.toList=nk p.f4∧b.size<=2000000002∧∀q:aW W2,Calls prog 92 #[.string p.f4] q.w fun e w'=>e=.returned (.string b)∧Below q.w.heap.size q.w w':=⟨⟨(34::gG p.f4.data.toList++ [34]).toArray⟩,rfl,(by show (34::gG p.f4.data.toList++ [34]).toArray.size<=_;rw[List.size_toArray];have h1:=mF p.f4.data.toList;have h2:p.f4.size=p.f4.data.toList.length:=(by rw[Array.length_toList];rfl);simp only[List.length_append,List.length_cons,List.length_nil];omega),fun q=>nD p.f4 q.w IC⟩
      have HQ:=ai hq;have R3:=ai cq;clear hq cq IC;have z1:(9223372036854775807<p.f0.size+3)=False:=eq_false (by omega);have z2:(9223372036854775807<p.f0.size+3+bq.size)=False:=eq_false (by omega);have z3:(9223372036854775807<S2.size+(p.f0.size+3+bq.size))=False:=eq_false (by omega);clear Lx hSz sq;refine wp_region_quiet_below (by kernel_rfl) (by kernel_rfl) ?_
      repeat(quiet_step ((go_at_call 92;(with_reducible refine Calls.dF (R3.o _)))))
      refine wpQuiet_nil ?_;rintro _ ⟨pq,rfl⟩;go_wp2;go_roundg (gk-1)
      case measure=>have:=HN.o;omega
      case rel=>exact⟨i+1,_,⟨by have:=HN.o;omega,by have:=HN.o;omega⟩,⟨by rw[ByteArray.data_append,Array.toList_append,HE2.o,Dt.o];simp[nZ,nI,ho1,HQ.o,ByteArray.data_append,HI0.o,ho2]⟩,rfl,rfl,⟨aD HB.o HB.o.size pq.h⟩⟩
     ·have d2:(p.f1==2)=false:=by simp[ho2]
      go_wp2_with fail
      generalize hW:wr.alloc (Obj.cells #[.string p.f0,.int .i64 p.f1,.int .i64 p.f2,.int .i64 p.f3,.string p.f4] 168)=W2;have HK:W2.heap[wr.heap.size]? =some (.cells #[.string p.f0,.int .i64 p.f1,.int .i64 p.f2,.int .i64 p.f3,.string p.f4] 168 (0,0)):=by rw[<-hW];exact iX wr _
      replace HB:=ai (show Below w.heap.size w W2 by rw[<-hW];exact ae HB.o _);clear hW h0 h1 h2 h3 h4;have JH:gF W2:=gF.below HT.o HB.o;generalize wr.heap.size=gb at HK|-;have q0:∀q:aW W2,q.w.cell? ⟨gb,0,none⟩=some (.string p.f0):=fun q=>q.cell ((bK HK))
      have q2:∀q:aW W2,q.w.cell? ⟨gb,2,none⟩=some (.int .i64 p.f2):=fun q=>q.cell ((dh HK))
      have q3:∀q:aW W2,q.w.cell? ⟨gb,3,none⟩=some (.int .i64 p.f3):=fun q=>q.cell ((dA HK))
      have q4:∀q:aW W2,q.w.cell? ⟨gb,4,none⟩=some (.string p.f4):=fun q=>q.cell ((dI HK))
      clear HK;generalize hS2:S++⟨#[32,97,110,100,32]⟩=S2;have hSz:S2.size<=1000000005:=(by rw[<-hS2,ByteArray.size_append];exact Nat.add_le_add_right hST 5);have HE2:ay (S2.data.toList=gV L i++ [32,97,110,100,32]):=⟨by rw[<-hS2,ByteArray.data_append,Array.toList_append,HE.o]⟩;clear hS2 hST;have IC:p.f4.size<=1000000000:=Nat.le_trans (q8 p ho1) Yn.o;obtain⟨bq,hq,sq,cq⟩:∃b:ByteArray,b.data.toList=nk p.f4∧b.size<=2000000002∧∀q:aW W2,Calls prog 92 #[.string p.f4] q.w fun e w'=>e=.returned (.string b)∧Below q.w.heap.size q.w w':=⟨⟨(34::gG p.f4.data.toList++ [34]).toArray⟩,rfl,(by show (34::gG p.f4.data.toList++ [34]).toArray.size<=_;rw[List.size_toArray];have h1:=mF p.f4.data.toList;have h2:p.f4.size=p.f4.data.toList.length:=(by rw[Array.length_toList];rfl);simp only[List.length_append,List.length_cons,List.length_nil];omega),fun q=>nD p.f4 q.w IC⟩
      have HQ:=ai hq;have R3:=ai cq;clear hq cq IC;have z1:(9223372036854775807<p.f0.size+4)=False:=eq_false (by omega);have z2:(9223372036854775807<p.f0.size+4+bq.size)=False:=eq_false (by omega);have z3:(9223372036854775807<S2.size+(p.f0.size+4+bq.size))=False:=eq_false (by omega);clear Lx hSz sq;refine wp_region_quiet_below (by kernel_rfl) (by kernel_rfl) ?_
      repeat(quiet_step ((go_at_call 92;(with_reducible refine Calls.dF (R3.o _)))))
      refine wpQuiet_nil ?_;rintro _ ⟨pq,rfl⟩;go_wp2;go_roundg (gk-1)
      case measure=>have:=HN.o;omega
      case rel=>exact⟨i+1,_,⟨by have:=HN.o;omega,by have:=HN.o;omega⟩,⟨by rw[ByteArray.data_append,Array.toList_append,HE2.o,Dt.o];simp[nZ,nI,ho1,HQ.o,ByteArray.data_append,HI0.o,ho2]⟩,rfl,rfl,⟨aD HB.o HB.o.size pq.h⟩⟩
  ·have b1:decide ((i:Int)<(n:Int))=false:=decide_eq_false (by omega);have hin:i=n:=by have:=HN.o;omega
   go_wp2;go_ret;refine⟨?_,HB.o⟩;have hS:S=⟨(gV L n).toArray⟩:=by
    rw[<-hin,<-HE.o]
   rw[<-hS];rfl
def Sm(xs:List ByteArray):Prop:=∀x∈xs,x.size<=2000
theorem Sm.snoc{xs:List ByteArray}{x:ByteArray}(h:Sm xs)(hx:x.size<=2000):Sm (xs++ [x]):=fun y hy=>by
 rcases List.mem_append.1 hy with hy|hy
 ·exact h y hy
 ·rw[List.mem_singleton.1 hy];exact hx
theorem Sm.app{xs ys:List ByteArray}(h:Sm xs)(h2:Sm ys):Sm (xs++ys):=fun y hy=>by
 rcases List.mem_append.1 hy with hy|hy
 ·exact h y hy
 ·exact h2 y hy
theorem Sm.nil:Sm []:=fun y hy=>by cases hy
theorem Mo{S:List SA}{p:SP}(h:YZ S p):(nI p).length<=150:=by
 have e0:p.f0.data.toList.length=p.f0.size:=by rw[Array.length_toList];rfl
 have e4:p.f4.data.toList.length=p.f4.size:=by rw[Array.length_toList];rfl
 have:=h.name;have:=h.str;have:=mF p.f4.data.toList;have i1:=Lib.itoa_length_le p.f2 (by have:=h.lo;omega) (by have:=h.lo;omega);have i2:=Lib.itoa_length_le p.f3 (by have:=h.hi;omega) (by have:=h.hi;omega);unfold nI nk;split
 ·simp only[List.length_append,List.length_cons,List.length_nil];omega
 ·split
  ·simp only[List.length_append,List.length_cons,List.length_nil];omega
  ·simp only[List.length_append,List.length_cons,List.length_nil];omega
theorem Kz{S:List SA}{F:List SP}(h:∀p∈F,YZ S p):∀i,i<=F.length->(gV F i).length<=200*i:=by
 intro i
 induction i with
 |zero=>intro _;exact Nat.le_refl _
 |succ i ih=>
  intro hi;have hm:F.getD i z168∈F:=by
   rw[List.getD_eq_getElem?_getD,List.getElem?_eq_getElem (by omega)];exact List.getElem_mem _
  have h1:=Mo (h _ hm);have h2:=ih (by omega);show (gV F i++nZ i (F.getD i z168)).length<=_;unfold nZ;rw[List.length_append,List.length_append];split
  ·simp only[List.length_nil];omega
  ·simp only[List.length_cons,List.length_nil];omega
theorem OW(A:Option Addr)(n c:Nat)(S:List SA)(F:List SP)(w:World)(hn:F.length=n)(hr:Kd.C pG w A n F)(hT:gF w)(hF:∀p∈F,YZ S p)(h4:n<=4):
 ∃s:ByteArray,∀W,Below w.heap.size w W->Calls prog 43 #[.slice A n c] W fun e w'=>e=.returned (.string s)∧Below W.heap.size W w':=
 ⟨⟨(gV F n).toArray⟩,fun W hb=>DD A n c F W hn (Kd.aY hr hb) (hT.below hb) (fun p hp=>by have:=(hF p hp).lo;have:=(hF p hp).hi;omega) (by have:=Kz hF n (by omega);omega) (by omega)⟩
theorem uz(A:Option Addr)(n c:Nat)(S:List SA)(l:Int)(w:World)(h0:0<=l)(h8:l<=8)(hn:S.length=n)(hr:Kd.C uM w A n S)(hck:cB S=none)(hcd:n<=c):
 Calls prog 93 #[.slice A n c,.int .i64 l] w fun e w'=>e=.returned .nilIface∧Below w.heap.size w w':=by
 have hl:=(dn hck).2.1;have HC:=ai ((qy A n c S w hn hr (by omega) hcd).mono (fun e w' hq=>fE.ok hq hck));have b1:decide (l<0)=false:=decide_eq_false (by omega);have b2:decide (8<l)=false:=decide_eq_false (by omega);clear hr hck hn hl h0 h8;go_enter func93,ntmps93
 go_wp2_with fail
 refine HC.o.mono ?_;rintro e w1 ⟨rfl,hb⟩;go_wp2;go_ret;exact⟨rfl,hb⟩
theorem wL(nm:ByteArray)(x:jl)(hx:PU x)(hn:nm.size<=1000):∃s:ByteArray,s.size<=2000∧∀w,gF w->Calls prog 90 #[.string nm,.agg #[.int .i64 x.f0,.int .i64 x.f1]] w fun e w'=>e=.returned (.string s)∧Below w.heap.size w w':=by
 obtain⟨b0,s0,c0⟩:∃b:ByteArray,b.size<=21∧∀w,gF w->Calls prog 91 #[.int .i64 x.f0] w fun e w'=>e=.returned (.string b)∧Below w.heap.size w w':=⟨⟨(Lib.itoa x.f0).toArray⟩,(by show (Lib.itoa x.f0).toArray.size<=21;rw[List.size_toArray];exact Lib.itoa_length_le x.f0 hx.1.1 hx.1.2),fun w hT=>kT x.f0 hx.1.1 hx.1.2 w hT⟩
 obtain⟨b1,s1,c1⟩:∃b:ByteArray,b.size<=21∧∀w,gF w->Calls prog 91 #[.int .i64 x.f1] w fun e w'=>e=.returned (.string b)∧Below w.heap.size w w':=⟨⟨(Lib.itoa x.f1).toArray⟩,(by show (Lib.itoa x.f1).toArray.size<=21;rw[List.size_toArray];exact Lib.itoa_length_le x.f1 hx.2.1 hx.2.2),fun w hT=>kT x.f1 hx.2.1 hx.2.2 w hT⟩
 refine⟨nm++⟨#[46]⟩++b0++⟨#[46]⟩++b1,by(have e1:(⟨#[46]⟩:ByteArray).size=1:=rfl);simp only[ByteArray.size_append,e1];omega,fun w hT=> ?_⟩;have Wh:=ai c0;have o9:=ai c1;have HT:=ai hT;clear c0 c1 hT hx;have z1:(9223372036854775807<nm.size+1)=False:=eq_false (by omega);have z2:(9223372036854775807<nm.size+1+b0.size)=False:=eq_false (by omega);have z3:(9223372036854775807<nm.size+1+b0.size+1)=False:=eq_false (by omega);have z4:(9223372036854775807<nm.size+1+b0.size+1+b1.size)=False:=eq_false (by omega);clear s0 s1 hn;go_enter func90,ntmps90
 go_wp2_with fail
 have hb:=ae (Below.refl w.heap.size w) (.cells #[.int .i64 x.f0,.int .i64 x.f1] 194);have hk:=heap_alloc_new w (.cells #[.int .i64 x.f0,.int .i64 x.f1] 194);have JH:=gF.below HT.o hb;generalize w.alloc (.cells #[.int .i64 x.f0,.int .i64 x.f1] 194)=W2 at hb hk JH|-;have HB:=ai hb;generalize w.heap.size=gb at hk|-;have q0:∀q:aW W2,q.w.cell? ⟨gb,0,none⟩=some (.int .i64 x.f0):=fun q=>q.cell ((bK hk))
 have q1:∀q:aW W2,q.w.cell? ⟨gb,1,none⟩=some (.int .i64 x.f1):=fun q=>q.cell ((bS hk))
 have HQ0:=ai (fun q:aW W2=>Wh.o q.w (gF.below JH q.h));have TR:=ai (fun q:aW W2=>o9.o q.w (gF.below JH q.h));clear hb hk JH Wh o9;refine wp_region_quiet_below (by kernel_rfl) (by kernel_rfl) ?_
 repeat(quiet_step ((go_at_call 91;first|(with_reducible refine Calls.dF (HQ0.o _))|(with_reducible refine Calls.dF (TR.o _)))))
 refine wpQuiet_nil ?_;rintro _ ⟨pq,rfl⟩;go_wp2;go_ret;exact⟨rfl,aD HB.o HB.o.size pq.h⟩
theorem CL(A B:Option Addr)(n m c d:Nat)(S:List SA)(F:List SP)(l:Int)(w:World)(h0:0<=l)(h8:l<=8)(hn:S.length=n)(hm:F.length=m)(hr:Kd.C uM w A n S)(hr2:Kd.C pG w B m F)(hck:cB S=none)(lL:cu S F=none)(hc:n<=c)(hd:m<=d):
 Calls prog 86 #[.slice A n c,.slice B m d,.int .i64 l] w fun e w'=>(∃i:Nat,i<m∧e=.returned (.tuple #[.int .i64 (i:Int),.nilIface]))∧Below w.heap.size w w':=by
 have RJ:=(dn hck).2.1;obtain⟨ZH,hP⟩:=VD hck lL;have HP:=ai hP;have HS:=ai hr;have HF:=ai hr2;have HN:=ai hn;have HM:=ai hm;have VU:=ai (show 1<=m∧m<=4 by omega);have JE:=ai (show n<=4 by omega);have o9:=ai (uz A n c S l w h0 h8 hn hr hck hc);have vZ:=ai (fun W (hb:Below w.heap.size w W)=>(oV A B n m c d S F W hn hm (Kd.aY hr hb) (Kd.aY hr2 hb) (by omega) (by omega) hd).mono (fun e w' hq=>fu.ok hq lL));have wD:=ai (fun (a:SA) (p:SP) (ha:CJ a.f1 a.f2 a.f3) (hs:p.f4.size<=1000000)=>JD a p l h0 h8 ha hs);clear hr hr2 hn hm hck lL hc hd hP RJ ZH h0 h8;go_enter func86,ntmps86
 go_wp2_with fail
 refine o9.o.mono ?_;rintro e w1 ⟨rfl,hb⟩;have HB:=ai hb;clear hb o9;go_wp2_with fail
 refine(vZ.o _ HB.o).mono ?_;rintro e w2 ⟨rfl,hb⟩;replace HB:=dW HB hb;clear hb vZ;go_wp2_with fail
 go_loopg [10,11,12,13,14,15,30] (m+1) (fun k v10 v11 v12 v13 v14 v15 v30 W=>∃(i:Nat) (x:Int×Int),ay (i<=m∧k+i=m+1∧ -1<=x.1∧x.1<i∧(0<i->0<=x.1))∧v10=.int .i64 x.1∧v11=.int .i64 x.2∧v30=.int .i64 (i:Int)∧ay (Below w.heap.size w W))
 case atStart=>exact⟨0,(-1,0),⟨by omega,by omega,by decide,by decide,by omega⟩,rfl,rfl,rfl,HB⟩
 case round=>
  clear HB;obtain⟨i,⟨x1,x2⟩,HI,rfl,rfl,rfl,HB⟩:=hrel;by_cases hi:i<m
  ·have b1:decide ((i:Int)<(m:Int))=true:=decide_eq_true (by omega);have b2:decide (i<m)=true:=decide_eq_true (by omega);have p1:(0:Int)<=(i:Int):=by omega
   have p2:(i:Int)<(m:Int):=by omega
   obtain⟨ad,e,k0,k1,k2,k3,k4⟩:=tL (Kd.aY HF.o HB.o) (i:Int) p1 p2;cases e
   rw[Int.toNat_natCast] at k0 k1 k2 k3 k4;have hrd:kZ F (i:Int)=F.getD i z168:=rfl;rw[hrd] at k0 k1 k2 k3 k4;have hmem:F.getD i z168∈F:=by
    rw[List.getD_eq_getElem?_getD,List.getElem?_eq_getElem (by have:=HM.o;omega)];exact List.getElem_mem _
   have hp:=HP.o _ hmem;generalize F.getD i z168=p at k0 k1 k2 k3 k4 hp;obtain⟨j,hj⟩:=Int.eq_ofNat_of_zero_le hp.find;have hjn:j<n:=by have:=hp.lt;have:=HN.o;omega
   have hat:=hp.at_;rw[hj,Int.toNat_natCast] at hat;obtain⟨r1,r2,VH⟩:=wD.o _ p hat (by have:=hp.str;omega);have FJ:=ai VH;have HJ:=ai hj;clear hmem hrd hp hat VH hj;go_wp2_with fail
   generalize hW:wr.alloc (Obj.cells #[.string p.f0,.int .i64 p.f1,.int .i64 p.f2,.int .i64 p.f3,.string p.f4] 168)=W2;have hb2:Below wr.heap.size wr W2:=by rw[<-hW];exact ae (Below.refl _ _) _
   have rQ:W2.heap[wr.heap.size]? =some (.cells #[.string p.f0,.int .i64 p.f1,.int .i64 p.f2,.int .i64 p.f3,.string p.f4] 168 (0,0)):=by rw[<-hW];exact iX wr _
   replace HB:=dW HB hb2;clear hW hb2 k0 k1 k2 k3 k4;generalize wr.heap.size=gp at rQ|-;obtain⟨rR,e,s0,s1,s2,s3⟩:=qB (Kd.aY HS.o HB.o) (j:Int) (by omega) (by omega);cases e
   rw[Int.toNat_natCast] at s0 s1 s2 s3;have hrd:lS S (j:Int)=S.getD j z30:=rfl;rw[hrd] at s0 s1 s2 s3;have xg:=ai (fun q:aW W2=>oJ (some rR) n c S p.f0 q.w HN.o (Kd.aY (Kd.aY HS.o HB.o) q.h) (by have:=JE.o;omega));rw[HJ.o] at xg;have QS:=ai (fun q:aW W2=>FJ.o q.w);clear FJ hrd;generalize S.getD j z30=a at s0 s1 s2 s3 QS;unfold jD lK at QS;have q0:∀q:aW W2,q.w.cell? ⟨gp,0,none⟩=some (.string p.f0):=fun q=>q.cell ((bK rQ))
   have q1:∀q:aW W2,q.w.cell? ⟨gp,1,none⟩=some (.int .i64 p.f1):=fun q=>q.cell ((bS rQ))
   have q2:∀q:aW W2,q.w.cell? ⟨gp,2,none⟩=some (.int .i64 p.f2):=fun q=>q.cell ((dh rQ))
   have q3:∀q:aW W2,q.w.cell? ⟨gp,3,none⟩=some (.int .i64 p.f3):=fun q=>q.cell ((dA rQ))
   have q4:∀q:aW W2,q.w.cell? ⟨gp,4,none⟩=some (.string p.f4):=fun q=>q.cell ((dI rQ))
   have t0:∀q:aW W2,q.w.cell? _=_:=fun q=>q.cell s0
   have t1:∀q:aW W2,q.w.cell? _=_:=fun q=>q.cell s1
   have t2:∀q:aW W2,q.w.cell? _=_:=fun q=>q.cell s2
   have t3:∀q:aW W2,q.w.cell? _=_:=fun q=>q.cell s3
   have u1:(0:Int)<=(j:Int):=by omega
   have u2:(j:Int)<(n:Int):=by omega
   clear rQ s0 s1 s2 s3 HJ;refine wp_region_quiet_below (by kernel_rfl) (by kernel_rfl) ?_
   repeat(quiet_step (first|(go_at_call 88;(with_reducible refine Calls.dF (xg.o _)))|(go_at_call 87;(with_reducible refine Calls.dF (QS.o _)))))
   refine wpQuiet_nil ?_;rintro _ ⟨pq,rfl⟩;clear q0 q1 q2 q3 q4 t0 t1 t2 t3 xg QS;by_cases c1:x1<0
   ·have d1:=decide_eq_true c1;clear c1;go_wp2_with fail
    go_roundg (gk-1)
    case measure=>have:=HI.o;omega
    case rel=>exact⟨i+1,((i:Int),wrap64 (r2-r1)),⟨by have:=HI.o;omega,by have:=HI.o;omega,by have:=HI.o;omega,by have:=HI.o;omega,by have:=HI.o;omega⟩,rfl,rfl,by rw[jK (by have:=HI.o;omega) (by have:=VU.o;have:=HI.o;omega)];rfl,⟨aD HB.o HB.o.size pq.h⟩⟩
   ·have d1:=decide_eq_false c1;by_cases c2:wrap64 (r2-r1)<x2
    ·have d2:=decide_eq_true c2;clear c2;go_wp2_with fail
     go_roundg (gk-1)
     case measure=>have:=HI.o;omega
     case rel=>exact⟨i+1,((i:Int),wrap64 (r2-r1)),⟨by have:=HI.o;omega,by have:=HI.o;omega,by have:=HI.o;omega,by have:=HI.o;omega,by have:=HI.o;omega⟩,rfl,rfl,by rw[jK (by have:=HI.o;omega) (by have:=VU.o;have:=HI.o;omega)];rfl,⟨aD HB.o HB.o.size pq.h⟩⟩
    ·have d2:=decide_eq_false c2;clear c2;go_wp2_with fail
     go_roundg (gk-1)
     case measure=>have:=HI.o;omega
     case rel=>exact⟨i+1,(x1,x2),⟨by have:=HI.o;omega,by have:=HI.o;omega,by have:=HI.o;omega,by have:=HI.o;omega,by have:=HI.o;omega⟩,rfl,rfl,by rw[jK (by have:=HI.o;omega) (by have:=VU.o;have:=HI.o;omega)];rfl,⟨aD HB.o HB.o.size pq.h⟩⟩
  ·have b1:decide ((i:Int)<(m:Int))=false:=decide_eq_false (by omega);have b2:decide (i<m)=false:=decide_eq_false (by omega);have hx:=HI.o;have hm1:=VU.o;obtain⟨z,hz⟩:=Int.eq_ofNat_of_zero_le (show 0<=x1 from hx.2.2.2.2 (by omega));have hzm:z<m:=by omega
   subst hz;clear hx hm1;go_wp2
   go_ret2
   exact⟨⟨z,hzm,rfl⟩,HB.o⟩
theorem NV:(prog.info? 9).map (fun i=>(i.zero,i.size,i.bytes))=some (some (.string ⟨#[]⟩),1,16):=by kernel_rfl
theorem TW(A B:Option Addr)(n m c d:Nat)(S:List SA)(F:List SP)(l:Int)(w:World)(h0:0<=l)(h8:l<=8)(hn:S.length=n)(hm:F.length=m)(hr:Kd.C uM w A n S)(hr2:Kd.C pG w B m F)(hck:cB S=none)(lL:cu S F=none)(hc:n<=c)(hd:m<=d)(hT:gF w):
 Calls prog 42 #[.slice A n c,.slice B m d,.int .i64 l] w fun e w'=>∃v G,e=.returned (.tuple #[v,.nilIface])∧G.length<=256∧Sm G∧Kd.R Kd.string 9 w' w.heap.size (fun _=>True) v G∧Below w.heap.size w w':=by
 have RJ:=(dn hck).2.1;obtain⟨ZH,hP⟩:=VD hck lL;have HP:=ai hP;have HS:=ai hr;have HF:=ai hr2;have HN:=ai hn;have HM:=ai hm;have VU:=ai (show 1<=m∧m<=4 by omega);have JE:=ai (show n<=4 by omega);have HT:=ai hT;have o9:=ai (CL A B n m c d S F l w h0 h8 hn hm hr hr2 hck lL hc hd);have wD:=ai (fun (a:SA) (p:SP) (ha:CJ a.f1 a.f2 a.f3) (hs:p.f4.size<=1000000)=>JD a p l h0 h8 ha hs);have Bz:=ai (fun lo hi=>PL lo hi l h0 h8);clear hr hr2 hn hm hck lL hc hd hP RJ ZH h0 h8 hT;go_enter func42,ntmps42
 go_wp2_with fail
 refine o9.o.mono ?_;rintro e w1 ⟨⟨i,hi,rfl⟩,hb⟩;have HB:=ai hb;clear hb o9;have p1:(0:Int)<=(i:Int):=by omega
 have p2:(i:Int)<(m:Int):=by omega
 obtain⟨ad,e,k0,k1,k2,k3,k4⟩:=tL (Kd.aY HF.o HB.o) (i:Int) p1 p2;cases e
 rw[Int.toNat_natCast] at k0 k1 k2 k3 k4;have hrd:kZ F (i:Int)=F.getD i z168:=rfl;rw[hrd] at k0 k1 k2 k3 k4;have hmem:F.getD i z168∈F:=by
  rw[List.getD_eq_getElem?_getD,List.getElem?_eq_getElem (by have:=HM.o;omega)];exact List.getElem_mem _
 have hp:=HP.o _ hmem;generalize F.getD i z168=p at k0 k1 k2 k3 k4 hp;obtain⟨j,hj⟩:=Int.eq_ofNat_of_zero_le hp.find;have hjn:j<n:=by have:=hp.lt;have:=HN.o;omega
 have hat:=hp.at_;rw[hj,Int.toNat_natCast] at hat;obtain⟨r1,r2,VH⟩:=wD.o _ p hat (by have:=hp.str;omega);have IK:=Bz.o r1 r2;have FJ:=ai VH;have Sa:=ai IK;have OU:=ai hp.name;have HJ:=ai hj;clear hmem hrd hp hat VH hj IK wD Bz;go_wp2_with fail
 obtain⟨rR,e,s0,s1,s2,s3⟩:=qB (Kd.aY HS.o HB.o) (j:Int) (by omega) (by omega);cases e
 rw[Int.toNat_natCast] at s0 s1 s2 s3;have hrd:lS S (j:Int)=S.getD j z30:=rfl;rw[hrd] at s0 s1 s2 s3;have xg:=ai (fun q:aW w1=>oJ (some rR) n c S p.f0 q.w HN.o (Kd.aY (Kd.aY HS.o HB.o) q.h) (by have:=JE.o;omega));rw[HJ.o] at xg;have QS:=ai (fun q:aW w1=>FJ.o q.w);clear FJ hrd;generalize S.getD j z30=a at s0 s1 s2 s3 QS;unfold jD lK at QS;have q0:∀q:aW w1,q.w.cell? _=_:=fun q=>q.cell k0
 have q1:∀q:aW w1,q.w.cell? _=_:=fun q=>q.cell k1
 have q2:∀q:aW w1,q.w.cell? _=_:=fun q=>q.cell k2
 have q3:∀q:aW w1,q.w.cell? _=_:=fun q=>q.cell k3
 have q4:∀q:aW w1,q.w.cell? _=_:=fun q=>q.cell k4
 have t0:∀q:aW w1,q.w.cell? _=_:=fun q=>q.cell s0
 have t1:∀q:aW w1,q.w.cell? _=_:=fun q=>q.cell s1
 have t2:∀q:aW w1,q.w.cell? _=_:=fun q=>q.cell s2
 have t3:∀q:aW w1,q.w.cell? _=_:=fun q=>q.cell s3
 have u1:(0:Int)<=(j:Int):=by omega
 have u2:(j:Int)<(n:Int):=by omega
 clear s0 s1 s2 s3 HJ k1 k2 k3 k4;refine wp_region_quiet_below (by kernel_rfl) (by kernel_rfl) ?_
 repeat(quiet_step (first|(go_at_call 88;(with_reducible refine Calls.dF (xg.o _)))|(go_at_call 87;(with_reducible refine Calls.dF (QS.o _)))))
 refine wpQuiet_nil ?_;rintro _ ⟨pq,rfl⟩;clear q0 q1 q2 q3 q4 t0 t1 t2 t3 xg QS u1 u2;go_wp2_with fail
 refine(Sa.o _).mono ?_;rintro e w2 ⟨v0,FC,rfl,hR,WK,hb⟩;have UY:=ai WK;clear WK;have hb2:=aD pq.h pq.h.size hb;have y0:=(hb2.cell (World.block_lt_of_cell? w1 _ k0)).trans k0;have hb3:=aD HB.o HB.o.size hb2;have RP:=ai (gF.below HT.o hb3);obtain⟨AI,cI,rfl,hcI,Zt⟩:=Kd.bB hR;clear HB hb hb2 hR k0 Sa;have HB:=ai hb3;have HY:=ai y0;have uD:=ai Zt;obtain⟨q,hq⟩:∃q,q=FC.length:=⟨_,rfl⟩
 rw[<-hq] at uD|-;have HQ:=ai (show FC.length=q∧q<=256 from⟨hq.symm,by rw[hq];exact UY.o.1⟩);clear hb3 y0 hq hcI Zt;go_wp2_with fail
 have HO:ay (Kd.R Kd.string 9 w2 w2.heap.size (fun _=>True) (.slice none 0 0) ([]:List ByteArray)):=⟨Kd.iF _ _ _ _ _⟩
 have HB0:=HB;clear HB;go_loopg [12,14,49] (q+1) (fun k v12 v14 v49 W=>∃(i:Nat) (acc:List ByteArray),ay (i<=q∧k+i=q+1∧acc.length=i∧Sm acc)∧v49=.int .i64 (i:Int)∧ay (Kd.R Kd.string 9 W w2.heap.size (fun _=>True) v12 acc)∧ay (Below w2.heap.size w2 W))
 case atStart=>exact⟨0,[],⟨by omega,by omega,rfl,Sm.nil⟩,rfl,HO,⟨Below.refl _ _⟩⟩
 case round=>
  clear HO;obtain⟨z,acc,HI,rfl,HO,HB⟩:=hrel;by_cases hz:z<q
  ·have b1:decide ((z:Int)<(q:Int))=true:=decide_eq_true (by omega);have b2:decide (z<q)=true:=decide_eq_true (by omega);have x1:(0:Int)<=(z:Int):=by omega
   have x2:(z:Int)<(q:Int):=by omega
   obtain⟨Uv,e,g0,g1⟩:=Ja (Kd.aY uD.o HB.o) (z:Int) x1 x2;cases e
   rw[Int.toNat_natCast] at g0 g1;have hrd:xu FC (z:Int)=FC.getD z z194:=rfl;rw[hrd] at g0 g1;have hmem:FC.getD z z194∈FC:=by
    rw[List.getD_eq_getElem?_getD,List.getElem?_eq_getElem (by have:=HQ.o;omega)];exact List.getElem_mem _
   have Si:=UY.o.2 _ hmem;generalize FC.getD z z194=x at g0 g1 Si;obtain⟨s,hss,hs⟩:=wL p.f0 x Si (by have:=OU.o;omega);have qG:=ai hs;have ZX:=ai hss;have HLA:=ai (show acc.length<=256 by have:=HI.o;have:=HQ.o;omega);clear hs hss Si hmem hrd;go_wp2_with fail
   have ha:=ae (Below.refl wr.heap.size wr) (.cells #[.int .i64 x.f0,.int .i64 x.f1] 194);have hk:=heap_alloc_new wr (.cells #[.int .i64 x.f0,.int .i64 x.f1] 194);have dH:=dW HB ha;have dS:=lV HO ha;clear HB HO g0 g1;generalize wr.alloc (.cells #[.int .i64 x.f0,.int .i64 x.f1] 194)=W3 at ha hk dH dS|-;have HB:=dH;have HO:=dS;replace RP:=ai (gF.below RP.o HB.o);clear dH dS;generalize wr.heap.size=gb at hk|-;have y0:=(HB.o.cell (World.block_lt_of_cell? w2 _ HY.o)).trans HY.o;have y1:=bK hk;have y2:=bS hk;have HK:=ai hk;clear hk ha;go_region_held3 (fun X=>X.cell? (ad.add (i*5))=some (.string p.f0)∧X.cell? ⟨gb,0,none⟩=some (.int .i64 x.f0)∧X.cell? ⟨gb,1,none⟩=some (.int .i64 x.f1)) (go_keep) (first
    |(go_at_call 90;(with_reducible refine(qG.o _ ?tb).mono ?_);(case tb=>(with_reducible repeat(first|exact RP.o|refine gF.below ?_ (ah (Below.refl _ _) _)|refine gF.below ?_ (aK (Below.refl _ _)))));rintro e wx ⟨rfl,hbx⟩;replace HK:=bZ hbx HK;have y0':=av hbx y0;have y1':=bK HK.o;have y2':=bS HK.o;replace HB:=ai (aD (by(with_reducible repeat(first|exact HB.o|apply ah|apply ak|apply aK|apply ae))) (Below.size (by(with_reducible repeat(first|exact HB.o|apply ah|apply ak|apply aK|apply ae)))) hbx);replace HO:=ai (Kd.bJ (by(with_reducible repeat(first|exact HO.o|apply Kd.dQ|apply Kd.dm|apply Kd.dx))) hbx);replace RP:=ai (gF.below (by(with_reducible repeat(first|exact RP.o|refine gF.below ?_ (ah (Below.refl _ _) _)|refine gF.below ?_ (aK (Below.refl _ _))))) hbx);clear hbx)
    |(refine Kd.jE Kd.string (w0:=w2) w2.heap.size ?hw (.tmp 53) (.tmp 61) 99 9 (.string ⟨#[]⟩) 16 rfl underlying99 NV rfl (by decide) (by omega) u12 acc s [.string s] (fun _=>True) (fun _=>False) rfl ?aX ?aP (fun _ hk=>hk.elim) ?aF ?aO ?aB ?aS ?aL ?_;(case hw=>first|rfl|(simp[Region.wanted]));(case aX=>first|rfl|(go_simp;done)|(go_simp;rfl));(case aP=>exact rfl);(case aF=>exact(fun _ _=>trivial));(case aO=>(with_reducible repeat(first|exact HO.o|apply Kd.dQ|apply Kd.dm|apply Kd.dx)));(case aB=>(with_reducible repeat(first|exact HB.o|apply ah|apply ak|apply aK|apply ae)));(case aS=>exact Below.size (by(with_reducible repeat(first|exact HB.o|apply ah|apply ak|apply aK|apply ae))));(case aL=>have:=HLA.o;omega);intro v9 w9 ho hb hg hat;have UR:=dB HK.o hg (Kd.kM HO.o HK.o (by decide));have z0:=av hb HY.o;have z1:=bK UR;have z2:=bS UR;replace HO:=ai ho;replace HB:=ai hb;clear HK UR ho hb hg hat))
   go_wp2_with fail
   go_roundg (gk-1)
   case measure=>have:=HI.o;omega
   case rel=>exact⟨z+1,acc++ [s],⟨by omega,by have:=HI.o;omega,by rw[List.length_append];have:=HI.o;simp;omega,HI.o.2.2.2.snoc ZX.o⟩,by rw[jK (by omega) (by have:=HQ.o;omega)];rfl,HO,HB⟩
  ·have b1:decide ((z:Int)<(q:Int))=false:=decide_eq_false (by omega);have b2:decide (z<q)=false:=decide_eq_false (by omega);have hfin:=And.intro (show acc.length<=256 by have:=HI.o;have:=HQ.o;omega) (And.intro HI.o.2.2.2<|And.intro (Kd.jr HO.o HB0.o.size) (aD HB0.o HB0.o.size HB.o));go_wp2
   go_ret2
   exact⟨_,_,rfl,hfin⟩
theorem wW{S:List SA}{V:List SV}:∀(k i:Nat),lT S V k i=none->∀j,i<=j->j<i+k->iT (S.getD j z30) (V.getD j z37)=true
 |0,i,_,j,h1,h2=>by omega
 |k+1,i,h,j,h1,h2=>by
  unfold lT at h;split at h
  ·by_cases hj:j=i
   ·rw[hj];assumption
   ·exact wW k (i+1) h j (by omega) (by omega)
  ·cases h
theorem fits_int{a:SA}{v:SV}(h:iT a v=true)(h1:a.f1=1):a.f2<=v.f0∧v.f0<=a.f3:=by
 unfold iT at h;rw[if_pos h1] at h;simp only[Bool.and_eq_true,decide_eq_true_eq] at h;exact h.2
def vw(w:World)(S:List SA)(V:List SV)(pay:ByteArray)(e:Ending)(w':World):Prop:=
 Below w.heap.size w w'∧((dV S V pay=none∧∃v G,e=.returned (.tuple #[v,.nilIface])∧0<G.length∧G.length<=36∧Sm G∧Kd.R Kd.string 9 w' w.heap.size (fun _=>True) v G)∨
  ((dV S V pay).isSome=true∧∃b n,e=.returned (.tuple #[.slice none 0 0,.iface 178 (.pointer (some ⟨b,0,none⟩))])∧eX w' 3 n (.iface 178 (.pointer (some ⟨b,0,none⟩)))))
theorem uQ(A B:Option Addr)(n m c d:Nat)(S:List SA)(V:List SV)(pay:ByteArray)(l:Int)(w:World)(h0:0<=l)(h8:l<=8)(hn:S.length=n)(hm:V.length=m)(hr:Kd.C uM w A n S)(hr2:Kd.C Ci w B m V)(hck:cB S=none)(hc:n<=c)(hT:gF w):
 Calls prog 44 #[.slice A n c,kR B m d pay,.int .i64 l] w (vw w S V pay):=by
 have RJ:=(dn hck).2.1;have HA:=ai (fun a ha=>And.intro (Df ((dn hck).2.2 a ha).2) (Jz ((dn hck).2.2 a ha).1));have QT:=ai (show 1<=n by have:=(dn hck).1;omega);have HS:=ai hr;have HV:=ai hr2;have HN:=ai hn;have HM:=ai hm;have JE:=ai (show n<=4 by omega);have HT:=ai hT;have o9:=ai (fun W (hb:Below w.heap.size w W)=>uz A n c S l W h0 h8 hn (Kd.aY hr hb) hck hc);have vZ:=ai (fun W (hb:Below w.heap.size w W)=>nE A B n m c d S V pay W hn hm (Kd.aY hr hb) (Kd.aY hr2 hb) (by omega));have vQ:=ai (fun (a:SA) (v:SV) (ha:CJ a.f1 a.f2 a.f3)=>Uk a v l h0 h8 ha);have TL:=ai (fun cc=>PV cc l h0 h8);clear hr hr2 hn hm hck hc RJ h0 h8 hT;unfold kR at vZ|-;unfold jD xU at vQ;have HBAD:=ai (fun b i W (h1:dV S V pay=some i) (h2:eX W 3 1 (.iface 178 (.pointer (some ⟨b,0,none⟩)))) (h4:Below w.heap.size w W)=>(show vw w S V pay (.returned (.tuple #[.slice none 0 0,.iface 178 (.pointer (some ⟨b,0,none⟩))])) W from⟨h4,Or.inr ⟨by rw[h1];rfl,b,1,rfl,h2⟩⟩));have fQ:=ai (fun v G W (h0:dV S V pay=none) (h1:0<G.length) (h2:G.length<=36) (h5:Sm G) (h3:Kd.R Kd.string 9 W w.heap.size (fun _=>True) v G) (h4:Below w.heap.size w W)=>(show vw w S V pay (.returned (.tuple #[v,.nilIface])) W from⟨h4,Or.inl ⟨h0,v,G,rfl,h1,h2,h5,h3⟩⟩));go_enter func44,ntmps44
 go_wp2_with fail
 have ha:=ae (Below.refl w.heap.size w) (.cells #[.slice B m d,.string pay] 40);have jC:=ai (heap_alloc_new w (.cells #[.slice B m d,.string pay] 40));have HB:=ai ha;generalize w.alloc (.cells #[.slice B m d,.string pay] 40)=wa at jC HB|-;generalize w.heap.size=ge at jC|-;clear ha;refine(o9.o _ HB.o).mono ?_;rintro e w1 ⟨rfl,hb⟩;replace HB:=dW HB hb;replace jC:=bZ hb jC;clear hb o9;have y0:=bK jC.o;have y1:=bS jC.o;go_wp2_with fail
 refine(vZ.o _ HB.o).mono ?_;rintro e w2 hq;cases heb:dV S V pay with
 |some i=>
  obtain⟨b,hbl,rfl,hf,hb⟩:=hq.bad heb;have hfin:=HBAD.o b i w2 heb (eU.zH hf) (aD HB.o HB.o.size hb);clear hq heb hf hb hbl;go_wp2
  go_ret2
  exact hfin
 |none=>
  obtain⟨rfl,hb⟩:=hq.ok heb;have hmn:m=n:=by have:=nT heb;have:=HN.o;have:=HM.o;omega
  have aal:=ai (fun j (hj:j<n)=>wW n 0 (by
   have h:=heb;unfold dV at h;split at h
   ·cases h
   ·rw[HN.o] at h;exact h) j (Nat.zero_le _) (by omega))
  have II:=ai heb;clear HBAD;have HB0:=dW HB hb;replace jC:=bZ hb jC;clear HB hb hq heb vZ y0 y1;subst hmn;have RP:=ai (gF.below HT.o HB0.o);have y0:=bK jC.o;have HS2:=ai (Kd.aY HS.o HB0.o);have Pn:=ai (Kd.aY HV.o HB0.o);clear HS HV HT;go_wp2_with fail
  have HO:ay (Kd.R Kd.string 9 w2 w2.heap.size (fun _=>True) (.slice none 0 0) ([]:List ByteArray)):=⟨Kd.iF _ _ _ _ _⟩
  go_loopg [10,11,12,14,29] (m+1) (fun k v10 v11 v12 v14 v29 W=>∃(i:Nat) (acc:List ByteArray),ay (i<=m∧k+i=m+1∧acc.length<=9*i∧(0<i->0<acc.length)∧Sm acc)∧v29=.int .i64 (i:Int)∧ay (Kd.R Kd.string 9 W w2.heap.size (fun _=>True) v10 acc)∧ay (Below w2.heap.size w2 W))
  case atStart=>exact⟨0,[],⟨by omega,by omega,by simp,by omega,Sm.nil⟩,rfl,HO,⟨Below.refl _ _⟩⟩
  case round=>
   clear HO;obtain⟨i,acc,HI,rfl,HO,HB⟩:=hrel;by_cases hi:i<m
   ·have b1:decide ((i:Int)<(m:Int))=true:=decide_eq_true (by omega);have b2:decide (i<m)=true:=decide_eq_true (by omega);have p1:(0:Int)<=(i:Int):=by omega
    have p2:(i:Int)<(m:Int):=by omega
    obtain⟨ad,e,k0,k1,k2,k3⟩:=qB (Kd.aY HS2.o HB.o) (i:Int) p1 p2;cases e
    obtain⟨rR,e,t0,t1⟩:=C9 (Kd.aY Pn.o HB.o) (i:Int) p1 p2;cases e
    rw[Int.toNat_natCast] at k0 k1 k2 k3 t0 t1;have hrd:lS S (i:Int)=S.getD i z30:=rfl;have zx:uJ V (i:Int)=V.getD i z37:=rfl;rw[hrd] at k0 k1 k2 k3;rw[zx] at t0 t1;have hmem:S.getD i z30∈S:=by
     rw[List.getD_eq_getElem?_getD,List.getElem?_eq_getElem (by have:=HN.o;omega)];exact List.getElem_mem _
    have hat:=HA.o _ hmem;have hfit:=aal.o i hi;generalize S.getD i z30=a at k0 k1 k2 k3 hat hfit;generalize V.getD i z37=v at t0 t1 hfit;obtain⟨cc,hcc,U2⟩:=vQ.o a v hat.1;have IK:=TL.o cc;have Sa:=ai U2;have Bz:=ai IK;have Vi:=ai (hcc (fits_int hfit));have OU:=ai hat.2;clear hrd zx hmem hat hfit hcc U2 IK;go_wp2_with fail
    have ha:=ae (Below.refl wr.heap.size wr) (.cells #[.string a.f0,.int .i64 a.f1,.int .i64 a.f2,.int .i64 a.f3] 30);have hk:=heap_alloc_new wr (.cells #[.string a.f0,.int .i64 a.f1,.int .i64 a.f2,.int .i64 a.f3] 30);replace HB:=dW HB ha;replace HO:=lV HO ha;have t0':=av ha t0;have t1':=av ha t1;clear k0 k1 k2 k3 t0 t1;generalize wr.alloc (.cells #[.string a.f0,.int .i64 a.f1,.int .i64 a.f2,.int .i64 a.f3] 30)=W3 at ha hk HB HO t0' t1'|-;clear ha;have aaI:=ai (gF.below RP.o HB.o);generalize wr.heap.size=ga at hk|-;have HK:=ai hk;have VV:=(HB.o.block _ (aI jC.o)).trans jC.o;have e0:=bK VV;have a0:=bK hk;have a1:=bS hk;have a2:=dh hk;have a3:=dA hk;clear hk VV y0;go_region_held3 (fun X=>X.cell? ⟨ge,0,none⟩=some (.slice (some rR) m d)∧X.cell? ⟨ga,0,none⟩=some (.string a.f0)∧X.cell? ⟨ga,1,none⟩=some (.int .i64 a.f1)∧X.cell? ⟨ga,2,none⟩=some (.int .i64 a.f2)∧X.cell? ⟨ga,3,none⟩=some (.int .i64 a.f3)∧X.cell? (rR.add (i*2))=some (.int .i64 v.f0)∧X.cell? ⟨(rR.add (i*2)).block,(rR.add (i*2)).off+1,none⟩=some (.string v.f1)) (go_keep) (first
     |(go_at_call 96;(with_reducible refine(Sa.o _).mono ?_);rintro e wx ⟨rfl,hbx⟩;replace e0:=av hbx e0;replace a0:=av hbx a0;replace a1:=av hbx a1;replace a2:=av hbx a2;replace a3:=av hbx a3;replace t0':=av hbx t0';replace t1':=av hbx t1';replace HK:=bZ hbx HK;replace HB:=ai (aD (by(with_reducible repeat(first|exact HB.o|apply ah|apply ak|apply aK|apply ae))) (Below.size (by(with_reducible repeat(first|exact HB.o|apply ah|apply ak|apply aK|apply ae)))) hbx);replace HO:=ai (Kd.bJ (by(with_reducible repeat(first|exact HO.o|apply Kd.dQ|apply Kd.dm|apply Kd.dx))) hbx);clear hbx)
     |(go_at_call 95;(with_reducible refine(Bz.o _).mono ?_);rintro e wx ⟨v0,FC,rfl,hR,Qv,hbx⟩;have UY:=ai (And.intro Qv.1 (And.intro Qv.2.1 (Qv.2.2 Vi.o)));clear Qv Vi;obtain⟨AI,cI,rfl,hcI,Zt⟩:=Kd.bB hR;have dH:=av hbx e0;have dU:=av hbx a0;have dS:=av hbx a1;have Gq:=av hbx a2;have yX:=av hbx a3;have uy:=av hbx t0';have Bj:=av hbx t1';replace HK:=bZ hbx HK;replace HB:=ai (aD (by(with_reducible repeat(first|exact HB.o|apply ah|apply ak|apply aK|apply ae))) (Below.size (by(with_reducible repeat(first|exact HB.o|apply ah|apply ak|apply aK|apply ae)))) hbx);replace HO:=ai (Kd.bJ (by(with_reducible repeat(first|exact HO.o|apply Kd.dQ|apply Kd.dm|apply Kd.dx))) hbx);have uD:=ai (Kd.jr hR (Nat.zero_le _));clear hR hcI Zt e0 a0 a1 a2 a3 t0' t1' hbx))
    obtain⟨UN,rfl⟩:∃g,g=gk:=⟨gk,rfl⟩
    clear Sa Bz;obtain⟨q,hq⟩:∃q,q=FC.length:=⟨_,rfl⟩
    rw[<-hq] at uD|-;have HQ:=ai (show FC.length=q∧0<q∧q<=9 from⟨hq.symm,by rw[hq];exact UY.o.2.2,by rw[hq];exact UY.o.1⟩);have XR:=ai (show acc.length<=9*i from HI.o.2.2.1);have HBX:=ai (Below.refl wx.heap.size wx);clear hq aaI;go_wp2_with fail
    go_loopg [10,14,45] (q+1) (fun k v10 v14 v45 W=>∃(z:Nat) (EF:List ByteArray),ay (z<=q∧k+z=q+1∧EF.length=acc.length+z∧Sm EF)∧v45=.int .i64 (z:Int)∧ay (Kd.R Kd.string 9 W w2.heap.size (fun _=>True) v10 EF)∧ay (Below w2.heap.size w2 W)∧ay (Kd.R MC 194 W 0 (fun _=>True) (.slice AI q cI) FC)∧ay (W.heap[ga]? =some (.cells #[.string a.f0,.int .i64 a.f1,.int .i64 a.f2,.int .i64 a.f3] 30 (0,0))))
    case atStart=>exact⟨0,acc,⟨by omega,by omega,rfl,HI.o.2.2.2.2⟩,rfl,HO,HB,uD,HK⟩
    case round=>
     clear HO HB uD HK HBX;obtain⟨z,EF,HI2,rfl,HO,HB,uD,HK⟩:=hrel;by_cases hz:z<q
     ·have b3:decide ((z:Int)<(q:Int))=true:=decide_eq_true (by omega);have b4:decide (z<q)=true:=decide_eq_true (by omega);have x1:(0:Int)<=(z:Int):=by omega
      have x2:(z:Int)<(q:Int):=by omega
      obtain⟨Uv,e,g0,g1⟩:=Ja (by have h:=(Kd.bN uD.o).2.2;rw[HQ.o.1] at h;exact h) (z:Int) x1 x2;cases e
      rw[Int.toNat_natCast] at g0 g1;have hrd:xu FC (z:Int)=FC.getD z z194:=rfl;rw[hrd] at g0 g1;have hmem:FC.getD z z194∈FC:=by
       rw[List.getD_eq_getElem?_getD,List.getElem?_eq_getElem (by have:=HQ.o;omega)];exact List.getElem_mem _
      have Si:=UY.o.2.1 _ hmem;generalize FC.getD z z194=x at g0 g1 Si;obtain⟨s,hss,hs⟩:=wL a.f0 x Si (by have:=OU.o;omega);have qG:=ai hs;have ZX:=ai hss;have HLA:=ai (show EF.length<=256 by have:=HI2.o;have:=HQ.o;have:=XR.o;have:=JE.o;omega);have a0:=bK HK.o;clear hs hss Si hmem hrd;go_upto_region 14 with (fail)
      have ha:=ae (Below.refl wr.heap.size wr) (.cells #[.int .i64 x.f0,.int .i64 x.f1] 194);have hk:=heap_alloc_new wr (.cells #[.int .i64 x.f0,.int .i64 x.f1] 194);have dH:=dW HB ha;have dU:=lV HO ha;have dS:=lV uD ha;have Gq:=bZ ha HK;clear HB HO uD HK g0 g1 a0;generalize wr.alloc (.cells #[.int .i64 x.f0,.int .i64 x.f1] 194)=W4 at ha hk dH dU dS Gq|-;have HB:=dH;have HO:=dU;have uD:=dS;have HK:=Gq;have Xb:=ai (gF.below RP.o HB.o);clear dH dU dS Gq;generalize wr.heap.size=gb at hk|-;have y0:=bK HK.o;have y1:=bK hk;have y2:=bS hk;clear hk ha;go_wp2_with fail
      refine(qG.o _ Xb.o).mono ?_;rintro e w5 ⟨rfl,hbx⟩;replace HB:=dW HB hbx;replace HO:=lV HO hbx;replace uD:=lV uD hbx;replace HK:=bZ hbx HK;clear hbx Xb y0 y1 y2;go_wp2_with ((with_reducible refine bn (b:=.append) (xs:= #[.tmp 49,.tmp 54]) rfl ?_);at_builtin;go_loud (refine Kd.di Kd.string (w0:=w2) w2.heap.size rfl (.tmp 49) (.tmp 54) 99 9 (.string ⟨#[]⟩) 16 rfl underlying99 NV rfl (by decide) (by omega) _ EF s [.string s] (fun _=>True) (fun _=>False) rfl ?aX ?aP (fun _ hk=>hk.elim) ?aF HO.o HB.o HB.o.size ?aL ?_;(case aX=>first|rfl|(go_simp;done)|(go_simp;rfl));(case aP=>exact rfl);(case aF=>exact(fun _ _=>trivial));(case aL=>have:=HLA.o;omega);intro v9 w9 ho hb hg hat;replace HB:=ai hb;replace HK:=ai (dB HK.o hg (Kd.kM HO.o HK.o (by decide)));replace uD:=ai (Kd.gq uD.o HO.o (by decide+kernel) hg);replace HO:=ai ho;clear ho hb hg hat))
      go_roundg (gk-1)
      case measure=>have:=HI2.o;omega
      case rel=>exact⟨z+1,EF++ [s],⟨by omega,by have:=HI2.o;omega,by rw[List.length_append];have:=HI2.o;simp;omega,HI2.o.2.2.2.snoc ZX.o⟩,by rw[jK (by omega) (by have:=HQ.o;omega)];rfl,HO,HB,uD,HK⟩
     ·have b3:decide ((z:Int)<(q:Int))=false:=decide_eq_false (by omega);have b4:decide (z<q)=false:=decide_eq_false (by omega);go_wp2_with fail
      go_roundg (UN-1)
      case measure=>have:=HI.o;omega
      case rel=>exact⟨i+1,EF,⟨by omega,by have:=HI.o;omega,by have:=HI2.o;have:=XR.o;have:=HQ.o;omega,fun _=>by have:=HI2.o;have:=HQ.o;omega,HI2.o.2.2.2⟩,by rw[jK (by omega) (by have:=JE.o;omega)];rfl,HO,HB⟩
   ·have b1:decide ((i:Int)<(m:Int))=false:=decide_eq_false (by omega);have b2:decide (i<m)=false:=decide_eq_false (by omega);have hfin:=fQ.o _ _ _ II.o (HI.o.2.2.2.1 (by have:=QT.o;have:=HI.o;omega)) (by have:=HI.o;have:=JE.o;omega) HI.o.2.2.2.2 (Kd.jr HO.o HB0.o.size) (aD HB0.o HB0.o.size HB.o);go_wp2
    go_ret2
    exact hfin
open Go.Maps
def iY.pl(x:iY):oN:=⟨x.id,x.F⟩
def iJ.pl(x:iJ):z8:=⟨x.seq,x.V,x.pay⟩
def kY.pl(x:kY):wS:=⟨x.sub,x.fG,x.seq,x.V,x.pay⟩
def eG.pl(N:eG):Nd:=⟨N.addr,N.subs.map iY.pl,N.last,N.inbox.map kY.pl,N.opn.map iJ.pl,N.seq,N.lost⟩
def eG.fG(N:eG)(V:List SV)(pay:ByteArray)(G:List ByteArray):eG:={N with opn:=N.opn++ [⟨N.seq+1,V,pay,G⟩],seq:=N.seq+1}
theorem eG.TB(N:eG)(V:List SV)(pay:ByteArray)(G:List ByteArray):(N.fG V pay G).pl=N.pl.fG V pay:=by
 unfold eG.fG eG.pl Nd.fG;simp[iJ.pl]
structure fV(N:eG):Prop where
 chk:cB N.S=none
 lev:0<=N.levels∧N.levels<=8
 seq:0<=N.seq∧N.seq<=1073741824
 last:0<=N.last∧N.last<=1000000
 nSub:N.subs.length<=16
 flt:∀s∈N.subs,cu N.S s.F=none
 cz:∀s∈N.subs,s.G.length<=256∧Sm s.G
 nOpn:N.opn.length<=8
 evs:∀e∈N.opn,dV N.S e.V e.pay=none∧(0<e.want.length∧e.want.length<=36∧Sm e.want)
 nBox:N.inbox.length<=64
 nSent:N.sent.length<=512
theorem cK.cell{base:Nat}{w:World}{g:Nat}{h:Hd}{N:eG}(r:cK base w g h N)(j:Nat):w.cell? ⟨g,j,none⟩=(xz h N)[j]? :=aN r.blk j
theorem iN(c:Int)(w:World):Calls prog 38 #[.int .i64 c] w fun e w'=>∃b,w.heap.size<=b∧e=.returned (.iface 178 (.pointer (some ⟨b,0,none⟩)))∧eU w' b ⟨#[110,111,100,101]⟩ 0 c∧Below w.heap.size w w':=by
 go_enter func38,ntmps38
 go_wp2;go_ret;exact⟨w.heap.size,Nat.le_refl _,rfl,heap_alloc_new w _,ae (Below.refl _ _) _⟩
def Gj(base:Nat)(w:World):Prop:=∃w0,gF w0∧w0.heap.size<=base∧Below base w0 w
theorem Gj.below{base:Nat}{w w':World}(h:Gj base w)(hb:Below base w w'):Gj base w':=by
 obtain⟨w0,h1,h2,h3⟩:=h;exact⟨w0,h1,h2,h3.trans hb⟩
theorem Gj.tab{base:Nat}{w:World}(h:Gj base w):gF w:=by
 obtain⟨w0,h1,h2,h3⟩:=h;exact Go.Joins.tab_stays (by kernel_rfl:prog.globalNamed "internal/strconv.uint64pow10" =some 1) h1 h3 h2
def fw(b:Nat):Value:=.iface 178 (.pointer (some ⟨b,0,none⟩))
open Go.Sort
def LC(x:ByteArray):List UInt8:=x.data.toList
def Uz(x:List UInt8):ByteArray:=⟨x.toArray⟩
theorem DW(xs:List ByteArray):encs Value.string xs=(xs.map LC).map encStr:=by
 unfold encs;rw[List.map_map];rfl
theorem Fy(ys:List (List UInt8)):ys.map encStr=encs Value.string (ys.map Uz):=by
 unfold encs;rw[List.map_map];rfl
theorem RO{xs:List ByteArray}{zs:List (List UInt8)}(h:Sm xs)(hz:∀l∈zs,l∈xs.map LC):Sm (zs.map Uz):=fun y hy=>by
 obtain⟨l,hl,rfl⟩:=List.mem_map.1 hy;obtain⟨b,hb,rfl⟩:=List.mem_map.1 (hz l hl);exact h b hb
theorem EC(zs:List (List UInt8)):∀l∈Lib.compact zs,l∈zs:=fun l hl=>by
 unfold Lib.compact Lib.compactUpTo at hl;obtain⟨j,hj,rfl⟩:=List.mem_map.1 hl;have hj2:j<zs.length:=List.mem_range.1 (List.mem_filter.1 hj).1;have:zs.toArray[j]! =zs[j]:=by simp[hj2]
 rw[this];exact List.getElem_mem hj2
theorem LQ(base:Nat)(ok:Nat->Prop){w:World}{A:Option Addr}{n c:Nat}{xs:List ByteArray}(h:Kd.R Kd.string tS w base ok (.slice A n c) xs)(hl:n<=1000000):
 Calls prog 102 #[.slice A n c] w fun e w'=>e=.returned (.tuple #[])∧(∃ys,ys.length=xs.length∧(Sm xs->Sm ys)∧Kd.R Kd.string tS w' base (fun _=>True) (.slice A n c) ys)∧w.grownBy w' (Value.slice A n c).ownBlock:=by
 have hown:=Kd.lF h;rw[DW] at hown;rcases hown.2 with⟨hv,hx⟩|⟨g,cap,cur,hv,hg,hh,hnc,hcm,hcs,ht⟩
 ·injection hv with h1 h2 h3;subst h1 h2 h3;refine(Any.slices_Sort_string_none Tryz.Rm none 0 w).mono ?_;rintro e w' ⟨rfl,rfl⟩;obtain rfl:xs= []:=List.eq_nil_of_length_eq_zero hx;exact⟨rfl,⟨[],rfl,fun h=>h,Kd.iF _ _ _ _ _⟩,World.grownBy.refl _ _⟩
 ·injection hv with h1 h2 h3;subst h1 h2 h3;have hlen:(xs.map LC).length=xs.length:=List.length_map _;rw[Nat.mul_one,<-hlen] at ht;have hH:=holds_of_block hh ht;have hcon:=Any.slices_Sort_string Tryz.Rm g 0 c (xs.map LC) w hH (Array.getElem?_eq_some_iff.1 hh).1 (by rw[hlen];omega);rw[hlen] at hcon;refine hcon.mono ?_;rintro e w' ⟨rfl,q,os,rfl⟩;have hms:((xs.map LC).mergeSort fun x y=>decide (x<=y)).length=(xs.map LC).length:=List.length_mergeSort _;have ho:=ownsRow_sorted (n:=q) (os:=os) hms hg hh (by rw[hlen];exact hnc) hcm hcs;rw[Fy,hlen] at ho;refine⟨rfl,⟨((xs.map LC).mergeSort fun x y=>decide (x<=y)).map Uz,by rw[List.length_map,hms,hlen],fun h=>RO h (fun l hl=>List.mem_mergeSort.1 hl),Kd.xV (by rw[List.length_map,hms,hlen];exact ho) (fun _ _=>trivial)⟩,grownBy_sorted _⟩
theorem Fs(w:World):grow w #[]=w:=by
 simp[grow]
theorem EZ(base:Nat)(ok:Nat->Prop){w:World}{A:Option Addr}{n c:Nat}{xs:List ByteArray}(h:Kd.R Kd.string tS w base ok (.slice A n c) xs)(hl:n<=1000000):
 Calls prog 99 #[.slice A n c] w fun e w'=>∃m ys,e=.returned (.slice A m c)∧m<=n∧ys.length=m∧(Sm xs->Sm ys)∧Kd.R Kd.string tS w' base (fun _=>True) (.slice A m c) ys∧w.grownBy w' (Value.slice A n c).ownBlock:=by
 have hown:=Kd.lF h;rw[DW] at hown;rcases hown.2 with⟨hv,hx⟩|⟨g,cap,cur,hv,hg,hh,hnc,hcm,hcs,ht⟩
 ·injection hv with h1 h2 h3;subst h1 h2 h3;refine(Any.slices_Compact_string_empty Tryz.yn none 0 w).mono ?_;rintro e w' ⟨rfl,rfl⟩;obtain rfl:xs= []:=List.eq_nil_of_length_eq_zero hx;exact⟨0,[],rfl,Nat.le_refl _,rfl,fun h=>h,Kd.iF _ _ _ _ _,World.grownBy.refl _ _⟩
 ·injection hv with h1 h2 h3;subst h1 h2 h3;have hlen:(xs.map LC).length=xs.length:=List.length_map _;rw[Nat.mul_one,<-hlen] at ht;have hH:=holds_of_block hh ht;have hcon:=Any.slices_Compact_string Tryz.yn g 0 c (xs.map LC) w hH (by rw[hlen];omega) (by rw[hlen];exact hnc);rw[hlen] at hcon;refine hcon.mono ?_;rintro e w' ⟨rfl,q,rfl⟩;obtain⟨zs,hzs⟩:∃zs,zs=Lib.compact (xs.map LC):=⟨_,rfl⟩
  rw[<-hzs];have hle:zs.length<=xs.length:=by
   rw[hzs,<-hlen];exact Lib.compact_length_le _
  have hms:(zs++List.replicate (xs.length-zs.length) ([]:List UInt8)).length=(xs.map LC).length:=by rw[List.length_append,List.length_replicate,hlen];omega
  have ho:=ownsRow_sorted (n:=q) (os:= #[]) hms hg hh (by rw[hlen];exact hnc) hcm hcs;rw[Fy,hlen,Fs] at ho;have hgr:=grownBy_sorted (w:=w) (g:=g) (n:=q) (os:= #[]) (zs++List.replicate (xs.length-zs.length) ([]:List UInt8)).toArray;rw[Fs] at hgr;have hR:Kd.R Kd.string tS _ base (fun _=>True) (.slice (some ⟨g,0,none⟩) xs.length c) ((zs++List.replicate (xs.length-zs.length) ([]:List UInt8)).map Uz):=Kd.xV (by rw[List.length_map,hms,hlen];exact ho) (fun _ _=>trivial);have hT:=Kd.xN hR (m:=zs.length) (by rw[List.length_map,hms,hlen];exact hle);have e9:((zs++List.replicate (xs.length-zs.length) ([]:List UInt8)).map Uz).take zs.length=zs.map Uz:=by(have e8:(zs.map Uz).length=zs.length:=List.length_map _);rw[List.map_append,<-e8,List.take_left]
  rw[e9] at hT;exact⟨zs.length,_,rfl,hle,List.length_map _,fun h=>RO h (by rw[hzs];exact EC _),hT,hgr⟩
theorem Mm(f:Value)(w:World):Calls prog 210 #[.slice none 0 0,f] w fun e w'=>e=.returned (.int .i64 (-1))∧w=w':=by
 go_enter func210,ntmps210
 go_wp2_with fail
 go_loopg [8] 1 (fun k v8 W=>v8=.int .i64 0∧W=w)
 case atStart=>exact⟨rfl,rfl⟩
 case round=>
  obtain⟨rfl,rfl⟩:=hrel;go_wp2;go_ret;exact⟨rfl,rfl⟩
theorem OV(f:Value)(w:World):Calls prog 157 #[.slice none 0 0,f] w fun e w'=>e=.returned (.slice none 0 0)∧w=w':=by
 go_enter func157,ntmps157
 go_wp2_with fail
 refine(Mm f _).mono ?_;rintro e w1 ⟨rfl,rfl⟩;go_wp2;go_ret;exact⟨rfl,rfl⟩
theorem KQ(g:Nat)(f:Value)(cs:Array Value)(w:World)(hg:w.heap[g]? =some (.cells cs tN (0,0)))(h5:cs[5]? =some (.slice none 0 0)):Calls prog 97 #[.pointer (some ⟨g,5,none⟩),f] w fun e w'=>e=.returned (.slice none 0 0)∧w'=w.setCell ⟨g,5,none⟩ (.slice none 0 0):=by
 have y5:=(aN hg 5).trans h5;have f5:=af hg 5;clear hg h5;go_enter func97,ntmps97
 go_wp2_with fail
 go_loopg [5,7,13] 1 (fun k v5 v7 v13 W=>v5=.slice none 0 0∧v13=.int .i64 0∧W=w)
 case atStart=>exact⟨rfl,rfl,rfl⟩
 case round=>
  obtain⟨rfl,rfl,rfl⟩:=hrel;go_wp2_with fail
  refine(OV f _).mono ?_;rintro e w1 ⟨rfl,rfl⟩;go_wp2;go_ret;exact⟨rfl,rfl⟩
theorem JY(base g:Nat)(h:Hd)(N:eG)(now:Int)(w:World)(hI:cK base w g h N)(hbase:base<=w.heap.size):Calls prog 46 #[.pointer (some ⟨g,5,none⟩),.int .i64 now] w fun e w'=>e=.returned (.int .i64 0)∧cK base w' g h N∧Fr base g w h w' h:=by
 have HI:=ai hI;have kD:=ai hbase;clear hI hbase;go_enter func46,ntmps46
 go_wp2_with fail
 have HB:=ai (ae (Below.refl w.heap.size w) (.cells #[.int .i64 now] 3));generalize w.alloc (.cells #[.int .i64 now] 3)=wa at HB|-;have Su:=HI.o.below HB.o;refine(KQ g _ _ wa Su.blk rfl).mono ?_;rintro e w1 ⟨rfl,rfl⟩;have hk:=bg Su.blk 5 (.slice none 0 0);have hr:=Su.rows.set Su.blk (by decide) 5 (.slice none 0 0);have hfr:=(Fr.of_below (g:=g) (h:=h) HB.o kD.o).trans (Fr.set (h:=h) (w:=wa) Su.gb 5 (.slice none 0 0));have hfin:=And.intro (cK.of hk rfl Su.gb hr) hfr;clear hk hr hfr Su HB;go_wp2;go_ret;exact⟨rfl,hfin⟩
theorem BC(g:Nat)(w:World)(y5:w.cell? ⟨g,5,none⟩=some (.slice none 0 0)):Calls prog 47 #[.pointer (some ⟨g,5,none⟩)] w fun e w'=>e=.returned (.slice none 0 0)∧w'=w:=by
 go_enter func47,ntmps47
 go_wp2_with fail
 go_loopg [3,5,11] 1 (fun k v3 v5 v11 W=>v3=.slice none 0 0∧v11=.int .i64 0∧W=w)
 case atStart=>exact⟨rfl,rfl,rfl⟩
 case round=>
  obtain⟨rfl,rfl,rfl⟩:=hrel;go_wp2_with fail
  refine(Any.slices_Compact_string_empty Tryz.yn none 0 _).mono ?_;rintro e w1 ⟨rfl,rfl⟩;go_wp2;go_ret;exact⟨rfl,rfl⟩
theorem EH(g:Nat)(t:ByteArray)(w:World)(y5:w.cell? ⟨g,5,none⟩=some (.slice none 0 0)):Calls prog 48 #[.pointer (some ⟨g,5,none⟩),.string t] w fun e w'=>e=.returned (.slice none 0 0)∧w'=w:=by
 go_enter func48,ntmps48
 go_wp2_with fail
 go_loopg [5,7,13] 1 (fun k v5 v7 v13 W=>v5=.slice none 0 0∧v13=.int .i64 0∧W=w)
 case atStart=>exact⟨rfl,rfl,rfl⟩
 case round=>
  obtain⟨rfl,rfl,rfl⟩:=hrel;go_wp2;go_ret;exact⟨rfl,rfl⟩
end Go.Proofs.YtnmpijbcajclgaaGreatDoor.Mine
end
