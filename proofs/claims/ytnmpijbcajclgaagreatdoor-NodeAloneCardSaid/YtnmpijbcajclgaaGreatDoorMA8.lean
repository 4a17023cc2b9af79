/- Texts of one claim, one behind the other, made short by a program. -/
import Derived.Test.YtnmpijbcajclgaaGreatDoorMA7
import Derived.LaidEql
import Derived.Stop.Asserts
import Derived.RowKitTokens
import Derived.Deep.RegionWith
import Derived.Outline
import Derived.Laws.RangeAny
import Derived.Laws.Concat
import Derived.Shelf.Abstract
import Derived.Shelf.GgClosure.StringsIndexFuncTop
import Derived.Ground.GgwProg
import Derived.Lib.DecodeN
import Derived.Laws.RangeString
set_option maxHeartbeats 8000000
set_option linter.unusedSimpArgs false
set_option linter.unusedVariables false
set_option maxRecDepth 100000
section
namespace Go.Proofs.YtnmpijbcajclgaaGreatDoor.Mine
open Tryz
open Go.RowKit YtnmpijbcajclgaaGreatDoorW.PrintWords YtnmpijbcajclgaaGreatDoorW.PrintLast YtnmpijbcajclgaaGreatDoorW.PrintMore
open PNodeAlone
def toP(x:Pr):iI:=⟨⟨x.name.toArray⟩,x.op,x.lo,x.hi,⟨x.str.toArray⟩⟩
def eU(w:World)(b:Nat)(wh:ByteArray)(at_ c:Int):Prop:=w.heap[b]? =some (.cells #[.string wh,.int .i64 at_,.iface 49 (.int .i64 c)] 180 (0,0))
def BJ:ByteArray:=⟨#[102,105,108,116,101,114]⟩
def fH(s:ByteArray):List Pr ⊕ (Int×Int):=
 if 300<s.size then .inr (0,1) else
 match jB (s.size+1) ⟨bytes s,none⟩ [] with
 | .inl xs=>.inl xs
 | .inr n=>.inr (((s.size-n:Nat):Int),2)
def Jf(w:World)(xs:List Pr)(e:Ending)(w':World):Prop:=∃v,e=.returned (.tuple #[v,.nilIface])∧Kd.R pG 168 w' w.heap.size (fun _=>True) v (xs.map toP)∧Below w.heap.size w w'
def JM(w:World)(at_ c:Int)(e:Ending)(w':World):Prop:=∃b,w.heap.size<=b∧e=.returned (.tuple #[.slice none 0 0,.iface 178 (.pointer (some ⟨b,0,none⟩))])∧eU w' b BJ at_ c∧Below w.heap.size w w'
def ib(w:World)(s:ByteArray)(e:Ending)(w':World):Prop:=
 match fH s with
 | .inl xs=>Jf w xs e w'
 | .inr (at_,c)=>JM w at_ c e w'
theorem QM:(prog.info? 168).map (fun i=>(i.zero,i.size,i.bytes))=some (some (.agg #[(.string ⟨#[]⟩),(.int .i64 0),(.int .i64 0),(.int .i64 0),(.string ⟨#[]⟩)]),5,56):=by kernel_rfl
theorem uO{α:Type}{d:Kd α}{e:Nat}{w0 W W':World}{g base:Nat}{s:ByteArray}{st:St}{v:Value}{xs:List α}(hi:cZ w0 W g s st)(ho:d.R e W base (fun _=>True) v xs)(ht:∀q,q∈e::d.E->q≠254)(hk:az W W' g none):d.R e W' base (fun _=>True) v xs:=
 Kd.dD (Kd.Uh (ag.apart hi.2 ho ht) hk (fun _ h=>h.2)) (fun _ _=>trivial)
theorem cZ.grown{w0 W W1:World}{g:Nat}{s:ByteArray}{st:St}{row:Option Nat}(h:cZ w0 W g s st)(hg:W.grownBy W1 row)(hn:some g≠row):cZ w0 W1 g s st:=⟨h.1,h.2.grown hg hn⟩
theorem uA{s:ByteArray}{R:List Pr ⊕ Nat}{gk:Nat}{l:List UInt8}{acc:List Pr}{x:Pr}{st4:St}{wr w:World}{v:Value}
 (hF:R=match st4.bad with|some n=>.inr n|none=>jB (gk-2) st4 (acc++ [x])) (hlt:st4.bad=none->st4.l.length<l.length) (hl:acc.length+l.length<=s.size) (hk:l.length+1<gk)
 (ho:Kd.R pG 168 wr w.heap.size (fun _=>True) v ((acc++ [x]).map toP)):
 (st4.bad=none∧st4.l.length+1<gk-1∧jB (gk-1-1) st4 (acc++ [x])=R∧(acc++ [x]).length+st4.l.length<=s.size∧Kd.R pG 168 wr w.heap.size (fun _=>True) v ((acc++ [x]).map toP))∨(∃m,st4.bad=some m∧0<gk-1∧R=.inr m):=by
 cases hb:st4.bad with
 |none=>
  rw[hb] at hF;have:=hlt hb;exact Or.inl ⟨rfl,by omega,by rw[show gk-1-1=gk-2 by omega];exact hF.symm,by simp;omega,ho⟩
 |some m=>
  rw[hb] at hF;exact Or.inr ⟨m,rfl,by omega,hF⟩
theorem FZ(s:ByteArray)(w:World)(hs:s.size<=1000)(h:300<s.size):Calls prog 83 #[.string s] w (ib w s):=by
 have hr:fH s=.inr (0,1):=by unfold fH;rw[if_pos h]
 have HR:=ai hr;clear hr;have h1:=decide_eq_true (show (300:Int)<(s.size:Int) by omega);go_enter func83,ntmps83
 go_wp2
 go_ret2
 unfold ib;rw[HR.o];exact⟨w.heap.size,Nat.le_refl _,rfl,heap_alloc_new w _,(Below.refl _ _).alloc (Nat.le_refl _) _⟩
theorem K5(s:ByteArray)(w:World)(h:s.size<=300):Calls prog 83 #[.string s] w (ib w s):=by
 have hs:s.size<=1000:=by omega
 have h1:=decide_eq_false (show ¬(300:Int)<(s.size:Int) by omega);have HR:=ai (show fH s=match jB (s.size+1) ⟨bytes s,none⟩ [] with| .inl xs=>.inl xs| .inr n=>.inr (((s.size-n:Nat):Int),2) by unfold fH;rw[if_neg (by omega)]);generalize hR:jB (s.size+1) ⟨bytes s,none⟩ []=R at HR;have ER:=ai hR;clear hR;go_enter func83,ntmps83
 go_wp2;go_loopg [5,6] (s.size+2) (fun n v5 _ wr=>∃(acc:List Pr) (st:St),ay ((st.bad=none∧st.l.length+1<n∧jB (n-1) st acc=R∧acc.length+st.l.length<=s.size∧Kd.R pG 168 wr w.heap.size (fun _=>True) v5 (acc.map toP))∨(∃m,st.bad=some m∧0<n∧R=.inr m))∧ay (cZ w wr w.heap.size s st)∧ay (Below w.heap.size w wr))
 case atStart=>exact⟨[],⟨bytes s,none⟩,⟨Or.inl ⟨rfl,by show (bytes s).length+1<s.size+2;rw[eD];omega,ER.o,by show 0+(bytes s).length<=s.size;rw[eD];omega,Kd.iF _ _ _ _ _⟩⟩,⟨⟨⟨List.suffix_refl _,fun n hn=>by cases hn⟩,by rw[show s.size-(bytes s).length=0 by rw[eD];omega];exact ag.new w w s 0 (-1) (Below.refl _ _)⟩⟩,⟨(Below.refl _ _).alloc (Nat.le_refl _) _⟩⟩
 case round=>
  obtain⟨acc,st,HA,HI,HB⟩:=hrel;rcases HA.o with⟨hbad,hk1,hp,hl,ho⟩|⟨m,hbad,hk0,hp⟩
  ·obtain⟨l,b⟩:=st;cases hbad
   have HO:=ai ho;have HA1:=ai hl;have HP:=ai hp;have Ls:=ai hk1;clear hl hp ho HA hk1;obtain⟨hok,HG,hg⟩:=HI.o;have gI:=ai hok;have hc0:=aT HG;have hc1:=aR HG;have hc2:=aU HG;have hf0:=af HG 0;have hf1:=af HG 1;have hf2:=af HG 2;clear HG hg hok;have hc2':wr.cell? ⟨w.heap.size,2,none⟩=some (.int .i64 (-1)):=hc2;clear hc2;go_wp2_with fail
   (with_reducible refine(Tm (w0:=w) (st:=⟨l,none⟩) hs ?side1 ?side2).mono ?_)
   case side1=>(repeat(first|(with_reducible first|exact HI.o|apply cZ.alloc|apply cZ.drewN|apply cZ.drew)|exact HI.o))
   case side2=>(repeat(first|(with_reducible first|exact HB.o|apply ae|apply ah|apply ak)|exact HB.o))
   rintro e w1 ⟨rfl,hi,hb,hk⟩;generalize hE:df ⟨l,none⟩=r1 at hi|-;have Pg:=ai hE;clear hE;replace HB:=ai hb;replace HO:=ai (uO (by(repeat(first|(with_reducible first|exact HI.o|apply cZ.alloc|apply cZ.drewN|apply cZ.drew)|exact HI.o))) (by(with_reducible repeat(first|apply Kd.dx|apply Kd.dQ|apply Kd.dm));exact HO.o) (by decide) hk);replace HI:=ai hi;clear hi hb hk;clear hc0 hc1 hc2' hf0 hf1 hf2;unfold Cw;go_wp2_with ((with_reducible refine bn (b:=.append) (xs:= #[.tmp 22,.tmp 25]) rfl ?_);at_builtin;refine Kd.di pG (w0:=w) w.heap.size rfl (.tmp 22) (.tmp 25) 116 168 (.agg #[(.string ⟨#[]⟩),(.int .i64 0),(.int .i64 0),(.int .i64 0),(.string ⟨#[]⟩)]) 56 rfl underlying116 QM rfl (by decide) (by omega) u5 (acc.map toP) (toP r1.1) [.string ⟨r1.1.name.toArray⟩,.int .i64 r1.1.op,.int .i64 r1.1.lo,.int .i64 r1.1.hi,.string ⟨r1.1.str.toArray⟩] (fun _=>True) (fun _=>False) rfl ?aX ?aP (fun _ hk=>hk.elim) ?aF ?aO ?aB ?aS ?aL ?_;(case aX=>first|rfl|(go_simp;done)|(go_simp;rfl));(case aP=>exact Nq _ _ _ (toP r1.1));(case aB=>(repeat(first|(with_reducible first|exact HB.o|apply ae|apply ah|apply ak)|exact HB.o)));(case aF=>exact(fun _ _=>trivial));(case aO=>(with_reducible repeat(first|apply Kd.dx|apply Kd.dQ|apply Kd.dm));exact HO.o);(case aS=>exact dX (by(repeat(first|(with_reducible first|exact HB.o|apply ae|apply ah|apply ak)|exact HB.o))));(case aL=>have:=HA1.o;simp;omega);intro v5 w5 ho hb hg hat;rw[show acc.map toP++ [toP r1.1]=(acc++ [r1.1]).map toP by simp] at ho;replace HI:=ai (cZ.grown (by(repeat(first|(with_reducible first|exact HI.o|apply cZ.alloc|apply cZ.drewN|apply cZ.drew)|exact HI.o))) hg (ag.own_ne HI.o.2 HO.o (by decide)));replace HB:=ai hb;replace HO:=ai ho;clear ho hb hg hat)
   go_wp2_with fail
   (with_reducible refine(EB (w0:=w) (st:=r1.2) hs ?side1 ?side2).mono ?_)
   case side1=>(repeat(first|(with_reducible first|exact HI.o|apply cZ.alloc|apply cZ.drewN|apply cZ.drew)|exact HI.o))
   case side2=>(repeat(first|(with_reducible first|exact HB.o|apply ae|apply ah|apply ak)|exact HB.o))
   rintro e w6 ⟨rfl,hi,hb,hk⟩;generalize hE:bY r1.2=s2 at hi|-;have Ps:=ai hE;clear hE;replace HB:=ai hb;replace HO:=ai (uO (by(repeat(first|(with_reducible first|exact HI.o|apply cZ.alloc|apply cZ.drewN|apply cZ.drew)|exact HI.o))) (by(with_reducible repeat(first|apply Kd.dx|apply Kd.dQ|apply Kd.dm));exact HO.o) (by decide) hk);replace HI:=ai hi;clear hi hb hk;have hle:=Nat.le_trans (jL r1.2) (by rw[<-Pg.o];exact nY (st:=⟨l,none⟩) rfl);rw[Ps.o] at hle;have PE:=ai hle;clear hle;have HST:=ai (show R=match s2.bad with|some n=>.inr n|none=>if s2.l= [] then .inl (acc++ [r1.1]) else match (gJ s2).bad with|some n=>.inr n|none=>jB (gk-2) (gJ s2) (acc++ [r1.1]) by
    have h5:=HP.o;obtain⟨kk,hkk⟩:∃kk,gk=kk+2:=⟨gk-2,by have:=Ls.o;omega⟩
    rw[hkk,show kk+2-1=kk+1 by omega,nH,Pg.o,Ps.o] at h5;rw[hkk,show kk+2-2=kk by omega];exact h5.symm)
   clear HP Pg Ps;obtain⟨hok,HG,hg⟩:=HI.o;have gI:=ai hok;have hc0:=aT HG;have hc1:=aR HG;have hc2:=aU HG;have hf0:=af HG 0;have hf1:=af HG 1;have hf2:=af HG 2;clear HG hg hok;obtain⟨l2,b2⟩:=s2;obtain⟨bd,hbd⟩:∃bd,qm s b2=bd:=⟨_,rfl⟩
   have hc2':w6.cell? ⟨w.heap.size,2,none⟩=some (.int .i64 bd):=by rw[<-hbd];exact hc2
   have hc1':w6.cell? ⟨w.heap.size,1,none⟩=some (.int .i64 ((s.size-l2.length:Nat):Int)):=hc1;clear hc2 hc1;cases hb2:b2 with
   |some m=>
    have q1:=decide_eq_false (show ¬(bd<0) by rw[<-hbd,hb2];have:=l8 s m;omega);have fQ:=ai (show R=match (gJ ⟨l2,b2⟩).bad with|some n=>.inr n|none=>jB (gk-2) (gJ ⟨l2,b2⟩) (acc++ [r1.1]) by
     have h5:=HST.o;have h6:gJ ⟨l2,b2⟩=⟨l2,some m⟩:=by subst hb2;unfold gJ;rw[qN rfl,if_neg (by simp),mo rfl]
     rw[h6];rw[hb2] at h5;exact h5)
    have xG:=ai (show (gJ ⟨l2,b2⟩).bad=none->(gJ ⟨l2,b2⟩).l.length<l.length by
     have h6:gJ ⟨l2,b2⟩=⟨l2,some m⟩:=by subst hb2;unfold gJ;rw[qN rfl,if_neg (by simp),mo rfl]
     rw[h6];intro h7;cases h7)
    clear hbd hb2;go_wp2_with fail
    repeat(go_quiet (fail);try go_wp2_with fail)
    go_wp2_with fail
    (with_reducible refine(xR (w0:=w) (st:=⟨l2,b2⟩) hs ?side1 ?side2).mono ?_)
    case side1=>(repeat(first|(with_reducible first|exact HI.o|apply cZ.alloc|apply cZ.drewN|apply cZ.drew)|exact HI.o))
    case side2=>(repeat(first|(with_reducible first|exact HB.o|apply ae|apply ah|apply ak)|exact HB.o))
    rintro e w7 ⟨rfl,hi,hb,hk⟩;generalize hE:dC ⟨l2,b2⟩=r3 at hi|-;have H5:=ai hE;clear hE;replace HB:=ai hb;replace HO:=ai (uO (by(repeat(first|(with_reducible first|exact HI.o|apply cZ.alloc|apply cZ.drewN|apply cZ.drew)|exact HI.o))) (by(with_reducible repeat(first|apply Kd.dx|apply Kd.dQ|apply Kd.dm));exact HO.o) (by decide) hk);replace HI:=ai hi;clear hi hb hk;by_cases hand:r3.1= [97,110,100]
    ·have t1:(r3.1==([97,110,100]:List UInt8))=true:=by simpa using hand
     have HAND:=ai (show r3.1= [97,110,100] from hand);clear hand;go_wp2_with fail
     go_roundg (gk-1)
     case measure=>have:=Ls.o;omega
     case rel=>exact⟨acc++ [r1.1],r3.2,⟨uA (l:=l) (by rw[<-show gJ ⟨l2,b2⟩=r3.2 from by unfold gJ;rw[H5.o,if_pos HAND.o]];exact fQ.o) (by rw[<-show gJ ⟨l2,b2⟩=r3.2 from by unfold gJ;rw[H5.o,if_pos HAND.o]];exact xG.o) HA1.o Ls.o (by(with_reducible repeat(first|apply Kd.dx|apply Kd.dQ|apply Kd.dm));exact HO.o)⟩,⟨by(repeat(first|(with_reducible first|exact HI.o|apply cZ.alloc|apply cZ.drewN|apply cZ.drew)|exact HI.o))⟩,⟨by(repeat(first|(with_reducible first|exact HB.o|apply ae|apply ah|apply ak)|exact HB.o))⟩⟩
    ·have t1:(r3.1==([97,110,100]:List UInt8))=false:=by simpa using hand
     have HAND:=ai (show ¬r3.1= [97,110,100] from hand);clear hand;go_wp2_with fail
     go_wp2_with fail
     (with_reducible refine(Dj (w0:=w) (st:=r3.2) l2.length (tT gI.o) ?side1 ?side2).mono ?_)
     case side1=>(repeat(first|(with_reducible first|exact HI.o|apply cZ.alloc|apply cZ.drewN|apply cZ.drew)|exact HI.o))
     case side2=>(repeat(first|(with_reducible first|exact HB.o|apply ae|apply ah|apply ak)|exact HB.o))
     rintro e w8 ⟨rfl,hi,hb,hk⟩;generalize hE:iQ r3.2 l2.length=s4 at hi|-;have PQ:=ai hE;clear hE;replace HB:=ai hb;replace HO:=ai (uO (by(repeat(first|(with_reducible first|exact HI.o|apply cZ.alloc|apply cZ.drewN|apply cZ.drew)|exact HI.o))) (by(with_reducible repeat(first|apply Kd.dx|apply Kd.dQ|apply Kd.dm));exact HO.o) (by decide) hk);replace HI:=ai hi;clear hi hb hk;go_wp2_with fail
     go_roundg (gk-1)
     case measure=>have:=Ls.o;omega
     case rel=>exact⟨acc++ [r1.1],s4,⟨uA (l:=l) (by rw[<-show gJ ⟨l2,b2⟩=s4 from by unfold gJ;rw[H5.o,if_neg HAND.o];exact PQ.o];exact fQ.o) (by rw[<-show gJ ⟨l2,b2⟩=s4 from by unfold gJ;rw[H5.o,if_neg HAND.o];exact PQ.o];exact xG.o) HA1.o Ls.o (by(with_reducible repeat(first|apply Kd.dx|apply Kd.dQ|apply Kd.dm));exact HO.o)⟩,⟨by(repeat(first|(with_reducible first|exact HI.o|apply cZ.alloc|apply cZ.drewN|apply cZ.drew)|exact HI.o))⟩,⟨by(repeat(first|(with_reducible first|exact HB.o|apply ae|apply ah|apply ak)|exact HB.o))⟩⟩
   |none=>
    have q1:=decide_eq_true (show bd<0 by rw[<-hbd,hb2];show (-1:Int)<0;omega);have q2:=eq_true (show bd<0 by rw[<-hbd,hb2];show (-1:Int)<0;omega);have hle2:=tT gI.o;by_cases hl2:l2= []
    ·subst hl2;have fQ:=ai (show R=.inl (acc++ [r1.1]) by have h5:=HST.o;rw[hb2] at h5;exact h5);have q3:(((s.size-([]:List UInt8).length:Nat):Int)==(s.size:Int))=true:=by simp
     have q4:(((s.size-([]:List UInt8).length:Nat))==(s.size))=true:=by simp
     clear hbd hb2;go_wp2_with fail
     repeat(go_quiet (fail);try go_wp2_with fail)
     go_ret2
     unfold ib;rw[HR.o,fQ.o];exact⟨v5,rfl,by(with_reducible repeat(first|apply Kd.dx|apply Kd.dQ|apply Kd.dm));exact HO.o,by(repeat(first|(with_reducible first|exact HB.o|apply ae|apply ah|apply ak)|exact HB.o))⟩
    ·have hpos:0<l2.length:=List.length_pos_iff.mpr hl2;have q3:(((s.size-l2.length:Nat):Int)==(s.size:Int))=false:=beq_eq_false_iff_ne.mpr (by have:l2.length<=s.size:=hle2;omega);have q4:(((s.size-l2.length:Nat))==(s.size))=false:=beq_eq_false_iff_ne.mpr (by have:l2.length<=s.size:=hle2;omega);have fQ:=ai (show R=match (gJ ⟨l2,b2⟩).bad with|some n=>.inr n|none=>jB (gk-2) (gJ ⟨l2,b2⟩) (acc++ [r1.1]) by
      have h5:=HST.o;rw[hb2] at h5|-;simp only at h5;rw[if_neg hl2] at h5;exact h5)
     have xG:=ai (show (gJ ⟨l2,b2⟩).bad=none->(gJ ⟨l2,b2⟩).l.length<l.length by
      intro h7;have h8:=qQ (st:=⟨l2,b2⟩) hb2 h7;have h9:l2.length<=l.length:=PE.o;exact Nat.lt_of_lt_of_le h8 h9)
     clear hbd hb2 hl2;go_wp2_with fail
     repeat(go_quiet (fail);try go_wp2_with fail)
     go_wp2_with fail
     (with_reducible refine(xR (w0:=w) (st:=⟨l2,b2⟩) hs ?side1 ?side2).mono ?_)
     case side1=>(repeat(first|(with_reducible first|exact HI.o|apply cZ.alloc|apply cZ.drewN|apply cZ.drew)|exact HI.o))
     case side2=>(repeat(first|(with_reducible first|exact HB.o|apply ae|apply ah|apply ak)|exact HB.o))
     rintro e w7 ⟨rfl,hi,hb,hk⟩;generalize hE:dC ⟨l2,b2⟩=r3 at hi|-;have H5:=ai hE;clear hE;replace HB:=ai hb;replace HO:=ai (uO (by(repeat(first|(with_reducible first|exact HI.o|apply cZ.alloc|apply cZ.drewN|apply cZ.drew)|exact HI.o))) (by(with_reducible repeat(first|apply Kd.dx|apply Kd.dQ|apply Kd.dm));exact HO.o) (by decide) hk);replace HI:=ai hi;clear hi hb hk;by_cases hand:r3.1= [97,110,100]
     ·have t1:(r3.1==([97,110,100]:List UInt8))=true:=by simpa using hand
      have HAND:=ai (show r3.1= [97,110,100] from hand);clear hand;go_wp2_with fail
      go_roundg (gk-1)
      case measure=>have:=Ls.o;omega
      case rel=>exact⟨acc++ [r1.1],r3.2,⟨uA (l:=l) (by rw[<-show gJ ⟨l2,b2⟩=r3.2 from by unfold gJ;rw[H5.o,if_pos HAND.o]];exact fQ.o) (by rw[<-show gJ ⟨l2,b2⟩=r3.2 from by unfold gJ;rw[H5.o,if_pos HAND.o]];exact xG.o) HA1.o Ls.o (by(with_reducible repeat(first|apply Kd.dx|apply Kd.dQ|apply Kd.dm));exact HO.o)⟩,⟨by(repeat(first|(with_reducible first|exact HI.o|apply cZ.alloc|apply cZ.drewN|apply cZ.drew)|exact HI.o))⟩,⟨by(repeat(first|(with_reducible first|exact HB.o|apply ae|apply ah|apply ak)|exact HB.o))⟩⟩
     ·have t1:(r3.1==([97,110,100]:List UInt8))=false:=by simpa using hand
      have HAND:=ai (show ¬r3.1= [97,110,100] from hand);clear hand;go_wp2_with fail
      go_wp2_with fail
      (with_reducible refine(Dj (w0:=w) (st:=r3.2) l2.length (tT gI.o) ?side1 ?side2).mono ?_)
      case side1=>(repeat(first|(with_reducible first|exact HI.o|apply cZ.alloc|apply cZ.drewN|apply cZ.drew)|exact HI.o))
      case side2=>(repeat(first|(with_reducible first|exact HB.o|apply ae|apply ah|apply ak)|exact HB.o))
      rintro e w8 ⟨rfl,hi,hb,hk⟩;generalize hE:iQ r3.2 l2.length=s4 at hi|-;have PQ:=ai hE;clear hE;replace HB:=ai hb;replace HO:=ai (uO (by(repeat(first|(with_reducible first|exact HI.o|apply cZ.alloc|apply cZ.drewN|apply cZ.drew)|exact HI.o))) (by(with_reducible repeat(first|apply Kd.dx|apply Kd.dQ|apply Kd.dm));exact HO.o) (by decide) hk);replace HI:=ai hi;clear hi hb hk;go_wp2_with fail
      go_roundg (gk-1)
      case measure=>have:=Ls.o;omega
      case rel=>exact⟨acc++ [r1.1],s4,⟨uA (l:=l) (by rw[<-show gJ ⟨l2,b2⟩=s4 from by unfold gJ;rw[H5.o,if_neg HAND.o];exact PQ.o];exact fQ.o) (by rw[<-show gJ ⟨l2,b2⟩=s4 from by unfold gJ;rw[H5.o,if_neg HAND.o];exact PQ.o];exact xG.o) HA1.o Ls.o (by(with_reducible repeat(first|apply Kd.dx|apply Kd.dQ|apply Kd.dm));exact HO.o)⟩,⟨by(repeat(first|(with_reducible first|exact HI.o|apply cZ.alloc|apply cZ.drewN|apply cZ.drew)|exact HI.o))⟩,⟨by(repeat(first|(with_reducible first|exact HB.o|apply ae|apply ah|apply ak)|exact HB.o))⟩⟩
  ·obtain⟨l,b⟩:=st;cases hbad
   have HP:=ai hp;clear hp HA;obtain⟨hok,HG,hg⟩:=HI.o;have gI:=ai hok;have hc0:=aT HG;have hc1:=aR HG;have hc2:=aU HG;have hf0:=af HG 0;have hf1:=af HG 1;have hf2:=af HG 2;clear HG hg hok;have hc2':wr.cell? ⟨w.heap.size,2,none⟩=some (.int .i64 ((s.size-m:Nat):Int)):=hc2;have q1:=decide_eq_false (show ¬(((s.size-m:Nat):Int)<0) by omega);clear hc2;go_wp2;go_region
   all_goals (try go_wp2)
   go_ret2
   unfold ib;rw[HR.o,HP.o];exact⟨wr.heap.size,dX HB.o,rfl,heap_alloc_new wr _,by(repeat(first|(with_reducible first|exact HB.o|apply ae|apply ah|apply ak)|exact HB.o))⟩
theorem wJ:∀(n k j:Nat) (l:List UInt8) (acc:List Pr),l.length<=n->l.length<k->l.length<j->jB k ⟨l,none⟩ acc=jB j ⟨l,none⟩ acc
 |n,k,j,l,acc,hn,hk,hj=>by
  obtain⟨k,rfl⟩:∃m,k=m+1:=⟨k-1,by omega⟩
  obtain⟨j,rfl⟩:∃m,j=m+1:=⟨j-1,by omega⟩
  rw[nH,nH];cases hb:(bY (df ⟨l,none⟩).2).bad with
  |some m=>rfl
  |none=>
   simp only;split
   ·rfl
   ·cases ha:(gJ (bY (df ⟨l,none⟩).2)).bad with
    |some m=>rfl
    |none=>
     simp only;have h1:=qQ hb ha;have h2:=jL (df ⟨l,none⟩).2;have h3:=nY (st:=⟨l,none⟩) rfl;have h4:(df ⟨l,none⟩).2.l.length<=l.length:=h3;generalize hst:gJ (bY (df ⟨l,none⟩).2)=st at ha h1|-;obtain⟨l2,b2⟩:=st;cases ha
     have h5:l2.length<l.length:=by simp only at h1;omega
     match n with
     |0=>omega
     |n+1=>exact wJ n k j l2 _ (by omega) (by omega) (by omega)
def PS(l:List UInt8)(acc:List Pr):List Pr ⊕ Nat:=jB (l.length+1) ⟨l,none⟩ acc
def PN(st:St)(acc:List Pr):List Pr ⊕ Nat:=match st.bad with|some n=>.inr n|none=>PS st.l acc
theorem L9(l:List UInt8)(acc:List Pr):PS l acc=
 match (bY (df ⟨l,none⟩).2).bad with
 |some n=>.inr n
 |none=>if (bY (df ⟨l,none⟩).2).l= [] then .inl (acc++ [(df ⟨l,none⟩).1]) else PN (gJ (bY (df ⟨l,none⟩).2)) (acc++ [(df ⟨l,none⟩).1]):=by
 unfold PS;rw[nH];cases hb:(bY (df ⟨l,none⟩).2).bad with
 |some m=>rfl
 |none=>
  simp only;split
  ·rfl
  ·unfold PN;cases ha:(gJ (bY (df ⟨l,none⟩).2)).bad with
   |some m=>rfl
   |none=>
    simp only;have h1:=qQ hb ha;have h2:=jL (df ⟨l,none⟩).2;have h4:(df ⟨l,none⟩).2.l.length<=l.length:=nY (st:=⟨l,none⟩) rfl;generalize hst:gJ (bY (df ⟨l,none⟩).2)=st at ha h1|-;obtain⟨l2,b2⟩:=st;cases ha
    have h5:l2.length<l.length:=by simp only at h1;omega
    exact wJ l2.length _ _ l2 _ (Nat.le_refl _) h5 (Nat.lt_succ_self _)
theorem Hm{m:List UInt8}{st:St}(h:(dO m st).bad=none):st.bad=none:=by
 cases hb:st.bad with
 |none=>rfl
 |some n=>rw[kQ hb,hb] at h;cases h
theorem BL{st:St}(h:(eF st).2.bad=none):st.bad=none:=by
 cases hb:st.bad with
 |none=>rfl
 |some n=>rw[jY hb,hb] at h;cases h
theorem BG{st:St}(h:(bY st).bad=none):st.bad=none:=by
 cases hb:st.bad with
 |none=>rfl
 |some n=>rw[nz hb,hb] at h;cases h
theorem EI{st:St}(h:st.bad=none):st=⟨st.l,none⟩:=by cases st;cases h;rfl
open Go.Extern.Stop Go.Stop Go.Extern
section
variable{P:Program}(w:World)
theorem pF(d:Nat){ti tn:TypeId}{ms:Array (String×TypeId)}{i:TypeInfo}{k:IntKind}(a b:Int)
 (hi:P.underlying ti=some (.interface ms)) (hn:P.underlying tn=some (.int k)) (hinfo:P.info? tn=some i) (hcomp:i.comparable=true):
 (Op.equalIn (d+2) ti (.iface tn (.int k a)) (.iface tn (.int k b))).run P w=.ok (a==b) w:=by
 simp[Op.equalIn,run_underlying hi,run_underlying hn,typeInfo,hinfo,hcomp]
theorem run_eql_iface_int{ti tn:TypeId}{ms:Array (String×TypeId)}{i:TypeInfo}{k:IntKind}(a b:Int)
 (hi:P.underlying ti=some (.interface ms)) (hn:P.underlying tn=some (.int k)) (hinfo:P.info? tn=some i) (hcomp:i.comparable=true):
 (binOp .eql ti (.iface tn (.int k a)) (.iface tn (.int k b))).run P w=.ok (.bool (a==b)) w:=by
 simp only[binOp];simp[Op.equal,Op.maxDepth,pF w 9998 a b hi hn hinfo hcomp]
end
def eX(w:World)(c:Int):Nat->Value->Prop
 |0,v=>v=.iface 49 (.int .i64 c)
 |n+1,v=>∃(b:Nat) (wh:ByteArray) (at_:Int) (x:Value),v=.iface 178 (.pointer (some ⟨b,0,none⟩))∧w.heap[b]? =some (.cells #[.string wh,.int .i64 at_,x] 180 (0,0))∧eX w c n x
theorem eX.below{w w':World}{c:Int}(hb:∀b,b<w.heap.size->w'.heap[b]? =w.heap[b]?):∀ {n:Nat} {v:Value},eX w c n v->eX w' c n v
 |0,_,h=>h
 |_+1,_,⟨b,wh,at_,x,hv,hc,hx⟩=>⟨b,wh,at_,x,hv,(hb b (Array.getElem?_eq_some_iff.1 hc).1).trans hc,eX.below hb hx⟩
theorem eX.iface{w:World}{c:Int}:∀ {n:Nat} {v:Value},eX w c n v->∃t y,v=.iface t y
 |0,_,h=>⟨_,_,h⟩
 |_+1,_,⟨_,_,_,_,h,_⟩=>⟨_,_,h⟩
theorem Ua:(prog.info? 49).map (·.comparable)=some true:=by kernel_rfl
theorem Uq(a b:Int)(w:World):(binOp .eql 26 (.iface 49 (.int .i64 a)) (.iface 49 (.int .i64 b))).run prog w=.ok (.bool (a==b)) w:=by
 obtain⟨i,hi,hc⟩:=Option.map_eq_some_iff.1 Ua;exact run_eql_iface_int w a b underlying26 underlying49 hi hc
theorem Rj(a:Value)(b:Int)(w:World):(binOp .eql 26 (.iface 178 a) (.iface 49 (.int .i64 b))).run prog w=.ok (.bool false) w:=
 run_eql_iface_types _ _ _ _ underlying26 (by decide) w
theorem JW(v:Value)(xT:TypeId)(w:World):(Instr.typeAssert (.iface 178 v) xT 319 true).run prog w=.ok (.tuple #[.nilIface,.bool false]) w:=run_typeAssert_lacksB underlying319 (by kernel_rfl) (by kernel_rfl) v xT w
theorem LH(v:Value)(xT:TypeId)(w:World):(Instr.typeAssert (.iface 49 v) xT 319 true).run prog w=.ok (.tuple #[.nilIface,.bool false]) w:=run_typeAssert_lacksB underlying319 (by kernel_rfl) (by kernel_rfl) v xT w
theorem wC(v:Value)(xT:TypeId)(w:World):(Instr.typeAssert (.iface 178 v) xT 285 true).run prog w=.ok (.tuple #[.iface 178 v,.bool true]) w:=run_typeAssert_hasB underlying285 (by kernel_rfl) v xT w
theorem Cs(v:Value)(xT:TypeId)(w:World):(Instr.typeAssert (.iface 49 v) xT 285 true).run prog w=.ok (.tuple #[.nilIface,.bool false]) w:=run_typeAssert_lacksB underlying285 (by kernel_rfl) (by kernel_rfl) v xT w
theorem zV(v:Value)(xT:TypeId)(w:World):(Instr.typeAssert (.iface 49 v) xT 286 true).run prog w=.ok (.tuple #[.nilIface,.bool false]) w:=run_typeAssert_lacksB underlying286 (by kernel_rfl) (by kernel_rfl) v xT w
theorem Bn(a:Addr)(w:World):(nilAhead 489 178 (.pointer (some a)) "Unwrap").run prog w=.ok (some false) w:=by kernel_rfl
theorem uh(a:Addr)(w:World):(Go.method 489 178 (.pointer (some a)) "Unwrap").run prog w=.ok (280,.pointer (some a)) w:=by kernel_rfl
theorem sJ(b:Nat)(x:Value)(w:World)(hc:w.cell? ⟨b,2,none⟩=some x):Calls prog 280 #[.pointer (some ⟨b,0,none⟩)] w fun e w'=>e=.returned x∧w=w':=by
 go_enter func280,ntmps280
 go_wp2;go_ret;exact⟨rfl,rfl⟩
theorem Qr(c c2:Int)(n:Nat)(v:Value)(w:World)(h:eX w c n v):
 Calls prog 151 #[v,.iface 49 (.int .i64 c2),.bool true] w fun e w'=>e=.returned (.bool (c==c2))∧w=w':=by
 have e1:=Uq;have e2:=Rj;have e3:=JW;have e4:=LH;have e5:=wC;have e6:=Cs;have e7:=zV;have e8:=Bn;have e9:=uh;have HH:Aside (eX w c n v):=h;clear h;go_enter func151,ntmps151
 go_wp2;go_loopg [0] (n+1) (fun k v0 wr=>wr=w∧0<k∧Aside (eX w c (k-1) v0))
 case atStart=>exact⟨rfl,by omega,HH⟩
 case round=>
  obtain⟨hw,hk,HE⟩:=hrel;subst hw;obtain⟨k,rfl⟩:∃k,gk=k+1:=⟨gk-1,by omega⟩
  simp only[Nat.add_sub_cancel] at HE;cases k with
  |zero=>
   have hv:u0=.iface 49 (.int .i64 c):=HE.out;subst hv;cases hcc:(c==c2) with
   |true=>
    go_wp2
    repeat(go_quiet (fail);try go_wp2)
    go_ret;exact⟨by rw[hcc];rfl,rfl⟩
   |false=>
    go_wp2
    repeat(go_quiet (fail);try go_wp2)
    go_ret;exact⟨by rw[hcc];rfl,rfl⟩
  |succ k=>
   obtain⟨b,wh,at_,x,hv,hb,hx⟩:=HE.out;subst hv;have hc:=cell_of_row wr b 2 _ _ _ hb;have hc':wr.cell? ⟨b,2,none⟩=some x:=hc;have HX:Aside (eX wr c k x):=hx;obtain⟨tx,vx,hxv⟩:=hx.iface;have KA:=run_eql_held_nil (P:=prog) wr 26 tx vx underlying26;subst hxv;clear hc hb hx;go_wp2_with (first|(go_at_call 280;refine(sJ b _ _ hc').mono ?_;rintro e w' ⟨rfl,rfl⟩))
   go_roundg (k+1)
   case measure=>omega
   case rel=>exact⟨rfl,by omega,HX⟩
theorem Ht(v:Value)(w:World):(ReflectliteType.typeOf #[.iface 49 v]).run prog w=.ok (.iface 278 (.agg #[.pointer (some ⟨4,49,none⟩)])) w:=by kernel_rfl
theorem vJ(h:Value)(w:World):(Go.method 489 278 (.agg #[h]) "Comparable").run prog w=.ok (287,.agg #[h]) w:=by kernel_rfl
theorem Dh(w:World):((ReflectliteType.method fun t=>do Rtype.noPackHeld "Comparable" t;(fun a=>Value.bool a.comparable) <$> typeInfo t) #[.agg #[.pointer (some ⟨4,49,none⟩)]]).run prog w=.ok (.bool true) w:=by kernel_rfl
theorem M0(c c2:Int)(n:Nat)(v:Value)(w:World)(h:eX w c n v):
 Calls prog 85 #[v,.iface 49 (.int .i64 c2)] w fun e w'=>e=.returned (.bool (c==c2))∧w=w':=by
 obtain⟨tx,vx,rfl⟩:=h.iface;have HH:Aside (eX w c n (.iface tx vx)):=h;clear h;have n1:=run_eql_held_nil (P:=prog) w 26 tx vx underlying26;have n2:=run_eql_held_nil (P:=prog) w 26 49 (.int .i64 c2) underlying26;have h8:= @run_callFunc_extern prog 150 _ ReflectliteType.typeOf func150 (by kernel_rfl) (by kernel_rfl) (by kernel_rfl) (by kernel_rfl);have h32:= @run_callFunc_extern prog 287 _ (ReflectliteType.method fun t=>do Rtype.noPackHeld "Comparable" t;pure (.bool (<-typeInfo t).comparable)) func287 (by kernel_rfl) (by kernel_rfl) (by kernel_rfl) (by kernel_rfl);have t1:=Ht;have m1:=vJ;have c1:=Dh;go_enter func85,ntmps85
 go_wp2_with (first|(go_at_call 151;refine(Qr c c2 n _ _ HH.out).mono ?_;rintro e w' ⟨rfl,rfl⟩))
 go_ret;exact⟨rfl,rfl⟩
theorem TP(c2:Int)(w:World):Calls prog 85 #[.nilIface,.iface 49 (.int .i64 c2)] w fun e w'=>e=.returned (.bool false)∧w=w':=by
 have hn:=run_eql_iface_nil_left (P:=prog) w 49 (.int .i64 c2) underlying26;go_enter func85,ntmps85
 go_wp2;go_ret;exact⟨rfl,rfl⟩
theorem Qo(s:ByteArray)(w:World)(h:s.size<=1000):Calls prog 83 #[.string s] w (ib w s):=by
 by_cases h3:300<s.size
 ·exact FZ s w h h3
 ·exact K5 s w (by omega)
theorem ib.ok{w w':World}{s:ByteArray}{xs:List Pr}{e:Ending}(h:ib w s e w')(hr:fH s=.inl xs):Jf w xs e w':=by
 unfold ib at h;rw[hr] at h;exact h
theorem ib.no{w w':World}{s:ByteArray}{a c:Int}{e:Ending}(h:ib w s e w')(hr:fH s=.inr (a,c)):JM w a c e w':=by
 unfold ib at h;rw[hr] at h;exact h
theorem eU.zH{w:World}{b:Nat}{wh:ByteArray}{at_ c:Int}(h:eU w b wh at_ c):eX w c 1 (.iface 178 (.pointer (some ⟨b,0,none⟩))):=⟨b,wh,at_,_,rfl,h,rfl⟩
theorem eU.keep{w w':World}{b:Nat}{wh:ByteArray}{at_ c:Int}(h:eU w b wh at_ c)(hb:Below w.heap.size w w'):eU w' b wh at_ c:=(hb.block b (Array.getElem?_eq_some_iff.1 h).1).trans h
def rF(s:ByteArray)(n:Nat):ByteArray:=if n<s.size then s.extract 0 n else s
theorem CF(s:ByteArray)(n:Nat):(rF s n).size<=n:=by
 unfold rF;split
 ·simp;omega
 ·omega
theorem Jp(s:ByteArray)(n:Nat)(w:World)(hs:s.size<=9223372036854775807)(hn:n<=100000):Calls prog 19 #[.string s,.int .i64 (n:Int)] w fun e w'=>e=.returned (.string (rF s n))∧w=w':=by
 by_cases h:n<s.size
 ·have h1:=decide_eq_true (show (n:Int)<(s.size:Int) by omega);have h2:=decide_eq_true h;have h3:(0:Int)<=(n:Int):=by omega
  have h4:(n:Int)<=(s.size:Int):=by omega
  go_enter func19,ntmps19
  go_wp2;go_ret;exact⟨by unfold rF;rw[if_pos h];first|rfl|simp,rfl⟩
 ·have h1:=decide_eq_false (show ¬(n:Int)<(s.size:Int) by omega);have h2:=decide_eq_false h;go_enter func19,ntmps19
  go_wp2;go_ret;exact⟨by unfold rF;rw[if_neg h];first|rfl|simp,rfl⟩
theorem Aq{s:ByteArray}{xs:List Pr}(h:fH s=.inl xs):s.size<=300∧PS (bytes s) []=.inl xs:=by
 unfold fH at h;split at h
 ·cases h
 ·rename_i hs
  refine⟨by omega, ?_⟩;unfold PS;rw[eD];split at h
  ·rename_i ys hy
   rw[hy];exact congrArg _ (by injection h)
  ·cases h
theorem Eo:∀(n:Nat) (l:List UInt8) (acc xs:List Pr),l.length<=n->PS l acc=.inl xs->xs.length<=acc.length+l.length+1
 |n,l,acc,xs,hn,h=>by
  rw[L9] at h;cases hb:(bY (df ⟨l,none⟩).2).bad with
  |some m=>rw[hb] at h;cases h
  |none=>
   rw[hb] at h;simp only at h;by_cases hs:(bY (df ⟨l,none⟩).2).l= []
   ·rw[if_pos hs] at h;cases h
    simp
   ·rw[if_neg hs] at h;unfold PN at h;cases ha:(gJ (bY (df ⟨l,none⟩).2)).bad with
    |some m=>rw[ha] at h;cases h
    |none=>
     rw[ha] at h;have h1:=qQ hb ha;have h2:=jL (df ⟨l,none⟩).2;have h3:(df ⟨l,none⟩).2.l.length<=l.length:=nY (st:=⟨l,none⟩) rfl
     match n with
     |0=>omega
     |n+1=>
      have:=Eo n _ _ _ (by omega) h;simp at this;omega
theorem lG{s:ByteArray}{xs:List Pr}(h:fH s=.inl xs):xs.length<=301:=by
 obtain⟨h1,h2⟩:=Aq h;have:=Eo _ _ _ _ (Nat.le_refl _) h2;rw[eD] at this;simp at this;omega
def jS(c:UInt8):Bool:=decide (32<=c∧c<=126)
structure aW(W:World) where
 w:World
 h:Below W.heap.size W w
instance aW.inh(W:World):Inhabited (aW W):=⟨⟨W,Below.refl _ _⟩⟩
theorem aW.cell{W:World}{a:Addr}{v:Value}(h:W.cell? a=some v)(p:aW W):p.w.cell? a=some v:=(p.h.cell (World.block_lt_of_cell? W _ h)).trans h
theorem wp_region_quiet_below{P:Program}{id:Nat}{Q:Exit->Act->World->Prop}{a:Act}{W:World}{l:List Oper}(hm:P.follows .mixedOrders=true)(hB:Region.lexB .any l.toArray=true)
 (h:wpQuiet P l.toArray (fun w'=>∃p:aW W,w'=p.w) (fun a'=>∀w',(∃p:aW W,w'=p.w)->Q .normal a' w') l a):(Code.region id l.toArray true).wp P Q a W:=
 wp_region_quiet (C:=fun w'=>∃p:aW W,w'=p.w) hm hB ⟨⟨W.drew,(Below.refl _ _).drew⟩,rfl⟩ (by simpa using h)
theorem Calls.dF{P:Program}{f:FuncId}{args:Array Value}{W:World}{p:aW W}{v:Value}
 (h:Calls P f args p.w fun e w'=>e=.returned v∧Below p.w.heap.size p.w w'):Calls P f args p.w fun e w''=>e=.returned v∧∃q:aW W,w''=q.w:=
 h.mono fun _ w' ⟨he,hb⟩=>⟨he,⟨w',aD p.h p.h.size hb⟩,rfl⟩
def idxFrom{α:Type}(p:α->Bool):List α->Nat->Int
 | [],_=> -1
 |x::r,i=>if p x then (i:Int) else idxFrom p r (i+1)
def xM{α:Type}(p:α->Bool)(l:List α):Int:=idxFrom p l 0
def DC{α:Type}(g:Nat)(lb:Array Value)(enc:α->Value)(p:α->Bool)(w:World):Prop:=
 ∀(W:World) (x:α),Below w.heap.size w W->Calls prog g (#[enc x]++lb) W fun e w'=>e=.returned (.bool (p x))∧Below W.heap.size W w'
def Ap{α:Type}(g:Nat)(lb:Array Value)(enc:α->Value)(p:α->Bool)(w:World)(L:List α):Prop:=
 ∀(W:World) (x:α),x∈L->Below w.heap.size w W->Calls prog g (#[enc x]++lb) W fun e w'=>e=.returned (.bool (p x))∧Below W.heap.size W w'
theorem DC.on{α:Type}{g:Nat}{lb:Array Value}{enc:α->Value}{p:α->Bool}{w:World}(h:DC g lb enc p w)(L:List α):Ap g lb enc p w L:=fun W x _ hb=>h W x hb
def lK(x:iI):Value:=.agg #[.string x.f0,.int .i64 x.f1,.int .i64 x.f2,.int .i64 x.f3,.string x.f4]
def jD(x:iZ):Value:=.agg #[.string x.f0,.int .i64 x.f1,.int .i64 x.f2,.int .i64 x.f3]
theorem D9(g:Nat)(lb:Array Value)(p:iI->Bool)(A:Option Addr)(n c:Nat)(L:List iI)(w:World)(eg:∀args w,(callFunc g args).run prog w=.ok (.enter g args) w)(hn:L.length=n)(hr:Kd.C pG w A n L)(hl:n<=100000)
 (hp:Ap g lb lK p w L):
 Calls prog 207 #[.slice A n c,.func (.func g) #[] lb] w fun e w'=>e=.returned (.int .i64 (xM p L))∧Below w.heap.size w w':=by
 have HR:=ai hr;have HP:=ai hp;have HN:=ai hn;clear hr hp hn;go_enter func207,ntmps207
 go_wp2_with fail
 go_loopg [5,8] (n+1) (fun k v5 v8 W=>∃i:Nat,ay (i<=n∧k+i=n+1∧xM p L=idxFrom p (L.drop i) i)∧v8=.int .i64 (i:Int)∧ay (Below w.heap.size w W))
 case atStart=>exact⟨0,⟨by omega,by omega,rfl⟩,rfl,⟨Below.refl _ _⟩⟩
 case round=>
  obtain⟨i,HM,rfl,HB⟩:=hrel;by_cases hi:i<n
  ·have b1:decide ((i:Int)<(n:Int))=true:=decide_eq_true (by omega);have b2:decide (i<n)=true:=decide_eq_true (by omega);have p1:(0:Int)<=(i:Int):=by omega
   have p2:(i:Int)<(n:Int):=by omega
   obtain⟨ad,e,hcs⟩:=tL HR.o i p1 p2;cases e
   rw[Int.toNat_natCast] at hcs;have hrd:kZ L (i:Int)=L.getD i z168:=rfl;rw[hrd] at hcs;have hdr:L.drop i=L.getD i z168::L.drop (i+1):=by
    rw[List.drop_eq_getElem_cons (by have:=HN.o;omega),List.getD_eq_getElem?_getD,List.getElem?_eq_getElem (by have:=HN.o;omega)];rfl
   have HD:=ai hdr;have vQ:=ai (HP.o _ (L.getD i z168) (by rw[List.getD_eq_getElem?_getD,List.getElem?_eq_getElem (by have:=HN.o;omega)];exact List.getElem_mem _) HB.o);clear hrd hdr;generalize L.getD i z168=x at hcs HD vQ;cases hpx:p x with
   |true=>
    have HX:=ai hpx;clear hpx;rw[HX.o] at vQ;obtain⟨h0,h1,h2,h3,h4⟩:=hcs;replace h0:=(HB.o.cell (World.block_lt_of_cell? w _ h0)).trans h0;replace h1:=(HB.o.cell (World.block_lt_of_cell? w _ h1)).trans h1;replace h2:=(HB.o.cell (World.block_lt_of_cell? w _ h2)).trans h2;replace h3:=(HB.o.cell (World.block_lt_of_cell? w _ h3)).trans h3;replace h4:=(HB.o.cell (World.block_lt_of_cell? w _ h4)).trans h4;go_wp2_with fail
    refine vQ.o.mono ?_;rintro e w2 ⟨rfl,hb⟩;replace HB:=dW HB hb;clear hb;go_wp2;go_ret;exact⟨by rw[HM.o.2.2,HD.o];simp[idxFrom,HX.o],HB.o⟩
   |false=>
    have HX:=ai hpx;clear hpx;rw[HX.o] at vQ;obtain⟨h0,h1,h2,h3,h4⟩:=hcs;replace h0:=(HB.o.cell (World.block_lt_of_cell? w _ h0)).trans h0;replace h1:=(HB.o.cell (World.block_lt_of_cell? w _ h1)).trans h1;replace h2:=(HB.o.cell (World.block_lt_of_cell? w _ h2)).trans h2;replace h3:=(HB.o.cell (World.block_lt_of_cell? w _ h3)).trans h3;replace h4:=(HB.o.cell (World.block_lt_of_cell? w _ h4)).trans h4;go_wp2_with fail
    refine vQ.o.mono ?_;rintro e w2 ⟨rfl,hb⟩;replace HB:=dW HB hb;clear hb;go_wp2_with fail
    go_roundg (gk-1)
    case measure=>have:=HM.o;omega
    case rel=>exact⟨i+1,⟨by omega,by have:=HM.o;omega,by rw[HM.o.2.2,HD.o];simp[idxFrom,HX.o]⟩,rfl,HB⟩
  ·have b1:decide ((i:Int)<(n:Int))=false:=decide_eq_false (by omega);have b2:decide (i<n)=false:=decide_eq_false (by omega);have hd:L.drop i= []:=List.drop_eq_nil_iff.2 (by have:=HN.o;omega);have HE:=ai hd;clear hd hi;go_wp2;go_ret;exact⟨by rw[HM.o.2.2,HE.o];rfl,HB.o⟩
theorem wE(g:Nat)(lb:Array Value)(p:iZ->Bool)(A:Option Addr)(n c:Nat)(L:List iZ)(w:World)(eg:∀args w,(callFunc g args).run prog w=.ok (.enter g args) w)(hn:L.length=n)(hr:Kd.C uM w A n L)(hl:n<=100000)
 (hp:Ap g lb jD p w L):
 Calls prog 142 #[.slice A n c,.func (.func g) #[] lb] w fun e w'=>e=.returned (.int .i64 (xM p L))∧Below w.heap.size w w':=by
 have HR:=ai hr;have HP:=ai hp;have HN:=ai hn;clear hr hp hn;go_enter func142,ntmps142
 go_wp2_with fail
 go_loopg [5,8] (n+1) (fun k v5 v8 W=>∃i:Nat,ay (i<=n∧k+i=n+1∧xM p L=idxFrom p (L.drop i) i)∧v8=.int .i64 (i:Int)∧ay (Below w.heap.size w W))
 case atStart=>exact⟨0,⟨by omega,by omega,rfl⟩,rfl,⟨Below.refl _ _⟩⟩
 case round=>
  obtain⟨i,HM,rfl,HB⟩:=hrel;by_cases hi:i<n
  ·have b1:decide ((i:Int)<(n:Int))=true:=decide_eq_true (by omega);have b2:decide (i<n)=true:=decide_eq_true (by omega);have p1:(0:Int)<=(i:Int):=by omega
   have p2:(i:Int)<(n:Int):=by omega
   obtain⟨ad,e,hcs⟩:=qB HR.o i p1 p2;cases e
   rw[Int.toNat_natCast] at hcs;have hrd:lS L (i:Int)=L.getD i z30:=rfl;rw[hrd] at hcs;have hdr:L.drop i=L.getD i z30::L.drop (i+1):=by
    rw[List.drop_eq_getElem_cons (by have:=HN.o;omega),List.getD_eq_getElem?_getD,List.getElem?_eq_getElem (by have:=HN.o;omega)];rfl
   have HD:=ai hdr;have vQ:=ai (HP.o _ (L.getD i z30) (by rw[List.getD_eq_getElem?_getD,List.getElem?_eq_getElem (by have:=HN.o;omega)];exact List.getElem_mem _) HB.o);clear hrd hdr;generalize L.getD i z30=x at hcs HD vQ;cases hpx:p x with
   |true=>
    have HX:=ai hpx;clear hpx;rw[HX.o] at vQ;obtain⟨h0,h1,h2,h3⟩:=hcs;replace h0:=(HB.o.cell (World.block_lt_of_cell? w _ h0)).trans h0;replace h1:=(HB.o.cell (World.block_lt_of_cell? w _ h1)).trans h1;replace h2:=(HB.o.cell (World.block_lt_of_cell? w _ h2)).trans h2;replace h3:=(HB.o.cell (World.block_lt_of_cell? w _ h3)).trans h3;go_wp2_with fail
    refine vQ.o.mono ?_;rintro e w2 ⟨rfl,hb⟩;replace HB:=dW HB hb;clear hb;go_wp2;go_ret;exact⟨by rw[HM.o.2.2,HD.o];simp[idxFrom,HX.o],HB.o⟩
   |false=>
    have HX:=ai hpx;clear hpx;rw[HX.o] at vQ;obtain⟨h0,h1,h2,h3⟩:=hcs;replace h0:=(HB.o.cell (World.block_lt_of_cell? w _ h0)).trans h0;replace h1:=(HB.o.cell (World.block_lt_of_cell? w _ h1)).trans h1;replace h2:=(HB.o.cell (World.block_lt_of_cell? w _ h2)).trans h2;replace h3:=(HB.o.cell (World.block_lt_of_cell? w _ h3)).trans h3;go_wp2_with fail
    refine vQ.o.mono ?_;rintro e w2 ⟨rfl,hb⟩;replace HB:=dW HB hb;clear hb;go_wp2_with fail
    go_roundg (gk-1)
    case measure=>have:=HM.o;omega
    case rel=>exact⟨i+1,⟨by omega,by have:=HM.o;omega,by rw[HM.o.2.2,HD.o];simp[idxFrom,HX.o]⟩,rfl,HB⟩
  ·have b1:decide ((i:Int)<(n:Int))=false:=decide_eq_false (by omega);have b2:decide (i<n)=false:=decide_eq_false (by omega);have hd:L.drop i= []:=List.drop_eq_nil_iff.2 (by have:=HN.o;omega);have HE:=ai hd;clear hd hi;go_wp2;go_ret;exact⟨by rw[HM.o.2.2,HE.o];rfl,HB.o⟩
theorem rU{α:Type}(p:α->Bool):∀(l:List α) (i:Nat),(idxFrom p l i= -1∧l.any p=false)∨((i:Int)<=idxFrom p l i∧l.any p=true)
 | [],_=>Or.inl ⟨rfl,rfl⟩
 |x::r,i=>by
  cases h:p x with
  |true=>exact Or.inr ⟨by simp[idxFrom,h],by simp[h]⟩
  |false=>
   rcases rU p r (i+1) with⟨h1,h2⟩|⟨h1,h2⟩
   ·exact Or.inl ⟨by simp[idxFrom,h,h1],by simp[h,h2]⟩
   ·exact Or.inr ⟨by simp only[idxFrom,h];simp;omega,by simp[h,h2]⟩
theorem E8{α:Type}(p:α->Bool)(l:List α):decide (0<=xM p l)=l.any p:=by
 rcases rU p l 0 with⟨h1,h2⟩|⟨h1,h2⟩
 ·rw[h2];unfold xM;rw[h1];rfl
 ·rw[h2];exact decide_eq_true h1
theorem sK(g:Nat)(lb:Array Value)(p:iI->Bool)(A:Option Addr)(n c:Nat)(L:List iI)(w:World)(eg:∀args w,(callFunc g args).run prog w=.ok (.enter g args) w)(hn:L.length=n)(hr:Kd.C pG w A n L)(hl:n<=100000)
 (hp:Ap g lb lK p w L):
 Calls prog 147 #[.slice A n c,.func (.func g) #[] lb] w fun e w'=>e=.returned (.bool (L.any p))∧Below w.heap.size w w':=by
 have HC:=ai (D9 g lb p A n c L w eg hn hr hl hp);have HX:=ai (E8 p L);generalize xM p L=z at HC HX;clear hr hn hp;go_enter func147,ntmps147
 go_wp2_with fail
 refine HC.o.mono ?_;rintro e w2 ⟨rfl,hb⟩;go_wp2;go_ret;exact⟨by rw[<-HX.o];rfl,hb⟩
theorem LU(nm:ByteArray)(B:Nat)(w:World)(hc:w.cell? ⟨B,0,none⟩=some (.string nm)):DC 152 #[.pointer (some ⟨B,0,none⟩)] jD (fun x=>x.f0.toList==nm.toList) w:=fun W x hb=>by
 have h0:=(hb.cell (World.block_lt_of_cell? w _ hc)).trans hc;have hlt:=World.block_lt_of_cell? W _ h0;show Calls _ _ #[jD x,.pointer (some ⟨B,0,none⟩)] W _;unfold jD;go_enter func152,ntmps152
 go_wp2;go_ret;exact⟨rfl,ae (Below.refl _ _) _⟩
theorem OT(nm:ByteArray)(B:Nat)(w:World)(hc:w.cell? ⟨B,0,none⟩=some (.string nm)):DC 148 #[.pointer (some ⟨B,0,none⟩)] lK (fun x=>x.f0.toList==nm.toList) w:=fun W x hb=>by
 have h0:=(hb.cell (World.block_lt_of_cell? w _ hc)).trans hc;have hlt:=World.block_lt_of_cell? W _ h0;show Calls _ _ #[lK x,.pointer (some ⟨B,0,none⟩)] W _;unfold lK;go_enter func148,ntmps148
 go_wp2;go_ret;exact⟨rfl,ae (Below.refl _ _) _⟩
def gN(nm:ByteArray)(L:List iZ):Int:=xM (fun x=>x.f0.toList==nm.toList) L
theorem oJ(A:Option Addr)(n c:Nat)(L:List iZ)(nm:ByteArray)(w:World)(hn:L.length=n)(hr:Kd.C uM w A n L)(hl:n<=100000):
 Calls prog 88 #[.slice A n c,.string nm] w fun e w'=>e=.returned (.int .i64 (gN nm L))∧Below w.heap.size w w':=by
 have hb:=ae (Below.refl w.heap.size w) (.cells #[.string nm] 9);have hcl:=LU nm w.heap.size (w.alloc (.cells #[.string nm] 9)) (cell_of_row _ _ 0 _ _ _ (heap_alloc_new w _));have HC:=ai (wE _ _ _ A n c L (w.alloc (.cells #[.string nm] 9)) (enters_of func152 (by kernel_rfl) rfl) hn (Kd.aY hr hb) hl (hcl.on L));clear hr hn hcl;go_enter func88,ntmps88
 go_wp2_with fail
 refine HC.o.mono ?_;rintro e w2 ⟨rfl,hb2⟩;go_wp2;go_ret;exact⟨rfl,aD hb hb.size hb2⟩
theorem bL(i c:Int)(w:World):Calls prog 79 #[.int .i64 i,.int .i64 c] w fun e w'=>∃b,w.heap.size<=b∧e=.returned (.iface 178 (.pointer (some ⟨b,0,none⟩)))∧eU w' b ⟨#[118,97,108,117,101]⟩ i c∧Below w.heap.size w w':=by
 go_enter func79,ntmps79
 go_wp2;go_ret;exact⟨w.heap.size,Nat.le_refl _,rfl,heap_alloc_new w _,ae (Below.refl _ _) _⟩
end Go.Proofs.YtnmpijbcajclgaaGreatDoor.Mine
end
section
namespace Go.Proofs
open Go.Shelf
def Tryz.CZ:Go.Shelf.Ren:=⟨fun|17=>140|15=>201|20=>237|n=>n,fun|9=>9|23=>250|4=>4|3=>3|0=>0|21=>21|n=>n,fun|n=>n⟩
theorem Tryz.O3:Go.Proofs.LaysGw.n17 Tryz.prog Tryz.CZ:={
 mixed:=by kernel_rfl
 f15:=Tryz.func201.trans (congrArg some (by kernel_rfl))
 f17:=Tryz.func140.trans (congrArg some (by kernel_rfl))
 f20:=Tryz.func237.trans (congrArg some (by kernel_rfl))
 t0:=Tryz.underlying0
 a0:=Tryz.isAgg0
 z0:=Tryz.sizeOf0
 v0:=Tryz.zeroValue0
 i0:=by kernel_rfl
 t3:=Tryz.underlying3
 a3:=Tryz.isAgg3
 z3:=Tryz.sizeOf3
 v3:=Tryz.zeroValue3
 i3:=by kernel_rfl
 t4:=Tryz.underlying4
 a4:=Tryz.isAgg4
 z4:=Tryz.sizeOf4
 v4:=Tryz.zeroValue4
 i4:=by kernel_rfl
 t9:=Tryz.underlying9
 a9:=Tryz.isAgg9
 z9:=Tryz.sizeOf9
 v9:=Tryz.zeroValue9
 i9:=by kernel_rfl
 t21:=Tryz.underlying21
 a21:=Tryz.isAgg21
 z21:=Tryz.sizeOf21
 v21:=Tryz.zeroValue21
 i21:=by kernel_rfl
 t23:=Tryz.underlying250
 a23:=Tryz.isAgg250
 z23:=Tryz.sizeOf250
 v23:=Tryz.zeroValue250
 i23:=by kernel_rfl}
open Go.RowKit Go.Lib in
theorem Tryz.strings_ContainsFunc(g:Nat)(lb:Array Value)(eg:∀args w,(callFunc g args).run Tryz.prog w=.ok (.enter g args) w)(p:Nat->Bool)(s:ByteArray)(w:World)(hp:PredAt Tryz.prog g lb encR p w):
 Calls Tryz.prog 140 #[.string s,.func (.func g) #[] lb] w fun e w'=>e=.returned (.bool (decide (0<=Lib.idxFunc p true s)))∧Below w.heap.size w w':=Any.strings_ContainsFunc Tryz.O3 g lb eg p s w hp
end Go.Proofs
end
section
namespace Go.Proofs.YtnmpijbcajclgaaGreatDoor.Mine
open Tryz
open Go.RowKit YtnmpijbcajclgaaGreatDoorW.PrintWords Go.Lib
theorem Bh(s:ByteArray)(i:Nat)(hi:i<s.size)(h:128<=(s[i]'hi).toNat):128<=(Utf8.decode s i).1:=by
 have hg:s.get! i=s[i]'hi:=by simp[ByteArray.get!,hi];rfl
 rw[decode_at,hg];generalize (s[i]'hi).toNat=b0 at h;generalize (s.get! (i+1)).toNat=b1;generalize (s.get! (i+2)).toNat=b2;generalize (s.get! (i+3)).toNat=b3;unfold decodeN
 repeat' split
 all_goals first|(exfalso;omega)|(simp only;omega)
def CY(r:Nat):Bool:=decide (r<32)||decide (126<r)
theorem Am(s:ByteArray):∀(f i:Nat),s.size-i<=f->i<=s.size->(decide (0<=idxFuncFrom CY true s f i)= !((s.data.toList.drop i).all jS))
 |0,i,hf,hi=>by
  have:i=s.size:=by omega
  have hd:s.data.toList.drop i= []:=List.drop_eq_nil_iff.2 (by rw[Array.length_toList];exact Nat.le_of_eq this.symm);rw[hd];rfl
 |f+1,i,hf,hi=>by
  by_cases hlt:i<s.size
  ·have hd:s.data.toList.drop i=(s[i]'hlt)::s.data.toList.drop (i+1):=by
    rw[List.drop_eq_getElem_cons (by rw[Array.length_toList];exact hlt)];rfl
   rw[hd,List.all_cons];unfold idxFuncFrom;rw[if_pos hlt];by_cases ha:(s[i]'hlt).toNat<128
   ·rw[decode_ascii s i hlt ha];have hc:CY (s[i]'hlt).toNat= !(jS (s[i]'hlt)):=by
     simp only[CY,jS,UInt8.le_iff_toNat_le];have e1:(32:UInt8).toNat=32:=rfl;have e2:(126:UInt8).toNat=126:=rfl;rw[e1,e2,Bool.eq_iff_iff];simp only[Bool.or_eq_true,decide_eq_true_eq,Bool.not_eq_true',decide_eq_false_iff_not];omega
    simp only[hc];cases hx:jS (s[i]'hlt) with
    |false=>simp
    |true=>
     simp only[Bool.not_true,Bool.true_and];rw[if_neg (by simp)];exact Am s f (i+1) (by omega) (by omega)
   ·have hd:=Bh s i hlt (by omega);have hb:CY (Utf8.decode s i).1=true:=by
     simp only[CY,Bool.or_eq_true,decide_eq_true_eq];omega
    have hx:jS (s[i]'hlt)=false:=by
     simp only[jS,UInt8.le_iff_toNat_le];have e2:(126:UInt8).toNat=126:=rfl;rw[e2];simp;omega
    rw[if_pos hb,hx];simp
  ·have:i=s.size:=by omega
   have hd:s.data.toList.drop i= []:=List.drop_eq_nil_iff.2 (by rw[Array.length_toList];exact Nat.le_of_eq this.symm);rw[hd,idxFuncFrom_end _ _ _ _ _ hlt];rfl
theorem Nh(w:World):PredAt prog 208 #[] encR CY w:=fun W r _=>by
 unfold FnGives;by_cases h1:r<32<;>by_cases h2:126<r
 all_goals
  have z1:(r:Int)<32↔r<32:=by omega
  have z2:(126:Int)<(r:Int)↔126<r:=by omega
  go_enter func208,ntmps208
  go_wp2
  all_goals first|(exfalso;omega)|(go_ret;exact⟨by simp[CY,h1,h2],0,rfl⟩)
def jw(s:ByteArray):Bool:=decide (s.size<=40)&&s.data.toList.all jS
theorem nX(s:ByteArray)(w:World):Calls prog 149 #[.string s] w fun e w'=>e=.returned (.bool (jw s))∧Below w.heap.size w w':=by
 have hC:=fun W=>Tryz.strings_ContainsFunc 208 #[] (enters_of func208 (by kernel_rfl) rfl) CY s W (Nh W)
 have hX:decide (0<=Lib.idxFunc CY true s)= !(s.data.toList.all jS):=Am s s.size 0 (by omega) (by omega);by_cases h:s.size<=40
 ·have h1:decide ((s.size:Int)<=40)=true:=decide_eq_true (by omega);have h2:decide (s.size<=40)=true:=decide_eq_true h;have HX:=ai hX;have HC:=ai hC;clear hX hC;go_enter func149,ntmps149
  go_wp2_with fail
  refine(HC.o _).mono ?_;rintro e w1 ⟨rfl,hb⟩;rw[HX.o];go_wp2;go_ret;exact⟨by simp[jw,h2],hb⟩
 ·have h1:decide ((s.size:Int)<=40)=false:=decide_eq_false (by omega);have h2:decide (s.size<=40)=false:=decide_eq_false h;clear hX hC;go_enter func149,ntmps149
  go_wp2;go_ret;exact⟨by simp[jw,h2],Below.refl _ _⟩
end Go.Proofs.YtnmpijbcajclgaaGreatDoor.Mine
end
