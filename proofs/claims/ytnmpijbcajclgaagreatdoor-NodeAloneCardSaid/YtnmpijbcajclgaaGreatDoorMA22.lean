/- Texts of one claim, one behind the other, made short by a program. -/
import Derived.Test.YtnmpijbcajclgaaGreatDoorMA21
set_option linter.unusedSimpArgs false
set_option linter.unusedVariables false
section
namespace Go.Proofs.YtnmpijbcajclgaaGreatDoor.Mine
open Tryz
open Go.RowKit YtnmpijbcajclgaaGreatDoorW.PrintWords YtnmpijbcajclgaaGreatDoorW.PrintLast YtnmpijbcajclgaaGreatDoorW.PrintMore
open PNodeAlone
theorem ou{w:World}{g:Nat}{s:ByteArray}{i0:Int}{b:Bool}(h:w.heap[g]? =some (ik s i0 b))(i:Int):(w.setCell ⟨g,1,none⟩ (.int .i64 i)).heap[g]? =some (ik s i b):=by
 have:=bg h 1 (.int .i64 i)
 simpa [ik] using this
theorem ow{w:World}{g g2:Nat}{o:Obj}(h:w.heap[g]? =some o)(hne:g≠g2)(i:Int):(w.setCell ⟨g2,1,none⟩ (.int .i64 i)).heap[g]? =some o:=by
 rw[Below.heap_setCell _ _ _ _ hne];exact h
theorem Sg{α:Type}{d:Kd α}{e:Nat}{W:World}{base B:Nat}{v:Value}{xs:List α}(h:d.R e W base (fun k=>B+2<=k) v xs)(s:ByteArray)(i:Int)(b:Bool):
 d.R e (((W.setCell ⟨B+1,0,none⟩ (.string s)).setCell ⟨B+1,1,none⟩ (.int .i64 i)).setCell ⟨B+1,2,none⟩ (.bool b)) base (fun k=>B+2<=k) v xs:=
 Kd.gK (Kd.gK (Kd.gK h (fun k hk=>by show k≠B+1;omega) _) (fun k hk=>by show k≠B+1;omega) _) (fun k hk=>by show k≠B+1;omega) _
def mR(s:ByteArray)(x:List UInt8×St):Value:=.tuple #[mZ s x.2,.string ⟨x.1.toArray⟩]
theorem mG{s:ByteArray}{j:Nat}(h:j<=s.size):mR s (mW (none,bu s j))=.tuple #[.agg #[.string s,.int .i64 (j:Int),.bool true],.string ⟨#[]⟩]:=by
 show Value.tuple #[mZ s ⟨bu s j,some (bu s j).length⟩,.string ⟨#[]⟩]=_;rw[nu,gu,Nat.sub_sub_self h]
theorem H8{s:ByteArray}{j:Nat}(h:j<=s.size)(acc:List UInt8):mR s (mW (some acc,bu s j))=.tuple #[.agg #[.string s,.int .i64 (j:Int),.bool false],.string ⟨acc.toArray⟩]:=by
 show Value.tuple #[mZ s ⟨bu s j,none⟩,.string ⟨acc.toArray⟩]=_;rw[gW,gu,Nat.sub_sub_self h]
set_option maxHeartbeats 4000000 in
set_option maxRecDepth 100000 in
theorem xZ(s:ByteArray)(st:St)(w:World)(hs:s.size<=1000)(hok:st.ok (bytes s)):
 Calls prog 176 #[mZ s st] w fun e w'=>e=.returned (mR s (il st))∧Below w.heap.size w w':=by
 have hmk:=fun w=>jV s ⟨#[34]⟩ st w hs (by decide) hok
 have hok1:=iC (m:= [34]) hok;have e34:bytes (⟨#[34]⟩:ByteArray)= [34]:=rfl;rw[e34] at hmk;clear e34;obtain⟨i0,hi0⟩:∃x,x=Db s st:=⟨_,rfl⟩
 obtain⟨b0,hb0⟩:∃x,x=st.bad.isSome:=⟨_,rfl⟩
 have hst:mZ s st=.agg #[.string s,.int .i64 i0,.bool b0]:=by rw[hi0,hb0];rfl
 rw[hst] at hmk|-;clear hi0 hb0;obtain⟨hn1,hn2⟩:=mV w s ⟨#[]⟩ i0 0 b0 false;have aZ:=ai hn1;have bf:=ai hn2;have HB:=ai (ae (ae (Below.refl w.heap.size w) (.cells #[.string s,.int .i64 i0,.bool b0] 230)) (.cells #[.string ⟨#[]⟩,.int .i64 0,.bool false] 230));clear hn1 hn2;cases hmb:(dO [34] st).bad with
 |some n=>
  have jc:ay (mR s (il st)=.tuple #[.agg #[.string s,.int .i64 ((s.size-n:Nat):Int),.bool true],.string ⟨#[]⟩]):=⟨by
   unfold il;rw[hmb];simp only[mR];rw[jT hmb]⟩
  rw[jT hmb] at hmk;generalize mR s (il st)=RV at jc|-;generalize ((s.size-n:Nat):Int)=i at hmk jc;clear hmb hok1 hok hst;go_enter func176,ntmps176
  go_wp2_with fail
  refine(hmk _).mono ?_;rintro e w1 ⟨rfl,hb⟩;replace aZ:=bZ hb aZ;replace bf:=bZ hb bf;replace HB:=dW HB hb;clear hb;obtain⟨c0,c1,c2,f0,f1,f2⟩:=aj aZ.o;obtain⟨d0,d1,d2,g0,g1,g2⟩:=aj bf.o;go_upto_region 2 with (fail)
  clear c0 c1 c2 f0 f1 f2 d0 d1 d2 g0 g1 g2;replace aZ:=ai (fD aZ.o s i true);replace bf:=ai (eO bf.o (show w.heap.size+1≠w.heap.size by omega) s i true);replace HB:=ai (aQ HB.o (Nat.le_refl w.heap.size) s i true);generalize (((w1.setCell ⟨w.heap.size,0,none⟩ (.string s)).setCell ⟨w.heap.size,1,none⟩ (.int .i64 i)).setCell ⟨w.heap.size,2,none⟩ (.bool true))=w2 at aZ bf HB|-;obtain⟨c0,c1,c2,f0,f1,f2⟩:=aj aZ.o;obtain⟨d0,d1,d2,g0,g1,g2⟩:=aj bf.o;go_wp2_with fail
  have n_:=ai (ae HB.o (.cells #[] 5));have Bp:=ai ((Below.heap_alloc w2 (.cells #[] 5) _ (aI aZ.o)).trans aZ.o);have Ot:=ai ((Below.heap_alloc w2 (.cells #[] 5) _ (aI bf.o)).trans bf.o);clear c0 c1 c2 f0 f1 f2 d0 d1 d2 g0 g1 g2;clear HB aZ bf;have HB:=n_;have aZ:=Bp;have bf:=Ot;clear n_ Bp Ot;generalize Value.slice (some {block:=w2.heap.size,off:=0}) 0 0=v0;generalize w2.alloc (Obj.cells #[] 5)=w3 at HB aZ bf|-;go_loopg [4,5] 1 (fun k v4 v5 wr=>wr=w3)
  case atStart=>rfl
  case round=>
   subst hrel;obtain⟨c0,c1,c2,f0,f1,f2⟩:=aj aZ.o;obtain⟨d0,d1,d2,g0,g1,g2⟩:=aj bf.o;go_wp2;refine bodyPost_ret (v:=.tuple #[.agg #[.string s,.int .i64 i,.bool true],.string ⟨#[]⟩]) (by simp[results,results176,go_sem,d0,d1,d2]) rfl ⟨congrArg Ending.returned jc.o.symm,aQ HB.o (Nat.le_succ w.heap.size) s i true⟩
 |none=>
  have hts:il st=mW (dR (dO [34] st).l []):=by unfold il;rw[hmb]
  have ku:(dO [34] st).l<:+bytes s:=hok1.1;have XM:mZ s (dO [34] st)=.agg #[.string s,.int .i64 ((s.size-(dO [34] st).l.length:Nat):Int),.bool false]:=by unfold mZ Db dZ;rw[hmb];rfl
  rw[XM] at hmk;rw[hts];generalize (dO [34] st).l=L at hmk ku|-;have hle:L.length<=s.size:=by have:=ku.length_le;rwa [eD] at this
  have hd:=jb ku;obtain⟨i1,hi1⟩:∃x,s.size-L.length=x:=⟨_,rfl⟩
  rw[hi1] at hmk hd;have hiz:i1<=s.size:=by omega
  rw[hd];obtain⟨RV,hRV⟩:∃x,x=mR s (mW (dR (bu s i1) [])):=⟨_,rfl⟩
  rw[<-hRV];have La:=ai hRV;clear hRV hts XM hmb hok1 hok hst ku hle hd hi1;go_enter func176,ntmps176
  go_wp2_with fail
  refine(hmk _).mono ?_;rintro e w1 ⟨rfl,hb⟩;replace aZ:=bZ hb aZ;replace bf:=bZ hb bf;replace HB:=dW HB hb;clear hb;obtain⟨c0,c1,c2,f0,f1,f2⟩:=aj aZ.o;obtain⟨d0,d1,d2,g0,g1,g2⟩:=aj bf.o;go_upto_region 2 with (fail)
  clear c0 c1 c2 f0 f1 f2 d0 d1 d2 g0 g1 g2;replace aZ:=ai (fD aZ.o s (i1:Int) false);replace bf:=ai (eO bf.o (show w.heap.size+1≠w.heap.size by omega) s (i1:Int) false);replace HB:=ai (aQ HB.o (Nat.le_refl w.heap.size) s (i1:Int) false);generalize (((w1.setCell ⟨w.heap.size,0,none⟩ (.string s)).setCell ⟨w.heap.size,1,none⟩ (.int .i64 (i1:Int))).setCell ⟨w.heap.size,2,none⟩ (.bool false))=w2 at aZ bf HB|-;obtain⟨c0,c1,c2,f0,f1,f2⟩:=aj aZ.o;obtain⟨d0,d1,d2,g0,g1,g2⟩:=aj bf.o;go_wp2_with fail
  have n_:=ai (ae HB.o (.cells #[] 5));have Bp:=ai ((Below.heap_alloc w2 (.cells #[] 5) _ (aI aZ.o)).trans aZ.o);have Ot:=ai ((Below.heap_alloc w2 (.cells #[] 5) _ (aI bf.o)).trans bf.o);have hl2:w.heap.size+2<=w2.heap.size:=by have:=aI bf.o;omega
  have HO:ay (Kd.R (Kd.int .u8) 5 (w2.alloc (.cells #[] 5)) w.heap.size (fun k=>w.heap.size+2<=k) (.slice (some ⟨w2.heap.size,0,none⟩) 0 0) (fo [])):=
   ⟨fun k hk=>by
    have:w2.heap.size=k:=by simpa [Value.ownBlock] using hk
    omega,[],World.ownsRow_lit w2 #[] 0 (by omega) (by decide) rfl,dN.none _ _⟩
  have HL:ay (w.heap.size+2<=(w2.alloc (.cells #[] 5)).heap.size):=⟨by show _<=(w2.heap.push _).size;rw[Array.size_push];omega⟩
  clear c0 c1 c2 f0 f1 f2 d0 d1 d2 g0 g1 g2;clear HB aZ bf hl2;have HB:=n_;have aZ:=Bp;have bf:=Ot;clear n_ Bp Ot;generalize Value.slice (some {block:=w2.heap.size,off:=0}) 0 0=v0 at HO|-;generalize w2.alloc (Obj.cells #[] 5)=w3 at HB aZ bf HO HL|-;go_loopg [4,5] (s.size+1) (fun k v4 v5 W=>∃(acc:List UInt8) (i:Nat),ay (i<=s.size∧s.size-i<k∧acc.length<=i∧dR (bu s i) acc=dR (bu s i1) [])∧ay (Kd.R (Kd.int .u8) 5 W w.heap.size (fun k=>w.heap.size+2<=k) v4 (fo acc))∧ay (W.heap[w.heap.size]? =some (ik s (i:Int) false))∧ay (W.heap[w.heap.size+1]? =some (ik ⟨#[]⟩ 0 false))∧ay (Below w.heap.size w W)∧ay (w.heap.size+2<=W.heap.size))
  case atStart=>exact⟨[],i1,⟨hiz,by omega,by simp,rfl⟩,HO,aZ,bf,HB,HL⟩
  case round=>
   clear HO aZ bf HB HL;obtain⟨acc,i,HN,HO,aZ,bf,HB,HL⟩:=hrel;have adt:i<=s.size:=HN.o.1;obtain⟨c0,c1,c2,f0,f1,f2⟩:=aj aZ.o;obtain⟨d0,d1,d2,g0,g1,g2⟩:=aj bf.o;by_cases hlt:i<s.size
   ·obtain⟨c,hc⟩:∃c,s[i]'hlt=c:=⟨_,rfl⟩
    have hx:∀h:i<s.size,s[i]'h=c:=fun _=>hc
    have hd:=dP hlt;rw[hc] at hd;have HD:=ai hd;clear hc hd;have q1:=eq_true (show ((i:Int)<(s.size:Int)) by omega);have q2:=eq_true (show (0:Int)<=(i:Int) by omega);have q3:=decide_eq_false (show ¬((s.size:Int)<=(i:Int)) by omega);have q4:=decide_eq_false (show ¬(s.size<=i) by omega);by_cases h34:c=34
    ·have e34:((c.toNat:Int)==34)=true:=by rw[h34];rfl
     have jc:=ai (La.o.trans ((congrArg (fun x=>mR s (mW x)) (show dR (bu s i1) []=(some acc,bu s (i+1)) by rw[<-HN.o.2.2.2,HD.o,xm _ _ h34])).trans (H8 (by omega) acc)));rw[show ((i+1:Nat):Int)=(i:Int)+1 by omega] at jc;clear h34;go_upto_region 9 with (fail)
     clear c0 c1 c2 f0 f1 f2 d0 d1 d2 g0 g1 g2;replace aZ:=ai (ou aZ.o ((i:Int)+1));replace bf:=ai (ow bf.o (show w.heap.size+1≠w.heap.size by omega) ((i:Int)+1));replace HB:=ai (HB.o.setCell (p:=⟨w.heap.size,1,none⟩) (Nat.le_refl w.heap.size) (.int .i64 ((i:Int)+1)));replace HO:=ai (Kd.gK (p:=⟨w.heap.size,1,none⟩) HO.o (fun k hk=>by show k≠w.heap.size;omega) (.int .i64 ((i:Int)+1)));replace HL:=ai (show w.heap.size+2<=(wr.setCell ⟨w.heap.size,1,none⟩ (.int .i64 ((i:Int)+1))).heap.size by have:=HL.o;simpa [World.setCell] using this);generalize wr.setCell ⟨w.heap.size,1,none⟩ (.int .i64 ((i:Int)+1))=w5 at aZ bf HB HO HL|-;obtain⟨c0,c1,c2,f0,f1,f2⟩:=aj aZ.o;obtain⟨d0,d1,d2,g0,g1,g2⟩:=aj bf.o;have hcv:=fun m=>mY (P:=prog) underlying263 underlying5 underlying9 (Kd.lF (Kd.dQ HO.o m))
     have adC:=mY (P:=prog) underlying263 underlying5 underlying9 (Kd.lF (Kd.dm HO.o));have adG:=mY (P:=prog) underlying263 underlying5 underlying9 (Kd.lF (Kd.dm (Sg HO.o s ((i:Int)+1) false)));go_region
     rw[vU];go_wp2;refine bodyPost_ret (v:=.tuple #[.agg #[.string s,.int .i64 ((i:Int)+1),.bool false],.string ⟨acc.toArray⟩]) (by simp[results,results176,go_sem,d0,d1,d2]) rfl ⟨congrArg Ending.returned jc.o.symm,ak (aQ HB.o (Nat.le_succ w.heap.size) s ((i:Int)+1) false)⟩
    ·have e34:((c.toNat:Int)==34)=false:=by rw[show (34:Int)=((34:Nat):Int) from rfl,nR (by decide)];simpa using h34
     by_cases h92:c=92
     ·have e92:((c.toNat:Int)==92)=true:=by rw[h92];rfl
      have HC:=ai (show c=92 from h92);clear h34 h92;go_upto_region 12 with (fail)
      clear c0 c1 c2 f0 f1 f2 d0 d1 d2 g0 g1 g2;replace aZ:=ai (ou aZ.o ((i:Int)+1));replace bf:=ai (ow bf.o (show w.heap.size+1≠w.heap.size by omega) ((i:Int)+1));replace HB:=ai (HB.o.setCell (p:=⟨w.heap.size,1,none⟩) (Nat.le_refl w.heap.size) (.int .i64 ((i:Int)+1)));replace HO:=ai (Kd.gK (p:=⟨w.heap.size,1,none⟩) HO.o (fun k hk=>by show k≠w.heap.size;omega) (.int .i64 ((i:Int)+1)));replace HL:=ai (show w.heap.size+2<=(wr.setCell ⟨w.heap.size,1,none⟩ (.int .i64 ((i:Int)+1))).heap.size by have:=HL.o;simpa [World.setCell] using this);generalize wr.setCell ⟨w.heap.size,1,none⟩ (.int .i64 ((i:Int)+1))=w5 at aZ bf HB HO HL|-;have ei:(i:Int)+1=((i+1:Nat):Int):=by omega
      rw[ei] at aZ|-;clear ei;obtain⟨c0,c1,c2,f0,f1,f2⟩:=aj aZ.o;obtain⟨d0,d1,d2,g0,g1,g2⟩:=aj bf.o;clear q1 q2 q3 q4;by_cases hlt1:i+1<s.size
      ·obtain⟨d,hd1⟩:∃d,s[i+1]'hlt1=d:=⟨_,rfl⟩
       have hx1:∀h:i+1<s.size,s[i+1]'h=d:=fun _=>hd1
       have hd2:=dP hlt1;rw[hd1] at hd2;have HD1:=ai hd2;clear hd1 hd2 hx hlt;obtain⟨j,hj⟩:∃j,j=i+1:=⟨_,rfl⟩
       have HJ:=ai hj;rw[<-hj] at hlt1 hx1 HD1 aZ c1|-;have q1:=eq_true (show ((j:Int)<(s.size:Int)) by omega);have q2:=eq_true (show (0:Int)<=(j:Int) by omega);have q3:=decide_eq_false (show ¬((s.size:Int)<=(j:Int)) by omega);have q4:=decide_eq_false (show ¬(s.size<=j) by omega);by_cases hdq:d=34∨d=92
       ·have HE:=ai (show dR (bu s i) acc=dR (bu s (j+1)) (acc++ [d]) by rw[HD.o,<-HJ.o,HD1.o,qo _ _ HC.o hdq]);have g1:=decide_eq_false (show ¬(d.toNat:Int)<32 by rcases hdq with rfl|rfl<;>decide);have g2:=decide_eq_false (show ¬126<(d.toNat:Int) by rcases hdq with rfl|rfl<;>decide);have hjs:j=i+1:=HJ.o;have HJ2:=ai hjs;clear hjs hj;by_cases d34:d=34
        ·have f34:((d.toNat:Int) != 34)=false:=by rw[d34];rfl
         clear d34 hdq;go_wp2_with ((with_reducible refine bn (b:=.append) (xs:= #[.tmp 83,.tmp 85]) rfl ?_);at_builtin;go_loud (refine Kd.di (Kd.int .u8) (w0:=w) w.heap.size rfl (.tmp 83) (.tmp 85) 263 5 (.int .u8 0) 1 rfl underlying263 info5 rfl (by decide) (by omega) _ (fo _) ((d).toNat:Int) [.int .u8 ((d).toNat:Int)] (fun k=>w.heap.size+2<=k) (fun _=>False) rfl ?aX ?aP (fun _ hk=>hk.elim) ?aF HO.o HB.o HB.o.size ?aL ?_;(case aX=>first|rfl|(go_simp;done)|(go_simp;rfl));(case aP=>exact rfl);(case aF=>exact(fun k hk=>by have:=HL.o;omega));(case aL=>have:=HN.o;simp[fo];omega);intro v9 w9 ho hb hg hat;rw[<-eY] at ho;replace HB:=ai hb;replace aZ:=ai ((hg.block _ (aI aZ.o) (fun e=>absurd (HO.o.1 _ e.symm) (by omega))).trans aZ.o);replace bf:=ai ((hg.block _ (aI bf.o) (fun e=>absurd (HO.o.1 _ e.symm) (by omega))).trans bf.o);replace HO:=ai ho;replace HL:=ai (Nat.le_trans HL.o hg.size);clear ho hb hg hat c0 c1 c2 f0 f1 f2 d0 d1 d2 g0 g1 g2;obtain⟨c0,c1,c2,f0,f1,f2⟩:=aj aZ.o;obtain⟨d0,d1,d2,g0,g1,g2⟩:=aj bf.o))
         go_roundg (gk-1)
         case measure=>have:=HN.o;have:=HJ2.o;omega
         case rel=>exact⟨acc++ [d],j+1,⟨by omega,by have:=HN.o;have:=HJ2.o;omega,by have:=HN.o;have:=HJ2.o;simp;omega,by rw[<-HN.o.2.2.2,HE.o]⟩,⟨Kd.gK (p:=⟨w.heap.size,1,none⟩) HO.o (fun k hk=>by show k≠w.heap.size;omega) _⟩,⟨ou aZ.o _⟩,⟨ow bf.o (by omega) _⟩,⟨HB.o.setCell (p:=⟨w.heap.size,1,none⟩) (Nat.le_refl w.heap.size) _⟩,⟨by have:=HL.o;simpa [World.setCell] using this⟩⟩
        ·have f34:((d.toNat:Int) != 34)=true:=by rw[bne,show (34:Int)=((34:Nat):Int) from rfl,nR (by decide)];simpa using d34
         have f92:((d.toNat:Int) != 92)=false:=by rcases hdq with h|h;exact absurd h d34;rw[h];rfl
         clear d34 hdq;go_wp2_with ((with_reducible refine bn (b:=.append) (xs:= #[.tmp 83,.tmp 85]) rfl ?_);at_builtin;go_loud (refine Kd.di (Kd.int .u8) (w0:=w) w.heap.size rfl (.tmp 83) (.tmp 85) 263 5 (.int .u8 0) 1 rfl underlying263 info5 rfl (by decide) (by omega) _ (fo _) ((d).toNat:Int) [.int .u8 ((d).toNat:Int)] (fun k=>w.heap.size+2<=k) (fun _=>False) rfl ?aX ?aP (fun _ hk=>hk.elim) ?aF HO.o HB.o HB.o.size ?aL ?_;(case aX=>first|rfl|(go_simp;done)|(go_simp;rfl));(case aP=>exact rfl);(case aF=>exact(fun k hk=>by have:=HL.o;omega));(case aL=>have:=HN.o;simp[fo];omega);intro v9 w9 ho hb hg hat;rw[<-eY] at ho;replace HB:=ai hb;replace aZ:=ai ((hg.block _ (aI aZ.o) (fun e=>absurd (HO.o.1 _ e.symm) (by omega))).trans aZ.o);replace bf:=ai ((hg.block _ (aI bf.o) (fun e=>absurd (HO.o.1 _ e.symm) (by omega))).trans bf.o);replace HO:=ai ho;replace HL:=ai (Nat.le_trans HL.o hg.size);clear ho hb hg hat c0 c1 c2 f0 f1 f2 d0 d1 d2 g0 g1 g2;obtain⟨c0,c1,c2,f0,f1,f2⟩:=aj aZ.o;obtain⟨d0,d1,d2,g0,g1,g2⟩:=aj bf.o))
         go_roundg (gk-1)
         case measure=>have:=HN.o;have:=HJ2.o;omega
         case rel=>exact⟨acc++ [d],j+1,⟨by omega,by have:=HN.o;have:=HJ2.o;omega,by have:=HN.o;have:=HJ2.o;simp;omega,by rw[<-HN.o.2.2.2,HE.o]⟩,⟨Kd.gK (p:=⟨w.heap.size,1,none⟩) HO.o (fun k hk=>by show k≠w.heap.size;omega) _⟩,⟨ou aZ.o _⟩,⟨ow bf.o (by omega) _⟩,⟨HB.o.setCell (p:=⟨w.heap.size,1,none⟩) (Nat.le_refl w.heap.size) _⟩,⟨by have:=HL.o;simpa [World.setCell] using this⟩⟩
       ·have f34:((d.toNat:Int) != 34)=true:=by rw[bne,show (34:Int)=((34:Nat):Int) from rfl,nR (by decide)];simpa using (fun h=>hdq (Or.inl h))
        have f92:((d.toNat:Int) != 92)=true:=by rw[bne,show (92:Int)=((92:Nat):Int) from rfl,nR (by decide)];simpa using (fun h=>hdq (Or.inr h))
        have HE:=ai (show dR (bu s i1) []=(none,bu s j) by rw[<-HN.o.2.2.2,HD.o,<-HJ.o,HD1.o,uk _ _ HC.o hdq]);clear hj hdq;have jc:=ai (La.o.trans ((congrArg (fun x=>mR s (mW x)) HE.o).trans (mG (by omega))));go_wp2_with fail
        refine(bR s (j:Int) (j:Int) false _).mono ?_;rintro e w5 ⟨rfl,hb⟩;clear c0 c1 c2 f0 f1 f2 d0 d1 d2 g0 g1 g2;replace aZ:=bZ hb aZ;replace bf:=bZ hb bf;replace HB:=dW HB hb;clear hb;obtain⟨c0,c1,c2,f0,f1,f2⟩:=aj aZ.o;obtain⟨d0,d1,d2,g0,g1,g2⟩:=aj bf.o;unfold dZ;go_wp2;refine bodyPost_ret (v:=.tuple #[.agg #[.string s,.int .i64 (j:Int),.bool true],.string ⟨#[]⟩]) (by simp[results,results176,go_sem,d0,d1,d2]) rfl ⟨congrArg Ending.returned jc.o.symm,aQ HB.o (Nat.le_succ w.heap.size) s (j:Int) true⟩
      ·have ZE:i+1=s.size:=by omega
       have q3:=decide_eq_true (show ((s.size:Int)<=((i+1:Nat):Int)) by omega);have q4:=decide_eq_true (show (s.size<=i+1) by omega);have HE:=ai (show dR (bu s i1) []=(none,bu s (i+1)) by rw[<-HN.o.2.2.2,HD.o,gP (show s.size<=i+1 by omega),sN _ HC.o]);have hle1:i+1<=s.size:=by omega
       obtain⟨j,hj⟩:∃j,j=i+1:=⟨_,rfl⟩
       rw[<-hj] at q3 q4 hle1 HE aZ c1|-;clear ZE hlt1 hj hx hlt;have jc:=ai (La.o.trans ((congrArg (fun x=>mR s (mW x)) HE.o).trans (mG (by omega))));go_wp2_with fail
       refine(bR s (j:Int) (j:Int) false _).mono ?_;rintro e w5 ⟨rfl,hb⟩;clear c0 c1 c2 f0 f1 f2 d0 d1 d2 g0 g1 g2;replace aZ:=bZ hb aZ;replace bf:=bZ hb bf;replace HB:=dW HB hb;clear hb;obtain⟨c0,c1,c2,f0,f1,f2⟩:=aj aZ.o;obtain⟨d0,d1,d2,g0,g1,g2⟩:=aj bf.o;unfold dZ;go_wp2;refine bodyPost_ret (v:=.tuple #[.agg #[.string s,.int .i64 (j:Int),.bool true],.string ⟨#[]⟩]) (by simp[results,results176,go_sem,d0,d1,d2]) rfl ⟨congrArg Ending.returned jc.o.symm,aQ HB.o (Nat.le_succ w.heap.size) s (j:Int) true⟩
     ·have e92:((c.toNat:Int)==92)=false:=by rw[show (92:Int)=((92:Nat):Int) from rfl,nR (by decide)];simpa using h92
      by_cases g0:32<=c
      ·have g1:=decide_eq_false (show ¬(c.toNat:Int)<32 by have:=UInt8.le_iff_toNat_le.mp g0;simp at this;omega);by_cases g9:c<=126
       ·have g2:=decide_eq_false (show ¬126<(c.toNat:Int) by have:=UInt8.le_iff_toNat_le.mp g9;simp at this;omega);have HE:=ai (show dR (bu s i) acc=dR (bu s (i+1)) (acc++ [c]) by rw[HD.o,xw _ _ h34 h92 ⟨g0,g9⟩]);clear h34 h92 g0 g9;go_wp2_with ((with_reducible refine bn (b:=.append) (xs:= #[.tmp 83,.tmp 85]) rfl ?_);at_builtin;go_loud (refine Kd.di (Kd.int .u8) (w0:=w) w.heap.size rfl (.tmp 83) (.tmp 85) 263 5 (.int .u8 0) 1 rfl underlying263 info5 rfl (by decide) (by omega) _ (fo _) ((c).toNat:Int) [.int .u8 ((c).toNat:Int)] (fun k=>w.heap.size+2<=k) (fun _=>False) rfl ?aX ?aP (fun _ hk=>hk.elim) ?aF HO.o HB.o HB.o.size ?aL ?_;(case aX=>first|rfl|(go_simp;done)|(go_simp;rfl));(case aP=>exact rfl);(case aF=>exact(fun k hk=>by have:=HL.o;omega));(case aL=>have:=HN.o;simp[fo];omega);intro v9 w9 ho hb hg hat;rw[<-eY] at ho;replace HB:=ai hb;replace aZ:=ai ((hg.block _ (aI aZ.o) (fun e=>absurd (HO.o.1 _ e.symm) (by omega))).trans aZ.o);replace bf:=ai ((hg.block _ (aI bf.o) (fun e=>absurd (HO.o.1 _ e.symm) (by omega))).trans bf.o);replace HO:=ai ho;replace HL:=ai (Nat.le_trans HL.o hg.size);clear ho hb hg hat c0 c1 c2 f0 f1 f2 d0 d1 d2 g0 g1 g2;obtain⟨c0,c1,c2,f0,f1,f2⟩:=aj aZ.o;obtain⟨d0,d1,d2,g0,g1,g2⟩:=aj bf.o))
        go_roundg (gk-1)
        case measure=>have:=HN.o;omega
        case rel=>exact⟨acc++ [c],i+1,⟨by omega,by have:=HN.o;omega,by have:=HN.o;simp;omega,by rw[<-HN.o.2.2.2,HE.o]⟩,⟨Kd.gK (p:=⟨w.heap.size,1,none⟩) HO.o (fun k hk=>by show k≠w.heap.size;omega) _⟩,⟨ou aZ.o _⟩,⟨ow bf.o (by omega) _⟩,⟨HB.o.setCell (p:=⟨w.heap.size,1,none⟩) (Nat.le_refl w.heap.size) _⟩,⟨by have:=HL.o;simpa [World.setCell] using this⟩⟩
       ·have g2:=decide_eq_true (show 126<(c.toNat:Int) by have:¬c.toNat<=126:=(fun h=>g9 (by rw[UInt8.le_iff_toNat_le];exact h));omega);have jc:=ai (La.o.trans ((congrArg (fun x=>mR s (mW x)) (show dR (bu s i1) []=(none,bu s i) by rw[<-HN.o.2.2.2,HD.o,tq _ _ h34 h92 (fun h=>g9 h.2)])).trans (mG (by omega))));go_wp2_with fail
        refine(bR s (i:Int) (i:Int) false _).mono ?_;rintro e w5 ⟨rfl,hb⟩;clear c0 c1 c2 f0 f1 f2 d0 d1 d2 g0 g1 g2;replace aZ:=bZ hb aZ;replace bf:=bZ hb bf;replace HB:=dW HB hb;clear hb;obtain⟨c0,c1,c2,f0,f1,f2⟩:=aj aZ.o;obtain⟨d0,d1,d2,g0,g1,g2⟩:=aj bf.o;unfold dZ;go_wp2;refine bodyPost_ret (v:=.tuple #[.agg #[.string s,.int .i64 (i:Int),.bool true],.string ⟨#[]⟩]) (by simp[results,results176,go_sem,d0,d1,d2]) rfl ⟨congrArg Ending.returned jc.o.symm,aQ HB.o (Nat.le_succ w.heap.size) s (i:Int) true⟩
      ·have g1:=decide_eq_true (show (c.toNat:Int)<32 by have:¬32<=c.toNat:=(fun h=>g0 (by rw[UInt8.le_iff_toNat_le];exact h));omega);have jc:=ai (La.o.trans ((congrArg (fun x=>mR s (mW x)) (show dR (bu s i1) []=(none,bu s i) by rw[<-HN.o.2.2.2,HD.o,tq _ _ h34 h92 (fun h=>g0 h.1)])).trans (mG (by omega))));go_wp2_with fail
       refine(bR s (i:Int) (i:Int) false _).mono ?_;rintro e w5 ⟨rfl,hb⟩;clear c0 c1 c2 f0 f1 f2 d0 d1 d2 g0 g1 g2;replace aZ:=bZ hb aZ;replace bf:=bZ hb bf;replace HB:=dW HB hb;clear hb;obtain⟨c0,c1,c2,f0,f1,f2⟩:=aj aZ.o;obtain⟨d0,d1,d2,g0,g1,g2⟩:=aj bf.o;unfold dZ;go_wp2;refine bodyPost_ret (v:=.tuple #[.agg #[.string s,.int .i64 (i:Int),.bool true],.string ⟨#[]⟩]) (by simp[results,results176,go_sem,d0,d1,d2]) rfl ⟨congrArg Ending.returned jc.o.symm,aQ HB.o (Nat.le_succ w.heap.size) s (i:Int) true⟩
   ·have q3:=decide_eq_true (show ((s.size:Int)<=(i:Int)) by omega);have q4:=decide_eq_true (show (s.size<=i) by omega);clear hlt;have jc:=ai (La.o.trans ((congrArg (fun x=>mR s (mW x)) (show dR (bu s i1) []=(none,bu s i) by rw[<-HN.o.2.2.2,gP (of_decide_eq_true q4),qO])).trans (mG (by omega))));go_wp2_with fail
    refine(bR s (i:Int) (i:Int) false _).mono ?_;rintro e w5 ⟨rfl,hb⟩;clear c0 c1 c2 f0 f1 f2 d0 d1 d2 g0 g1 g2;replace aZ:=bZ hb aZ;replace bf:=bZ hb bf;replace HB:=dW HB hb;clear hb;obtain⟨c0,c1,c2,f0,f1,f2⟩:=aj aZ.o;obtain⟨d0,d1,d2,g0,g1,g2⟩:=aj bf.o;unfold dZ;go_wp2;refine bodyPost_ret (v:=.tuple #[.agg #[.string s,.int .i64 (i:Int),.bool true],.string ⟨#[]⟩]) (by simp[results,results176,go_sem,d0,d1,d2]) rfl ⟨congrArg Ending.returned jc.o.symm,aQ HB.o (Nat.le_succ w.heap.size) s (i:Int) true⟩
end Go.Proofs.YtnmpijbcajclgaaGreatDoor.Mine
end
