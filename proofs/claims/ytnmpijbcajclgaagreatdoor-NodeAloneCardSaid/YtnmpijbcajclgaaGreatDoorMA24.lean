/- Texts of one claim, one behind the other, made short by a program. -/
import Derived.Test.YtnmpijbcajclgaaGreatDoorMA23
set_option maxHeartbeats 8000000
set_option linter.unusedSimpArgs false
set_option linter.unusedVariables false
set_option maxRecDepth 100000
section
namespace Go.Proofs.YtnmpijbcajclgaaGreatDoor.Mine
open Tryz
open Go.RowKit YtnmpijbcajclgaaGreatDoorW.PrintWords YtnmpijbcajclgaaGreatDoorW.PrintLast YtnmpijbcajclgaaGreatDoorW.PrintMore
open PNodeAlone
def rf(x:Pr):zJ:=toQ (toP x)
def qp(w:World)(xs:List Pr)(e:Ending)(w':World):Prop:=∃v,e=.returned (.tuple #[v,.int .i64 0,.int .i64 0])∧Kd.R vI 231 w' w.heap.size (fun _=>True) v (xs.map rf)∧Below w.heap.size w w'
def lM(w:World)(at_ c:Int)(e:Ending)(w':World):Prop:=e=.returned (.tuple #[.slice none 0 0,.int .i64 c,.int .i64 at_])∧Below w.heap.size w w'
def fO(w:World)(s:ByteArray)(e:Ending)(w':World):Prop:=
 match fH s with
 | .inl xs=>qp w xs e w'
 | .inr (at_,c)=>lM w at_ c e w'
theorem WI{w w':World}{s:ByteArray}{xs:List Pr}{e:Ending}(hs:s.size<=300)(h:PS (bytes s) []=.inl xs)(ho:qp w xs e w'):fO w s e w':=by
 unfold fO;rw[Bu hs,h];exact ho
theorem Xw{w w':World}{s:ByteArray}{n:Nat}{e:Ending}(hs:s.size<=300)(h:PS (bytes s) []=.inr n)(ho:lM w ((s.size-n:Nat):Int) 2 e w'):fO w s e w':=by
 unfold fO;rw[Bu hs,h];exact ho
theorem He{α:Type}(h:Array α)(a b:α):((h.push a).push b)[h.size]? =some a∧((h.push a).push b)[h.size+1]? =some b:=by
 refine⟨?_, ?_⟩
 ·simp only[Array.getElem?_push,Array.size_push];rw[if_neg (by omega),if_pos trivial]
 ·simp only[Array.getElem?_push,Array.size_push];rw[if_pos trivial]
theorem Hq{l:List UInt8}{n:Nat}(h:(fq l).2.bad=some n):n=l.length:=by
 cases l with
 |nil=>simp[fq] at h;simp[h]
 |cons c r=>
  cases hc:wO c with
  |true=>simp[fq,hc] at h
  |false=>simp[fq,hc] at h;simp[<-h]
theorem Ki{M:List UInt8}{L:List UInt8}(hL:L=skip M){n:Nat}(h:(dC ⟨L,none⟩).2.bad=some n):(gJ ⟨L,none⟩).bad=some L.length:=by
 have h1:dC ⟨L,none⟩=fq L:=by show fq (skip L)=_;rw[hL,Ko]
 have h2:=vL h;unfold gJ;rw[if_neg (by rw[h2];simp),mo h,h];rw[h1] at h;rw[Hq h]
theorem K6{L:List UInt8}(h:(dC ⟨L,none⟩).2.bad=none)(h2:(dC ⟨L,none⟩).1≠ [97,110,100]):(gJ ⟨L,none⟩).bad=some L.length:=by
 unfold gJ;rw[if_neg h2];unfold iQ;rw[h]
theorem oQ(s:ByteArray)(w:World)(hs:s.size<=1000):Calls prog 67 #[.string s] w (fO w s):=by
 by_cases h300:300<s.size
 ·have hR:fH s=.inr (0,1):=by unfold fH;rw[if_pos h300]
  have q1:decide ((300:Int)<(s.size:Int))=true:=decide_eq_true (by omega);have HR:∀e w',lM w 0 1 e w'->fO w s e w':=fun e w' h=>by unfold fO;rw[hR];exact h
  have HR:=ai HR;generalize fO w s=Co at HR|-;clear hR;go_enter func67,ntmps67
  go_wp2
  go_ret3
  exact HR.o _ _ ⟨rfl,Below.refl _ _⟩
 ·have hs3:s.size<=300:=by omega
  have q1:decide ((300:Int)<(s.size:Int))=false:=decide_eq_false (by omega);have Vb:=ai (fun xs e w' (h:PS (bytes s) []=.inl xs) (ho:qp w xs e w')=>WI hs3 h ho);have Qs:=ai (fun n e w' (h:PS (bytes s) []=.inr n) (ho:lM w ((s.size-n:Nat):Int) 2 e w')=>Xw hs3 h ho);generalize fO w s=Co at Vb Qs|-;clear h300;go_enter func67,ntmps67
  go_wp2_with fail
  have K1:ay ((((w.alloc (.cells #[.string s,.int .i64 0,.bool false] 230)).alloc (.cells #[] 231)).heap[w.heap.size]? =some (ik s 0 false))):=⟨by
   show ((w.heap.push _).push _)[_]? =_;simp only[Array.getElem?_push,Array.size_push];rw[if_neg (by omega),if_pos trivial];rfl⟩
  have HB:=ai (ae (ae (Below.refl w.heap.size w) (.cells #[.string s,.int .i64 0,.bool false] 230)) (.cells #[] 231));have HO:ay (Kd.R vI 231 ((w.alloc (.cells #[.string s,.int .i64 0,.bool false] 230)).alloc (.cells #[] 231)) w.heap.size (fun k=>k≠w.heap.size) (.slice (some ⟨w.heap.size+1,0,none⟩) 0 0) (([]:List Pr).map rf)):=
   ⟨fun k hk=>by
    have:w.heap.size+1=k:=by simpa [Value.ownBlock] using hk
    omega,[],by
     have:=World.ownsRow_lit (base:=w.heap.size) (e:=231) (size:=5) (w.alloc (.cells #[.string s,.int .i64 0,.bool false] 230)) #[] 0 (by show _<=(w.heap.push _).size;rw[Array.size_push];omega) (by decide) rfl;have e:(w.alloc (.cells #[.string s,.int .i64 0,.bool false] 230)).heap.size=w.heap.size+1:=by show (w.heap.push _).size=_;exact Array.size_push _
     rw[e] at this;exact this,dN.none _ _⟩
  generalize (w.alloc (.cells #[.string s,.int .i64 0,.bool false] 230)).alloc (.cells #[] 231)=w0 at K1 HB HO|-;generalize Value.slice (some {block:=w.heap.size+1,off:=0}) 0 0=v0 at HO|-;have Rz:=ai hs3;clear hs3;go_loopg [6,7,8,9,10,11] (s.size+2) (fun k v6 v7 v8 v9 v10 v11 W=>∃(acc:List Pr) (l:List UInt8) (j:Nat),ay (l<:+bytes s∧PS l acc=PS (bytes s) []∧j+l.length<=s.size∧acc.length<=j∧l.length<k)∧v7=.int .i64 (j:Int)∧ay (Kd.R vI 231 W w.heap.size (fun k=>k≠w.heap.size) v6 (acc.map rf))∧ay (W.heap[w.heap.size]? =some (ik s ((s.size-l.length:Nat):Int) false))∧ay (Below w.heap.size w W))
  case atStart=>exact⟨[],bytes s,0,⟨List.suffix_refl _,rfl,by rw[eD];omega,by simp,by rw[eD];omega⟩,rfl,HO,⟨by rw[eD,Nat.sub_self];exact K1.o⟩,HB⟩
  case round=>
   clear HO HB K1;obtain⟨acc,l,j,HN,rfl,HO,aZ,HB⟩:=hrel;have q2:decide ((j:Int)<=(s.size:Int))=true:=decide_eq_true (by have:=HN.o;omega);have q3:decide (j<=s.size)=true:=decide_eq_true (by have:=HN.o;omega);have q4:(j:Int)<=1000:=by have:=HN.o;omega
   have q5:(0:Int)<=(j:Int):=by omega
   have hok:St.ok (bytes s) ⟨l,none⟩:=⟨HN.o.1,fun n hn=>by cases hn⟩
   have hok2:=Du hok;have VW:=iP hok2;have hpc:=fun w=>En s ⟨l,none⟩ w hs hok
   rw[gW] at hpc;have hps:=L9 l acc;rw[HN.o.2.1] at hps;generalize ((s.size-l.length:Nat):Int)=i0 at aZ hpc;have hlt:=nY (st:=⟨l,none⟩) rfl;have WB:=jL (df ⟨l,none⟩).2;have hbl:=fun w=>jI s (df ⟨l,none⟩).2 w hs hok2
   have Ro:∀L,bY (df ⟨l,none⟩).2=⟨L,none⟩->∃M,L=skip M:=fun L h=>by
    unfold bY at h;split at h
    ·rename_i hb
     rw[h] at hb;cases hb
    ·injection h with h1 h2;exact⟨_,h1.symm⟩
   unfold ug at hpc;obtain⟨i1,hi1⟩:∃x,x=Db s (df ⟨l,none⟩).2:=⟨_,rfl⟩
   obtain⟨b1,hb1⟩:∃x,x=(df ⟨l,none⟩).2.bad.isSome:=⟨_,rfl⟩
   have Ke:mZ s (df ⟨l,none⟩).2=.agg #[.string s,.int .i64 i1,.bool b1]:=by rw[hi1,hb1];rfl
   rw[Ke] at hpc hbl;have BI:=ai hpc;have K7:=ai hbl;have UX:=ai hps;have PE:=ai (And.intro hlt WB);have Xg:=ai VW;have HSK:=ai Ro;have HX:=ai (fun (h:(bY (df ⟨l,none⟩).2).bad=none)=>BG h);clear hok hok2 VW hpc hps hlt WB hbl Ro hi1 hb1 Ke;obtain⟨c0,c1,c2,f0,f1,f2⟩:=aj aZ.o;go_wp2_with fail
   refine(BI.o _).mono ?_;rintro e w1 ⟨v,rfl,⟨x,rfl,hx⟩,hb⟩;unfold Cw;clear c0 c1 c2 f0 f1 f2;replace aZ:=bZ hb aZ;replace HB:=dW HB hb;replace HO:=lV HO hb;obtain⟨c0,c1,c2,f0,f1,f2⟩:=aj aZ.o;have HXE:=ai (fun h=>hx (HX.o h));clear hx HX BI;go_upto_region 9 with (fail)
   go_wp2_with fail
   have hb:=ae (ae (Below.refl w1.heap.size w1) (.cells #[.string s,.int .i64 i1,.bool b1] 230)) (.cells #[.string ⟨x.name.toArray⟩,.int .i64 x.op,.int .i64 x.lo,.int .i64 x.hi,.string ⟨x.str.toArray⟩] 231);obtain⟨m1,m2⟩:=He w1.heap (.cells #[.string s,.int .i64 i1,.bool b1] 230 (0,0)) (.cells #[.string ⟨x.name.toArray⟩,.int .i64 x.op,.int .i64 x.lo,.int .i64 x.hi,.string ⟨x.str.toArray⟩] 231 (0,0));have wV:ay (((w1.alloc (.cells #[.string s,.int .i64 i1,.bool b1] 230)).alloc (.cells #[.string ⟨x.name.toArray⟩,.int .i64 x.op,.int .i64 x.lo,.int .i64 x.hi,.string ⟨x.str.toArray⟩] 231)).heap[w1.heap.size]? =some (ik s i1 b1)):=⟨m1⟩
   have Kw:ay (((w1.alloc (.cells #[.string s,.int .i64 i1,.bool b1] 230)).alloc (.cells #[.string ⟨x.name.toArray⟩,.int .i64 x.op,.int .i64 x.lo,.int .i64 x.hi,.string ⟨x.str.toArray⟩] 231)).heap[w1.heap.size+1]? =some (qU ⟨x.name.toArray⟩ x.op x.lo x.hi ⟨x.str.toArray⟩)):=⟨m2⟩
   have xG:=ai (aI aZ.o);have kC:=ai (Kd.dD (Kd.iL HO.o) (ok':=fun k=>k≠w.heap.size∧k<w1.heap.size) (fun k hk=>⟨hk.1,hk.2.2.1⟩));clear m1 m2;clear c0 c1 c2 f0 f1 f2;replace aZ:=bZ hb aZ;replace HB:=dW HB hb;replace HO:=lV HO hb;have ho8:=Kd.dx (Kd.dx kC.o (.cells #[.string s,.int .i64 i1,.bool b1] 230)) (.cells #[.string ⟨x.name.toArray⟩,.int .i64 x.op,.int .i64 x.lo,.int .i64 x.hi,.string ⟨x.str.toArray⟩] 231);have G5:=ai (Kd.dD ho8 (ok':=fun k=>k≠w.heap.size∧k≠w1.heap.size∧k≠w1.heap.size+1) (fun k hk=>⟨hk.1,by omega,by omega⟩));clear ho8 kC HO;generalize (w1.alloc (.cells #[.string s,.int .i64 i1,.bool b1] 230)).alloc (.cells #[.string ⟨x.name.toArray⟩,.int .i64 x.op,.int .i64 x.lo,.int .i64 x.hi,.string ⟨x.str.toArray⟩] 231)=w2 at aZ wV Kw HB G5|-;generalize w1.heap.size=g8 at wV Kw xG G5|-;refine(K7.o _).mono ?_;rintro e w3 ⟨rfl,hb⟩;clear K7;have HO:=G5;clear G5;replace aZ:=bZ hb aZ;replace HB:=dW HB hb;replace HO:=lV HO hb;replace wV:=bZ hb wV;replace Kw:=bZ hb Kw;have ne1:¬(w.heap.size=g8):=by have:=xG.o;omega
   have Zi:¬(w.heap.size=g8+1):=by have:=xG.o;omega
   cases hbb:(bY (df ⟨l,none⟩).2).bad with
   |some n=>
    have U7:mZ s (bY (df ⟨l,none⟩).2)=.agg #[.string s,.int .i64 ((s.size-n:Nat):Int),.bool true]:=jT hbb;rw[U7];have hres:=UX.o;rw[hbb] at hres;have HF:=ai (fun e w' (ho:lM w ((s.size-n:Nat):Int) 2 e w')=>Qs.o n e w' hres ho);generalize ((s.size-n:Nat):Int)=i3 at HF|-;clear hres hbb U7;obtain⟨c0,c1,c2,f0,f1,f2⟩:=aj aZ.o;obtain⟨d0,d1,d2,g0,g1,g2⟩:=aj wV.o;obtain⟨x0,x1,x2,x3,x4,y0,y1,y2,y3,y4⟩:=aM Kw.o;go_wp2_with fail
    go_quiet (fail)
    go_wp2
    go_ret3
    have hbe:=aQ (g:=g8) HB.o (by have:=xG.o;omega) s i3 true;exact HF.o _ _ ⟨rfl,ah hbe _⟩
   |none=>
    obtain⟨L,hbe⟩:∃L,bY (df ⟨l,none⟩).2=⟨L,none⟩:=⟨_,EI hbb⟩
    have hxe:=HXE.o hbb;obtain⟨M,hM⟩:=HSK.o L hbe;have hres:=UX.o;have hle:=PE.o;have hok:=Xg.o;rw[hbb,<-hxe] at hres;rw[hbe] at hres hle hok|-;rw[gW];simp only at hres hle;have hLs:L.length<=s.size:=tT hok;obtain⟨i3,hi3⟩:∃i,s.size-L.length=i:=⟨_,rfl⟩
    rw[hi3];have HI3:=ai (And.intro hi3 hLs);have JU:=ai hres;have HM:=ai hM;have gI:=ai hok;have HLL:=ai (Nat.le_trans hle.2 hle.1);clear hbb hbe hxe hM hres hle hok hi3 hLs HXE HSK UX PE Xg;obtain⟨c0,c1,c2,f0,f1,f2⟩:=aj aZ.o;obtain⟨d0,d1,d2,g0,g1,g2⟩:=aj wV.o;obtain⟨x0,x1,x2,x3,x4,y0,y1,y2,y3,y4⟩:=aM Kw.o;go_upto_region 10 with (fail)
    clear c0 c1 c2 f0 f1 f2;clear d0 d1 d2 g0 g1 g2 x0 x1 x2 x3 x4 y0 y1 y2 y3 y4;have Bp:=ai (eO aZ.o ne1 s (i3:Int) false);have k8_:=ai (fD wV.o s (i3:Int) false);have k9_:=ai (eO Kw.o (show g8+1≠g8 by omega) s (i3:Int) false);have n_:=ai (aQ (g:=g8) HB.o (by have:=xG.o;omega) s (i3:Int) false);have o_:=ai (Kd.gK (p:=⟨g8,2,none⟩) (Kd.gK (p:=⟨g8,1,none⟩) (Kd.gK (p:=⟨g8,0,none⟩) HO.o (fun k hk=>hk.2.1) (.string s)) (fun k hk=>hk.2.1) (.int .i64 (i3:Int))) (fun k hk=>hk.2.1) (.bool false));clear aZ wV Kw HB HO;have aZ:=Bp;have wV:=k8_;have Kw:=k9_;have HB:=n_;have G5:=ai (Kd.dD o_.o (ok':=fun k=>k≠w.heap.size∧k≠g8) (fun k hk=>⟨hk.1,hk.2.1⟩));clear Bp k8_ k9_ n_ o_;generalize ((w3.setCell ⟨g8,0,none⟩ (.string s)).setCell ⟨g8,1,none⟩ (.int .i64 (i3:Int))).setCell ⟨g8,2,none⟩ (.bool false)=w4 at aZ wV Kw HB G5|-;have xG:=ai (And.intro xG.o (And.intro (aI wV.o) (aI aZ.o)));have HO:=G5;obtain⟨c0,c1,c2,f0,f1,f2⟩:=aj aZ.o;obtain⟨d0,d1,d2,g0,g1,g2⟩:=aj wV.o;obtain⟨x0,x1,x2,x3,x4,y0,y1,y2,y3,y4⟩:=aM Kw.o;by_cases hL:L= []
    ·have he:((i3:Int)==(s.size:Int))=true:=by have h:=HI3.o.1;rw[hL] at h;simp at h;simp[h]
     have hres:=JU.o;rw[if_pos hL] at hres;have HF:=ai (fun e w' (ho:qp w (acc++ [x]) e w')=>Vb.o (acc++ [x]) e w' hres ho);clear hres hL;go_wp2_with ((with_reducible refine bn (b:=.append) (xs:= #[.tmp 35,.tmp 37]) rfl ?_);at_builtin;go_loud (refine Kd.di vI (w0:=w) w.heap.size rfl (.tmp 35) (.tmp 37) 157 231 (.agg #[(.string ⟨#[]⟩),(.int .i64 0),(.int .i64 0),(.int .i64 0),(.string ⟨#[]⟩)]) 56 rfl underlying157 Jy rfl (by decide) (by omega) _ (acc.map rf) (rf x) [.string ⟨x.name.toArray⟩,.int .i64 x.op,.int .i64 x.lo,.int .i64 x.hi,.string ⟨x.str.toArray⟩] (fun k=>k≠w.heap.size∧k≠g8) (fun _=>False) rfl ?aX ?aP (fun _ hk=>hk.elim) ?aF ?aO HB.o HB.o.size ?aL ?_;(case aX=>first|rfl|(go_simp;done)|(go_simp;rfl));(case aP=>exact EP _ _ _ (rf x));(case aF=>exact(fun k hk=>by have:=xG.o;omega));(case aO=>exact(Kd.dD (Kd.iL G5.o) (fun k hk=>hk.1)));(case aL=>have:=HN.o;simp;omega);intro v9 w9 ho hb hg hat;rw[show acc.map rf++ [rf x]=(acc++ [x]).map rf by simp] at ho;replace HO:=ai ho;replace HB:=ai hb;replace aZ:=ai ((hg.block _ (aI aZ.o) (fun e=>(G5.o.1 _ e.symm).1 rfl)).trans aZ.o);replace wV:=ai ((hg.block _ (aI wV.o) (fun e=>(G5.o.1 _ e.symm).2 rfl)).trans wV.o);clear G5 ho hb hg hat Kw c0 c1 c2 f0 f1 f2 d0 d1 d2 g0 g1 g2 x0 x1 x2 x3 x4 y0 y1 y2 y3 y4;obtain⟨c0,c1,c2,f0,f1,f2⟩:=aj aZ.o;obtain⟨d0,d1,d2,g0,g1,g2⟩:=aj wV.o))
     go_ret3
     exact HF.o _ _ ⟨_,rfl,Kd.dD HO.o (fun _ _=>trivial),HB.o⟩
    ·have hL0:0<L.length:=List.length_pos_iff.mpr hL;have he:((i3:Int)==(s.size:Int))=false:=by have h:=HI3.o;simp;omega
     have hres:=JU.o;rw[if_neg hL] at hres;have JU:=ai hres;have hwd:=fun w=>nJ s ⟨L,none⟩ w hs gI.o
     rw[gW,HI3.o.1] at hwd;have BN:=jf gI.o;obtain⟨a,ha⟩:∃a,a=dC ⟨L,none⟩:=⟨_,rfl⟩
     rw[<-ha] at hwd BN;have HA:=ai ha;obtain⟨i5,hi5⟩:∃x,x=Db s a.2:=⟨_,rfl⟩
     obtain⟨b5,hb5⟩:∃x,x=a.2.bad.isSome:=⟨_,rfl⟩
     have WJ:mZ s a.2=.agg #[.string s,.int .i64 i5,.bool b5]:=by rw[hi5,hb5];rfl
     rw[WJ] at hwd;have XC:=ai hwd;have GY:=ai hi5;have RN:=ai hb5;have Ca:=ai BN;clear hL hL0 hres hwd BN ha hi5 hb5 WJ;go_wp2_with ((with_reducible refine bn (b:=.append) (xs:= #[.tmp 35,.tmp 37]) rfl ?_);at_builtin;go_loud (refine Kd.di vI (w0:=w) w.heap.size rfl (.tmp 35) (.tmp 37) 157 231 (.agg #[(.string ⟨#[]⟩),(.int .i64 0),(.int .i64 0),(.int .i64 0),(.string ⟨#[]⟩)]) 56 rfl underlying157 Jy rfl (by decide) (by omega) _ (acc.map rf) (rf x) [.string ⟨x.name.toArray⟩,.int .i64 x.op,.int .i64 x.lo,.int .i64 x.hi,.string ⟨x.str.toArray⟩] (fun k=>k≠w.heap.size∧k≠g8) (fun _=>False) rfl ?aX ?aP (fun _ hk=>hk.elim) ?aF ?aO HB.o HB.o.size ?aL ?_;(case aX=>first|rfl|(go_simp;done)|(go_simp;rfl));(case aP=>exact EP _ _ _ (rf x));(case aF=>exact(fun k hk=>by have:=xG.o;omega));(case aO=>exact(Kd.dD (Kd.iL G5.o) (fun k hk=>hk.1)));(case aL=>have:=HN.o;simp;omega);intro v9 w9 ho hb hg hat;rw[show acc.map rf++ [rf x]=(acc++ [x]).map rf by simp] at ho;replace HO:=ai ho;replace HB:=ai hb;replace aZ:=ai ((hg.block _ (aI aZ.o) (fun e=>(G5.o.1 _ e.symm).1 rfl)).trans aZ.o);replace wV:=ai ((hg.block _ (aI wV.o) (fun e=>(G5.o.1 _ e.symm).2 rfl)).trans wV.o);clear G5 ho hb hg hat Kw c0 c1 c2 f0 f1 f2 d0 d1 d2 g0 g1 g2 x0 x1 x2 x3 x4 y0 y1 y2 y3 y4;obtain⟨c0,c1,c2,f0,f1,f2⟩:=aj aZ.o;obtain⟨d0,d1,d2,g0,g1,g2⟩:=aj wV.o))
     refine(XC.o _).mono ?_;rintro e Lr ⟨rfl,hb⟩;clear XC;replace wV:=bZ hb wV;clear d0 d1 d2 g0 g1 g2;clear c0 c1 c2 f0 f1 f2;replace aZ:=bZ hb aZ;replace HB:=dW HB hb;replace HO:=lV HO hb;go_upto_region 16 with (fail)
     have hb:=ae (Below.refl Lr.heap.size Lr) (.cells #[.string s,.int .i64 i5,.bool b5] 230);have ni:ay ((Lr.alloc (.cells #[.string s,.int .i64 i5,.bool b5] 230)).heap[Lr.heap.size]? =some (ik s i5 b5)):=⟨heap_alloc_new Lr _⟩
     have Cr:=ai (aI aZ.o);replace wV:=bZ hb wV;replace aZ:=bZ hb aZ;replace HB:=dW HB hb;replace HO:=lV HO hb;generalize Lr.alloc (.cells #[.string s,.int .i64 i5,.bool b5] 230)=rC at aZ wV ni HB HO|-;generalize Lr.heap.size=g10 at ni Cr|-;obtain⟨c0,c1,c2,f0,f1,f2⟩:=aj aZ.o;obtain⟨d0,d1,d2,g0,g1,g2⟩:=aj wV.o;obtain⟨z0,z1,z2,z3,z4,z5⟩:=aj ni.o;cases hab:a.2.bad with
     |some n=>
      have hb5:b5=true:=by rw[RN.o,hab];rfl
      subst hb5;have hbad:(gJ ⟨L,none⟩).bad=some L.length:=Ki HM.o (by rw[<-HA.o];exact hab);have hres:=JU.o;unfold PN at hres;rw[hbad] at hres;have HF:=ai (fun e w' (ho:lM w ((s.size-L.length:Nat):Int) 2 e w')=>Qs.o L.length e w' hres ho);rw[HI3.o.1] at HF;clear hab hbad hres;go_wp2_with fail
      go_quiet (fail)
      go_wp2
      go_ret3
      exact HF.o _ _ ⟨rfl,ah HB.o _⟩
     |none=>
      have hb5:b5=false:=by rw[RN.o,hab];rfl
      subst hb5;by_cases LM:a.1= [97,110,100]
      ·have q9:(a.1== [97,110,100])=true:=by simpa using LM
       have hand:gJ ⟨L,none⟩=a.2:=by unfold gJ;rw[<-HA.o,if_pos LM]
       have hres:=JU.o;rw[hand] at hres;unfold PN at hres;rw[hab] at hres;have hlt2:a.2.l.length<L.length:=by rw[<-hand];exact qQ rfl (by rw[hand];exact hab)
       have hi5:i5=((s.size-a.2.l.length:Nat):Int):=by rw[GY.o];unfold Db;rw[hab];rfl
       have KW:=ai (And.intro hres (And.intro hlt2 (And.intro hi5 Ca.o.1)));clear hab LM hand hres hlt2 hi5;go_wp2_with fail
       go_roundg (gk-1)
       case measure=>have:=HN.o;have:=KW.o;have:=HLL.o;omega
       case rel=>exact⟨acc++ [x],a.2.l,j+1,⟨KW.o.2.2.2,KW.o.1.symm,by have:=HN.o;have:=KW.o;have:=HLL.o;omega,by have:=HN.o;simp;omega,by have:=HN.o;have:=KW.o;have:=HLL.o;omega⟩,by first|rfl|(congr 1;omega),⟨Kd.gK (p:=⟨w.heap.size,2,none⟩) (Kd.gK (p:=⟨w.heap.size,1,none⟩) (Kd.gK (p:=⟨w.heap.size,0,none⟩) (Kd.dD HO.o (ok':=fun k=>k≠w.heap.size) (fun k hk=>hk.1)) (fun k hk=>hk) _) (fun k hk=>hk) _) (fun k hk=>hk) _⟩,⟨by rw[<-KW.o.2.2.1];exact fD aZ.o s i5 false⟩,⟨aQ (g:=w.heap.size) HB.o (Nat.le_refl _) s i5 false⟩⟩
      ·have q9:(a.1== [97,110,100])=false:=by simpa using LM
       have hbad:(gJ ⟨L,none⟩).bad=some L.length:=K6 (by rw[<-HA.o];exact hab) (by rw[<-HA.o];exact LM);have hres:=JU.o;unfold PN at hres;rw[hbad] at hres;have HF:=ai (fun e w' (ho:lM w ((s.size-L.length:Nat):Int) 2 e w')=>Qs.o L.length e w' hres ho);rw[HI3.o.1] at HF;clear hab LM hbad hres;go_wp2_with fail
       go_quiet (fail)
       go_wp2
       go_ret3
       exact HF.o _ _ ⟨rfl,ah HB.o _⟩
theorem Ky(l acc t:List UInt8)(h:(dR l acc).1=some t):t.length<=acc.length+l.length:=by
 induction hn:l.length using Nat.strongRecOn generalizing l acc with
 |_ n ih=>
  match l with
  | []=>rw[qO] at h;cases h
  |c::r=>
   by_cases h1:c=34
   ·rw[xm _ _ h1] at h;injection h with h;subst h;omega
   ·by_cases h2:c=92
    ·match r with
     | []=>rw[sN _ h2] at h;cases h
     |d::r'=>
      by_cases h3:d=34∨d=92
      ·rw[qo _ _ h2 h3] at h;have:=ih r'.length (by simp at hn;omega) r' _ h rfl;simp at this hn;omega
      ·rw[uk _ _ h2 h3] at h;cases h
    ·by_cases h3:32<=c∧c<=126
     ·rw[xw _ _ h1 h2 h3] at h;have:=ih r.length (by simp at hn;omega) r _ h rfl;simp at this hn;omega
     ·rw[tq _ _ h1 h2 h3] at h;cases h
theorem zb(m:List UInt8)(st:St):(dO m st).l.length<=st.l.length:=by
 unfold dO;split
 ·exact Nat.le_refl _
 ·have:=(jJ st.l).length_le;unfold lC;split
  ·simp only[List.length_drop];omega
  ·exact this
theorem AY(st:St):(il st).1.length<=st.l.length:=by
 have h1:=zb [34] st;unfold il;split
 ·exact Nat.zero_le _
 ·cases ht:dR (dO [34] st).l [] with
  |mk a r=>
   cases a with
   |none=>exact Nat.zero_le _
   |some t=>
    have:=Ky _ _ t (by rw[ht]);simp only[mW];simp at this;omega
theorem KI(l:List UInt8):(df ⟨l,none⟩).1.str.length<=l.length:=by
 have h1:(dC ⟨l,none⟩).2.l.length<=l.length:=(jf (w:=l) (st:=⟨l,none⟩) ⟨List.suffix_refl _,fun n hn=>by cases hn⟩).1.length_le;have h2:=jL (dC ⟨l,none⟩).2;unfold df;simp only;split
 ·have:=AY (dO [61] (bY (dC ⟨l,none⟩).2));have:=zb [61] (bY (dC ⟨l,none⟩).2);simp only;omega
 ·split
  ·have:=AY (dO [94,61] (bY (dC ⟨l,none⟩).2));have:=zb [94,61] (bY (dC ⟨l,none⟩).2);simp only;omega
  ·exact Nat.zero_le _
theorem EE:∀(n:Nat) (l:List UInt8) (acc xs:List Pr),l.length<=n->PS l acc=.inl xs->∀x∈xs,x∈acc∨x.str.length<=l.length
 |n,l,acc,xs,hn,h=>by
  have h0:=KI l;rw[L9] at h;cases hb:(bY (df ⟨l,none⟩).2).bad with
  |some m=>rw[hb] at h;cases h
  |none=>
   rw[hb] at h;simp only at h;by_cases hs:(bY (df ⟨l,none⟩).2).l= []
   ·rw[if_pos hs] at h;cases h
    intro x hx;rcases List.mem_append.1 hx with hx|hx
    ·exact Or.inl hx
    ·rw[List.mem_singleton.1 hx];exact Or.inr h0
   ·rw[if_neg hs] at h;unfold PN at h;cases ha:(gJ (bY (df ⟨l,none⟩).2)).bad with
    |some m=>rw[ha] at h;cases h
    |none=>
     rw[ha] at h;have h1:=qQ hb ha;have h2:=jL (df ⟨l,none⟩).2;have h3:(df ⟨l,none⟩).2.l.length<=l.length:=nY (st:=⟨l,none⟩) rfl
     match n with
     |0=>omega
     |n+1=>
      have h4:=EE n _ _ _ (by omega) h;intro x hx;rcases h4 x hx with h5|h5
      ·rcases List.mem_append.1 h5 with h6|h6
       ·exact Or.inl h6
       ·rw[List.mem_singleton.1 h6];exact Or.inr h0
      ·exact Or.inr (by omega)
theorem DK{s:ByteArray}{xs:List Pr}(h:fH s=.inl xs):∀x∈xs,x.str.length<=300:=by
 obtain⟨h1,h2⟩:=Aq h;intro x hx;rcases EE _ _ _ _ (Nat.le_refl _) h2 x hx with h3|h3
 ·cases h3
 ·rw[eD] at h3;omega
theorem lY{s:ByteArray}{xs:List Pr}(h:fH s=.inl xs):∀p∈xs.map toP,p.f4.size<=1000000000:=by
 intro p hp;obtain⟨x,hx,rfl⟩:=List.mem_map.1 hp;have:=DK h x hx;have e:(toP x).f4.size=x.str.length:=by
  show (x.str.toArray).size=_;rw[List.size_toArray]
 omega
open Go.Maps
open Value renaming slice->Vs
theorem KU{w w':World}{s:ByteArray}{e:Ending}{at_ c:Int}(h:fO w s e w')(hr:fH s=.inr (at_,c)):lM w at_ c e w':=by
 unfold fO at h;rw[hr] at h;exact h
theorem vP{w w':World}{s:ByteArray}{e:Ending}{xs:List Pr}(h:fO w s e w')(hr:fH s=.inl xs):qp w xs e w':=by
 unfold fO at h;rw[hr] at h;exact h
theorem DR{s:ByteArray}{at_ c:Int}(h:fH s=.inr (at_,c)):(c==0)=false:=by
 unfold fH at h;split at h
 ·injection h with h;injection h with _ h;subst h;rfl
 ·split at h
  ·cases h
  ·injection h with h;injection h with _ h;subst h;rfl
theorem yT(xs:List Pr):xs.map rf=(xs.map toP).map toQ:=by
 rw[List.map_map];rfl
theorem Ld{S:List SA}{s:ByteArray}{c:Int}(h:fZ S s=.inr c):(∃a,fH s=.inr (a,c))∨∃xs i,fH s=.inl xs∧cu S (xs.map toP)=some i∧c=3:=by
 unfold fZ at h;split at h
 ·next z hz=>
  injection h with h;exact Or.inl ⟨z.1,by rw[hz,<-h]⟩
 ·next xs hz=>
  split at h
  ·cases h
  ·next i hi=>
   injection h with h;exact Or.inr ⟨xs,i,hz,hi,h.symm⟩
theorem uY{S:List SA}{s:ByteArray}{xs:List Pr}(h:fZ S s=.inl xs):fH s=.inl xs∧cu S (xs.map toP)=none:=by
 unfold fZ at h;split at h
 ·cases h
 ·next ys hz=>
  split at h
  ·next hi=>
   injection h with h;subst h;exact⟨hz,hi⟩
  ·cases h
theorem Pz(b:Nat)(S:List SA)(P:Nd)(h:Bc)(s:ByteArray)(c:Int)(w:World)(hI:iU b w S P h)(hb:b<=w.heap.size)(hS:S.length<=1000)(hs:s.size<=1000)(hx:fZ S s=.inr c):
 Calls prog 26 #[nV h P,.string s] w fun e w'=>e=.returned (.tuple #[nV h P,.int .i64 0,.int .i64 c])∧Below w.heap.size w w':=by
 obtain⟨v1,v2,v5,v6⟩:=h;obtain⟨B1,d1,e1⟩:=Kd.dE hI.sch;rw[List.length_map] at e1;obtain⟨n1,hn1⟩:∃n1,n1=S.length:=⟨_,rfl⟩
 rw[<-hn1] at e1;obtain rfl:v1=.slice B1 n1 d1:=e1;obtain⟨A2,c2,e2⟩:=Kd.dE hI.sub;rw[List.length_map] at e2;obtain⟨n,hn⟩:∃n,n=P.subs.length:=⟨_,rfl⟩
 rw[<-hn] at e2;obtain rfl:v2=.slice A2 n c2:=e2;obtain⟨B5,n5,d5,rfl⟩:∃A n c,v5=Vs A n c:=bX hI.opn;obtain⟨B6,n6,d6,rfl⟩:∃A n c,v6=Vs A n c:=bX hI.box;have HI:=ai hI;have l9:=ai hb;have HN:=ai (And.intro hn hn1);have HL:=ai (show n1<=1000 by omega);have Lh:=ai (show Kd.C VO w B1 n1 (S.map toA) from by have h1:=(Kd.bN hI.sch).2.2;rw[List.length_map,<-hn1,mD] at h1;exact h1);have BI:=ai (fun W=>oQ s W hs);have BO:=ai hx;unfold nV AR;show Calls _ _ #[.agg #[.slice B1 n1 d1,.slice A2 n c2,.int .i64 P.last,.int .i64 P.seq,.slice B5 n5 d5,.slice B6 n6 d6,.int .i64 P.lost],.string s] w _;generalize P.last=pl;generalize P.seq=pq;generalize P.lost=po;clear hI hb hS hn hn1 hs hx;go_enter func26,ntmps26
 go_upto_region 1 with (fail)
 have hb3:=ae (ae (Below.refl w.heap.size w) (.cells #[Vs B1 n1 d1,Vs A2 n c2,.int .i64 pl,.int .i64 pq,Vs B5 n5 d5,Vs B6 n6 d6,.int .i64 po] dY)) (.cells #[.slice none 0 0,.slice none 0 0,.int .i64 0,.int .i64 0,.slice none 0 0,.slice none 0 0,.int .i64 0] dY);obtain⟨kb,kr⟩:=gQ w.heap (.cells #[Vs B1 n1 d1,Vs A2 n c2,.int .i64 pl,.int .i64 pq,Vs B5 n5 d5,Vs B6 n6 d6,.int .i64 po] dY (0,0)) (.cells #[.slice none 0 0,.slice none 0 0,.int .i64 0,.int .i64 0,.slice none 0 0,.slice none 0 0,.int .i64 0] dY (0,0));have HB:=ai hb3;have bD:=ai (show ((w.alloc (.cells #[Vs B1 n1 d1,Vs A2 n c2,.int .i64 pl,.int .i64 pq,Vs B5 n5 d5,Vs B6 n6 d6,.int .i64 po] dY)).alloc (.cells #[.slice none 0 0,.slice none 0 0,.int .i64 0,.int .i64 0,.slice none 0 0,.slice none 0 0,.int .i64 0] dY)).heap[w.heap.size]? =_ from kb);have bA:=ai (show ((w.alloc (.cells #[Vs B1 n1 d1,Vs A2 n c2,.int .i64 pl,.int .i64 pq,Vs B5 n5 d5,Vs B6 n6 d6,.int .i64 po] dY)).alloc (.cells #[.slice none 0 0,.slice none 0 0,.int .i64 0,.int .i64 0,.slice none 0 0,.slice none 0 0,.int .i64 0] dY)).heap[w.heap.size+1]? =_ from kr);clear kb kr hb3;generalize (w.alloc (.cells #[Vs B1 n1 d1,Vs A2 n c2,.int .i64 pl,.int .i64 pq,Vs B5 n5 d5,Vs B6 n6 d6,.int .i64 po] dY)).alloc (.cells #[.slice none 0 0,.slice none 0 0,.int .i64 0,.int .i64 0,.slice none 0 0,.slice none 0 0,.int .i64 0] dY)=W0 at HB bD bA|-;obtain⟨gr,hgr⟩:∃g,g=w.heap.size+1:=⟨_,rfl⟩
 obtain⟨gb,hgb⟩:∃g,g=w.heap.size:=⟨_,rfl⟩
 rw[<-hgr] at bA;rw[<-hgb] at bD;rw[<-hgr,<-hgb];have HG:=ai (show w.heap.size<=gb∧w.heap.size<=gr∧gb≠gr by omega);clear hgr hgb;go_wp2_with fail
 refine(BI.o _).mono ?_;rintro e w1 hp;clear BI;rcases Ld BO.o with⟨at_,hr⟩|⟨xs,i,hr,lL,rfl⟩
 ·obtain⟨rfl,hb⟩:=KU hp hr;have hc0:=DR hr;have aet:(c != 0)=true:=by simpa using hc0
  clear hp hr BO;replace bD:=bZ hb bD;replace bA:=bZ hb bA;replace HB:=dW HB hb;clear hb;have x0:=bK bD.o;have x1:=bS bD.o;have x2:=dh bD.o;have x3:=dA bD.o;have x4:=dI bD.o;have x5:=eH bD.o;have x6:=fF bD.o;have y0:=bK bA.o;have y1:=bS bA.o;have y2:=dh bA.o;have y3:=dA bA.o;have y4:=dI bA.o;have y5:=eH bA.o;have y6:=fF bA.o;have f0:=af bA.o 0;have f1:=af bA.o 1;have f2:=af bA.o 2;have f3:=af bA.o 3;have f4:=af bA.o 4;have f5:=af bA.o 5;have f6:=af bA.o 6;go_wp2;have k6:=qd bA.o (Vs B1 n1 d1) (Vs A2 n c2) (Value.int .i64 pl) (Value.int .i64 pq) (Vs B5 n5 d5) (Vs B6 n6 d6) (Value.int .i64 po);have hoth:=fun k hk=>ek (w1) gr (Vs B1 n1 d1) (Vs A2 n c2) (Value.int .i64 pl) (Value.int .i64 pq) (Vs B5 n5 d5) (Vs B6 n6 d6) (Value.int .i64 po) k hk
  have hbf:=au (j:=6) (v:=(Value.int .i64 po)) (au (j:=5) (v:=(Vs B6 n6 d6)) (au (j:=4) (v:=(Vs B5 n5 d5)) (au (j:=3) (v:=(Value.int .i64 pq)) (au (j:=2) (v:=(Value.int .i64 pl)) (au (j:=1) (v:=(Vs A2 n c2)) (au (j:=0) (v:=(Vs B1 n1 d1)) HB.o HG.o.2.1) HG.o.2.1) HG.o.2.1) HG.o.2.1) HG.o.2.1) HG.o.2.1) HG.o.2.1;generalize hwq:((((((((w1).setCell ⟨gr,0,none⟩ (Vs B1 n1 d1)).setCell ⟨gr,1,none⟩ (Vs A2 n c2)).setCell ⟨gr,2,none⟩ (Value.int .i64 pl)).setCell ⟨gr,3,none⟩ (Value.int .i64 pq)).setCell ⟨gr,4,none⟩ (Vs B5 n5 d5)).setCell ⟨gr,5,none⟩ (Vs B6 n6 d6)).setCell ⟨gr,6,none⟩ (Value.int .i64 po))=w8 at k6 hbf hoth|-;clear hwq;have z0:=bK k6;have z1:=bS k6;have z2:=dh k6;have z3:=dA k6;have z4:=dI k6;have z5:=eH k6;have z6:=fF k6;have gT:=ai (And.intro hbf hoth);clear hbf hoth;refine bodyPost_ret (v:=.tuple #[.agg #[.slice B1 n1 d1,.slice A2 n c2,.int .i64 pl,.int .i64 pq,.slice B5 n5 d5,.slice B6 n6 d6,.int .i64 po],.int .i64 0,.int .i64 c]) (by simp[results,results26,go_sem,z0,z1,z2,z3,z4,z5,z6]) rfl ?_;exact⟨rfl,gT.o.1⟩
 ·obtain⟨v,rfl,ho,hbp⟩:=vP hp hr;rw[yT] at ho;have hcnt:(xs.map toP).length<=100000:=by have:=lG hr;simp;omega
  have hsz:=lY hr;obtain⟨xA,xc,rfl,JJ,JI⟩:=Kd.bB ho;rw[List.length_map] at JJ JI ho|-;obtain⟨xn,KA⟩:∃k,k=(xs.map toP).length:=⟨_,rfl⟩
  rw[<-KA] at JJ JI hcnt ho|-;have Aw:=ai (And.intro KA.symm (And.intro JJ (And.intro hcnt (And.intro hsz JI))));have RX:=ai (Kd.jr ho (Nat.le_trans l9.o HB.o.size));clear hp hr ho JJ JI hcnt hsz KA;replace bD:=bZ hbp bD;replace bA:=bZ hbp bA;replace HB:=dW HB hbp;clear hbp;have x0:=bK bD.o;go_wp2_with fail
  refine(kX B1 xA n1 xn d1 xc S (xs.map toP) w1 HN.o.2.symm Aw.o.1 (Kd.aY Lh.o HB.o) Aw.o.2.2.2.2 (by have:=HL.o;omega) Aw.o.2.2.1 Aw.o.2.1 Aw.o.2.2.2.1).mono ?_;rintro e w2 ⟨rfl,hbf⟩;clear x0;replace bD:=bZ hbf bD;replace bA:=bZ hbf bA;replace HB:=dW HB hbf;have Y4:=lV RX hbf;clear hbf Aw RX;rw[lL];have q1:decide (0<=lv (some i))=true:=decide_eq_true (by show (0:Int)<=(i:Int);omega);clear lL BO;have x0:=bK bD.o;have x1:=bS bD.o;have x2:=dh bD.o;have x3:=dA bD.o;have x4:=dI bD.o;have x5:=eH bD.o;have x6:=fF bD.o;have y0:=bK bA.o;have y1:=bS bA.o;have y2:=dh bA.o;have y3:=dA bA.o;have y4:=dI bA.o;have y5:=eH bA.o;have y6:=fF bA.o;have f0:=af bA.o 0;have f1:=af bA.o 1;have f2:=af bA.o 2;have f3:=af bA.o 3;have f4:=af bA.o 4;have f5:=af bA.o 5;have f6:=af bA.o 6;go_wp2;have k6:=qd bA.o (Vs B1 n1 d1) (Vs A2 n c2) (Value.int .i64 pl) (Value.int .i64 pq) (Vs B5 n5 d5) (Vs B6 n6 d6) (Value.int .i64 po);have hoth:=fun k hk=>ek (w2) gr (Vs B1 n1 d1) (Vs A2 n c2) (Value.int .i64 pl) (Value.int .i64 pq) (Vs B5 n5 d5) (Vs B6 n6 d6) (Value.int .i64 po) k hk
  have hbf:=au (j:=6) (v:=(Value.int .i64 po)) (au (j:=5) (v:=(Vs B6 n6 d6)) (au (j:=4) (v:=(Vs B5 n5 d5)) (au (j:=3) (v:=(Value.int .i64 pq)) (au (j:=2) (v:=(Value.int .i64 pl)) (au (j:=1) (v:=(Vs A2 n c2)) (au (j:=0) (v:=(Vs B1 n1 d1)) HB.o HG.o.2.1) HG.o.2.1) HG.o.2.1) HG.o.2.1) HG.o.2.1) HG.o.2.1) HG.o.2.1;generalize hwq:((((((((w2).setCell ⟨gr,0,none⟩ (Vs B1 n1 d1)).setCell ⟨gr,1,none⟩ (Vs A2 n c2)).setCell ⟨gr,2,none⟩ (Value.int .i64 pl)).setCell ⟨gr,3,none⟩ (Value.int .i64 pq)).setCell ⟨gr,4,none⟩ (Vs B5 n5 d5)).setCell ⟨gr,5,none⟩ (Vs B6 n6 d6)).setCell ⟨gr,6,none⟩ (Value.int .i64 po))=w8 at k6 hbf hoth|-;clear hwq;have z0:=bK k6;have z1:=bS k6;have z2:=dh k6;have z3:=dA k6;have z4:=dI k6;have z5:=eH k6;have z6:=fF k6;have gT:=ai (And.intro hbf hoth);clear hbf hoth;refine bodyPost_ret (v:=.tuple #[.agg #[.slice B1 n1 d1,.slice A2 n c2,.int .i64 pl,.int .i64 pq,.slice B5 n5 d5,.slice B6 n6 d6,.int .i64 po],.int .i64 0,.int .i64 3]) (by simp[results,results26,go_sem,z0,z1,z2,z3,z4,z5,z6]) rfl ?_;exact⟨rfl,gT.o.1⟩
theorem KV(b:Nat)(S:List SA)(P:Nd)(h:Bc)(s:ByteArray)(xs:List Pr)(w:World)(hI:iU b w S P h)(hb:b<=w.heap.size)(hS:S.length<=1000)(hs:s.size<=1000)(hx:fZ S s=.inl xs)(h16:16<=P.subs.length):
 Calls prog 26 #[nV h P,.string s] w fun e w'=>e=.returned (.tuple #[nV h P,.int .i64 0,.int .i64 4])∧Below w.heap.size w w':=by
 obtain⟨v1,v2,v5,v6⟩:=h;obtain⟨B1,d1,e1⟩:=Kd.dE hI.sch;rw[List.length_map] at e1;obtain⟨n1,hn1⟩:∃n1,n1=S.length:=⟨_,rfl⟩
 rw[<-hn1] at e1;obtain rfl:v1=.slice B1 n1 d1:=e1;obtain⟨A2,c2,e2⟩:=Kd.dE hI.sub;rw[List.length_map] at e2;obtain⟨n,hn⟩:∃n,n=P.subs.length:=⟨_,rfl⟩
 rw[<-hn] at e2;obtain rfl:v2=.slice A2 n c2:=e2;obtain⟨B5,n5,d5,rfl⟩:∃A n c,v5=Vs A n c:=bX hI.opn;obtain⟨B6,n6,d6,rfl⟩:∃A n c,v6=Vs A n c:=bX hI.box;have HI:=ai hI;have l9:=ai hb;have HN:=ai (And.intro hn hn1);have HL:=ai (show n1<=1000 by omega);have Lh:=ai (show Kd.C VO w B1 n1 (S.map toA) from by have h1:=(Kd.bN hI.sch).2.2;rw[List.length_map,<-hn1,mD] at h1;exact h1);have BI:=ai (fun W=>oQ s W hs);have BO:=ai hx;unfold nV AR;show Calls _ _ #[.agg #[.slice B1 n1 d1,.slice A2 n c2,.int .i64 P.last,.int .i64 P.seq,.slice B5 n5 d5,.slice B6 n6 d6,.int .i64 P.lost],.string s] w _;generalize P.last=pl;generalize P.seq=pq;generalize P.lost=po;have r1:decide ((15:Int)<(n:Int))=true:=decide_eq_true (by omega);have r2:decide (15<n)=true:=decide_eq_true (by omega);clear hI hb hS hn hn1 hs hx h16;go_enter func26,ntmps26
 go_upto_region 1 with (fail)
 have hb3:=ae (ae (Below.refl w.heap.size w) (.cells #[Vs B1 n1 d1,Vs A2 n c2,.int .i64 pl,.int .i64 pq,Vs B5 n5 d5,Vs B6 n6 d6,.int .i64 po] dY)) (.cells #[.slice none 0 0,.slice none 0 0,.int .i64 0,.int .i64 0,.slice none 0 0,.slice none 0 0,.int .i64 0] dY);obtain⟨kb,kr⟩:=gQ w.heap (.cells #[Vs B1 n1 d1,Vs A2 n c2,.int .i64 pl,.int .i64 pq,Vs B5 n5 d5,Vs B6 n6 d6,.int .i64 po] dY (0,0)) (.cells #[.slice none 0 0,.slice none 0 0,.int .i64 0,.int .i64 0,.slice none 0 0,.slice none 0 0,.int .i64 0] dY (0,0));have HB:=ai hb3;have bD:=ai (show ((w.alloc (.cells #[Vs B1 n1 d1,Vs A2 n c2,.int .i64 pl,.int .i64 pq,Vs B5 n5 d5,Vs B6 n6 d6,.int .i64 po] dY)).alloc (.cells #[.slice none 0 0,.slice none 0 0,.int .i64 0,.int .i64 0,.slice none 0 0,.slice none 0 0,.int .i64 0] dY)).heap[w.heap.size]? =_ from kb);have bA:=ai (show ((w.alloc (.cells #[Vs B1 n1 d1,Vs A2 n c2,.int .i64 pl,.int .i64 pq,Vs B5 n5 d5,Vs B6 n6 d6,.int .i64 po] dY)).alloc (.cells #[.slice none 0 0,.slice none 0 0,.int .i64 0,.int .i64 0,.slice none 0 0,.slice none 0 0,.int .i64 0] dY)).heap[w.heap.size+1]? =_ from kr);clear kb kr hb3;generalize (w.alloc (.cells #[Vs B1 n1 d1,Vs A2 n c2,.int .i64 pl,.int .i64 pq,Vs B5 n5 d5,Vs B6 n6 d6,.int .i64 po] dY)).alloc (.cells #[.slice none 0 0,.slice none 0 0,.int .i64 0,.int .i64 0,.slice none 0 0,.slice none 0 0,.int .i64 0] dY)=W0 at HB bD bA|-;obtain⟨gr,hgr⟩:∃g,g=w.heap.size+1:=⟨_,rfl⟩
 obtain⟨gb,hgb⟩:∃g,g=w.heap.size:=⟨_,rfl⟩
 rw[<-hgr] at bA;rw[<-hgb] at bD;rw[<-hgr,<-hgb];have HG:=ai (show w.heap.size<=gb∧w.heap.size<=gr∧gb≠gr by omega);clear hgr hgb;go_wp2_with fail
 refine(BI.o _).mono ?_;rintro e w1 hp;clear BI;obtain⟨hr,lL⟩:=uY BO.o;obtain⟨v,rfl,ho,hbp⟩:=vP hp hr;rw[yT] at ho;have hcnt:(xs.map toP).length<=100000:=by have:=lG hr;simp;omega
 have hsz:=lY hr;obtain⟨xA,xc,rfl,JJ,JI⟩:=Kd.bB ho;rw[List.length_map] at JJ JI ho|-;obtain⟨xn,KA⟩:∃k,k=(xs.map toP).length:=⟨_,rfl⟩
 rw[<-KA] at JJ JI hcnt ho|-;have Aw:=ai (And.intro KA.symm (And.intro JJ (And.intro hcnt (And.intro hsz JI))));have RX:=ai (Kd.jr ho (Nat.le_trans l9.o HB.o.size));clear hp hr ho JJ JI hcnt hsz KA;replace bD:=bZ hbp bD;replace bA:=bZ hbp bA;replace HB:=dW HB hbp;clear hbp;have x0:=bK bD.o;go_wp2_with fail
 refine(kX B1 xA n1 xn d1 xc S (xs.map toP) w1 HN.o.2.symm Aw.o.1 (Kd.aY Lh.o HB.o) Aw.o.2.2.2.2 (by have:=HL.o;omega) Aw.o.2.2.1 Aw.o.2.1 Aw.o.2.2.2.1).mono ?_;rintro e w2 ⟨rfl,hbf⟩;clear x0;replace bD:=bZ hbf bD;replace bA:=bZ hbf bA;replace HB:=dW HB hbf;have Y4:=lV RX hbf;clear hbf Aw RX;rw[lL];have q1:decide (0<=lv none)=false:=by decide
 clear lL BO;have x0:=bK bD.o;have x1:=bS bD.o;have x2:=dh bD.o;have x3:=dA bD.o;have x4:=dI bD.o;have x5:=eH bD.o;have x6:=fF bD.o;have y0:=bK bA.o;have y1:=bS bA.o;have y2:=dh bA.o;have y3:=dA bA.o;have y4:=dI bA.o;have y5:=eH bA.o;have y6:=fF bA.o;have f0:=af bA.o 0;have f1:=af bA.o 1;have f2:=af bA.o 2;have f3:=af bA.o 3;have f4:=af bA.o 4;have f5:=af bA.o 5;have f6:=af bA.o 6;go_wp2;have k6:=qd bA.o (Vs B1 n1 d1) (Vs A2 n c2) (Value.int .i64 pl) (Value.int .i64 pq) (Vs B5 n5 d5) (Vs B6 n6 d6) (Value.int .i64 po);have hoth:=fun k hk=>ek (w2) gr (Vs B1 n1 d1) (Vs A2 n c2) (Value.int .i64 pl) (Value.int .i64 pq) (Vs B5 n5 d5) (Vs B6 n6 d6) (Value.int .i64 po) k hk
 have hbf:=au (j:=6) (v:=(Value.int .i64 po)) (au (j:=5) (v:=(Vs B6 n6 d6)) (au (j:=4) (v:=(Vs B5 n5 d5)) (au (j:=3) (v:=(Value.int .i64 pq)) (au (j:=2) (v:=(Value.int .i64 pl)) (au (j:=1) (v:=(Vs A2 n c2)) (au (j:=0) (v:=(Vs B1 n1 d1)) HB.o HG.o.2.1) HG.o.2.1) HG.o.2.1) HG.o.2.1) HG.o.2.1) HG.o.2.1) HG.o.2.1;generalize hwq:((((((((w2).setCell ⟨gr,0,none⟩ (Vs B1 n1 d1)).setCell ⟨gr,1,none⟩ (Vs A2 n c2)).setCell ⟨gr,2,none⟩ (Value.int .i64 pl)).setCell ⟨gr,3,none⟩ (Value.int .i64 pq)).setCell ⟨gr,4,none⟩ (Vs B5 n5 d5)).setCell ⟨gr,5,none⟩ (Vs B6 n6 d6)).setCell ⟨gr,6,none⟩ (Value.int .i64 po))=w8 at k6 hbf hoth|-;clear hwq;have z0:=bK k6;have z1:=bS k6;have z2:=dh k6;have z3:=dA k6;have z4:=dI k6;have z5:=eH k6;have z6:=fF k6;have gT:=ai (And.intro hbf hoth);clear hbf hoth;refine bodyPost_ret (v:=.tuple #[.agg #[.slice B1 n1 d1,.slice A2 n c2,.int .i64 pl,.int .i64 pq,.slice B5 n5 d5,.slice B6 n6 d6,.int .i64 po],.int .i64 0,.int .i64 4]) (by simp[results,results26,go_sem,z0,z1,z2,z3,z4,z5,z6]) rfl ?_;exact⟨rfl,gT.o.1⟩
theorem Q6(b:Nat)(S:List SA)(P:Nd)(h:Bc)(s:ByteArray)(xs:List Pr)(w:World)(hI:iU b w S P h)(hb:b<=w.heap.size)(hS:S.length<=1000)(hs:s.size<=1000)(hx:fZ S s=.inl xs)(h16:P.subs.length<16)(hl0:0<=P.last)(hl:P.last<1000000000):
 Calls prog 26 #[nV h P,.string s] w fun e w'=>∃h',e=.returned (.tuple #[nV h' (P.sub (xs.map toP)),.int .i64 (P.last+1),.int .i64 0])∧iU b w' S (P.sub (xs.map toP)) h'∧Below w.heap.size w w':=by
 obtain⟨v1,v2,v5,v6⟩:=h;obtain⟨B1,d1,e1⟩:=Kd.dE hI.sch;rw[List.length_map] at e1;obtain⟨n1,hn1⟩:∃n1,n1=S.length:=⟨_,rfl⟩
 rw[<-hn1] at e1;obtain rfl:v1=.slice B1 n1 d1:=e1;obtain⟨A2,c2,e2⟩:=Kd.dE hI.sub;rw[List.length_map] at e2;obtain⟨n,hn⟩:∃n,n=P.subs.length:=⟨_,rfl⟩
 rw[<-hn] at e2;obtain rfl:v2=.slice A2 n c2:=e2;obtain⟨B5,n5,d5,rfl⟩:∃A n c,v5=Vs A n c:=bX hI.opn;obtain⟨B6,n6,d6,rfl⟩:∃A n c,v6=Vs A n c:=bX hI.box;have HI:=ai hI;have l9:=ai hb;have HN:=ai (And.intro hn hn1);have HL:=ai (show n1<=1000 by omega);have Lh:=ai (show Kd.C VO w B1 n1 (S.map toA) from by have h1:=(Kd.bN hI.sch).2.2;rw[List.length_map,<-hn1,mD] at h1;exact h1);have BI:=ai (fun W=>oQ s W hs);have BO:=ai hx;unfold nV AR;show Calls _ _ #[.agg #[.slice B1 n1 d1,.slice A2 n c2,.int .i64 P.last,.int .i64 P.seq,.slice B5 n5 d5,.slice B6 n6 d6,.int .i64 P.lost],.string s] w _;have Es:=ai (show n<=64 by omega);have sD:ay ((P.sub (xs.map toP)).last=P.last+1∧(P.sub (xs.map toP)).seq=P.seq∧(P.sub (xs.map toP)).lost=P.lost∧(P.sub (xs.map toP)).opn=P.opn∧(P.sub (xs.map toP)).inbox=P.inbox):=⟨rfl,rfl,rfl,rfl,rfl⟩
 have jy:ay ((P.sub (xs.map toP)).subs.map rS=P.subs.map rS++ [(⟨P.last+1,(xs.map toP).map toQ⟩:yw)]):=ai (by show (P.subs++ [(⟨P.last+1,xs.map toP⟩:oN)]).map rS=_;rw[List.map_append];rfl);rw[sD.o.1,sD.o.2.1,sD.o.2.2.1];have q4:wrap64 (P.last+1)=P.last+1:=jK (by omega) (by omega);generalize P.last=pl at jy q4|-;generalize P.seq=pq;generalize P.lost=po;have r1:decide ((15:Int)<(n:Int))=false:=decide_eq_false (by omega);have r2:decide (15<n)=false:=decide_eq_false (by omega);have hlt:(P.subs.map rS).length=n:=by rw[List.length_map];exact hn.symm
 clear hI hb hS hn hn1 hs hx h16 hl0 hl sD;go_enter func26,ntmps26
 go_upto_region 1 with (fail)
 have hb3:=ae (ae (Below.refl w.heap.size w) (.cells #[Vs B1 n1 d1,Vs A2 n c2,.int .i64 pl,.int .i64 pq,Vs B5 n5 d5,Vs B6 n6 d6,.int .i64 po] dY)) (.cells #[.slice none 0 0,.slice none 0 0,.int .i64 0,.int .i64 0,.slice none 0 0,.slice none 0 0,.int .i64 0] dY);obtain⟨kb,kr⟩:=gQ w.heap (.cells #[Vs B1 n1 d1,Vs A2 n c2,.int .i64 pl,.int .i64 pq,Vs B5 n5 d5,Vs B6 n6 d6,.int .i64 po] dY (0,0)) (.cells #[.slice none 0 0,.slice none 0 0,.int .i64 0,.int .i64 0,.slice none 0 0,.slice none 0 0,.int .i64 0] dY (0,0));have HB:=ai hb3;have bD:=ai (show ((w.alloc (.cells #[Vs B1 n1 d1,Vs A2 n c2,.int .i64 pl,.int .i64 pq,Vs B5 n5 d5,Vs B6 n6 d6,.int .i64 po] dY)).alloc (.cells #[.slice none 0 0,.slice none 0 0,.int .i64 0,.int .i64 0,.slice none 0 0,.slice none 0 0,.int .i64 0] dY)).heap[w.heap.size]? =_ from kb);have bA:=ai (show ((w.alloc (.cells #[Vs B1 n1 d1,Vs A2 n c2,.int .i64 pl,.int .i64 pq,Vs B5 n5 d5,Vs B6 n6 d6,.int .i64 po] dY)).alloc (.cells #[.slice none 0 0,.slice none 0 0,.int .i64 0,.int .i64 0,.slice none 0 0,.slice none 0 0,.int .i64 0] dY)).heap[w.heap.size+1]? =_ from kr);clear kb kr hb3;generalize (w.alloc (.cells #[Vs B1 n1 d1,Vs A2 n c2,.int .i64 pl,.int .i64 pq,Vs B5 n5 d5,Vs B6 n6 d6,.int .i64 po] dY)).alloc (.cells #[.slice none 0 0,.slice none 0 0,.int .i64 0,.int .i64 0,.slice none 0 0,.slice none 0 0,.int .i64 0] dY)=W0 at HB bD bA|-;obtain⟨gr,hgr⟩:∃g,g=w.heap.size+1:=⟨_,rfl⟩
 obtain⟨gb,hgb⟩:∃g,g=w.heap.size:=⟨_,rfl⟩
 rw[<-hgr] at bA;rw[<-hgb] at bD;rw[<-hgr,<-hgb];have HG:=ai (show w.heap.size<=gb∧w.heap.size<=gr∧gb≠gr by omega);clear hgr hgb;go_wp2_with fail
 refine(BI.o _).mono ?_;rintro e w1 hp;clear BI;obtain⟨hr,lL⟩:=uY BO.o;obtain⟨v,rfl,ho,hbp⟩:=vP hp hr;rw[yT] at ho;have hcnt:(xs.map toP).length<=100000:=by have:=lG hr;simp;omega
 have hsz:=lY hr;obtain⟨xA,xc,rfl,JJ,JI⟩:=Kd.bB ho;rw[List.length_map] at JJ JI ho|-;obtain⟨xn,KA⟩:∃k,k=(xs.map toP).length:=⟨_,rfl⟩
 rw[<-KA] at JJ JI hcnt ho|-;have Aw:=ai (And.intro KA.symm (And.intro JJ (And.intro hcnt (And.intro hsz JI))));have RX:=ai (Kd.jr ho (Nat.le_trans l9.o HB.o.size));clear hp hr ho JJ JI hcnt hsz KA;replace bD:=bZ hbp bD;replace bA:=bZ hbp bA;replace HB:=dW HB hbp;clear hbp;have x0:=bK bD.o;go_wp2_with fail
 refine(kX B1 xA n1 xn d1 xc S (xs.map toP) w1 HN.o.2.symm Aw.o.1 (Kd.aY Lh.o HB.o) Aw.o.2.2.2.2 (by have:=HL.o;omega) Aw.o.2.2.1 Aw.o.2.1 Aw.o.2.2.2.1).mono ?_;rintro e w2 ⟨rfl,hbf⟩;clear x0;replace bD:=bZ hbf bD;replace bA:=bZ hbf bA;replace HB:=dW HB hbf;have Y4:=lV RX hbf;clear hbf Aw RX;rw[lL];have q1:decide (0<=lv none)=false:=by decide
 clear lL BO;have x1:=bS bD.o;have x2:=dh bD.o;have f2:=af bD.o 2;go_upto_region 9 with (fail)
 replace bA:=ai ((Below.heap_setCell w2 ⟨gb,2,none⟩ (.int .i64 (pl+1)) gr (fun e0=>HG.o.2.2 e0.symm)).trans bA.o);have hsk:∀k,k≠gb->(w2.setCell ⟨gb,2,none⟩ (.int .i64 (pl+1))).heap[k]? =w2.heap[k]? :=fun k hk=>Below.heap_setCell w2 ⟨gb,2,none⟩ _ k hk
 replace HI:=ai ((HI.o.below HB.o).other bD.o hsk);replace HB:=ai (au (j:=2) (v:=.int .i64 (pl+1)) HB.o HG.o.1);have HV:=ai (bW Y4.o bD.o (by decide+kernel) hsk);replace bD:=ai (show (w2.setCell ⟨gb,2,none⟩ (.int .i64 (pl+1))).heap[gb]? =some (.cells #[.slice B1 n1 d1,.slice A2 n c2,.int .i64 (pl+1),.int .i64 pq,.slice B5 n5 d5,.slice B6 n6 d6,.int .i64 po] dY (0,0)) from by simpa using bg bD.o 2 (.int .i64 (pl+1)));clear Y4 x1 x2 f2 hsk;generalize w2.setCell ⟨gb,2,none⟩ (.int .i64 (pl+1))=wr at bD bA HB HI HV|-;have Br:=ai (jH HI.o.sub);have fM:=ai (ae (Below.refl (wr).heap.size (wr)) (.cells #[] oW));have HE:=ai (kL OL oW b (wr) (Nat.le_trans l9.o HB.o.size));have sI:=ai (show gb≠(wr).heap.size∧gr≠(wr).heap.size from⟨Nat.ne_of_lt (aI bD.o),Nat.ne_of_lt (aI bA.o)⟩);have x1:=(aN (show (wr.alloc (.cells #[] oW)).heap[gb]? =_ from(fM.o.block _ (aI bD.o)).trans bD.o) 1).trans (show _=some (Vs A2 n c2) from rfl);go_upto_region 10 with ((with_reducible refine bn (b:=.append) (xs:= #[.tmp 42,.tmp 44]) rfl ?_);at_builtin;go_loud (refine Kd.iq OL (w0:=w) b rfl (.tmp 42) (.tmp 44) 70 oW (.agg #[(.int .i64 0),(.slice none 0 0)]) 32 rfl underlying70 Cc rfl (by decide) (by decide) (.slice (some ⟨(wr).heap.size,0,none⟩) 0 0) [] (P.subs.map rS) A2 n c2 (fun _=>True) (fun q=>q<(wr).heap.size) ?hs ?hx HE.o (ji Br.o fM.o) (fun x cs hx=>Kd.kG hx fM.o) (fun q hq=>⟨trivial,fun e0=>by have e1:q=(wr).heap.size:=Option.some.inj e0;omega⟩) (fun _ _=>trivial) ((aD HB.o HB.o.size fM.o).mono l9.o) (Nat.le_trans l9.o (Nat.le_trans HB.o.size fM.o.size)) ?aL ?_;(case hs=>first|rfl|(go_simp;done)|(go_simp;rfl));(case hx=>first|rfl|(go_simp;done)|(go_simp;rfl));(case aL=>have:=Es.o;simp;omega);intro v9 w9 ho oo hg hat;rw[List.nil_append] at ho;obtain⟨A9,c9,rfl,_,_⟩:=Kd.bB ho;rw[show ((P.subs.map rS)).length=n from hlt] at ho hat|-;have qP:=ai ((hg.block _ (Nat.lt_of_lt_of_le (aI bD.o) fM.o.size) (fun e0=>sI.o.1 (Option.some.inj e0))).trans ((fM.o.block _ (aI bD.o)).trans bD.o));have pJ:=ai ((hg.block _ (Nat.lt_of_lt_of_le (aI bA.o) fM.o.size) (fun e0=>sI.o.2 (Option.some.inj e0))).trans ((fM.o.block _ (aI bA.o)).trans bA.o));have rX:=ai ((aD HB.o HB.o.size fM.o).grown hg (aD HB.o HB.o.size fM.o).size (fun q hq=>by have e1:(wr).heap.size=q:=Option.some.inj hq;rw[<-e1];exact HB.o.size));have rV:=ai ho;(have TG:∀q,q<wr.heap.size->w9.heap[q]? =wr.heap[q]? :=fun q hq=>(hg.block q (Nat.lt_of_lt_of_le hq fM.o.size) (fun e0=>by have e1:q=wr.heap.size:=Option.some.inj e0;omega)).trans (fM.o.block q hq);have Vx:=ai (HI.o.step TG);have WO:=ai (Kd.lQ HV.o (fun q _ hq=>TG q hq));have kC:=ai (yL hat HB.o.size fM.o.size);clear TG);clear bD bA HB Br fM HE sI ho oo hg hat;have bD:=qP;have bA:=pJ;have HB:=rX;have Bt:=rV;clear qP pJ rX rV;skip))
 clear HI HV x1 hlt;have x2:=dh bD.o;have HO:=Bt;have Xn:=ai (Nat.le_trans l9.o HB.o.size);have MP:=Vx;have Tt:=WO;clear Bt Vx WO;generalize w9=wx at bD bA HB HO MP Tt Xn x2|-;go_upto_region 11 with ((with_reducible refine bn (b:=.append) (xs:= #[.tmp 46,.tmp 51]) rfl ?_);at_builtin;go_loud (refine Kd.di OL (w0:=w) b rfl (.tmp 46) (.tmp 51) 70 oW (.agg #[(.int .i64 0),(.slice none 0 0)]) 32 rfl underlying70 Cc rfl (by decide) (by decide) _ (P.subs.map rS) (⟨pl+1,(xs.map toP).map toQ⟩:yw) [.int .i64 (pl+1),.slice xA xn xc] (fun _=>True) (fun k1=>True∧some k1≠(Vs A9 n c9).ownBlock) rfl ?aX ?aP (fun _ hk=>hk) ?aF HO.o (HB.o.mono l9.o) Xn.o ?aL ?_;(case aX=>first|rfl|(go_simp;done)|(go_simp;rfl));(case aP=>exact yg _ _ _ (⟨pl+1,(xs.map toP).map toQ⟩:yw) (Kd.gX Tt.o HO.o (by decide+kernel)));(case aF=>exact(fun _ _=>trivial));(case aL=>have:=Es.o;have:=HN.o.1;rw[List.length_map];omega);intro v9 w9 ho hb hg hat;obtain⟨A8,c8,rfl,_,_⟩:=Kd.bB ho;rw[show (P.subs.map rS++ [(⟨pl+1,(xs.map toP).map toQ⟩:yw)]).length=n+1 from by rw[List.length_append,List.length_map,<-HN.o.1];rfl] at ho|-;replace bD:=ai (dB bD.o hg (Kd.kM HO.o bD.o (by decide)));replace bA:=ai (dB bA.o hg (Kd.kM HO.o bA.o (by decide)));replace HB:=ai (HB.o.grown hg HB.o.size (fun k1 hk1=>kC.o k1 hk1));have Fh:=ai (Kd.gq MP.o.sch HO.o (by decide+kernel) hg);have ET:=ai (Kd.gq MP.o.opn HO.o (by decide+kernel) hg);have XI:=ai (Kd.gq MP.o.box HO.o (by decide+kernel) hg);replace HO:=ai ho;clear MP Tt kC x2 ho hb hg hat;have f1:=af bD.o 1;have x1:=(bS bD.o)))
 replace bA:=ai ((Below.heap_setCell w9 ⟨gb,1,none⟩ (.slice A8 (n+1) c8) gr (fun e0=>HG.o.2.2 e0.symm)).trans bA.o);replace HB:=ai (au (j:=1) (v:=.slice A8 (n+1) c8) HB.o HG.o.1);have hsk:∀k,k≠gb->(w9.setCell ⟨gb,1,none⟩ (.slice A8 (n+1) c8)).heap[k]? =w9.heap[k]? :=fun k hk=>Below.heap_setCell w9 ⟨gb,1,none⟩ _ k hk
 have yX:=ai (bW HO.o bD.o (by decide+kernel) hsk);have uy:=ai (bW Fh.o bD.o (by decide+kernel) hsk);have Bj:=ai (bW ET.o bD.o (by decide+kernel) hsk);have Hu:=ai (bW XI.o bD.o (by decide+kernel) hsk);replace bD:=ai (show (w9.setCell ⟨gb,1,none⟩ (.slice A8 (n+1) c8)).heap[gb]? =some (.cells #[.slice B1 n1 d1,.slice A8 (n+1) c8,.int .i64 (pl+1),.int .i64 pq,.slice B5 n5 d5,.slice B6 n6 d6,.int .i64 po] dY (0,0)) from by simpa using bg bD.o 1 (.slice A8 (n+1) c8));clear HO f1 x1 hsk Fh ET XI;generalize w9.setCell ⟨gb,1,none⟩ (.slice A8 (n+1) c8)=wz at bD bA HB yX uy Bj Hu|-;rw[<-jy.o] at yX;have x0:=bK bD.o;have x1:=bS bD.o;have x2:=dh bD.o;have x3:=dA bD.o;have x4:=dI bD.o;have x5:=eH bD.o;have x6:=fF bD.o;have y0:=bK bA.o;have y1:=bS bA.o;have y2:=dh bA.o;have y3:=dA bA.o;have y4:=dI bA.o;have y5:=eH bA.o;have y6:=fF bA.o;have f0:=af bA.o 0;have f1:=af bA.o 1;have f2:=af bA.o 2;have f3:=af bA.o 3;have f4:=af bA.o 4;have f5:=af bA.o 5;have f6:=af bA.o 6;have ne1:¬(gr=gb):=fun e0=>HG.o.2.2 e0.symm
 have Zi:¬(gb=gr):=HG.o.2.2;go_region
 go_wp2;have k6:=qd bA.o (Vs B1 n1 d1) (Vs A8 (n+1) c8) (Value.int .i64 (pl+1)) (Value.int .i64 pq) (Vs B5 n5 d5) (Vs B6 n6 d6) (Value.int .i64 po);have hoth:=fun k hk=>ek (wz) gr (Vs B1 n1 d1) (Vs A8 (n+1) c8) (Value.int .i64 (pl+1)) (Value.int .i64 pq) (Vs B5 n5 d5) (Vs B6 n6 d6) (Value.int .i64 po) k hk
 have hbf:=au (j:=6) (v:=(Value.int .i64 po)) (au (j:=5) (v:=(Vs B6 n6 d6)) (au (j:=4) (v:=(Vs B5 n5 d5)) (au (j:=3) (v:=(Value.int .i64 pq)) (au (j:=2) (v:=(Value.int .i64 (pl+1))) (au (j:=1) (v:=(Vs A8 (n+1) c8)) (au (j:=0) (v:=(Vs B1 n1 d1)) HB.o HG.o.2.1) HG.o.2.1) HG.o.2.1) HG.o.2.1) HG.o.2.1) HG.o.2.1) HG.o.2.1;generalize hwq:((((((((wz).setCell ⟨gr,0,none⟩ (Vs B1 n1 d1)).setCell ⟨gr,1,none⟩ (Vs A8 (n+1) c8)).setCell ⟨gr,2,none⟩ (Value.int .i64 (pl+1))).setCell ⟨gr,3,none⟩ (Value.int .i64 pq)).setCell ⟨gr,4,none⟩ (Vs B5 n5 d5)).setCell ⟨gr,5,none⟩ (Vs B6 n6 d6)).setCell ⟨gr,6,none⟩ (Value.int .i64 po))=w8 at k6 hbf hoth|-;clear hwq;have z0:=bK k6;have z1:=bS k6;have z2:=dh k6;have z3:=dA k6;have z4:=dI k6;have z5:=eH k6;have z6:=fF k6;have gT:=ai (And.intro hbf hoth);clear hbf hoth;refine bodyPost_ret (v:=.tuple #[.agg #[.slice B1 n1 d1,.slice A8 (n+1) c8,.int .i64 (pl+1),.int .i64 pq,.slice B5 n5 d5,.slice B6 n6 d6,.int .i64 po],.int .i64 (pl+1),.int .i64 0]) (by simp[results,results26,go_sem,z0,z1,z2,z3,z4,z5,z6]) rfl ?_;exact⟨⟨.slice B1 n1 d1,.slice A8 (n+1) c8,.slice B5 n5 d5,.slice B6 n6 d6⟩,rfl,⟨Kd.dm (bW uy.o bA.o (by decide+kernel) gT.o.2),Kd.dm (bW yX.o bA.o (by decide+kernel) gT.o.2),Kd.dm (bW Bj.o bA.o (by decide+kernel) gT.o.2),Kd.dm (bW Hu.o bA.o (by decide+kernel) gT.o.2)⟩,aK gT.o.1⟩
theorem eZ.other{base gx:Nat}{w w':World}{h:Hd}{N:eG}(r:eZ base w h N){cs:Array Value}(hg:w.heap[gx]? =some (.cells cs dY (0,0)))(hk:∀k,k≠gx->w'.heap[k]? =w.heap[k]?):eZ base w' h N:=by
 have hm:∀(k:Nat) (es:Array MapEntry) (cl:Nat),w.heap[k]? =some (Obj.map es cl)->w'.heap[k]? =w.heap[k]? :=fun k es cl e=>hk k (fun e2=>by
  rw[e2,hg] at e;cases e)
 exact⟨bW r.sch hg (by decide+kernel) hk,bW r.sub hg (by decide+kernel) hk,r.seen.step hm,bW r.box hg (by decide+kernel) hk,bW r.opn hg (by decide+kernel) hk,⟨r.lnk.1.step hm,r.lnk.2⟩,bW r.sent hg (by decide+kernel) hk⟩
theorem cK.nL{base g gx:Nat}{w w':World}{h:Hd}{N:eG}(r:cK base w g h N){cs:Array Value}(hg:w.heap[gx]? =some (.cells cs dY (0,0)))(hk:∀k,k≠gx->w'.heap[k]? =w.heap[k]?):cK base w' g h N:=
 ⟨(hk g (fun e=>by
  have h1:=r.blk;rw[e,hg] at h1;injection h1 with h1;injection h1 with _ h1 _;exact absurd h1 (by decide+kernel))).trans r.blk,r.gb,r.rows.other hg hk⟩
theorem Al.other{base g gx:Nat}{w0 w w':World}{S:List SA}{lev:Int}{P:Nd}(al:Al base g w0 w S lev P){cs:Array Value}(hg:w.heap[gx]? =some (.cells cs dY (0,0)))(hk:∀k,k≠gx->w'.heap[k]? =w.heap[k]?)(hb:Below base w w'):Al base g w0 w' S lev P:=by
 obtain⟨h,N,h1,h2⟩:=al.nd;exact⟨⟨h,N,h1.nL hg hk,h2⟩,al.below.trans (hb.mono al.le),al.le,Nat.le_trans al.size hb.size,al.tab.below hb⟩
structure AX(base b g gx:Nat)(w0 W:World)(S:List SA)(lev:Int)(P:Nd):Prop where
 al:Al base g w0 W S lev P
 rn:∃h,iU b W S P h∧W.heap[gx]? =some (.cells (AR h P) dY (0,0))
 gx:base<=gx
 bb:b<=base
section
variable{base b g gx:Nat}{w0 W W':World}{S:List SA}{lev:Int}{P P':Nd}
theorem AX.keep(a:AX base b g gx w0 W S lev P)(hb:Below W.heap.size W W'):AX base b g gx w0 W' S lev P:=by
 obtain⟨h,h1,h2⟩:=a.rn;exact⟨a.al.keep hb,⟨h,h1.below hb,(hb.block _ (aI h2)).trans h2⟩,a.gx,a.bb⟩
theorem tQ{h:Bc}(h1:iU b W S P h)(h2:W.heap[gx]? =some (.cells (AR h P) dY (0,0)))(hk:iW W W'):iU b W' S P h∧W'.heap[gx]? =some (.cells (AR h P) dY (0,0)):=
 ⟨h1.kept hk,(hk gx _ _ _ h2 (by decide+kernel)).trans h2⟩
theorem AX.put{h':Bc}{cs:Array Value}(al:Al base g w0 W S lev P)(h1:iU b W S P h')(hg:W.heap[gx]? =some (.cells cs dY (0,0)))(hgx:base<=gx)(hbb:b<=base)(hp:W'.heap[gx]? =some (.cells (AR h' P) dY (0,0)))(hk:∀k,k≠gx->W'.heap[k]? =W.heap[k]?)(hb:Below base W W'):AX base b g gx w0 W' S lev P:=
 ⟨al.other hg hk hb,⟨h',h1.other hg hk,hp⟩,hgx,hbb⟩
end
section
variable{P:Program}{α:Type}{d:Kd α}{e base g n c:Nat}{ok:Nat->Prop}{W:World}{xs:List α}
theorem Mt(h:Kd.R d e W base ok (.slice (some ⟨g,0,none⟩) n c) xs)(i j:Nat)(hij:i<=j)(hj:j<=n)(t ty:TypeId)(z:Value)(bytes:Nat)(ht:P.underlying t=some (.slice e))(hinfo:(P.info? e).map (fun i=>(i.zero,i.size,i.bytes))=some (some z,d.sz,bytes)):
 ∃w1,(Builtin.append_ #[t,t] ty #[.slice (some ⟨g,0,none⟩) i c,.slice (if c=j then some ⟨g,0,none⟩ else some ⟨g,j*d.sz,none⟩) (n-j) (c-j)]).run P W=.ok (.slice (some ⟨g,0,none⟩) (i+(n-j)) c) w1∧Kd.R d e w1 base ok (.slice (some ⟨g,0,none⟩) (i+(n-j)) c) (xs.take i++xs.drop j)∧W.grownBy w1 (some g):=by
 obtain⟨i0,hi,hzz⟩:=Option.map_eq_some_iff.1 hinfo;simp only[Prod.mk.injEq] at hzz;obtain⟨hz0,hz1,hz2⟩:=hzz;obtain⟨hn,hnc,_⟩:=Kd.bN h;have hT:=Kd.xN h (m:=i) (by omega);obtain⟨h0,inner,hown,hr⟩:=h;obtain⟨_,OD,hown2,hr2⟩:=hT;have hlt:(xs.take i).length=i:=by rw[List.length_take];omega
 rw[hlt] at hown2;have hr3:=Kd.AV (m:=j) hr;have hld:(inner.drop (j*d.sz)).length=(n-j)*d.sz:=by rw[List.length_drop,hown.1,<-hn,Nat.sub_mul]
 have hone:=Cm (v:=.slice none 0 0) hr3 List.length_drop (by rw[hld,hn]);have hcells:∀q u,(inner.drop (j*d.sz))[q]? =some u->W.cell? ((if c=j then (⟨g,0,none⟩:Addr) else ⟨g,j*d.sz,none⟩).add q)=some u:=fun q u hq=>by
  by_cases hcj:c=j
  ·have e0:inner.drop (j*d.sz)= []:=List.eq_nil_of_length_eq_zero (by rw[hld,show n-j=0 by omega,Nat.zero_mul]);rw[e0] at hq;cases hq
  ·rw[if_neg hcj,Addr.add_lit];rw[List.getElem?_drop] at hq;have:=hown.cells (g:=g) rfl _ u hq
   rwa [add_plain] at this
 have zP:i+(n-j)<=c:=by omega
 obtain⟨w1,hrun,hown1,hg⟩:=run_append_fits (P:=P) W base t ty e i0 d.sz ht hi hz1 g i c OD hown2 (if c=j then (⟨g,0,none⟩:Addr) else ⟨g,j*d.sz,none⟩) (n-j) (c-j) _ hld hcells hone zP;have hA:(if c=j then some (⟨g,0,none⟩:Addr) else some ⟨g,j*d.sz,none⟩)=some (if c=j then (⟨g,0,none⟩:Addr) else ⟨g,j*d.sz,none⟩):=by split<;>rfl
 have step:∀ {q:α} {cs:List Value},d.M W base (fun k=>ok k∧some k≠some g) q cs->d.M w1 base (fun k=>ok k∧some k≠some g) q cs:=fun hq=>
  d.M_mono (fun k hk=>hk.1) (d.M_move (fun k hk=>hg.block k hk.2.2.1 hk.1.2) (d.M_bound hq))
 refine⟨w1,by rw[hA];exact hrun,⟨h0,OD++inner.drop (j*d.sz), ?_, ?_⟩,hg⟩
 ·rw[List.length_append,hlt,List.length_drop,<-hn];exact hown1
 ·exact Kd.wI (hr2.j6 (fun _ _ hq=>step hq)) (hr3.j6 (fun _ _ hq=>step hq))
theorem sP{ops:Array Oper}{o:Oper}{a:Act}{w w1:World}{K:Act->World->Prop}{Q:Exit->Act->World->Prop}{E:Prop}
 (hg:o.guard=none) (s x:Operand) (t:TypeId) (hop:o.op=Op.call {callee:=Callee.builtin Builtin.append,args:= #[s,x],argTypes:= #[t,t]}) (u y v:Value) (hs:a.eval s=u) (hx:a.eval x=y)
 (hr:(Builtin.append_ #[t,t] o.type #[u,y]).run P w=.ok v w1) (hK:K (a.put o.dst v) w1):
 if Region.wanted o (yielded ops a.tmps)=true then Oper.wp P o a w K Q else E:=by
 have hw:Region.wanted o (yielded ops a.tmps)=true:=by simp[Region.wanted,hg]
 rw[if_pos hw];unfold Oper.wp execOp;simp only[hop,resolve,invoke,builtin,Sem.run_bind,Sem.run_pure,Result.andThen_ok,List.map_toArray,List.map_cons,List.map_nil,hs,hx,hr];exact hK
theorem O6{k m:Nat}(h:Kd.R d e W base ok (.slice (some ⟨g,0,none⟩) k c) xs)(vs:List Value)(hm:vs.length=m*d.sz)(hin:k+m<=c):
 Kd.R d e (W.setCells g (k*d.sz) vs) base ok (.slice (some ⟨g,0,none⟩) k c) xs∧W.grownBy (W.setCells g (k*d.sz) vs) (some g):=by
 have hsame:=jG g vs (k*d.sz) W;have hgr:W.grownBy (W.setCells g (k*d.sz) vs) (some g):=⟨hsame.1,hsame.2.1,hsame.2.2.1,Nat.le_of_eq hsame.2.2.2.symm,fun q hq hne=>ic vs _ q (fun e=>hne (by rw[e]))⟩
 obtain⟨hn,hnc,_⟩:=Kd.bN h;obtain⟨h0,inner,ho,hr⟩:=h;refine⟨⟨h0,inner, ?_, ?_⟩,hgr⟩
 ·rcases ho.2 with⟨hv,_⟩|⟨g',cap,cur,hv,hg,hh,hnc,hcm,hcs,ht⟩
  ·cases hv
  ·injection hv with e1 e2 e3;injection e1 with e1;injection e1 with e1 _ _;subst e1 e3;have hmul:k*d.sz+vs.length<=cur.size:=by rw[hcs,hm,<-Nat.add_mul];exact Nat.mul_le_mul_right _ hin
   obtain⟨cur',h1,h2,h3⟩:=kH vs (k*d.sz) W cur hh hmul;refine⟨ho.1,.inr ⟨g,c,cur',by rw[<-hn],hg,h1,by omega,hcm,by rw[h2,hcs], ?_⟩⟩;rw[h3,<-hn,List.append_assoc,List.take_append_of_le_length (by rw[List.length_take,Array.length_toList];omega),List.take_take,Nat.min_self,<-ht,<-hn]
 ·refine hr.j6 (fun p cs hp=>d.M_mono (fun k hk=>hk.1) (d.M_move (fun q hq=>ic vs _ q (fun e=>hq.1.2 (by rw[e];rfl))) (d.M_bound hp)))
theorem Vq{k:Nat}(h:Kd.R d e W base ok (.slice (some ⟨g,0,none⟩) k c) xs):∃cur,W.heap[g]? =some (.cells cur e (0,0))∧cur.size=c*d.sz:=by
 obtain⟨h0,inner,ho,hr⟩:=h;rcases ho.2 with⟨hv,_⟩|⟨g',cap,cur,hv,hg,hh,hnc,hcm,hcs,ht⟩
 ·cases hv
 ·injection hv with e1 e2 e3;injection e1 with e1;injection e1 with e1 _ _;subst e1 e3;exact⟨cur,hh,hcs⟩
theorem uq{k m:Nat}(h:Kd.R d e W base ok (.slice (some ⟨g,0,none⟩) k c) xs)(hm0:0<m)(hin:k+m<=c)(t ty:TypeId)(z:Value)(c':Nat)(ht:P.underlying t=some (.slice e))(hv:∀w,(zeroValue e).run P w=.ok z w)(hz:z.cells.size=d.sz)(h0:0<d.sz)(h1:∀u∈z.cells.toList,u.oneCell'=true):
 (Builtin.clear_ #[t] ty #[.slice (some ⟨g,k*d.sz,none⟩) m c']).run P W=.ok (.tuple #[]) (W.setCells g (k*d.sz) (Builtin.zeroCells z.cells m).toList)∧(Builtin.zeroCells z.cells m).toList.length=m*d.sz:=by
 have hl:(Builtin.zeroCells z.cells m).toList.length=m*d.sz:=by rw[Array.length_toList,size_zeroCells,hz]
 obtain⟨cur,hb,hs⟩:=Vq h;have hsz:k*d.sz+m*d.sz<=cur.size:=by rw[<-Nat.add_mul,hs];exact Nat.mul_le_mul_right _ hin
 refine⟨rO W t e ty z ht hv g (k*d.sz) m c' hm0 (rT (by omega) h1 _) (fun j hj=> ?_) (fun j hj=>af hb _),hl⟩;rw[hl] at hj;rw[cell_of_row W g _ cur e (0,0) hb,Array.getElem?_eq_getElem (by omega)];rfl
end
end Go.Proofs.YtnmpijbcajclgaaGreatDoor.Mine
end
