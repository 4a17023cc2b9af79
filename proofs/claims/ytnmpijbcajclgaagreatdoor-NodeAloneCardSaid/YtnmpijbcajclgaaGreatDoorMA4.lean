/- Texts of one claim, one behind the other, made short by a program. -/
import Derived.Test.YtnmpijbcajclgaaGreatDoorMA3
import Derived.Lib.LazyBuf
set_option maxHeartbeats 8000000
set_option linter.unusedSimpArgs false
set_option linter.unusedVariables false
set_option maxRecDepth 100000
section
namespace Go.Proofs.YtnmpijbcajclgaaGreatDoor.Mine
open Tryz
open Go.RowKit YtnmpijbcajclgaaGreatDoorW.PrintWords YtnmpijbcajclgaaGreatDoorW.PrintLast YtnmpijbcajclgaaGreatDoorW.PrintMore
open PNodeAlone
def isLet(c:Int):Bool:=decide (97<=c∧c<=122)
def pE(c:Int):Bool:=decide (48<=c∧c<=57)
def kF(s:ByteArray)(frm at_:Nat):Bool:=isLet (bt s at_)||(decide (frm<at_)&&pE (bt s at_))
def jk(s:ByteArray)(frm:Nat):Nat->Nat->Nat
 |0,at_=>at_
 |k+1,at_=>if at_<s.size∧kF s frm at_=true then jk s frm k (at_+1) else at_
theorem Ha(c:Int)(w:World):Calls prog 205 #[.int .u8 c] w fun e w'=>e=.returned (.bool (isLet c))∧w'=w:=by
 by_cases h1:97<=c
 ·go_enter func205,ntmps205
  go_wp2;go_ret;exact⟨by simp[isLet,h1],rfl⟩
 ·go_enter func205,ntmps205
  go_wp2;go_ret;exact⟨by simp[isLet];omega,rfl⟩
theorem KZ(c:Int)(w:World):Calls prog 206 #[.int .u8 c] w fun e w'=>e=.returned (.bool (pE c))∧w'=w:=by
 by_cases h1:48<=c
 ·go_enter func206,ntmps206
  go_wp2;go_ret;exact⟨by simp[pE,h1],rfl⟩
 ·go_enter func206,ntmps206
  go_wp2;go_ret;exact⟨by simp[pE];omega,rfl⟩
theorem qR(c:Int)(b:Bool)(w:World)(h:isLet c=b):Calls prog 205 #[.int .u8 c] w fun e w'=>e=.returned (.bool b)∧w'=w:=by subst h;exact Ha c w
theorem ED(c:Int)(b:Bool)(w:World)(h:pE c=b):Calls prog 206 #[.int .u8 c] w fun e w'=>e=.returned (.bool b)∧w'=w:=by subst h;exact KZ c w
def N8(w0 w:World)(g:Nat)(s:ByteArray)(frm:Nat)(e:Ending)(w':World):Prop:=
 ∃en:Nat,jk s frm (s.size-frm) frm=en∧e=.returned (.string (s.extract frm en))∧ag w0 w' g s en (if en=frm then (frm:Int) else-1)∧Below w0.heap.size w0 w'∧az w w' g none
theorem FO(k:Nat)(g:Nat)(s:ByteArray)(at0:Nat)(frm:Nat)(w0 w:World)(hI:ag w0 w g s at0 (-1))(hB:Below w0.heap.size w0 w)(hs:s.size<=1000)
 (hbl:aA.f k s at0 (-1)=some (s,(frm:Int), -1)) (hf:frm<=s.size):
 Calls prog 145 #[.pointer (some ⟨g,0,none⟩)] w (N8 w0 w g s frm):=by
 go_enter func145,ntmps145
 go_wp2_with (go_at_call 144;(with_reducible refine(aA.calls k g s at0 (-1) s frm (-1) w0 _ ?side1 ?side2 hbl).mono ?_);(case side1=>exact hI);(case side2=>exact hB);rintro e w1 ⟨rfl,hi,hb,hk⟩;have HI:=ai hi;have HB:=ai hb;have HK:=ai hk;have hc0:=aT hi.1;have hc1:=aR hi.1;clear hi hb hk)
 clear hc0 hc1;have HS:=ai hs;clear hI hB hbl;go_loopg [] (s.size-frm) (fun n wr=>∃at_:Nat,ay (frm<=at_∧at_+n=s.size∧jk s frm n at_=jk s frm (s.size-frm) frm)∧ay (ag w0 wr g s at_ (-1))∧ay (az w wr g none)∧ay (Below w0.heap.size w0 wr))
 case atStart=>exact⟨frm,⟨Nat.le_refl _,by omega,rfl⟩,HI,HK,HB⟩
 case round=>
  clear HI HK HB;obtain⟨at_,HA,HI,HK,HB⟩:=hrel;obtain⟨HG,hg⟩:=HI.o;have hc0:=aT HG;have hc1:=aR HG;have hc2:=aU HG;have hf0:=af HG 0;have hf1:=af HG 1;have hf2:=af HG 2;clear HG hg;have hlb:at_<=s.size:=by have:=HA.o;omega
  have hfa:frm<=at_:=HA.o.1;by_cases hlt:at_<s.size
  ·have q1:((at_:Int)<(s.size:Int)):=by omega
   have q2:=eq_true (show (0:Int)<=(at_:Int) by omega);have q3:=decide_eq_true q1;replace q1:=eq_true q1;have hx:∀h:at_<s.size,((s[at_]'h).toNat:Int)=bt s (at_:Int):=fun h=>by simp[bt,h]
   have hw:jk s frm (s.size-at_) at_=if kF s frm at_=true then jk s frm (s.size-(at_+1)) (at_+1) else at_:=by
    obtain⟨m,hm⟩:∃m,s.size-at_=m+1:=⟨s.size-at_-1,by omega⟩
    rw[hm,show s.size-(at_+1)=m by omega];simp[jk,hlt]
   have HW:=ai hw;clear hw;by_cases h1:isLet (bt s at_)=true
   ·have HO:=ai (show kF s frm at_=true by simp[kF,h1]);have H1:=ai h1;clear h1;go_wp2_with fail
    go_quiet (first|(go_at_call 205;refine Calls.quiet_of_same (qR _ true _ H1.o)))
    go_wp2;go_roundg (s.size-(at_+1))
    case measure=>have:=HA.o;omega
    case rel=>exact⟨at_+1,⟨by have:=HA.o;omega,by have:=HA.o;omega,by have h2:=HW.o;rw[if_pos HO.o] at h2;have h3:=HA.o;rw[show gk=s.size-at_ by omega] at h3;exact h2.symm.trans h3.2.2⟩,⟨by rw[show ((at_+1:Nat):Int)=(at_:Int)+1 by omega];exact ag.bE (ag.drewN HI.o _) _⟩,⟨az.cO (aC HK.o _) _ _⟩,⟨au (ah HB.o _) (ag.ge HI.o)⟩⟩
   ·replace h1:isLet (bt s at_)=false:=by simpa using h1
    by_cases h2:frm<at_
    ·have g1:=decide_eq_true (show (frm:Int)<(at_:Int) by omega);have g2:=eq_true (show (frm:Int)<(at_:Int) by omega);cases h3:pE (bt s at_) with
     |true=>
      have HO:=ai (show kF s frm at_=true by simp[kF,h2,h3]);have H1:=ai h1;have H3:=ai h3;clear h1 h3;go_wp2_with fail
      go_quiet (first|(go_at_call 205;refine Calls.quiet_of_same (qR _ false _ H1.o))|(go_at_call 206;refine Calls.quiet_of_same (ED _ true _ H3.o)))
      go_wp2;go_roundg (s.size-(at_+1))
      case measure=>have:=HA.o;omega
      case rel=>exact⟨at_+1,⟨by have:=HA.o;omega,by have:=HA.o;omega,by have h2:=HW.o;rw[if_pos HO.o] at h2;have h3:=HA.o;rw[show gk=s.size-at_ by omega] at h3;exact h2.symm.trans h3.2.2⟩,⟨by rw[show ((at_+1:Nat):Int)=(at_:Int)+1 by omega];exact ag.bE (ag.drewN HI.o _) _⟩,⟨az.cO (aC HK.o _) _ _⟩,⟨au (ah HB.o _) (ag.ge HI.o)⟩⟩
     |false=>
      have HO:=ai (show kF s frm at_=false by simp[kF,h1,h3]);have H1:=ai h1;have H3:=ai h3;clear h1 h3;have HE:=ai (show jk s frm (s.size-frm) frm=at_ by have h3:=HA.o;rw[<-h3.2.2,show gk=s.size-at_ by omega];rw[HW.o,if_neg (by rw[HO.o];exact Bool.false_ne_true)]);go_wp2_with fail
      go_quiet (first|(go_at_call 205;refine Calls.quiet_of_same (qR _ false _ H1.o))|(go_at_call 206;refine Calls.quiet_of_same (ED _ false _ H3.o)))
      have g3:=beq_eq_false_iff_ne.mpr (show (at_:Int)≠(frm:Int) by omega);go_wp2
      go_quiet (fail)
      go_wp2;go_ret;exact⟨at_,HE.o,by first|rfl|simp,by rw[if_neg (by omega)];exact ag.drewN (ag.drewN HI.o _) _,ah (ah HB.o _) _,aC (aC HK.o _) _⟩
    ·have g1:=decide_eq_false (show ¬(frm:Int)<(at_:Int) by omega);have HO:=ai (show kF s frm at_=false by simp[kF,h1,h2]);have H1:=ai h1;clear h1;have HE:=ai (show jk s frm (s.size-frm) frm=at_ by have h3:=HA.o;rw[<-h3.2.2,show gk=s.size-at_ by omega];rw[HW.o,if_neg (by rw[HO.o];exact Bool.false_ne_true)]);go_wp2_with fail
     go_quiet (first|(go_at_call 205;refine Calls.quiet_of_same (qR _ false _ H1.o)))
     obtain rfl:frm=at_:=by omega
     go_wp2_with (go_at_call 146;(with_reducible refine(aH.calls g s frm (-1) frm s frm frm w0 _ ?side1 ?side2 rfl).mono ?_);(case side1=>exact ag.drewN HI.o _);(case side2=>exact ah HB.o _);rintro e w2 ⟨rfl,hi,hb,hk⟩;have HI2:=ai hi;have HB2:=ai hb;have xy:=ai (az.trans (aC HK.o _) hk (Or.inl rfl));have hd0:=aT hi.1;have hd1:=aR hi.1;have hd2:=aU hi.1;clear hi hb hk)
     go_quiet (fail)
     go_wp2;go_ret;exact⟨frm,HE.o,by first|rfl|simp,by rw[if_pos rfl];exact ag.drewN HI2.o _,ah HB2.o _,aC xy.o _⟩
  ·have q3:=decide_eq_false (show ¬(at_:Int)<(s.size:Int) by omega);have HE:=ai (show jk s frm (s.size-frm) frm=at_ by have h3:=HA.o;rw[<-h3.2.2,show gk=s.size-at_ by omega];rw[show s.size-at_=0 by omega];rfl);by_cases h2:frm<at_
   ·go_wp2_with fail
    go_quiet (fail)
    have g3:=beq_eq_false_iff_ne.mpr (show (at_:Int)≠(frm:Int) by omega);go_wp2
    go_quiet (fail)
    go_wp2;go_ret;exact⟨at_,HE.o,by first|rfl|simp,by rw[if_neg (by omega)];exact ag.drewN (ag.drewN HI.o _) _,ah (ah HB.o _) _,aC (aC HK.o _) _⟩
   ·go_wp2_with fail
    go_quiet (fail)
    obtain rfl:frm=at_:=by omega
    go_wp2_with (go_at_call 146;(with_reducible refine(aH.calls g s frm (-1) frm s frm frm w0 _ ?side1 ?side2 rfl).mono ?_);(case side1=>exact ag.drewN HI.o _);(case side2=>exact ah HB.o _);rintro e w2 ⟨rfl,hi,hb,hk⟩;have HI2:=ai hi;have HB2:=ai hb;have xy:=ai (az.trans (aC HK.o _) hk (Or.inl rfl));have hd0:=aT hi.1;have hd1:=aR hi.1;have hd2:=aU hi.1;clear hi hb hk)
    go_quiet (fail)
    go_wp2;go_ret;exact⟨frm,HE.o,by first|rfl|simp,by rw[if_pos rfl];exact ag.drewN HI2.o _,ah HB2.o _,aC xy.o _⟩
structure St where
 l:List UInt8
 bad:Option Nat
def skip:List UInt8->List UInt8
 | []=> []
 |c::r=>if c=32 then skip r else c::r
def wO(c:UInt8):Bool:=decide (97<=c∧c<=122)
def jF(c:UInt8):Bool:=decide (48<=c∧c<=57)
def pX(c:UInt8):Bool:=wO c||jF c
def bY(st:St):St:=match st.bad with|some _=>st|none=>⟨skip st.l,none⟩
def iQ(st:St)(n:Nat):St:=match st.bad with|some _=>st|none=>⟨st.l,some n⟩
def fq:List UInt8->List UInt8×St
 | []=>([],⟨[],some 0⟩)
 |c::r=>if wO c then (c::r.takeWhile pX,⟨r.dropWhile pX,none⟩) else ([],⟨c::r,some (r.length+1)⟩)
def dC(st:St):List UInt8×St:=match st.bad with|some _=>([],st)|none=>fq (skip st.l)
def lC(m l:List UInt8):St:=if m.isPrefixOf l then ⟨l.drop m.length,none⟩ else ⟨l,some l.length⟩
def dO(m:List UInt8)(st:St):St:=match st.bad with|some _=>st|none=>lC m (skip st.l)
def dR:List UInt8->List UInt8->Option (List UInt8)×List UInt8
 | [],_=>(none,[])
 |c::r,acc=>
  if c=34 then (some acc,r)
  else if c=92 then
   match r with
   | []=>(none,[])
   |d::r'=>if d=34∨d=92 then dR r' (acc++ [d]) else (none,d::r')
  else if 32<=c∧c<=126 then dR r (acc++ [c]) else (none,c::r)
theorem qO(acc:List UInt8):dR [] acc=(none,[]):=by rw[dR.eq_def]
theorem xm{c:UInt8}(r acc:List UInt8)(h:c=34):dR (c::r) acc=(some acc,r):=by rw[dR.eq_def];simp[h]
theorem sN{c:UInt8}(acc:List UInt8)(h:c=92):dR [c] acc=(none,[]):=by rw[dR.eq_def];simp[h]
theorem qo{c d:UInt8}(r acc:List UInt8)(h:c=92)(h2:d=34∨d=92):dR (c::d::r) acc=dR r (acc++ [d]):=by rw[dR.eq_def];simp[h,h2]
theorem uk{c d:UInt8}(r acc:List UInt8)(h:c=92)(h2:¬(d=34∨d=92)):dR (c::d::r) acc=(none,d::r):=by rw[dR.eq_def];simp[h,h2]
theorem xw{c:UInt8}(r acc:List UInt8)(h1:¬c=34)(h2:¬c=92)(h:32<=c∧c<=126):dR (c::r) acc=dR r (acc++ [c]):=by rw[dR.eq_def];simp[h1,h2,h]
theorem tq{c:UInt8}(r acc:List UInt8)(h1:¬c=34)(h2:¬c=92)(h:¬(32<=c∧c<=126)):dR (c::r) acc=(none,c::r):=by rw[dR.eq_def];simp only[h1,h2,h];simp
def mW:Option (List UInt8)×List UInt8->List UInt8×St
 |(some t,r)=>(t,⟨r,none⟩)
 |(none,r)=>([],⟨r,some r.length⟩)
def il(st:St):List UInt8×St:=match (dO [34] st).bad with|some _=>([],dO [34] st)|none=>mW (dR (dO [34] st).l [])
def fU(ds:List UInt8):Int:=ds.foldl (fun n c=>10*n+((c.toNat:Int)-48)) 0
def qx(sg:Int)(d:List UInt8):Prop:=d.takeWhile jF= []∨(1<(d.takeWhile jF).length∧d.head? =some 48)∨(sg<0∧fU (d.takeWhile jF)=0)
instance(sg:Int)(d:List UInt8):Decidable (qx sg d):=by unfold qx;infer_instance
def kg(frm:Nat)(sg:Int)(d:List UInt8):Int×St:=
 if 10<(d.takeWhile jF).length then (0,⟨d.drop 10,some frm⟩)
 else if qx sg d then (sg*fU (d.takeWhile jF),⟨d.dropWhile jF,some frm⟩)
 else (sg*fU (d.takeWhile jF),⟨d.dropWhile jF,none⟩)
def sQ:List UInt8->Int×St
 | []=>kg 0 1 []
 |c::r=>if c=45 then kg (r.length+1) (-1) r else kg (r.length+1) 1 (c::r)
def eF(st:St):Int×St:=match st.bad with|some _=>(0,st)|none=>sQ (skip st.l)
structure Pr where
 name:List UInt8
 op:Int
 lo:Int
 hi:Int
 str:List UInt8
def Jo(name:List UInt8)(st:St):Pr×St:=
 let a:=dC st
 let b:=if a.1= [105,110] then a.2 else iQ a.2 st.l.length
 let lo:=eF b
 let c:=dO [46,46] lo.2
 let hi:=eF c
 (⟨name,1,lo.1,hi.1,[]⟩,hi.2)
def df(st:St):Pr×St:=
 let a:=dC st
 let b:=bY a.2
 if b.l.head? =some 61 then
  let t:=il (dO [61] b)
  (⟨a.1,2,0,0,t.1⟩,t.2)
 else if b.l.head? =some 94 then
  let t:=il (dO [94,61] b)
  (⟨a.1,3,0,0,t.1⟩,t.2)
 else Jo a.1 b
theorem jJ(l:List UInt8):skip l<:+l:=by
 induction l with
 |nil=>exact List.suffix_refl _
 |cons c r ih=>
  unfold skip;split
  ·exact ih.trans (List.suffix_cons _ _)
  ·exact List.suffix_refl _
theorem Lf{l:List UInt8}:(skip l).head? ≠some 32:=by
 induction l with
 |nil=>simp[skip]
 |cons c r ih=>
  unfold skip;split
  ·exact ih
  ·simpa using ‹_›
theorem PR{l:List UInt8}(h:l.head? ≠some 32):skip l=l:=by
 cases l with
 |nil=>rfl
 |cons c r=>unfold skip;rw[if_neg (by simpa using h)]
theorem Ko(l:List UInt8):skip (skip l)=skip l:=PR Lf
theorem KP(l acc:List UInt8):(dR l acc).2<:+l:=by
 induction hn:l.length using Nat.strongRecOn generalizing l acc with
 |_ n ih=>
  match l with
  | []=>rw[qO];exact List.suffix_refl _
  |c::r=>
   by_cases h1:c=34
   ·rw[xm _ _ h1];exact List.suffix_cons _ _
   ·by_cases h2:c=92
    ·match r with
     | []=>rw[sN _ h2];exact List.nil_suffix
     |d::r'=>
      by_cases h3:d=34∨d=92
      ·rw[qo _ _ h2 h3];exact(ih r'.length (by simp at hn;omega) r' _ rfl).trans ((List.suffix_cons _ _).trans (List.suffix_cons _ _))
      ·rw[uk _ _ h2 h3];exact List.suffix_cons _ _
    ·by_cases h3:32<=c∧c<=126
     ·rw[xw _ _ h1 h2 h3];exact(ih r.length (by simp at hn;omega) r _ rfl).trans (List.suffix_cons _ _)
     ·rw[tq _ _ h1 h2 h3];exact List.suffix_refl _
def St.ok(w:List UInt8)(st:St):Prop:=st.l<:+w∧∀n,st.bad=some n->n<=w.length
theorem St.ok.le{w:List UInt8}{st:St}(h:st.ok w):st.l.length<=w.length:=h.1.length_le
theorem iP{w:List UInt8}{st:St}(h:st.ok w):(bY st).ok w:=by
 unfold bY;split
 ·exact h
 ·exact⟨(jJ _).trans h.1,fun n hn=>by simp at hn⟩
theorem DF{w:List UInt8}{st:St}{n:Nat}(h:st.ok w)(hn:n<=w.length):(iQ st n).ok w:=by
 unfold iQ;split
 ·exact h
 ·exact⟨h.1,fun m hm=>by simp at hm;omega⟩
theorem lg(p:UInt8->Bool)(l:List UInt8):l.dropWhile p<:+l:=List.dropWhile_suffix p
theorem Og{w l:List UInt8}(h:l<:+w):(fq l).2.ok w:=by
 unfold fq;split
 ·exact⟨List.nil_suffix,fun n hn=>by simp at hn;omega⟩
 ·split
  ·exact⟨(lg _ _).trans ((List.suffix_cons _ _).trans h),fun n hn=>by simp at hn⟩
  ·refine⟨h,fun n hn=> ?_⟩;have:=h.length_le;simp at hn this;omega
theorem jf{w:List UInt8}{st:St}(h:st.ok w):(dC st).2.ok w:=by
 unfold dC;split
 ·exact h
 ·exact Og ((jJ _).trans h.1)
theorem NK{w m l:List UInt8}(h:l<:+w):(lC m l).ok w:=by
 unfold lC;split
 ·exact⟨(List.drop_suffix _ _).trans h,fun n hn=>by simp at hn⟩
 ·exact⟨h,fun n hn=>by have:=h.length_le;simp at hn;omega⟩
theorem iC{w m:List UInt8}{st:St}(h:st.ok w):(dO m st).ok w:=by
 unfold dO;split
 ·exact h
 ·exact NK ((jJ _).trans h.1)
theorem NZ{w:List UInt8}{x:Option (List UInt8)×List UInt8}(h:x.2<:+w):(mW x).2.ok w:=by
 unfold mW;split
 ·exact⟨h,fun n hn=>by simp at hn⟩
 ·exact⟨h,fun n hn=>by have:=h.length_le;simp at hn this;omega⟩
theorem yV{w:List UInt8}{st:St}(h:st.ok w):(il st).2.ok w:=by
 unfold il;split
 ·exact iC h
 ·exact NZ ((KP _ _).trans (iC h).1)
theorem CQ{w d:List UInt8}{frm:Nat}{sg:Int}(h:d<:+w)(hf:frm<=w.length):(kg frm sg d).2.ok w:=by
 unfold kg;split
 ·exact⟨(List.drop_suffix _ _).trans h,fun n hn=>by simp at hn;omega⟩
 ·split
  ·exact⟨(lg _ _).trans h,fun n hn=>by simp at hn;omega⟩
  ·exact⟨(lg _ _).trans h,fun n hn=>by simp at hn⟩
theorem PZ{w l:List UInt8}(h:l<:+w):(sQ l).2.ok w:=by
 have hl:=h.length_le;unfold sQ;split
 ·exact CQ h (by omega)
 ·simp at hl;split
  ·exact CQ ((List.suffix_cons _ _).trans h) hl
  ·exact CQ h hl
theorem kV{w:List UInt8}{st:St}(h:st.ok w):(eF st).2.ok w:=by
 unfold eF;split
 ·exact h
 ·exact PZ ((jJ _).trans h.1)
theorem Uy{w nm:List UInt8}{st:St}(h:st.ok w):(Jo nm st).2.ok w:=by
 unfold Jo;refine kV (iC (kV ?_));split
 ·exact jf h
 ·exact DF (jf h) h.le
theorem Du{w:List UInt8}{st:St}(h:st.ok w):(df st).2.ok w:=by
 unfold df;dsimp only;split
 ·exact yV (iC (iP (jf h)))
 ·split
  ·exact yV (iC (iP (jf h)))
  ·exact Uy (iP (jf h))
theorem qN{st:St}{n:Nat}(h:st.bad=some n):dC st=([],st):=by unfold dC;rw[h]
theorem kQ{m:List UInt8}{st:St}{n:Nat}(h:st.bad=some n):dO m st=st:=by unfold dO;rw[h]
theorem vz{st:St}{n:Nat}(h:st.bad=some n):il st=([],st):=by unfold il;rw[kQ h,h]
theorem jY{st:St}{n:Nat}(h:st.bad=some n):eF st=(0,st):=by unfold eF;rw[h]
theorem nz{st:St}{n:Nat}(h:st.bad=some n):bY st=st:=by unfold bY;rw[h]
theorem mo{st:St}{n m:Nat}(h:st.bad=some n):iQ st m=st:=by unfold iQ;rw[h]
def jB:Nat->St->List Pr->List Pr ⊕ Nat
 |0,st,_=>.inr st.l.length
 |k+1,st,acc=>
  let x:=df st
  let b:=bY x.2
  match b.bad with
  |some n=>.inr n
  |none=>
   if b.l= [] then .inl (acc++ [x.1])
   else
    let a:=dC b
    let c:=if a.1= [97,110,100] then a.2 else iQ a.2 b.l.length
    match c.bad with
    |some n=>.inr n
    |none=>jB k c (acc++ [x.1])
def fo(l:List UInt8):List Int:=l.map fun b=>(b.toNat:Int)
theorem eY(l:List UInt8)(c:UInt8):fo (l++ [c])=fo l++ [(c.toNat:Int)]:=by simp[fo]
theorem vU(l:List UInt8):strOfNums (fo l)=⟨l.toArray⟩:=Lib.Lz.strOfNums_map l
def bu(s:ByteArray)(i:Nat):List UInt8:=s.data.toList.drop i
theorem gP{s:ByteArray}{i:Nat}(h:s.size<=i):bu s i= []:=List.drop_eq_nil_of_le (by simpa using h)
theorem dP{s:ByteArray}{i:Nat}(h:i<s.size):bu s i=s[i]'h::bu s (i+1):=by
 unfold bu;rw[List.drop_eq_getElem_cons (by simpa using h)];rfl
theorem gu(s:ByteArray)(i:Nat):(bu s i).length=s.size-i:=by simp[bu]
theorem nR{c:UInt8}{n:Nat}(hn:n<256):((c.toNat:Int)==(n:Int))=decide (c=UInt8.ofNat n):=by
 rw[Bool.eq_iff_iff];simp only[beq_iff_eq,decide_eq_true_eq];constructor
 ·intro h;have h2:c.toNat=n:=by omega
  rw[<-h2];simp
 ·rintro rfl;simp[Nat.mod_eq_of_lt hn]
def M4(w0 w:World)(g:Nat)(s:ByteArray)(l:List UInt8)(e:Ending)(w':World):Prop:=
 (∃t r,dR l []=(some t,r)∧e=.returned (.string ⟨t.toArray⟩)∧ag w0 w' g s ((s.size-r.length:Nat):Int) (-1)∧Below w0.heap.size w0 w'∧az w w' g none)
 ∨(∃r,dR l []=(none,r)∧e=.returned (.string ⟨#[]⟩)∧ag w0 w' g s ((s.size-r.length:Nat):Int) ((s.size-r.length:Nat):Int)∧Below w0.heap.size w0 w'∧az w w' g none)
theorem GQ(k:Nat)(g:Nat)(s:ByteArray)(at0 at1:Nat)(w0 w:World)(hI:ag w0 w g s at0 (-1))(hB:Below w0.heap.size w0 w)(hs:s.size<=1000)
 (hm:bV.f k s at0 (-1) (⟨#[34]⟩:ByteArray)=some (s,(at1:Int), -1)) (hf:at1<=s.size):
 Calls prog 203 #[.pointer (some ⟨g,0,none⟩)] w (M4 w0 w g s (bu s at1)):=by
 have HI:=ai hI;have HB:=ai hB;have HK:=ai (az.refl w g none);have HM:=ai hm;have HS:=ai hs;have HL:=ai hB.size;clear hI hB hm;go_enter func203,ntmps203
 go_wp2_with (go_at_call 202;(with_reducible refine(bV.calls k g s at0 (-1) (⟨#[34]⟩:ByteArray) s at1 (-1) w0 _ ?side1 ?side2 HM.o).mono ?_);(case side1=>(repeat(first|(with_reducible first|exact HI.o|apply ag.alloc|apply ag.drewN|apply ag.drew|apply ag.bG|apply ag.bE|apply ag.bF)|exact HI.o)));(case side2=>(repeat(first|(with_reducible first|exact HB.o|apply ae|apply ah|apply ak|refine au ?_ (ag.ge HI.o))|exact HB.o)));rintro e w2 ⟨rfl,hi,hb,hk⟩;replace HI:=ai hi;replace HB:=ai hb;replace HK:=ai (az.trans (by(repeat(first|(with_reducible first|exact HK.o|apply az.cO|apply aC|apply aJ|apply aG)|exact HK.o))) hk (Or.inl rfl));clear hi hb hk;obtain⟨HG,hg⟩:=HI.o;have hc0:=aT HG;have hc1:=aR HG;have hc2:=aU HG;have hf0:=af HG 0;have hf1:=af HG 1;have hf2:=af HG 2;clear HG hg)
 clear hc0 hc1 hc2 hf0 hf1 hf2;go_loopg [3] (s.size+2) (fun n v3 wr=>∃(acc:List UInt8) (at_:Nat) (bad:Int),ay (at_<=s.size∧((bad= -1∧s.size+2<=at_+n∧acc.length<=at_∧dR (bu s at_) acc=dR (bu s at1) []∧Kd.R (Kd.int .u8) 5 wr w.heap.size (fun _=>True) v3 (fo acc))∨(bad=at_∧1<=n∧dR (bu s at1) []=(none,bu s at_))))∧ay (ag w0 wr g s at_ bad)∧ay (az w wr g none)∧ay (Below w0.heap.size w0 wr))
 case atStart=>exact⟨[],at1, -1,⟨hf,Or.inl ⟨rfl,by omega,by simp,rfl,Kd.iF _ _ _ _ _⟩⟩,HI,HK,HB⟩
 case round=>
  clear HI HK HB HM;obtain⟨acc,at_,bad,HA,HI,HK,HB⟩:=hrel;have hlb:at_<=s.size:=HA.o.1;rcases HA.o.2 with⟨rfl,hn,hl,ht,ho⟩|⟨rfl,hn,ht⟩
  ·have HA2:=ai ht;have HA1:=ai hl;have HO:=ai ho;clear ht hl ho HA;by_cases hlt:at_<s.size
   ·obtain⟨c,hc⟩:∃c,s[at_]'hlt=c:=⟨_,rfl⟩
    have hx:∀h:at_<s.size,s[at_]'h=c:=fun _=>hc
    have hd:=dP hlt;rw[hc] at hd;have HD:=ai hd;clear hc hd;have q1:=eq_true (show ((at_:Int)<(s.size:Int)) by omega);have q2:=eq_true (show (0:Int)<=(at_:Int) by omega);have q3:=decide_eq_false (show ¬((s.size:Int)<=(at_:Int)) by omega);obtain⟨HG,hg⟩:=HI.o;have hc0:=aT HG;have hc1:=aR HG;have hc2:=aU HG;have hf0:=af HG 0;have hf1:=af HG 1;have hf2:=af HG 2;clear HG hg;by_cases h34:c=34
    ·have e34:((c.toNat:Int)==34)=true:=by rw[h34];rfl
     have HC:=ai h34;clear h34;have hcv:=fun m=>mY (P:=prog) underlying263 underlying5 underlying9 (Kd.lF (show Kd.R (Kd.int .u8) 5 ((wr.drewN m).setCell ⟨g,1,none⟩ (.int .i64 ((at_:Int)+1))) w.heap.size (fun _=>True) u3 (fo acc) from Kd.dD (Kd.gK (p:=⟨g,1,none⟩) (ag.apart (by(repeat(first|(with_reducible first|exact HI.o|apply ag.alloc|apply ag.drewN|apply ag.drew|apply ag.bG|apply ag.bE|apply ag.bF)|exact HI.o)):ag w0 _ g s _ _) (by(with_reducible repeat(first|apply Kd.dx|apply Kd.dQ|apply Kd.dm));exact HO.o) (by decide)) (fun _ hk=>hk.2) (.int .i64 ((at_:Int)+1))) (fun _ _=>trivial)))
     go_wp2
     repeat(go_quiet (fail);try go_wp2)
     go_ret;exact Or.inl ⟨acc,bu s (at_+1),by rw[<-HA2.o,HD.o,xm _ _ HC.o],by rw[vU];rfl,by rw[gu,show ((s.size-(s.size-(at_+1)):Nat):Int)=(at_:Int)+1 by omega];(repeat(first|(with_reducible first|exact HI.o|apply ag.alloc|apply ag.drewN|apply ag.drew|apply ag.bG|apply ag.bE|apply ag.bF)|exact HI.o)),by(repeat(first|(with_reducible first|exact HB.o|apply ae|apply ah|apply ak|refine au ?_ (ag.ge HI.o))|exact HB.o)),by(repeat(first|(with_reducible first|exact HK.o|apply az.cO|apply aC|apply aJ|apply aG)|exact HK.o))⟩
    ·have e34:((c.toNat:Int)==34)=false:=by rw[show (34:Int)=((34:Nat):Int) from rfl,nR (by decide)];simpa using h34
     by_cases h92:c=92
     ·have e92:((c.toNat:Int)==92)=true:=by rw[h92];rfl
      have HC:=ai (show c=92 from h92);clear h34 h92;by_cases hlt1:at_+1<s.size
      ·obtain⟨d,hd1⟩:∃d,s[at_+1]'hlt1=d:=⟨_,rfl⟩
       have hx1:∀h:at_+1<s.size,s[at_+1]'h=d:=fun _=>hd1
       have hd2:=dP hlt1;rw[hd1] at hd2;have HD1:=ai hd2;clear hd1 hd2;have p1:=eq_true (show ((at_:Int)+1<(s.size:Int)) by omega);have p2:=eq_true (show (0:Int)<=(at_:Int)+1 by omega);have p3:=decide_eq_false (show ¬((s.size:Int)<=(at_:Int)+1) by omega);have p4:((at_:Int)+1).toNat=at_+1:=by omega
       by_cases d34:d=34
       ·have f34:((d.toNat:Int) != 34)=false:=by rw[d34];rfl
        have vZ:=ai (show dR (bu s at_) acc=dR (bu s (at_+2)) (acc++ [d]) by rw[HD.o,HD1.o,qo _ _ HC.o (Or.inl d34)]);clear d34;go_wp2_with ((with_reducible refine bn (b:=.append) (xs:= #[.tmp 115,.tmp 117]) rfl ?_);at_builtin;refine Kd.di (Kd.int .u8) w.heap.size rfl (.tmp 115) (.tmp 117) 263 5 (.int .u8 0) 1 rfl underlying263 info5 rfl (by decide) (by omega) u3 (fo acc) (d.toNat:Int) [.int .u8 (d.toNat:Int)] (fun _=>True) (fun _=>False) rfl ?aX ?aP (fun _ hk=>hk.elim) ?aF ?aO (Below.refl _ _) ?aS ?aL ?_;(case aX=>first|rfl|(go_simp;done)|(go_simp;rfl));(case aP=>exact rfl);(case aF=>exact(fun _ _=>trivial));(case aO=>exact(by(with_reducible repeat(first|apply Kd.dx|apply Kd.dQ|apply Kd.dm));exact(Kd.dD (Kd.gK (p:=⟨g,1,none⟩) (ag.apart (by(repeat(first|(with_reducible first|exact HI.o|apply ag.alloc|apply ag.drewN|apply ag.drew|apply ag.bG|apply ag.bE|apply ag.bF)|exact HI.o)):ag w0 _ g s _ _) (by(with_reducible repeat(first|apply Kd.dx|apply Kd.dQ|apply Kd.dm));exact HO.o) (by decide)) (fun _ hk=>hk.2) (_)) (fun _ _=>trivial))));(case aS=>exact(mf (w:=w) (g:=g) (row:=none) (by(repeat(first|(with_reducible first|exact HK.o|apply az.cO|apply aC|apply aJ|apply aG)|exact HK.o)))));(case aL=>have:=HA1.o;have:=HS.o;simp[fo];omega);intro v3 w3 ho hb hg hat;rw[<-eY] at ho;replace HB:=ai (jv (by(repeat(first|(with_reducible first|exact HB.o|apply ae|apply ah|apply ak|refine au ?_ (ag.ge HI.o))|exact HB.o))) HL.o hb);replace HI:=ai (ag.grown (by(repeat(first|(with_reducible first|exact HI.o|apply ag.alloc|apply ag.drewN|apply ag.drew|apply ag.bG|apply ag.bE|apply ag.bF)|exact HI.o))) hg (ag.own_ne HI.o HO.o (by decide)));replace HK:=ai (az.trans (by(repeat(first|(with_reducible first|exact HK.o|apply az.cO|apply aC|apply aJ|apply aG)|exact HK.o))) (az.lH hg g) (Kd.qX HO.o));replace HO:=ai ho;clear ho hb hg hat;obtain⟨HG,hg⟩:=HI.o;have hc0:=aT HG;have hc1:=aR HG;have hc2:=aU HG;have hf0:=af HG 0;have hf1:=af HG 1;have hf2:=af HG 2;clear HG hg)
        repeat(go_quiet (fail);try go_wp2_with ((with_reducible refine bn (b:=.append) (xs:= #[.tmp 115,.tmp 117]) rfl ?_);at_builtin;refine Kd.di (Kd.int .u8) w.heap.size rfl (.tmp 115) (.tmp 117) 263 5 (.int .u8 0) 1 rfl underlying263 info5 rfl (by decide) (by omega) u3 (fo acc) (d.toNat:Int) [.int .u8 (d.toNat:Int)] (fun _=>True) (fun _=>False) rfl ?aX ?aP (fun _ hk=>hk.elim) ?aF ?aO (Below.refl _ _) ?aS ?aL ?_;(case aX=>first|rfl|(go_simp;done)|(go_simp;rfl));(case aP=>exact rfl);(case aF=>exact(fun _ _=>trivial));(case aO=>exact(by(with_reducible repeat(first|apply Kd.dx|apply Kd.dQ|apply Kd.dm));exact(Kd.dD (Kd.gK (p:=⟨g,1,none⟩) (ag.apart (by(repeat(first|(with_reducible first|exact HI.o|apply ag.alloc|apply ag.drewN|apply ag.drew|apply ag.bG|apply ag.bE|apply ag.bF)|exact HI.o)):ag w0 _ g s _ _) (by(with_reducible repeat(first|apply Kd.dx|apply Kd.dQ|apply Kd.dm));exact HO.o) (by decide)) (fun _ hk=>hk.2) (_)) (fun _ _=>trivial))));(case aS=>exact(mf (w:=w) (g:=g) (row:=none) (by(repeat(first|(with_reducible first|exact HK.o|apply az.cO|apply aC|apply aJ|apply aG)|exact HK.o)))));(case aL=>have:=HA1.o;have:=HS.o;simp[fo];omega);intro v3 w3 ho hb hg hat;rw[<-eY] at ho;replace HB:=ai (jv (by(repeat(first|(with_reducible first|exact HB.o|apply ae|apply ah|apply ak|refine au ?_ (ag.ge HI.o))|exact HB.o))) HL.o hb);replace HI:=ai (ag.grown (by(repeat(first|(with_reducible first|exact HI.o|apply ag.alloc|apply ag.drewN|apply ag.drew|apply ag.bG|apply ag.bE|apply ag.bF)|exact HI.o))) hg (ag.own_ne HI.o HO.o (by decide)));replace HK:=ai (az.trans (by(repeat(first|(with_reducible first|exact HK.o|apply az.cO|apply aC|apply aJ|apply aG)|exact HK.o))) (az.lH hg g) (Kd.qX HO.o));replace HO:=ai ho;clear ho hb hg hat;obtain⟨HG,hg⟩:=HI.o;have hc0:=aT HG;have hc1:=aR HG;have hc2:=aU HG;have hf0:=af HG 0;have hf1:=af HG 1;have hf2:=af HG 2;clear HG hg))
        go_roundg (gk-1)
        case measure=>omega
        case rel=>exact⟨acc++ [d],at_+2, -1,⟨by omega,Or.inl ⟨rfl,by omega,by have:=HA1.o;simp;omega,vZ.o.symm.trans HA2.o,Kd.dD (Kd.gK (p:=⟨g,1,none⟩) (ag.apart (by(repeat(first|(with_reducible first|exact HI.o|apply ag.alloc|apply ag.drewN|apply ag.drew|apply ag.bG|apply ag.bE|apply ag.bF)|exact HI.o)):ag w0 _ g s _ _) (by(with_reducible repeat(first|apply Kd.dx|apply Kd.dQ|apply Kd.dm));exact HO.o) (by decide)) (fun _ hk=>hk.2) (_)) (fun _ _=>trivial)⟩⟩,⟨by rw[show ((at_+2:Nat):Int)=(at_:Int)+1+1 by omega];(repeat(first|(with_reducible first|exact HI.o|apply ag.alloc|apply ag.drewN|apply ag.drew|apply ag.bG|apply ag.bE|apply ag.bF)|exact HI.o))⟩,⟨by(repeat(first|(with_reducible first|exact HK.o|apply az.cO|apply aC|apply aJ|apply aG)|exact HK.o))⟩,⟨by(repeat(first|(with_reducible first|exact HB.o|apply ae|apply ah|apply ak|refine au ?_ (ag.ge HI.o))|exact HB.o))⟩⟩
       ·have f34:((d.toNat:Int) != 34)=true:=by rw[bne,show (34:Int)=((34:Nat):Int) from rfl,nR (by decide)];simpa using d34
        by_cases d92:d=92
        ·have f92:((d.toNat:Int) != 92)=false:=by rw[d92];rfl
         have vZ:=ai (show dR (bu s at_) acc=dR (bu s (at_+2)) (acc++ [d]) by rw[HD.o,HD1.o,qo _ _ HC.o (Or.inr d92)]);clear d34 d92;go_wp2_with ((with_reducible refine bn (b:=.append) (xs:= #[.tmp 115,.tmp 117]) rfl ?_);at_builtin;refine Kd.di (Kd.int .u8) w.heap.size rfl (.tmp 115) (.tmp 117) 263 5 (.int .u8 0) 1 rfl underlying263 info5 rfl (by decide) (by omega) u3 (fo acc) (d.toNat:Int) [.int .u8 (d.toNat:Int)] (fun _=>True) (fun _=>False) rfl ?aX ?aP (fun _ hk=>hk.elim) ?aF ?aO (Below.refl _ _) ?aS ?aL ?_;(case aX=>first|rfl|(go_simp;done)|(go_simp;rfl));(case aP=>exact rfl);(case aF=>exact(fun _ _=>trivial));(case aO=>exact(by(with_reducible repeat(first|apply Kd.dx|apply Kd.dQ|apply Kd.dm));exact(Kd.dD (Kd.gK (p:=⟨g,1,none⟩) (ag.apart (by(repeat(first|(with_reducible first|exact HI.o|apply ag.alloc|apply ag.drewN|apply ag.drew|apply ag.bG|apply ag.bE|apply ag.bF)|exact HI.o)):ag w0 _ g s _ _) (by(with_reducible repeat(first|apply Kd.dx|apply Kd.dQ|apply Kd.dm));exact HO.o) (by decide)) (fun _ hk=>hk.2) (_)) (fun _ _=>trivial))));(case aS=>exact(mf (w:=w) (g:=g) (row:=none) (by(repeat(first|(with_reducible first|exact HK.o|apply az.cO|apply aC|apply aJ|apply aG)|exact HK.o)))));(case aL=>have:=HA1.o;have:=HS.o;simp[fo];omega);intro v3 w3 ho hb hg hat;rw[<-eY] at ho;replace HB:=ai (jv (by(repeat(first|(with_reducible first|exact HB.o|apply ae|apply ah|apply ak|refine au ?_ (ag.ge HI.o))|exact HB.o))) HL.o hb);replace HI:=ai (ag.grown (by(repeat(first|(with_reducible first|exact HI.o|apply ag.alloc|apply ag.drewN|apply ag.drew|apply ag.bG|apply ag.bE|apply ag.bF)|exact HI.o))) hg (ag.own_ne HI.o HO.o (by decide)));replace HK:=ai (az.trans (by(repeat(first|(with_reducible first|exact HK.o|apply az.cO|apply aC|apply aJ|apply aG)|exact HK.o))) (az.lH hg g) (Kd.qX HO.o));replace HO:=ai ho;clear ho hb hg hat;obtain⟨HG,hg⟩:=HI.o;have hc0:=aT HG;have hc1:=aR HG;have hc2:=aU HG;have hf0:=af HG 0;have hf1:=af HG 1;have hf2:=af HG 2;clear HG hg)
         repeat(go_quiet (fail);try go_wp2_with ((with_reducible refine bn (b:=.append) (xs:= #[.tmp 115,.tmp 117]) rfl ?_);at_builtin;refine Kd.di (Kd.int .u8) w.heap.size rfl (.tmp 115) (.tmp 117) 263 5 (.int .u8 0) 1 rfl underlying263 info5 rfl (by decide) (by omega) u3 (fo acc) (d.toNat:Int) [.int .u8 (d.toNat:Int)] (fun _=>True) (fun _=>False) rfl ?aX ?aP (fun _ hk=>hk.elim) ?aF ?aO (Below.refl _ _) ?aS ?aL ?_;(case aX=>first|rfl|(go_simp;done)|(go_simp;rfl));(case aP=>exact rfl);(case aF=>exact(fun _ _=>trivial));(case aO=>exact(by(with_reducible repeat(first|apply Kd.dx|apply Kd.dQ|apply Kd.dm));exact(Kd.dD (Kd.gK (p:=⟨g,1,none⟩) (ag.apart (by(repeat(first|(with_reducible first|exact HI.o|apply ag.alloc|apply ag.drewN|apply ag.drew|apply ag.bG|apply ag.bE|apply ag.bF)|exact HI.o)):ag w0 _ g s _ _) (by(with_reducible repeat(first|apply Kd.dx|apply Kd.dQ|apply Kd.dm));exact HO.o) (by decide)) (fun _ hk=>hk.2) (_)) (fun _ _=>trivial))));(case aS=>exact(mf (w:=w) (g:=g) (row:=none) (by(repeat(first|(with_reducible first|exact HK.o|apply az.cO|apply aC|apply aJ|apply aG)|exact HK.o)))));(case aL=>have:=HA1.o;have:=HS.o;simp[fo];omega);intro v3 w3 ho hb hg hat;rw[<-eY] at ho;replace HB:=ai (jv (by(repeat(first|(with_reducible first|exact HB.o|apply ae|apply ah|apply ak|refine au ?_ (ag.ge HI.o))|exact HB.o))) HL.o hb);replace HI:=ai (ag.grown (by(repeat(first|(with_reducible first|exact HI.o|apply ag.alloc|apply ag.drewN|apply ag.drew|apply ag.bG|apply ag.bE|apply ag.bF)|exact HI.o))) hg (ag.own_ne HI.o HO.o (by decide)));replace HK:=ai (az.trans (by(repeat(first|(with_reducible first|exact HK.o|apply az.cO|apply aC|apply aJ|apply aG)|exact HK.o))) (az.lH hg g) (Kd.qX HO.o));replace HO:=ai ho;clear ho hb hg hat;obtain⟨HG,hg⟩:=HI.o;have hc0:=aT HG;have hc1:=aR HG;have hc2:=aU HG;have hf0:=af HG 0;have hf1:=af HG 1;have hf2:=af HG 2;clear HG hg))
         go_roundg (gk-1)
         case measure=>omega
         case rel=>exact⟨acc++ [d],at_+2, -1,⟨by omega,Or.inl ⟨rfl,by omega,by have:=HA1.o;simp;omega,vZ.o.symm.trans HA2.o,Kd.dD (Kd.gK (p:=⟨g,1,none⟩) (ag.apart (by(repeat(first|(with_reducible first|exact HI.o|apply ag.alloc|apply ag.drewN|apply ag.drew|apply ag.bG|apply ag.bE|apply ag.bF)|exact HI.o)):ag w0 _ g s _ _) (by(with_reducible repeat(first|apply Kd.dx|apply Kd.dQ|apply Kd.dm));exact HO.o) (by decide)) (fun _ hk=>hk.2) (_)) (fun _ _=>trivial)⟩⟩,⟨by rw[show ((at_+2:Nat):Int)=(at_:Int)+1+1 by omega];(repeat(first|(with_reducible first|exact HI.o|apply ag.alloc|apply ag.drewN|apply ag.drew|apply ag.bG|apply ag.bE|apply ag.bF)|exact HI.o))⟩,⟨by(repeat(first|(with_reducible first|exact HK.o|apply az.cO|apply aC|apply aJ|apply aG)|exact HK.o))⟩,⟨by(repeat(first|(with_reducible first|exact HB.o|apply ae|apply ah|apply ak|refine au ?_ (ag.ge HI.o))|exact HB.o))⟩⟩
        ·have f92:((d.toNat:Int) != 92)=true:=by rw[bne,show (92:Int)=((92:Nat):Int) from rfl,nR (by decide)];simpa using d92
         have vZ:=ai (show dR (bu s at_) acc=(none,bu s (at_+1)) by rw[HD.o,HD1.o,uk _ _ HC.o (by simp[d34,d92])]);clear d34 d92;go_wp2_with (go_at_call 146;(with_reducible refine(aH.calls g s (at_+1) (-1) (at_+1) s (at_+1) (at_+1) w0 _ ?side1 ?side2 rfl).mono ?_);(case side1=>(repeat(first|(with_reducible first|exact HI.o|apply ag.alloc|apply ag.drewN|apply ag.drew|apply ag.bG|apply ag.bE|apply ag.bF)|exact HI.o)));(case side2=>(repeat(first|(with_reducible first|exact HB.o|apply ae|apply ah|apply ak|refine au ?_ (ag.ge HI.o))|exact HB.o)));rintro e w2 ⟨rfl,hi,hb,hk⟩;replace HI:=ai hi;replace HB:=ai hb;replace HK:=ai (az.trans (by(repeat(first|(with_reducible first|exact HK.o|apply az.cO|apply aC|apply aJ|apply aG)|exact HK.o))) hk (Or.inl rfl));clear hi hb hk;obtain⟨HG,hg⟩:=HI.o;have hc0:=aT HG;have hc1:=aR HG;have hc2:=aU HG;have hf0:=af HG 0;have hf1:=af HG 1;have hf2:=af HG 2;clear HG hg)
         repeat(go_quiet (fail);try go_wp2_with (go_at_call 146;(with_reducible refine(aH.calls g s (at_+1) (-1) (at_+1) s (at_+1) (at_+1) w0 _ ?side1 ?side2 rfl).mono ?_);(case side1=>(repeat(first|(with_reducible first|exact HI.o|apply ag.alloc|apply ag.drewN|apply ag.drew|apply ag.bG|apply ag.bE|apply ag.bF)|exact HI.o)));(case side2=>(repeat(first|(with_reducible first|exact HB.o|apply ae|apply ah|apply ak|refine au ?_ (ag.ge HI.o))|exact HB.o)));rintro e w2 ⟨rfl,hi,hb,hk⟩;replace HI:=ai hi;replace HB:=ai hb;replace HK:=ai (az.trans (by(repeat(first|(with_reducible first|exact HK.o|apply az.cO|apply aC|apply aJ|apply aG)|exact HK.o))) hk (Or.inl rfl));clear hi hb hk;obtain⟨HG,hg⟩:=HI.o;have hc0:=aT HG;have hc1:=aR HG;have hc2:=aU HG;have hf0:=af HG 0;have hf1:=af HG 1;have hf2:=af HG 2;clear HG hg))
         go_roundg 1
         case measure=>omega
         case rel=>exact⟨acc,(at_+1),((at_+1):Nat),⟨by omega,Or.inr ⟨rfl,by omega,HA2.o.symm.trans vZ.o⟩⟩,⟨by first|(rw[show ((at_+1:Nat):Int)=(at_:Int)+1 by omega];(repeat(first|(with_reducible first|exact HI.o|apply ag.alloc|apply ag.drewN|apply ag.drew|apply ag.bG|apply ag.bE|apply ag.bF)|exact HI.o)))|(repeat(first|(with_reducible first|exact HI.o|apply ag.alloc|apply ag.drewN|apply ag.drew|apply ag.bG|apply ag.bE|apply ag.bF)|exact HI.o))⟩,⟨by(repeat(first|(with_reducible first|exact HK.o|apply az.cO|apply aC|apply aJ|apply aG)|exact HK.o))⟩,⟨by(repeat(first|(with_reducible first|exact HB.o|apply ae|apply ah|apply ak|refine au ?_ (ag.ge HI.o))|exact HB.o))⟩⟩
      ·have p3:=decide_eq_true (show ((s.size:Int)<=(at_:Int)+1) by omega);have vZ:=ai (show dR (bu s at_) acc=(none,bu s (at_+1)) by rw[HD.o,gP (show s.size<=at_+1 by omega),sN _ HC.o]);go_wp2_with (go_at_call 146;(with_reducible refine(aH.calls g s (at_+1) (-1) (at_+1) s (at_+1) (at_+1) w0 _ ?side1 ?side2 rfl).mono ?_);(case side1=>(repeat(first|(with_reducible first|exact HI.o|apply ag.alloc|apply ag.drewN|apply ag.drew|apply ag.bG|apply ag.bE|apply ag.bF)|exact HI.o)));(case side2=>(repeat(first|(with_reducible first|exact HB.o|apply ae|apply ah|apply ak|refine au ?_ (ag.ge HI.o))|exact HB.o)));rintro e w2 ⟨rfl,hi,hb,hk⟩;replace HI:=ai hi;replace HB:=ai hb;replace HK:=ai (az.trans (by(repeat(first|(with_reducible first|exact HK.o|apply az.cO|apply aC|apply aJ|apply aG)|exact HK.o))) hk (Or.inl rfl));clear hi hb hk;obtain⟨HG,hg⟩:=HI.o;have hc0:=aT HG;have hc1:=aR HG;have hc2:=aU HG;have hf0:=af HG 0;have hf1:=af HG 1;have hf2:=af HG 2;clear HG hg)
       repeat(go_quiet (fail);try go_wp2_with (go_at_call 146;(with_reducible refine(aH.calls g s (at_+1) (-1) (at_+1) s (at_+1) (at_+1) w0 _ ?side1 ?side2 rfl).mono ?_);(case side1=>(repeat(first|(with_reducible first|exact HI.o|apply ag.alloc|apply ag.drewN|apply ag.drew|apply ag.bG|apply ag.bE|apply ag.bF)|exact HI.o)));(case side2=>(repeat(first|(with_reducible first|exact HB.o|apply ae|apply ah|apply ak|refine au ?_ (ag.ge HI.o))|exact HB.o)));rintro e w2 ⟨rfl,hi,hb,hk⟩;replace HI:=ai hi;replace HB:=ai hb;replace HK:=ai (az.trans (by(repeat(first|(with_reducible first|exact HK.o|apply az.cO|apply aC|apply aJ|apply aG)|exact HK.o))) hk (Or.inl rfl));clear hi hb hk;obtain⟨HG,hg⟩:=HI.o;have hc0:=aT HG;have hc1:=aR HG;have hc2:=aU HG;have hf0:=af HG 0;have hf1:=af HG 1;have hf2:=af HG 2;clear HG hg))
       go_roundg 1
       case measure=>omega
       case rel=>exact⟨acc,(at_+1),((at_+1):Nat),⟨by omega,Or.inr ⟨rfl,by omega,HA2.o.symm.trans vZ.o⟩⟩,⟨by first|(rw[show ((at_+1:Nat):Int)=(at_:Int)+1 by omega];(repeat(first|(with_reducible first|exact HI.o|apply ag.alloc|apply ag.drewN|apply ag.drew|apply ag.bG|apply ag.bE|apply ag.bF)|exact HI.o)))|(repeat(first|(with_reducible first|exact HI.o|apply ag.alloc|apply ag.drewN|apply ag.drew|apply ag.bG|apply ag.bE|apply ag.bF)|exact HI.o))⟩,⟨by(repeat(first|(with_reducible first|exact HK.o|apply az.cO|apply aC|apply aJ|apply aG)|exact HK.o))⟩,⟨by(repeat(first|(with_reducible first|exact HB.o|apply ae|apply ah|apply ak|refine au ?_ (ag.ge HI.o))|exact HB.o))⟩⟩
     ·have e92:((c.toNat:Int)==92)=false:=by rw[show (92:Int)=((92:Nat):Int) from rfl,nR (by decide)];simpa using h92
      by_cases hp:32<=c∧c<=126
      ·have g1:=decide_eq_true (show (32:Int)<=(c.toNat:Int) by have:=UInt8.le_iff_toNat_le.mp hp.1;simp at this;omega);have g2:=decide_eq_true (show (c.toNat:Int)<=126 by have:=UInt8.le_iff_toNat_le.mp hp.2;simp at this;omega);have vZ:=ai (show dR (bu s at_) acc=dR (bu s (at_+1)) (acc++ [c]) by rw[HD.o,xw _ _ h34 h92 hp]);clear h34 h92 hp;go_wp2_with ((with_reducible refine bn (b:=.append) (xs:= #[.tmp 115,.tmp 117]) rfl ?_);at_builtin;refine Kd.di (Kd.int .u8) w.heap.size rfl (.tmp 115) (.tmp 117) 263 5 (.int .u8 0) 1 rfl underlying263 info5 rfl (by decide) (by omega) u3 (fo acc) (c.toNat:Int) [.int .u8 (c.toNat:Int)] (fun _=>True) (fun _=>False) rfl ?aX ?aP (fun _ hk=>hk.elim) ?aF ?aO (Below.refl _ _) ?aS ?aL ?_;(case aX=>first|rfl|(go_simp;done)|(go_simp;rfl));(case aP=>exact rfl);(case aF=>exact(fun _ _=>trivial));(case aO=>exact(by(with_reducible repeat(first|apply Kd.dx|apply Kd.dQ|apply Kd.dm));exact HO.o));(case aS=>exact(mf (w:=w) (g:=g) (row:=none) (by(repeat(first|(with_reducible first|exact HK.o|apply az.cO|apply aC|apply aJ|apply aG)|exact HK.o)))));(case aL=>have:=HA1.o;have:=HS.o;simp[fo];omega);intro v3 w3 ho hb hg hat;rw[<-eY] at ho;replace HB:=ai (jv (by(repeat(first|(with_reducible first|exact HB.o|apply ae|apply ah|apply ak|refine au ?_ (ag.ge HI.o))|exact HB.o))) HL.o hb);replace HI:=ai (ag.grown (by(repeat(first|(with_reducible first|exact HI.o|apply ag.alloc|apply ag.drewN|apply ag.drew|apply ag.bG|apply ag.bE|apply ag.bF)|exact HI.o))) hg (ag.own_ne HI.o HO.o (by decide)));replace HK:=ai (az.trans (by(repeat(first|(with_reducible first|exact HK.o|apply az.cO|apply aC|apply aJ|apply aG)|exact HK.o))) (az.lH hg g) (Kd.qX HO.o));replace HO:=ai ho;clear ho hb hg hat;obtain⟨HG,hg⟩:=HI.o;have hc0:=aT HG;have hc1:=aR HG;have hc2:=aU HG;have hf0:=af HG 0;have hf1:=af HG 1;have hf2:=af HG 2;clear HG hg)
       repeat(go_quiet (fail);try go_wp2_with ((with_reducible refine bn (b:=.append) (xs:= #[.tmp 115,.tmp 117]) rfl ?_);at_builtin;refine Kd.di (Kd.int .u8) w.heap.size rfl (.tmp 115) (.tmp 117) 263 5 (.int .u8 0) 1 rfl underlying263 info5 rfl (by decide) (by omega) u3 (fo acc) (c.toNat:Int) [.int .u8 (c.toNat:Int)] (fun _=>True) (fun _=>False) rfl ?aX ?aP (fun _ hk=>hk.elim) ?aF ?aO (Below.refl _ _) ?aS ?aL ?_;(case aX=>first|rfl|(go_simp;done)|(go_simp;rfl));(case aP=>exact rfl);(case aF=>exact(fun _ _=>trivial));(case aO=>exact(by(with_reducible repeat(first|apply Kd.dx|apply Kd.dQ|apply Kd.dm));exact HO.o));(case aS=>exact(mf (w:=w) (g:=g) (row:=none) (by(repeat(first|(with_reducible first|exact HK.o|apply az.cO|apply aC|apply aJ|apply aG)|exact HK.o)))));(case aL=>have:=HA1.o;have:=HS.o;simp[fo];omega);intro v3 w3 ho hb hg hat;rw[<-eY] at ho;replace HB:=ai (jv (by(repeat(first|(with_reducible first|exact HB.o|apply ae|apply ah|apply ak|refine au ?_ (ag.ge HI.o))|exact HB.o))) HL.o hb);replace HI:=ai (ag.grown (by(repeat(first|(with_reducible first|exact HI.o|apply ag.alloc|apply ag.drewN|apply ag.drew|apply ag.bG|apply ag.bE|apply ag.bF)|exact HI.o))) hg (ag.own_ne HI.o HO.o (by decide)));replace HK:=ai (az.trans (by(repeat(first|(with_reducible first|exact HK.o|apply az.cO|apply aC|apply aJ|apply aG)|exact HK.o))) (az.lH hg g) (Kd.qX HO.o));replace HO:=ai ho;clear ho hb hg hat;obtain⟨HG,hg⟩:=HI.o;have hc0:=aT HG;have hc1:=aR HG;have hc2:=aU HG;have hf0:=af HG 0;have hf1:=af HG 1;have hf2:=af HG 2;clear HG hg))
       go_roundg (gk-1)
       case measure=>omega
       case rel=>exact⟨acc++ [c],at_+1, -1,⟨by omega,Or.inl ⟨rfl,by omega,by have:=HA1.o;simp;omega,vZ.o.symm.trans HA2.o,Kd.dD (Kd.gK (p:=⟨g,1,none⟩) (ag.apart (by(repeat(first|(with_reducible first|exact HI.o|apply ag.alloc|apply ag.drewN|apply ag.drew|apply ag.bG|apply ag.bE|apply ag.bF)|exact HI.o)):ag w0 _ g s _ _) (by(with_reducible repeat(first|apply Kd.dx|apply Kd.dQ|apply Kd.dm));exact HO.o) (by decide)) (fun _ hk=>hk.2) (_)) (fun _ _=>trivial)⟩⟩,⟨by rw[show ((at_+1:Nat):Int)=(at_:Int)+1 by omega];(repeat(first|(with_reducible first|exact HI.o|apply ag.alloc|apply ag.drewN|apply ag.drew|apply ag.bG|apply ag.bE|apply ag.bF)|exact HI.o))⟩,⟨by(repeat(first|(with_reducible first|exact HK.o|apply az.cO|apply aC|apply aJ|apply aG)|exact HK.o))⟩,⟨by(repeat(first|(with_reducible first|exact HB.o|apply ae|apply ah|apply ak|refine au ?_ (ag.ge HI.o))|exact HB.o))⟩⟩
      ·have vZ:=ai (show dR (bu s at_) acc=(none,bu s at_) by rw[HD.o,tq _ _ h34 h92 hp]);clear h34 h92;by_cases g0:32<=c
       ·have g1:=decide_eq_true (show (32:Int)<=(c.toNat:Int) by have:=UInt8.le_iff_toNat_le.mp g0;simp at this;omega);have g2:=decide_eq_false (show ¬(c.toNat:Int)<=126 by intro hh;exact hp ⟨g0,by rw[UInt8.le_iff_toNat_le];simp;omega⟩);clear g0 hp;go_wp2_with (go_at_call 146;(with_reducible refine(aH.calls g s at_ (-1) at_ s at_ at_ w0 _ ?side1 ?side2 rfl).mono ?_);(case side1=>(repeat(first|(with_reducible first|exact HI.o|apply ag.alloc|apply ag.drewN|apply ag.drew|apply ag.bG|apply ag.bE|apply ag.bF)|exact HI.o)));(case side2=>(repeat(first|(with_reducible first|exact HB.o|apply ae|apply ah|apply ak|refine au ?_ (ag.ge HI.o))|exact HB.o)));rintro e w2 ⟨rfl,hi,hb,hk⟩;replace HI:=ai hi;replace HB:=ai hb;replace HK:=ai (az.trans (by(repeat(first|(with_reducible first|exact HK.o|apply az.cO|apply aC|apply aJ|apply aG)|exact HK.o))) hk (Or.inl rfl));clear hi hb hk;obtain⟨HG,hg⟩:=HI.o;have hc0:=aT HG;have hc1:=aR HG;have hc2:=aU HG;have hf0:=af HG 0;have hf1:=af HG 1;have hf2:=af HG 2;clear HG hg)
        repeat(go_quiet (fail);try go_wp2_with (go_at_call 146;(with_reducible refine(aH.calls g s at_ (-1) at_ s at_ at_ w0 _ ?side1 ?side2 rfl).mono ?_);(case side1=>(repeat(first|(with_reducible first|exact HI.o|apply ag.alloc|apply ag.drewN|apply ag.drew|apply ag.bG|apply ag.bE|apply ag.bF)|exact HI.o)));(case side2=>(repeat(first|(with_reducible first|exact HB.o|apply ae|apply ah|apply ak|refine au ?_ (ag.ge HI.o))|exact HB.o)));rintro e w2 ⟨rfl,hi,hb,hk⟩;replace HI:=ai hi;replace HB:=ai hb;replace HK:=ai (az.trans (by(repeat(first|(with_reducible first|exact HK.o|apply az.cO|apply aC|apply aJ|apply aG)|exact HK.o))) hk (Or.inl rfl));clear hi hb hk;obtain⟨HG,hg⟩:=HI.o;have hc0:=aT HG;have hc1:=aR HG;have hc2:=aU HG;have hf0:=af HG 0;have hf1:=af HG 1;have hf2:=af HG 2;clear HG hg))
        go_roundg 1
        case measure=>omega
        case rel=>exact⟨acc,at_,(at_:Nat),⟨by omega,Or.inr ⟨rfl,by omega,HA2.o.symm.trans vZ.o⟩⟩,⟨by first|(rw[show ((at_+1:Nat):Int)=(at_:Int)+1 by omega];(repeat(first|(with_reducible first|exact HI.o|apply ag.alloc|apply ag.drewN|apply ag.drew|apply ag.bG|apply ag.bE|apply ag.bF)|exact HI.o)))|(repeat(first|(with_reducible first|exact HI.o|apply ag.alloc|apply ag.drewN|apply ag.drew|apply ag.bG|apply ag.bE|apply ag.bF)|exact HI.o))⟩,⟨by(repeat(first|(with_reducible first|exact HK.o|apply az.cO|apply aC|apply aJ|apply aG)|exact HK.o))⟩,⟨by(repeat(first|(with_reducible first|exact HB.o|apply ae|apply ah|apply ak|refine au ?_ (ag.ge HI.o))|exact HB.o))⟩⟩
       ·have g1:=decide_eq_false (show ¬(32:Int)<=(c.toNat:Int) by intro hh;exact g0 (by rw[UInt8.le_iff_toNat_le];simp;omega));clear g0 hp;go_wp2_with (go_at_call 146;(with_reducible refine(aH.calls g s at_ (-1) at_ s at_ at_ w0 _ ?side1 ?side2 rfl).mono ?_);(case side1=>(repeat(first|(with_reducible first|exact HI.o|apply ag.alloc|apply ag.drewN|apply ag.drew|apply ag.bG|apply ag.bE|apply ag.bF)|exact HI.o)));(case side2=>(repeat(first|(with_reducible first|exact HB.o|apply ae|apply ah|apply ak|refine au ?_ (ag.ge HI.o))|exact HB.o)));rintro e w2 ⟨rfl,hi,hb,hk⟩;replace HI:=ai hi;replace HB:=ai hb;replace HK:=ai (az.trans (by(repeat(first|(with_reducible first|exact HK.o|apply az.cO|apply aC|apply aJ|apply aG)|exact HK.o))) hk (Or.inl rfl));clear hi hb hk;obtain⟨HG,hg⟩:=HI.o;have hc0:=aT HG;have hc1:=aR HG;have hc2:=aU HG;have hf0:=af HG 0;have hf1:=af HG 1;have hf2:=af HG 2;clear HG hg)
        repeat(go_quiet (fail);try go_wp2_with (go_at_call 146;(with_reducible refine(aH.calls g s at_ (-1) at_ s at_ at_ w0 _ ?side1 ?side2 rfl).mono ?_);(case side1=>(repeat(first|(with_reducible first|exact HI.o|apply ag.alloc|apply ag.drewN|apply ag.drew|apply ag.bG|apply ag.bE|apply ag.bF)|exact HI.o)));(case side2=>(repeat(first|(with_reducible first|exact HB.o|apply ae|apply ah|apply ak|refine au ?_ (ag.ge HI.o))|exact HB.o)));rintro e w2 ⟨rfl,hi,hb,hk⟩;replace HI:=ai hi;replace HB:=ai hb;replace HK:=ai (az.trans (by(repeat(first|(with_reducible first|exact HK.o|apply az.cO|apply aC|apply aJ|apply aG)|exact HK.o))) hk (Or.inl rfl));clear hi hb hk;obtain⟨HG,hg⟩:=HI.o;have hc0:=aT HG;have hc1:=aR HG;have hc2:=aU HG;have hf0:=af HG 0;have hf1:=af HG 1;have hf2:=af HG 2;clear HG hg))
        go_roundg 1
        case measure=>omega
        case rel=>exact⟨acc,at_,(at_:Nat),⟨by omega,Or.inr ⟨rfl,by omega,HA2.o.symm.trans vZ.o⟩⟩,⟨by first|(rw[show ((at_+1:Nat):Int)=(at_:Int)+1 by omega];(repeat(first|(with_reducible first|exact HI.o|apply ag.alloc|apply ag.drewN|apply ag.drew|apply ag.bG|apply ag.bE|apply ag.bF)|exact HI.o)))|(repeat(first|(with_reducible first|exact HI.o|apply ag.alloc|apply ag.drewN|apply ag.drew|apply ag.bG|apply ag.bE|apply ag.bF)|exact HI.o))⟩,⟨by(repeat(first|(with_reducible first|exact HK.o|apply az.cO|apply aC|apply aJ|apply aG)|exact HK.o))⟩,⟨by(repeat(first|(with_reducible first|exact HB.o|apply ae|apply ah|apply ak|refine au ?_ (ag.ge HI.o))|exact HB.o))⟩⟩
   ·have q3:=decide_eq_true (show ((s.size:Int)<=(at_:Int)) by omega);obtain rfl:at_=s.size:=by omega
    obtain⟨HG,hg⟩:=HI.o;have hc0:=aT HG;have hc1:=aR HG;have hc2:=aU HG;have hf0:=af HG 0;have hf1:=af HG 1;have hf2:=af HG 2;clear HG hg;go_wp2_with (go_at_call 146;(with_reducible refine(aH.calls g s s.size (-1) s.size s s.size s.size w0 _ ?side1 ?side2 rfl).mono ?_);(case side1=>(repeat(first|(with_reducible first|exact HI.o|apply ag.alloc|apply ag.drewN|apply ag.drew|apply ag.bG|apply ag.bE|apply ag.bF)|exact HI.o)));(case side2=>(repeat(first|(with_reducible first|exact HB.o|apply ae|apply ah|apply ak|refine au ?_ (ag.ge HI.o))|exact HB.o)));rintro e w2 ⟨rfl,hi,hb,hk⟩;replace HI:=ai hi;replace HB:=ai hb;replace HK:=ai (az.trans (by(repeat(first|(with_reducible first|exact HK.o|apply az.cO|apply aC|apply aJ|apply aG)|exact HK.o))) hk (Or.inl rfl));clear hi hb hk;obtain⟨HG,hg⟩:=HI.o;have hc0:=aT HG;have hc1:=aR HG;have hc2:=aU HG;have hf0:=af HG 0;have hf1:=af HG 1;have hf2:=af HG 2;clear HG hg)
    repeat(go_quiet (fail);try go_wp2_with (go_at_call 146;(with_reducible refine(aH.calls g s s.size (-1) s.size s s.size s.size w0 _ ?side1 ?side2 rfl).mono ?_);(case side1=>(repeat(first|(with_reducible first|exact HI.o|apply ag.alloc|apply ag.drewN|apply ag.drew|apply ag.bG|apply ag.bE|apply ag.bF)|exact HI.o)));(case side2=>(repeat(first|(with_reducible first|exact HB.o|apply ae|apply ah|apply ak|refine au ?_ (ag.ge HI.o))|exact HB.o)));rintro e w2 ⟨rfl,hi,hb,hk⟩;replace HI:=ai hi;replace HB:=ai hb;replace HK:=ai (az.trans (by(repeat(first|(with_reducible first|exact HK.o|apply az.cO|apply aC|apply aJ|apply aG)|exact HK.o))) hk (Or.inl rfl));clear hi hb hk;obtain⟨HG,hg⟩:=HI.o;have hc0:=aT HG;have hc1:=aR HG;have hc2:=aU HG;have hf0:=af HG 0;have hf1:=af HG 1;have hf2:=af HG 2;clear HG hg))
    go_ret;exact Or.inr ⟨[],by rw[<-HA2.o,gP (Nat.le_refl _),qO],by first|rfl|simp,by simp only[List.length_nil,Nat.sub_zero];(repeat(first|(with_reducible first|exact HI.o|apply ag.alloc|apply ag.drewN|apply ag.drew|apply ag.bG|apply ag.bE|apply ag.bF)|exact HI.o)),by(repeat(first|(with_reducible first|exact HB.o|apply ae|apply ah|apply ak|refine au ?_ (ag.ge HI.o))|exact HB.o)),by(repeat(first|(with_reducible first|exact HK.o|apply az.cO|apply aC|apply aJ|apply aG)|exact HK.o))⟩
  ·have hb0:=decide_eq_false (show ¬((at_:Int)<0) by omega);have HA2:=ai ht;clear ht HA;obtain⟨HG,hg⟩:=HI.o;have hc0:=aT HG;have hc1:=aR HG;have hc2:=aU HG;have hf0:=af HG 0;have hf1:=af HG 1;have hf2:=af HG 2;clear HG hg;go_wp2;go_ret;exact Or.inr ⟨bu s at_,HA2.o,by first|rfl|simp,by rw[gu,Nat.sub_sub_self hlb];(repeat(first|(with_reducible first|exact HI.o|apply ag.alloc|apply ag.drewN|apply ag.drew|apply ag.bG|apply ag.bE|apply ag.bF)|exact HI.o)),by(repeat(first|(with_reducible first|exact HB.o|apply ae|apply ah|apply ak|refine au ?_ (ag.ge HI.o))|exact HB.o)),by(repeat(first|(with_reducible first|exact HK.o|apply az.cO|apply aC|apply aJ|apply aG)|exact HK.o))⟩
end Go.Proofs.YtnmpijbcajclgaaGreatDoor.Mine
end
