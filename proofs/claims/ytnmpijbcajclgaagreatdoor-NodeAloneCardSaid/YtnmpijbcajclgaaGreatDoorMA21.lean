/- Texts of one claim, one behind the other, made short by a program. -/
import Derived.Test.YtnmpijbcajclgaaGreatDoorMA20
set_option linter.unusedSimpArgs false
set_option linter.unusedVariables false
section
namespace Go.Proofs.YtnmpijbcajclgaaGreatDoor.Mine
open Tryz
open Go.RowKit YtnmpijbcajclgaaGreatDoorW.PrintWords YtnmpijbcajclgaaGreatDoorW.PrintLast YtnmpijbcajclgaaGreatDoorW.PrintMore
open PNodeAlone
theorem MK(l:List UInt8):∀c∈l.takeWhile jF,jF c=true:=List.all_eq_true.1 (List.all_takeWhile ..)
theorem dw_head(p:UInt8->Bool){c:UInt8}{r:List UInt8}:∀ {l:List UInt8},l.dropWhile p=c::r->p c=false
 | [],h=>by simp at h
 |x::l,h=>by
  rw[List.dropWhile_cons] at h;split at h
  ·exact dw_head p h
  ·rename_i hx
   injection h with h1 _;rw[<-h1]
   simpa using hx
theorem NM{s:ByteArray}{f:Nat}{T:List UInt8}(hT:T=(bu s f).takeWhile jF)(k:Nat)(hk:k<T.length):∃h:f+k<s.size,s[f+k]'h=T[k]:=by
 have hp:T<+:bu s f:=by rw[hT];exact List.takeWhile_prefix _
 have hl:=hp.length_le;rw[gu] at hl;have h:f+k<s.size:=by omega
 refine⟨h, ?_⟩;have e:=hp.getElem hk;rw[e];unfold bu;rw[List.getElem_drop];rfl
theorem zi{s:ByteArray}{f J j:Nat}{T:List UInt8}(hT:T=(bu s f).takeWhile jF)(hJ:J=min T.length 11)(h0:f<=j)(h1:j<f+J):
 ∃(h:j<s.size) (c:UInt8),s[j]'h=c∧jF c=true∧fU (T.take (j+1-f))=10*fU (T.take (j-f))+((c.toNat:Int)-48):=by
 have hk:j-f<T.length:=by omega
 obtain⟨h,e⟩:=NM hT (j-f) hk;have hj:f+(j-f)=j:=by omega
 refine⟨by omega,T[j-f], ?_, ?_, ?_⟩
 ·rw[<-e]
  congr 1
  exact hj.symm
 ·have:=MK (bu s f) T[j-f] (by rw[<-hT];exact List.getElem_mem _);exact this
 ·rw[show j+1-f=(j-f)+1 by omega,List.take_succ_eq_append_getElem hk,Bq]
theorem gH{s:ByteArray}{f J j:Nat}{T:List UInt8}(hT:T=(bu s f).takeWhile jF)(hJ:J=min T.length 11)(hj:j=f+J)(hs:j<s.size)(hd:jF (s[j]'hs)=true):J=11:=by
 apply Classical.byContradiction;intro hn;have hJT:J=T.length:=by omega
 have e:bu s f=T++(bu s f).dropWhile jF:=by rw[hT];exact(List.takeWhile_append_dropWhile).symm
 have e2:bu s j=(bu s f).dropWhile jF:=by
  have h3:bu s j=(bu s f).drop J:=by unfold bu;rw[List.drop_drop,hj]
  rw[h3,hJT]
  conv=>lhs;rw[e]
  simp
 rw[dP hs] at e2;have:=dw_head jF e2.symm;rw[hd] at this;cases this
theorem wF{s:ByteArray}{f:Nat}{T:List UInt8}(hT:T=(bu s f).takeWhile jF)(h:0<T.length):∃h:f<s.size,(bu s f).head? =some (s[f]'h):=by
 obtain⟨h2,_⟩:=NM hT 0 h;have h3:f<s.size:=h2;refine⟨h3, ?_⟩;rw[dP h3];rfl
theorem uZ{s:ByteArray}{f:Nat}{T:List UInt8}(hT:T=(bu s f).takeWhile jF)(k:Nat)(hk:k<=11):0<=fU (T.take k)∧fU (T.take k)<=100000000000:=by
 have hb:=qi (T.take k) (fun c hc=>MK (bu s f) c (by rw[<-hT];exact List.mem_of_mem_take hc));have hl:(T.take k).length<=11:=Nat.le_trans (List.length_take_le _ _) hk;have h3:(10:Int)^(T.take k).length<=10^11:=by exact_mod_cast Nat.pow_le_pow_right (by omega:0<10) hl
 have:(10:Int)^11=100000000000:=by decide
 omega
theorem jT{s:ByteArray}{st:St}{n:Nat}(h:st.bad=some n):mZ s st=.agg #[.string s,.int .i64 ((s.size-n:Nat):Int),.bool true]:=by
 unfold mZ Db dZ;rw[h];rfl
def oh(s:ByteArray)(x:Int×St):Value:=.tuple #[mZ s x.2,.int .i64 (if x.2.bad.isSome then 0 else x.1)]
theorem uK{s:ByteArray}{frm:Nat}{sg:Int}{d T:List UInt8}(hT:T=d.takeWhile jF)(h:T= []∨10<T.length∨(1<T.length∧d.head? =some 48)∨(sg<0∧fU T=0)):
 oh s (kg frm sg d)=.tuple #[.agg #[.string s,.int .i64 ((s.size-frm:Nat):Int),.bool true],.int .i64 0]:=by
 have hb:(kg frm sg d).2.bad=some frm:=by
  unfold kg;rw[<-hT];split
  ·rfl
  ·rw[if_pos];unfold qx;rw[<-hT];rcases h with h|h|h|h
   ·exact Or.inl h
   ·omega
   ·exact Or.inr (Or.inl h)
   ·exact Or.inr (Or.inr h)
 unfold oh;rw[jT hb,hb];rfl
theorem yl{s:ByteArray}{frm:Nat}{sg:Int}{d T:List UInt8}(hT:T=d.takeWhile jF)(h1:T≠ [])(h2:¬10<T.length)(h3:¬(1<T.length∧d.head? =some 48))(h4:¬(sg<0∧fU T=0)):
 oh s (kg frm sg d)=.tuple #[.agg #[.string s,.int .i64 ((s.size-(d.dropWhile jF).length:Nat):Int),.bool false],.int .i64 (sg*fU T)]:=by
 have hb:kg frm sg d=(sg*fU T,⟨d.dropWhile jF,none⟩):=by
  unfold kg;rw[<-hT,if_neg h2,if_neg];unfold qx;rw[<-hT];rintro (h|h|h)
  ·exact h1 h
  ·exact h3 h
  ·exact h4 h
 unfold oh;rw[hb,gW];rfl
theorem Iy{s:ByteArray}{f:Nat}{T:List UInt8}(hT:T=(bu s f).takeWhile jF)(h:0<T.length):s.size-((bu s f).dropWhile jF).length=f+T.length:=by
 obtain⟨h2,_⟩:=NM hT 0 h;have:=qY jF (bu s f);rw[<-hT,gu] at this;omega
set_option maxHeartbeats 4000000 in
set_option maxRecDepth 100000 in
theorem iV(s:ByteArray)(st:St)(w:World)(hs:s.size<=1000)(hok:st.ok (bytes s)):
 Calls prog 179 #[mZ s st] w fun e w'=>e=.returned (oh s (eF st))∧Below w.heap.size w w':=by
 have hok1:=iP hok;have hbl:=fun w=>jI s st w hs hok
 obtain⟨l,bad⟩:=st;cases bad with
 |some n=>
  rw[jY rfl];rw[nz rfl] at hbl;show Calls _ _ _ w fun e w'=>e=.returned (.tuple #[mZ s ⟨l,some n⟩,.int .i64 0])∧_
  rw[nu] at hbl|-;generalize ((s.size-n:Nat):Int)=i at hbl|-;obtain⟨hn1,hn2⟩:=mV w s ⟨#[]⟩ i 0 true false;have aZ:=ai hn1;have bf:=ai hn2;have HB:=ai (ae (ae (Below.refl w.heap.size w) (.cells #[.string s,.int .i64 i,.bool true] 230)) (.cells #[.string ⟨#[]⟩,.int .i64 0,.bool false] 230));clear hn1 hn2;go_enter func179,ntmps179
  go_wp2_with fail
  refine(hbl _).mono ?_;rintro e w1 ⟨rfl,hb⟩;replace aZ:=bZ hb aZ;replace bf:=bZ hb bf;replace HB:=dW HB hb;clear hb;obtain⟨c0,c1,c2,f0,f1,f2⟩:=aj aZ.o;obtain⟨d0,d1,d2,g0,g1,g2⟩:=aj bf.o;go_upto_region 2 with (fail)
  clear c0 c1 c2 f0 f1 f2 d0 d1 d2 g0 g1 g2;replace aZ:=ai (fD aZ.o s i true);replace bf:=ai (eO bf.o (show w.heap.size+1≠w.heap.size by omega) s i true);replace HB:=ai (aQ HB.o (Nat.le_refl w.heap.size) s i true);generalize (((w1.setCell ⟨w.heap.size,0,none⟩ (.string s)).setCell ⟨w.heap.size,1,none⟩ (.int .i64 i)).setCell ⟨w.heap.size,2,none⟩ (.bool true))=w2 at aZ bf HB|-;obtain⟨c0,c1,c2,f0,f1,f2⟩:=aj aZ.o;obtain⟨d0,d1,d2,g0,g1,g2⟩:=aj bf.o;go_wp2;refine bodyPost_ret (v:=.tuple #[.agg #[.string s,.int .i64 i,.bool true],.int .i64 0]) (by simp[results,results179,go_sem,d0,d1,d2]) rfl ⟨rfl,aQ HB.o (Nat.le_succ w.heap.size) s i true⟩
 |none=>
  rw[gW] at hbl|-;have e1:bY ⟨l,none⟩=⟨skip l,none⟩:=rfl;have e2:eF ⟨l,none⟩=sQ (skip l):=rfl;rw[e1] at hbl hok1;rw[gW] at hbl;rw[e2];have hle:=tT hok1;have ku:skip l<:+bytes s:=hok1.1;have hd:=jb ku;simp only at hle;generalize skip l=L at hbl hle hd|-;generalize ((s.size-l.length:Nat):Int)=i0 at hbl|-;obtain⟨i,hi⟩:∃i,s.size-L.length=i:=⟨_,rfl⟩
  rw[hi] at hbl hd;have hiz:i<=s.size:=by omega
  have FN:s.size-L.length=i:=hi;clear hok hok1 ku hi e1 e2;obtain⟨hn1,hn2⟩:=mV w s ⟨#[]⟩ i0 0 false false;have aZ:=ai hn1;have bf:=ai hn2;have HB:=ai (ae (ae (Below.refl w.heap.size w) (.cells #[.string s,.int .i64 i0,.bool false] 230)) (.cells #[.string ⟨#[]⟩,.int .i64 0,.bool false] 230));clear hn1 hn2;cases L with
  |nil=>
   have hn:sQ []=kg 0 1 []:=rfl;rw[hn];have hii:i=s.size:=by simp at FN;omega
   have q1:decide ((i:Int)<(s.size:Int))=false:=decide_eq_false (by omega);have q0:decide (i<s.size)=false:=decide_eq_false (by omega);rw[uK (T:= []) rfl (Or.inl rfl),show s.size-0=i by omega];clear hn hd FN hii;go_enter func179,ntmps179
   go_wp2_with fail
   refine(hbl _).mono ?_;rintro e w1 ⟨rfl,hb⟩;replace aZ:=bZ hb aZ;replace bf:=bZ hb bf;replace HB:=dW HB hb;clear hb;obtain⟨c0,c1,c2,f0,f1,f2⟩:=aj aZ.o;obtain⟨d0,d1,d2,g0,g1,g2⟩:=aj bf.o;go_upto_region 2 with (fail)
   clear c0 c1 c2 f0 f1 f2 d0 d1 d2 g0 g1 g2;replace aZ:=ai (fD aZ.o s (i:Int) false);replace bf:=ai (eO bf.o (show w.heap.size+1≠w.heap.size by omega) s (i:Int) false);replace HB:=ai (aQ HB.o (Nat.le_refl w.heap.size) s (i:Int) false);generalize (((w1.setCell ⟨w.heap.size,0,none⟩ (.string s)).setCell ⟨w.heap.size,1,none⟩ (.int .i64 (i:Int))).setCell ⟨w.heap.size,2,none⟩ (.bool false))=w2 at aZ bf HB|-;obtain⟨c0,c1,c2,f0,f1,f2⟩:=aj aZ.o;obtain⟨d0,d1,d2,g0,g1,g2⟩:=aj bf.o;go_wp2_with fail
   go_loopg [6,7] 1 (fun k n t wr=>n=.int .i64 0∧t=.int .i64 (i:Int)∧wr=w2)
   case atStart=>exact⟨rfl,rfl,rfl⟩
   case round=>
    obtain⟨rfl,rfl,rfl⟩:=hrel;go_wp2_with fail
    refine(bR s (i:Int) (i:Int) false _).mono ?_;rintro e w3 ⟨rfl,hb⟩;clear c0 c1 c2 f0 f1 f2 d0 d1 d2 g0 g1 g2;replace aZ:=bZ hb aZ;replace bf:=bZ hb bf;replace HB:=dW HB hb;clear hb;obtain⟨c0,c1,c2,f0,f1,f2⟩:=aj aZ.o;obtain⟨d0,d1,d2,g0,g1,g2⟩:=aj bf.o;unfold dZ;go_wp2;refine bodyPost_ret (v:=.tuple #[.agg #[.string s,.int .i64 (i:Int),.bool true],.int .i64 0]) (by simp[results,results179,go_sem,d0,d1,d2]) rfl ⟨rfl,aQ HB.o (Nat.le_succ w.heap.size) s (i:Int) true⟩
  |cons c r=>
   obtain⟨hlt,_,h3⟩:=lq hd.symm;have hx:∀h:i<s.size,s[i]'h=c:=fun h=>by
    rw[dP h] at hd;injection hd with hd1 _;exact hd1.symm
   have p1:(0:Int)<=(i:Int):=by omega
   have p2:(i:Int)<(s.size:Int):=by omega
   have hfr:s.size-(r.length+1)=i:=by simpa using FN
   by_cases h45:c=45
   ·subst h45;have hn:sQ (45::r)=kg (r.length+1) (-1) r:=by simp[sQ]
    rw[hn];subst h3;obtain⟨f,hf⟩:∃f,i+1=f:=⟨_,rfl⟩
    rw[hf] at hfr|-;have hfz:f<=s.size:=by omega
    obtain⟨T,hT⟩:∃T,T=(bu s f).takeWhile jF:=⟨_,rfl⟩
    obtain⟨J,hJ⟩:∃J,J=min T.length 11:=⟨_,rfl⟩
    have Vy:=ai (show f+T.length<=s.size by have h:=(List.takeWhile_prefix (l:=bu s f) jF).length_le;rw[<-hT,gu] at h;omega);have HBAD:=ai (uK (s:=s) (frm:=(bu s f).length+1) (sg:= -1) hT);have Ef:=ai (yl (s:=s) (frm:=(bu s f).length+1) (sg:= -1) hT);rw[hfr] at HBAD;have HT:=ai hT;have HJ:=ai hJ;have HF:=ai hf;clear hT hJ hn hd FN hfr hf;generalize oh s (kg ((bu s f).length+1) (-1) (bu s f))=RV at HBAD Ef|-;go_enter func179,ntmps179
    go_wp2_with fail
    refine(hbl _).mono ?_;rintro e w1 ⟨rfl,hb⟩;replace aZ:=bZ hb aZ;replace bf:=bZ hb bf;replace HB:=dW HB hb;clear hb;obtain⟨c0,c1,c2,f0,f1,f2⟩:=aj aZ.o;obtain⟨d0,d1,d2,g0,g1,g2⟩:=aj bf.o;go_upto_region 2 with (fail)
    clear c0 c1 c2 f0 f1 f2 d0 d1 d2 g0 g1 g2;replace aZ:=ai (fD aZ.o s (i:Int) false);replace bf:=ai (eO bf.o (show w.heap.size+1≠w.heap.size by omega) s (i:Int) false);replace HB:=ai (aQ HB.o (Nat.le_refl w.heap.size) s (i:Int) false);generalize (((w1.setCell ⟨w.heap.size,0,none⟩ (.string s)).setCell ⟨w.heap.size,1,none⟩ (.int .i64 (i:Int))).setCell ⟨w.heap.size,2,none⟩ (.bool false))=w2 at aZ bf HB|-;obtain⟨c0,c1,c2,f0,f1,f2⟩:=aj aZ.o;obtain⟨d0,d1,d2,g0,g1,g2⟩:=aj bf.o;go_wp2_with fail
    have ef:(i:Int)+1=(f:Int):=by have:=HF.o;omega
    rw[ef];clear ef hx p1 p2 hlt;go_wp2_with fail
    go_loopg [6,7] (s.size+2) (fun k n t wr=>∃j:Nat,ay (f<=j∧j<=f+J∧(J+f)-j<k)∧n=.int .i64 (fU (T.take (j-f)))∧t=.int .i64 (j:Int)∧wr=w2)
    case atStart=>exact⟨f,⟨Nat.le_refl _,by omega,by have:=HJ.o;have:=Vy.o;omega⟩,by rw[Nat.sub_self];rfl,rfl,rfl⟩
    case round=>
     obtain⟨j,HM,rfl,rfl,rfl⟩:=hrel;by_cases hj:j<f+J
     ·obtain⟨hjs,cb,hc2,hdg,hsn⟩:=zi HT.o HJ.o HM.o.1 hj;have hx2:∀h:j<s.size,s[j]'h=cb:=fun _=>hc2
      clear hc2;have p3:(0:Int)<=(j:Int):=by omega
      have p4:(j:Int)<(s.size:Int):=by omega
      have p5:decide ((j:Int)-(f:Int)<11)=true:=decide_eq_true (by have:=HJ.o;have:=HM.o;omega);have p6:(f:Int)<=(j:Int):=by have:=HM.o;omega
      have p7:(f:Int)<=9223372036854775807:=by omega
      have hv:=uZ HT.o (j-f) (by have:=HJ.o;have:=HM.o;omega);have HS:=ai hsn;clear hsn;generalize fU (T.take (j-f))=v at hv HS|-;obtain⟨v0,v1⟩:=hv;have u0:=cb.toNat_lt;have u1:(0:Int)<=(cb.toNat:Int):=by omega
      have u2:(cb.toNat:Int)<256:=by omega
      go_wp2_with fail
      refine(bU cb _).mono ?_;rintro e w3 ⟨rfl,rfl⟩;rw[hdg];go_wp2_with fail
      go_roundg (gk-1)
      case measure=>have:=HM.o;omega
      case rel=>exact⟨j+1,⟨by have:=HM.o;omega,by omega,by have:=HM.o;omega⟩,by rw[HS.o];congr 1;omega,rfl,rfl⟩
     ·have mr:=ai (show j=f+J by have:=HM.o;omega);have p6:(f:Int)<=(j:Int):=by have:=HM.o;omega
      have p10:(j:Int)<=(s.size:Int):=by have:=mr.o;have:=HJ.o;have:=Vy.o;omega
      clear hj;by_cases hA:T= []
      ·have b1:((j:Int)==(f:Int))=true:=by simp;have:=mr.o;have:=HJ.o;rw[hA] at this;simp at this;omega
       have jc:=ai (HBAD.o (Or.inl hA));clear hA;by_cases hjs:j<s.size
       ·obtain⟨cb,hc2⟩:∃c,s[j]'hjs=c:=⟨_,rfl⟩
        have hx2:∀h:j<s.size,s[j]'h=cb:=fun _=>hc2
        have p3:(0:Int)<=(j:Int):=by omega
        have p4:(j:Int)<(s.size:Int):=by omega
        cases hdg:jF cb with
        |true=>
         have h11:J=11:=gH HT.o HJ.o mr.o hjs (by rw[hc2];exact hdg);clear hc2;have q9:decide ((j:Int)-(f:Int)<11)=false:=decide_eq_false (by have:=mr.o;omega);clear h11;go_wp2_with fail
         refine(bU cb _).mono ?_;rintro e w3 ⟨rfl,rfl⟩;rw[hdg];go_wp2_with fail
         refine(bR s (i:Int) (i:Int) false _).mono ?_;rintro e w3 ⟨rfl,hb⟩;clear c0 c1 c2 f0 f1 f2 d0 d1 d2 g0 g1 g2;replace aZ:=bZ hb aZ;replace bf:=bZ hb bf;replace HB:=dW HB hb;clear hb;obtain⟨c0,c1,c2,f0,f1,f2⟩:=aj aZ.o;obtain⟨d0,d1,d2,g0,g1,g2⟩:=aj bf.o;unfold dZ;go_wp2;refine bodyPost_ret (v:=.tuple #[.agg #[.string s,.int .i64 (i:Int),.bool true],.int .i64 0]) (by simp[results,results179,go_sem,d0,d1,d2]) rfl ⟨congrArg Ending.returned jc.o.symm,aQ HB.o (Nat.le_succ w.heap.size) s (i:Int) true⟩
        |false=>
         clear hc2;go_wp2_with fail
         refine(bU cb _).mono ?_;rintro e w3 ⟨rfl,rfl⟩;rw[hdg];go_wp2_with fail
         refine(bR s (i:Int) (i:Int) false _).mono ?_;rintro e w3 ⟨rfl,hb⟩;clear c0 c1 c2 f0 f1 f2 d0 d1 d2 g0 g1 g2;replace aZ:=bZ hb aZ;replace bf:=bZ hb bf;replace HB:=dW HB hb;clear hb;obtain⟨c0,c1,c2,f0,f1,f2⟩:=aj aZ.o;obtain⟨d0,d1,d2,g0,g1,g2⟩:=aj bf.o;unfold dZ;go_wp2;refine bodyPost_ret (v:=.tuple #[.agg #[.string s,.int .i64 (i:Int),.bool true],.int .i64 0]) (by simp[results,results179,go_sem,d0,d1,d2]) rfl ⟨congrArg Ending.returned jc.o.symm,aQ HB.o (Nat.le_succ w.heap.size) s (i:Int) true⟩
       ·have p3:decide ((j:Int)<(s.size:Int))=false:=decide_eq_false (by omega);have IJ:decide (j<s.size)=false:=decide_eq_false (by omega);clear hjs;go_wp2_with fail
        refine(bR s (i:Int) (i:Int) false _).mono ?_;rintro e w3 ⟨rfl,hb⟩;clear c0 c1 c2 f0 f1 f2 d0 d1 d2 g0 g1 g2;replace aZ:=bZ hb aZ;replace bf:=bZ hb bf;replace HB:=dW HB hb;clear hb;obtain⟨c0,c1,c2,f0,f1,f2⟩:=aj aZ.o;obtain⟨d0,d1,d2,g0,g1,g2⟩:=aj bf.o;unfold dZ;go_wp2;refine bodyPost_ret (v:=.tuple #[.agg #[.string s,.int .i64 (i:Int),.bool true],.int .i64 0]) (by simp[results,results179,go_sem,d0,d1,d2]) rfl ⟨congrArg Ending.returned jc.o.symm,aQ HB.o (Nat.le_succ w.heap.size) s (i:Int) true⟩
      have hT0:0<T.length:=List.length_pos_iff.mpr hA;have b1:((j:Int)==(f:Int))=false:=by simp;have:=mr.o;have:=HJ.o;omega
      by_cases hB:10<T.length
      ·have jc:=ai (HBAD.o (Or.inr (Or.inl hB)));have b2:decide (10<(j:Int)-(f:Int))=true:=decide_eq_true (by have:=mr.o;have:=HJ.o;omega);clear hA hB hT0;by_cases hjs:j<s.size
       ·obtain⟨cb,hc2⟩:∃c,s[j]'hjs=c:=⟨_,rfl⟩
        have hx2:∀h:j<s.size,s[j]'h=cb:=fun _=>hc2
        have p3:(0:Int)<=(j:Int):=by omega
        have p4:(j:Int)<(s.size:Int):=by omega
        cases hdg:jF cb with
        |true=>
         have h11:J=11:=gH HT.o HJ.o mr.o hjs (by rw[hc2];exact hdg);clear hc2;have q9:decide ((j:Int)-(f:Int)<11)=false:=decide_eq_false (by have:=mr.o;omega);clear h11;go_wp2_with fail
         refine(bU cb _).mono ?_;rintro e w3 ⟨rfl,rfl⟩;rw[hdg];go_wp2_with fail
         refine(bR s (i:Int) (i:Int) false _).mono ?_;rintro e w3 ⟨rfl,hb⟩;clear c0 c1 c2 f0 f1 f2 d0 d1 d2 g0 g1 g2;replace aZ:=bZ hb aZ;replace bf:=bZ hb bf;replace HB:=dW HB hb;clear hb;obtain⟨c0,c1,c2,f0,f1,f2⟩:=aj aZ.o;obtain⟨d0,d1,d2,g0,g1,g2⟩:=aj bf.o;unfold dZ;go_wp2;refine bodyPost_ret (v:=.tuple #[.agg #[.string s,.int .i64 (i:Int),.bool true],.int .i64 0]) (by simp[results,results179,go_sem,d0,d1,d2]) rfl ⟨congrArg Ending.returned jc.o.symm,aQ HB.o (Nat.le_succ w.heap.size) s (i:Int) true⟩
        |false=>
         clear hc2;go_wp2_with fail
         refine(bU cb _).mono ?_;rintro e w3 ⟨rfl,rfl⟩;rw[hdg];go_wp2_with fail
         refine(bR s (i:Int) (i:Int) false _).mono ?_;rintro e w3 ⟨rfl,hb⟩;clear c0 c1 c2 f0 f1 f2 d0 d1 d2 g0 g1 g2;replace aZ:=bZ hb aZ;replace bf:=bZ hb bf;replace HB:=dW HB hb;clear hb;obtain⟨c0,c1,c2,f0,f1,f2⟩:=aj aZ.o;obtain⟨d0,d1,d2,g0,g1,g2⟩:=aj bf.o;unfold dZ;go_wp2;refine bodyPost_ret (v:=.tuple #[.agg #[.string s,.int .i64 (i:Int),.bool true],.int .i64 0]) (by simp[results,results179,go_sem,d0,d1,d2]) rfl ⟨congrArg Ending.returned jc.o.symm,aQ HB.o (Nat.le_succ w.heap.size) s (i:Int) true⟩
       ·have p3:decide ((j:Int)<(s.size:Int))=false:=decide_eq_false (by omega);have IJ:decide (j<s.size)=false:=decide_eq_false (by omega);clear hjs;go_wp2_with fail
        refine(bR s (i:Int) (i:Int) false _).mono ?_;rintro e w3 ⟨rfl,hb⟩;clear c0 c1 c2 f0 f1 f2 d0 d1 d2 g0 g1 g2;replace aZ:=bZ hb aZ;replace bf:=bZ hb bf;replace HB:=dW HB hb;clear hb;obtain⟨c0,c1,c2,f0,f1,f2⟩:=aj aZ.o;obtain⟨d0,d1,d2,g0,g1,g2⟩:=aj bf.o;unfold dZ;go_wp2;refine bodyPost_ret (v:=.tuple #[.agg #[.string s,.int .i64 (i:Int),.bool true],.int .i64 0]) (by simp[results,results179,go_sem,d0,d1,d2]) rfl ⟨congrArg Ending.returned jc.o.symm,aQ HB.o (Nat.le_succ w.heap.size) s (i:Int) true⟩
      have b2:decide (10<(j:Int)-(f:Int))=false:=decide_eq_false (by have:=mr.o;have:=HJ.o;omega);have hJT:J=T.length:=by have:=HJ.o;omega
      have OE:j-f=T.length:=by have:=mr.o;omega
      rw[OE,List.take_length];obtain⟨hfs,hf0⟩:=wF HT.o hT0;have g1:(f:Int)<(s.size:Int):=by omega
      have g2:(0:Int)<=(f:Int):=by omega
      have HJ2:=ai hJT;have hx3:∀h:f<s.size,∃c,s[f]'h=c∧(bu s f).head? =some c:=fun h=>⟨_,rfl,hf0⟩
      obtain⟨c3,hc3,hh3⟩:=hx3 hfs;have hx4:∀h:f<s.size,s[f]'h=c3:=fun _=>hc3
      have e3:((c3.toNat:Int)==(48:Int))=decide (c3=48):=nR (n:=48) (by decide);clear hc3 hf0 hx3;by_cases hC:1<T.length∧c3=48
      ·have jc:=ai (HBAD.o (Or.inr (Or.inr (Or.inl ⟨hC.1,by rw[hh3,hC.2]⟩))));have b3:decide (1<(j:Int)-(f:Int))=true:=decide_eq_true (by have:=mr.o;have:=HJ.o;have:=HJ2.o;omega);rw[decide_eq_true hC.2] at e3;clear hA hB hT0 hJT OE hC hh3;by_cases hjs:j<s.size
       ·obtain⟨cb,hc2⟩:∃c,s[j]'hjs=c:=⟨_,rfl⟩
        have hx2:∀h:j<s.size,s[j]'h=cb:=fun _=>hc2
        have p3:(0:Int)<=(j:Int):=by omega
        have p4:(j:Int)<(s.size:Int):=by omega
        cases hdg:jF cb with
        |true=>
         have h11:J=11:=gH HT.o HJ.o mr.o hjs (by rw[hc2];exact hdg);clear hc2;have q9:decide ((j:Int)-(f:Int)<11)=false:=decide_eq_false (by have:=mr.o;omega);clear h11;go_wp2_with fail
         refine(bU cb _).mono ?_;rintro e w3 ⟨rfl,rfl⟩;rw[hdg];go_wp2_with fail
         refine(bR s (i:Int) (i:Int) false _).mono ?_;rintro e w3 ⟨rfl,hb⟩;clear c0 c1 c2 f0 f1 f2 d0 d1 d2 g0 g1 g2;replace aZ:=bZ hb aZ;replace bf:=bZ hb bf;replace HB:=dW HB hb;clear hb;obtain⟨c0,c1,c2,f0,f1,f2⟩:=aj aZ.o;obtain⟨d0,d1,d2,g0,g1,g2⟩:=aj bf.o;unfold dZ;go_wp2;refine bodyPost_ret (v:=.tuple #[.agg #[.string s,.int .i64 (i:Int),.bool true],.int .i64 0]) (by simp[results,results179,go_sem,d0,d1,d2]) rfl ⟨congrArg Ending.returned jc.o.symm,aQ HB.o (Nat.le_succ w.heap.size) s (i:Int) true⟩
        |false=>
         clear hc2;go_wp2_with fail
         refine(bU cb _).mono ?_;rintro e w3 ⟨rfl,rfl⟩;rw[hdg];go_wp2_with fail
         refine(bR s (i:Int) (i:Int) false _).mono ?_;rintro e w3 ⟨rfl,hb⟩;clear c0 c1 c2 f0 f1 f2 d0 d1 d2 g0 g1 g2;replace aZ:=bZ hb aZ;replace bf:=bZ hb bf;replace HB:=dW HB hb;clear hb;obtain⟨c0,c1,c2,f0,f1,f2⟩:=aj aZ.o;obtain⟨d0,d1,d2,g0,g1,g2⟩:=aj bf.o;unfold dZ;go_wp2;refine bodyPost_ret (v:=.tuple #[.agg #[.string s,.int .i64 (i:Int),.bool true],.int .i64 0]) (by simp[results,results179,go_sem,d0,d1,d2]) rfl ⟨congrArg Ending.returned jc.o.symm,aQ HB.o (Nat.le_succ w.heap.size) s (i:Int) true⟩
       ·have p3:decide ((j:Int)<(s.size:Int))=false:=decide_eq_false (by omega);have IJ:decide (j<s.size)=false:=decide_eq_false (by omega);clear hjs;go_wp2_with fail
        refine(bR s (i:Int) (i:Int) false _).mono ?_;rintro e w3 ⟨rfl,hb⟩;clear c0 c1 c2 f0 f1 f2 d0 d1 d2 g0 g1 g2;replace aZ:=bZ hb aZ;replace bf:=bZ hb bf;replace HB:=dW HB hb;clear hb;obtain⟨c0,c1,c2,f0,f1,f2⟩:=aj aZ.o;obtain⟨d0,d1,d2,g0,g1,g2⟩:=aj bf.o;unfold dZ;go_wp2;refine bodyPost_ret (v:=.tuple #[.agg #[.string s,.int .i64 (i:Int),.bool true],.int .i64 0]) (by simp[results,results179,go_sem,d0,d1,d2]) rfl ⟨congrArg Ending.returned jc.o.symm,aQ HB.o (Nat.le_succ w.heap.size) s (i:Int) true⟩
      have hz:f+T.length=j:=by have:=mr.o;omega
      by_cases hv0:fU T=0
      ·have jc:=ai (HBAD.o (Or.inr (Or.inr (Or.inr ⟨by decide,hv0⟩))));have b5:(fU T==0)=true:=by simpa using hv0
       clear hv0;generalize fU T=vT at b5|-;by_cases h1:1<T.length
       ·have b3:decide (1<(j:Int)-(f:Int))=true:=decide_eq_true (by have:=mr.o;have:=HJ.o;have:=HJ2.o;omega);rw[decide_eq_false (fun h=>hC ⟨h1,h⟩)] at e3;clear hA hB hT0 hJT OE hC hh3 hz h1;by_cases hjs:j<s.size
        ·obtain⟨cb,hc2⟩:∃c,s[j]'hjs=c:=⟨_,rfl⟩
         have hx2:∀h:j<s.size,s[j]'h=cb:=fun _=>hc2
         have p3:(0:Int)<=(j:Int):=by omega
         have p4:(j:Int)<(s.size:Int):=by omega
         cases hdg:jF cb with
         |true=>
          have h11:J=11:=gH HT.o HJ.o mr.o hjs (by rw[hc2];exact hdg);clear hc2;have q9:decide ((j:Int)-(f:Int)<11)=false:=decide_eq_false (by have:=mr.o;omega);clear h11;go_wp2_with fail
          refine(bU cb _).mono ?_;rintro e w3 ⟨rfl,rfl⟩;rw[hdg];go_wp2_with fail
          refine(bR s (i:Int) (i:Int) false _).mono ?_;rintro e w3 ⟨rfl,hb⟩;clear c0 c1 c2 f0 f1 f2 d0 d1 d2 g0 g1 g2;replace aZ:=bZ hb aZ;replace bf:=bZ hb bf;replace HB:=dW HB hb;clear hb;obtain⟨c0,c1,c2,f0,f1,f2⟩:=aj aZ.o;obtain⟨d0,d1,d2,g0,g1,g2⟩:=aj bf.o;unfold dZ;go_wp2;refine bodyPost_ret (v:=.tuple #[.agg #[.string s,.int .i64 (i:Int),.bool true],.int .i64 0]) (by simp[results,results179,go_sem,d0,d1,d2]) rfl ⟨congrArg Ending.returned jc.o.symm,aQ HB.o (Nat.le_succ w.heap.size) s (i:Int) true⟩
         |false=>
          clear hc2;go_wp2_with fail
          refine(bU cb _).mono ?_;rintro e w3 ⟨rfl,rfl⟩;rw[hdg];go_wp2_with fail
          refine(bR s (i:Int) (i:Int) false _).mono ?_;rintro e w3 ⟨rfl,hb⟩;clear c0 c1 c2 f0 f1 f2 d0 d1 d2 g0 g1 g2;replace aZ:=bZ hb aZ;replace bf:=bZ hb bf;replace HB:=dW HB hb;clear hb;obtain⟨c0,c1,c2,f0,f1,f2⟩:=aj aZ.o;obtain⟨d0,d1,d2,g0,g1,g2⟩:=aj bf.o;unfold dZ;go_wp2;refine bodyPost_ret (v:=.tuple #[.agg #[.string s,.int .i64 (i:Int),.bool true],.int .i64 0]) (by simp[results,results179,go_sem,d0,d1,d2]) rfl ⟨congrArg Ending.returned jc.o.symm,aQ HB.o (Nat.le_succ w.heap.size) s (i:Int) true⟩
        ·have p3:decide ((j:Int)<(s.size:Int))=false:=decide_eq_false (by omega);have IJ:decide (j<s.size)=false:=decide_eq_false (by omega);clear hjs;go_wp2_with fail
         refine(bR s (i:Int) (i:Int) false _).mono ?_;rintro e w3 ⟨rfl,hb⟩;clear c0 c1 c2 f0 f1 f2 d0 d1 d2 g0 g1 g2;replace aZ:=bZ hb aZ;replace bf:=bZ hb bf;replace HB:=dW HB hb;clear hb;obtain⟨c0,c1,c2,f0,f1,f2⟩:=aj aZ.o;obtain⟨d0,d1,d2,g0,g1,g2⟩:=aj bf.o;unfold dZ;go_wp2;refine bodyPost_ret (v:=.tuple #[.agg #[.string s,.int .i64 (i:Int),.bool true],.int .i64 0]) (by simp[results,results179,go_sem,d0,d1,d2]) rfl ⟨congrArg Ending.returned jc.o.symm,aQ HB.o (Nat.le_succ w.heap.size) s (i:Int) true⟩
       ·have b3:decide (1<(j:Int)-(f:Int))=false:=decide_eq_false (by have:=mr.o;have:=HJ.o;have:=HJ2.o;omega);clear hA hB hT0 hJT OE hC hh3 hz h1 e3;by_cases hjs:j<s.size
        ·obtain⟨cb,hc2⟩:∃c,s[j]'hjs=c:=⟨_,rfl⟩
         have hx2:∀h:j<s.size,s[j]'h=cb:=fun _=>hc2
         have p3:(0:Int)<=(j:Int):=by omega
         have p4:(j:Int)<(s.size:Int):=by omega
         cases hdg:jF cb with
         |true=>
          have h11:J=11:=gH HT.o HJ.o mr.o hjs (by rw[hc2];exact hdg);clear hc2;have q9:decide ((j:Int)-(f:Int)<11)=false:=decide_eq_false (by have:=mr.o;omega);clear h11;go_wp2_with fail
          refine(bU cb _).mono ?_;rintro e w3 ⟨rfl,rfl⟩;rw[hdg];go_wp2_with fail
          refine(bR s (i:Int) (i:Int) false _).mono ?_;rintro e w3 ⟨rfl,hb⟩;clear c0 c1 c2 f0 f1 f2 d0 d1 d2 g0 g1 g2;replace aZ:=bZ hb aZ;replace bf:=bZ hb bf;replace HB:=dW HB hb;clear hb;obtain⟨c0,c1,c2,f0,f1,f2⟩:=aj aZ.o;obtain⟨d0,d1,d2,g0,g1,g2⟩:=aj bf.o;unfold dZ;go_wp2;refine bodyPost_ret (v:=.tuple #[.agg #[.string s,.int .i64 (i:Int),.bool true],.int .i64 0]) (by simp[results,results179,go_sem,d0,d1,d2]) rfl ⟨congrArg Ending.returned jc.o.symm,aQ HB.o (Nat.le_succ w.heap.size) s (i:Int) true⟩
         |false=>
          clear hc2;go_wp2_with fail
          refine(bU cb _).mono ?_;rintro e w3 ⟨rfl,rfl⟩;rw[hdg];go_wp2_with fail
          refine(bR s (i:Int) (i:Int) false _).mono ?_;rintro e w3 ⟨rfl,hb⟩;clear c0 c1 c2 f0 f1 f2 d0 d1 d2 g0 g1 g2;replace aZ:=bZ hb aZ;replace bf:=bZ hb bf;replace HB:=dW HB hb;clear hb;obtain⟨c0,c1,c2,f0,f1,f2⟩:=aj aZ.o;obtain⟨d0,d1,d2,g0,g1,g2⟩:=aj bf.o;unfold dZ;go_wp2;refine bodyPost_ret (v:=.tuple #[.agg #[.string s,.int .i64 (i:Int),.bool true],.int .i64 0]) (by simp[results,results179,go_sem,d0,d1,d2]) rfl ⟨congrArg Ending.returned jc.o.symm,aQ HB.o (Nat.le_succ w.heap.size) s (i:Int) true⟩
        ·have p3:decide ((j:Int)<(s.size:Int))=false:=decide_eq_false (by omega);have IJ:decide (j<s.size)=false:=decide_eq_false (by omega);clear hjs;go_wp2_with fail
         refine(bR s (i:Int) (i:Int) false _).mono ?_;rintro e w3 ⟨rfl,hb⟩;clear c0 c1 c2 f0 f1 f2 d0 d1 d2 g0 g1 g2;replace aZ:=bZ hb aZ;replace bf:=bZ hb bf;replace HB:=dW HB hb;clear hb;obtain⟨c0,c1,c2,f0,f1,f2⟩:=aj aZ.o;obtain⟨d0,d1,d2,g0,g1,g2⟩:=aj bf.o;unfold dZ;go_wp2;refine bodyPost_ret (v:=.tuple #[.agg #[.string s,.int .i64 (i:Int),.bool true],.int .i64 0]) (by simp[results,results179,go_sem,d0,d1,d2]) rfl ⟨congrArg Ending.returned jc.o.symm,aQ HB.o (Nat.le_succ w.heap.size) s (i:Int) true⟩
      ·have jc:=ai (Ef.o hA hB (fun h=>hC ⟨h.1,by have:=h.2;rw[hh3] at this;injection this⟩) (fun h=>hv0 h.2));rw[Iy HT.o hT0,hz,show (-1:Int)*fU T= -(fU T) by omega] at jc;have b5:(fU T==0)=false:=by simpa using hv0
       have hvb:=uZ HT.o T.length (by omega);rw[List.take_length] at hvb;obtain⟨v0,v1⟩:=hvb;clear hv0;generalize fU T=vT at jc b5 v0 v1|-;by_cases h1:1<T.length
       ·have b3:decide (1<(j:Int)-(f:Int))=true:=decide_eq_true (by have:=mr.o;have:=HJ.o;have:=HJ2.o;omega);rw[decide_eq_false (fun h=>hC ⟨h1,h⟩)] at e3;clear hA hB hT0 hJT OE hC hh3 hz h1;by_cases hjs:j<s.size
        ·obtain⟨cb,hc2⟩:∃c,s[j]'hjs=c:=⟨_,rfl⟩
         have hx2:∀h:j<s.size,s[j]'h=cb:=fun _=>hc2
         have p3:(0:Int)<=(j:Int):=by omega
         have p4:(j:Int)<(s.size:Int):=by omega
         cases hdg:jF cb with
         |true=>
          have h11:J=11:=gH HT.o HJ.o mr.o hjs (by rw[hc2];exact hdg);clear hc2;have q9:decide ((j:Int)-(f:Int)<11)=false:=decide_eq_false (by have:=mr.o;omega);clear h11;go_wp2_with fail
          refine(bU cb _).mono ?_;rintro e w3 ⟨rfl,rfl⟩;rw[hdg];have p8:(0:Int)<=(j:Int):=by omega
          go_wp2;refine bodyPost_ret (v:=.tuple #[.agg #[.string s,.int .i64 ((j:Nat):Int),.bool false],.int .i64 (-vT)]) (by simp[results,results179,go_sem,d0,d1,d2]) rfl ⟨congrArg Ending.returned jc.o.symm,aQ (HB.o.setCell (p:=⟨w.heap.size,1,none⟩) (Nat.le_refl w.heap.size) _) (Nat.le_succ w.heap.size) s ((j:Nat):Int) false⟩
         |false=>
          clear hc2;go_wp2_with fail
          refine(bU cb _).mono ?_;rintro e w3 ⟨rfl,rfl⟩;rw[hdg];have p8:(0:Int)<=(j:Int):=by omega
          go_wp2;refine bodyPost_ret (v:=.tuple #[.agg #[.string s,.int .i64 ((j:Nat):Int),.bool false],.int .i64 (-vT)]) (by simp[results,results179,go_sem,d0,d1,d2]) rfl ⟨congrArg Ending.returned jc.o.symm,aQ (HB.o.setCell (p:=⟨w.heap.size,1,none⟩) (Nat.le_refl w.heap.size) _) (Nat.le_succ w.heap.size) s ((j:Nat):Int) false⟩
        ·have p3:decide ((j:Int)<(s.size:Int))=false:=decide_eq_false (by omega);have IJ:decide (j<s.size)=false:=decide_eq_false (by omega);clear hjs;have p8:(0:Int)<=(j:Int):=by omega
         go_wp2;refine bodyPost_ret (v:=.tuple #[.agg #[.string s,.int .i64 ((j:Nat):Int),.bool false],.int .i64 (-vT)]) (by simp[results,results179,go_sem,d0,d1,d2]) rfl ⟨congrArg Ending.returned jc.o.symm,aQ (HB.o.setCell (p:=⟨w.heap.size,1,none⟩) (Nat.le_refl w.heap.size) _) (Nat.le_succ w.heap.size) s ((j:Nat):Int) false⟩
       ·have b3:decide (1<(j:Int)-(f:Int))=false:=decide_eq_false (by have:=mr.o;have:=HJ.o;have:=HJ2.o;omega);clear hA hB hT0 hJT OE hC hh3 hz h1 e3;by_cases hjs:j<s.size
        ·obtain⟨cb,hc2⟩:∃c,s[j]'hjs=c:=⟨_,rfl⟩
         have hx2:∀h:j<s.size,s[j]'h=cb:=fun _=>hc2
         have p3:(0:Int)<=(j:Int):=by omega
         have p4:(j:Int)<(s.size:Int):=by omega
         cases hdg:jF cb with
         |true=>
          have h11:J=11:=gH HT.o HJ.o mr.o hjs (by rw[hc2];exact hdg);clear hc2;have q9:decide ((j:Int)-(f:Int)<11)=false:=decide_eq_false (by have:=mr.o;omega);clear h11;go_wp2_with fail
          refine(bU cb _).mono ?_;rintro e w3 ⟨rfl,rfl⟩;rw[hdg];have p8:(0:Int)<=(j:Int):=by omega
          go_wp2;refine bodyPost_ret (v:=.tuple #[.agg #[.string s,.int .i64 ((j:Nat):Int),.bool false],.int .i64 (-vT)]) (by simp[results,results179,go_sem,d0,d1,d2]) rfl ⟨congrArg Ending.returned jc.o.symm,aQ (HB.o.setCell (p:=⟨w.heap.size,1,none⟩) (Nat.le_refl w.heap.size) _) (Nat.le_succ w.heap.size) s ((j:Nat):Int) false⟩
         |false=>
          clear hc2;go_wp2_with fail
          refine(bU cb _).mono ?_;rintro e w3 ⟨rfl,rfl⟩;rw[hdg];have p8:(0:Int)<=(j:Int):=by omega
          go_wp2;refine bodyPost_ret (v:=.tuple #[.agg #[.string s,.int .i64 ((j:Nat):Int),.bool false],.int .i64 (-vT)]) (by simp[results,results179,go_sem,d0,d1,d2]) rfl ⟨congrArg Ending.returned jc.o.symm,aQ (HB.o.setCell (p:=⟨w.heap.size,1,none⟩) (Nat.le_refl w.heap.size) _) (Nat.le_succ w.heap.size) s ((j:Nat):Int) false⟩
        ·have p3:decide ((j:Int)<(s.size:Int))=false:=decide_eq_false (by omega);have IJ:decide (j<s.size)=false:=decide_eq_false (by omega);clear hjs;have p8:(0:Int)<=(j:Int):=by omega
         go_wp2;refine bodyPost_ret (v:=.tuple #[.agg #[.string s,.int .i64 ((j:Nat):Int),.bool false],.int .i64 (-vT)]) (by simp[results,results179,go_sem,d0,d1,d2]) rfl ⟨congrArg Ending.returned jc.o.symm,aQ (HB.o.setCell (p:=⟨w.heap.size,1,none⟩) (Nat.le_refl w.heap.size) _) (Nat.le_succ w.heap.size) s ((j:Nat):Int) false⟩
   ·have hn:sQ (c::r)=kg (r.length+1) 1 (c::r):=by simp[sQ,h45]
    rw[hn,hd];have e45:((c.toNat:Int)==(45:Int))=false:=by have:=nR (c:=c) (n:=45) (by decide);rw[decide_eq_false (show ¬c=UInt8.ofNat 45 from h45)] at this;exact this
    have hfz:i<=s.size:=by omega
    obtain⟨T,hT⟩:∃T,T=(bu s i).takeWhile jF:=⟨_,rfl⟩
    obtain⟨J,hJ⟩:∃J,J=min T.length 11:=⟨_,rfl⟩
    have Vy:=ai (show i+T.length<=s.size by have h:=(List.takeWhile_prefix (l:=bu s i) jF).length_le;rw[<-hT,gu] at h;omega);have HBAD:=ai (uK (s:=s) (frm:=r.length+1) (sg:=1) hT);have Ef:=ai (yl (s:=s) (frm:=r.length+1) (sg:=1) hT);rw[hfr] at HBAD;have HT:=ai hT;have HJ:=ai hJ;clear hT hJ hn hd FN h3 hfr h45;generalize oh s (kg (r.length+1) 1 (bu s i))=RV at HBAD Ef|-;go_enter func179,ntmps179
    go_wp2_with fail
    refine(hbl _).mono ?_;rintro e w1 ⟨rfl,hb⟩;replace aZ:=bZ hb aZ;replace bf:=bZ hb bf;replace HB:=dW HB hb;clear hb;obtain⟨c0,c1,c2,f0,f1,f2⟩:=aj aZ.o;obtain⟨d0,d1,d2,g0,g1,g2⟩:=aj bf.o;go_upto_region 2 with (fail)
    clear c0 c1 c2 f0 f1 f2 d0 d1 d2 g0 g1 g2;replace aZ:=ai (fD aZ.o s (i:Int) false);replace bf:=ai (eO bf.o (show w.heap.size+1≠w.heap.size by omega) s (i:Int) false);replace HB:=ai (aQ HB.o (Nat.le_refl w.heap.size) s (i:Int) false);generalize (((w1.setCell ⟨w.heap.size,0,none⟩ (.string s)).setCell ⟨w.heap.size,1,none⟩ (.int .i64 (i:Int))).setCell ⟨w.heap.size,2,none⟩ (.bool false))=w2 at aZ bf HB|-;obtain⟨c0,c1,c2,f0,f1,f2⟩:=aj aZ.o;obtain⟨d0,d1,d2,g0,g1,g2⟩:=aj bf.o;go_wp2_with fail
    clear hx p1 p2 hlt e45;obtain⟨f,rfl⟩:∃f,f=i:=⟨i,rfl⟩
    go_wp2_with fail
    go_loopg [6,7] (s.size+2) (fun k n t wr=>∃j:Nat,ay (f<=j∧j<=f+J∧(J+f)-j<k)∧n=.int .i64 (fU (T.take (j-f)))∧t=.int .i64 (j:Int)∧wr=w2)
    case atStart=>exact⟨f,⟨Nat.le_refl _,by omega,by have:=HJ.o;have:=Vy.o;omega⟩,by rw[Nat.sub_self];rfl,rfl,rfl⟩
    case round=>
     obtain⟨j,HM,rfl,rfl,rfl⟩:=hrel;by_cases hj:j<f+J
     ·obtain⟨hjs,cb,hc2,hdg,hsn⟩:=zi HT.o HJ.o HM.o.1 hj;have hx2:∀h:j<s.size,s[j]'h=cb:=fun _=>hc2
      clear hc2;have p3:(0:Int)<=(j:Int):=by omega
      have p4:(j:Int)<(s.size:Int):=by omega
      have p5:decide ((j:Int)-(f:Int)<11)=true:=decide_eq_true (by have:=HJ.o;have:=HM.o;omega);have p6:(f:Int)<=(j:Int):=by have:=HM.o;omega
      have p7:(f:Int)<=9223372036854775807:=by omega
      have hv:=uZ HT.o (j-f) (by have:=HJ.o;have:=HM.o;omega);have HS:=ai hsn;clear hsn;generalize fU (T.take (j-f))=v at hv HS|-;obtain⟨v0,v1⟩:=hv;have u0:=cb.toNat_lt;have u1:(0:Int)<=(cb.toNat:Int):=by omega
      have u2:(cb.toNat:Int)<256:=by omega
      go_wp2_with fail
      refine(bU cb _).mono ?_;rintro e w3 ⟨rfl,rfl⟩;rw[hdg];go_wp2_with fail
      go_roundg (gk-1)
      case measure=>have:=HM.o;omega
      case rel=>exact⟨j+1,⟨by have:=HM.o;omega,by omega,by have:=HM.o;omega⟩,by rw[HS.o];congr 1;omega,rfl,rfl⟩
     ·have mr:=ai (show j=f+J by have:=HM.o;omega);have p6:(f:Int)<=(j:Int):=by have:=HM.o;omega
      have p10:(j:Int)<=(s.size:Int):=by have:=mr.o;have:=HJ.o;have:=Vy.o;omega
      clear hj;by_cases hA:T= []
      ·have b1:((j:Int)==(f:Int))=true:=by simp;have:=mr.o;have:=HJ.o;rw[hA] at this;simp at this;omega
       have jc:=ai (HBAD.o (Or.inl hA));clear hA;by_cases hjs:j<s.size
       ·obtain⟨cb,hc2⟩:∃c,s[j]'hjs=c:=⟨_,rfl⟩
        have hx2:∀h:j<s.size,s[j]'h=cb:=fun _=>hc2
        have p3:(0:Int)<=(j:Int):=by omega
        have p4:(j:Int)<(s.size:Int):=by omega
        cases hdg:jF cb with
        |true=>
         have h11:J=11:=gH HT.o HJ.o mr.o hjs (by rw[hc2];exact hdg);clear hc2;have q9:decide ((j:Int)-(f:Int)<11)=false:=decide_eq_false (by have:=mr.o;omega);clear h11;go_wp2_with fail
         refine(bU cb _).mono ?_;rintro e w3 ⟨rfl,rfl⟩;rw[hdg];go_wp2_with fail
         refine(bR s (f:Int) (f:Int) false _).mono ?_;rintro e w3 ⟨rfl,hb⟩;clear c0 c1 c2 f0 f1 f2 d0 d1 d2 g0 g1 g2;replace aZ:=bZ hb aZ;replace bf:=bZ hb bf;replace HB:=dW HB hb;clear hb;obtain⟨c0,c1,c2,f0,f1,f2⟩:=aj aZ.o;obtain⟨d0,d1,d2,g0,g1,g2⟩:=aj bf.o;unfold dZ;go_wp2;refine bodyPost_ret (v:=.tuple #[.agg #[.string s,.int .i64 (f:Int),.bool true],.int .i64 0]) (by simp[results,results179,go_sem,d0,d1,d2]) rfl ⟨congrArg Ending.returned jc.o.symm,aQ HB.o (Nat.le_succ w.heap.size) s (f:Int) true⟩
        |false=>
         clear hc2;go_wp2_with fail
         refine(bU cb _).mono ?_;rintro e w3 ⟨rfl,rfl⟩;rw[hdg];go_wp2_with fail
         refine(bR s (f:Int) (f:Int) false _).mono ?_;rintro e w3 ⟨rfl,hb⟩;clear c0 c1 c2 f0 f1 f2 d0 d1 d2 g0 g1 g2;replace aZ:=bZ hb aZ;replace bf:=bZ hb bf;replace HB:=dW HB hb;clear hb;obtain⟨c0,c1,c2,f0,f1,f2⟩:=aj aZ.o;obtain⟨d0,d1,d2,g0,g1,g2⟩:=aj bf.o;unfold dZ;go_wp2;refine bodyPost_ret (v:=.tuple #[.agg #[.string s,.int .i64 (f:Int),.bool true],.int .i64 0]) (by simp[results,results179,go_sem,d0,d1,d2]) rfl ⟨congrArg Ending.returned jc.o.symm,aQ HB.o (Nat.le_succ w.heap.size) s (f:Int) true⟩
       ·have p3:decide ((j:Int)<(s.size:Int))=false:=decide_eq_false (by omega);have IJ:decide (j<s.size)=false:=decide_eq_false (by omega);clear hjs;go_wp2_with fail
        refine(bR s (f:Int) (f:Int) false _).mono ?_;rintro e w3 ⟨rfl,hb⟩;clear c0 c1 c2 f0 f1 f2 d0 d1 d2 g0 g1 g2;replace aZ:=bZ hb aZ;replace bf:=bZ hb bf;replace HB:=dW HB hb;clear hb;obtain⟨c0,c1,c2,f0,f1,f2⟩:=aj aZ.o;obtain⟨d0,d1,d2,g0,g1,g2⟩:=aj bf.o;unfold dZ;go_wp2;refine bodyPost_ret (v:=.tuple #[.agg #[.string s,.int .i64 (f:Int),.bool true],.int .i64 0]) (by simp[results,results179,go_sem,d0,d1,d2]) rfl ⟨congrArg Ending.returned jc.o.symm,aQ HB.o (Nat.le_succ w.heap.size) s (f:Int) true⟩
      have hT0:0<T.length:=List.length_pos_iff.mpr hA;have b1:((j:Int)==(f:Int))=false:=by simp;have:=mr.o;have:=HJ.o;omega
      by_cases hB:10<T.length
      ·have jc:=ai (HBAD.o (Or.inr (Or.inl hB)));have b2:decide (10<(j:Int)-(f:Int))=true:=decide_eq_true (by have:=mr.o;have:=HJ.o;omega);clear hA hB hT0;by_cases hjs:j<s.size
       ·obtain⟨cb,hc2⟩:∃c,s[j]'hjs=c:=⟨_,rfl⟩
        have hx2:∀h:j<s.size,s[j]'h=cb:=fun _=>hc2
        have p3:(0:Int)<=(j:Int):=by omega
        have p4:(j:Int)<(s.size:Int):=by omega
        cases hdg:jF cb with
        |true=>
         have h11:J=11:=gH HT.o HJ.o mr.o hjs (by rw[hc2];exact hdg);clear hc2;have q9:decide ((j:Int)-(f:Int)<11)=false:=decide_eq_false (by have:=mr.o;omega);clear h11;go_wp2_with fail
         refine(bU cb _).mono ?_;rintro e w3 ⟨rfl,rfl⟩;rw[hdg];go_wp2_with fail
         refine(bR s (f:Int) (f:Int) false _).mono ?_;rintro e w3 ⟨rfl,hb⟩;clear c0 c1 c2 f0 f1 f2 d0 d1 d2 g0 g1 g2;replace aZ:=bZ hb aZ;replace bf:=bZ hb bf;replace HB:=dW HB hb;clear hb;obtain⟨c0,c1,c2,f0,f1,f2⟩:=aj aZ.o;obtain⟨d0,d1,d2,g0,g1,g2⟩:=aj bf.o;unfold dZ;go_wp2;refine bodyPost_ret (v:=.tuple #[.agg #[.string s,.int .i64 (f:Int),.bool true],.int .i64 0]) (by simp[results,results179,go_sem,d0,d1,d2]) rfl ⟨congrArg Ending.returned jc.o.symm,aQ HB.o (Nat.le_succ w.heap.size) s (f:Int) true⟩
        |false=>
         clear hc2;go_wp2_with fail
         refine(bU cb _).mono ?_;rintro e w3 ⟨rfl,rfl⟩;rw[hdg];go_wp2_with fail
         refine(bR s (f:Int) (f:Int) false _).mono ?_;rintro e w3 ⟨rfl,hb⟩;clear c0 c1 c2 f0 f1 f2 d0 d1 d2 g0 g1 g2;replace aZ:=bZ hb aZ;replace bf:=bZ hb bf;replace HB:=dW HB hb;clear hb;obtain⟨c0,c1,c2,f0,f1,f2⟩:=aj aZ.o;obtain⟨d0,d1,d2,g0,g1,g2⟩:=aj bf.o;unfold dZ;go_wp2;refine bodyPost_ret (v:=.tuple #[.agg #[.string s,.int .i64 (f:Int),.bool true],.int .i64 0]) (by simp[results,results179,go_sem,d0,d1,d2]) rfl ⟨congrArg Ending.returned jc.o.symm,aQ HB.o (Nat.le_succ w.heap.size) s (f:Int) true⟩
       ·have p3:decide ((j:Int)<(s.size:Int))=false:=decide_eq_false (by omega);have IJ:decide (j<s.size)=false:=decide_eq_false (by omega);clear hjs;go_wp2_with fail
        refine(bR s (f:Int) (f:Int) false _).mono ?_;rintro e w3 ⟨rfl,hb⟩;clear c0 c1 c2 f0 f1 f2 d0 d1 d2 g0 g1 g2;replace aZ:=bZ hb aZ;replace bf:=bZ hb bf;replace HB:=dW HB hb;clear hb;obtain⟨c0,c1,c2,f0,f1,f2⟩:=aj aZ.o;obtain⟨d0,d1,d2,g0,g1,g2⟩:=aj bf.o;unfold dZ;go_wp2;refine bodyPost_ret (v:=.tuple #[.agg #[.string s,.int .i64 (f:Int),.bool true],.int .i64 0]) (by simp[results,results179,go_sem,d0,d1,d2]) rfl ⟨congrArg Ending.returned jc.o.symm,aQ HB.o (Nat.le_succ w.heap.size) s (f:Int) true⟩
      have b2:decide (10<(j:Int)-(f:Int))=false:=decide_eq_false (by have:=mr.o;have:=HJ.o;omega);have hJT:J=T.length:=by have:=HJ.o;omega
      have OE:j-f=T.length:=by have:=mr.o;omega
      rw[OE,List.take_length];obtain⟨hfs,hf0⟩:=wF HT.o hT0;have g1:(f:Int)<(s.size:Int):=by omega
      have g2:(0:Int)<=(f:Int):=by omega
      have HJ2:=ai hJT;have hx3:∀h:f<s.size,∃c,s[f]'h=c∧(bu s f).head? =some c:=fun h=>⟨_,rfl,hf0⟩
      obtain⟨c3,hc3,hh3⟩:=hx3 hfs;have hx4:∀h:f<s.size,s[f]'h=c3:=fun _=>hc3
      have e3:((c3.toNat:Int)==(48:Int))=decide (c3=48):=nR (n:=48) (by decide);clear hc3 hf0 hx3;by_cases hC:1<T.length∧c3=48
      ·have jc:=ai (HBAD.o (Or.inr (Or.inr (Or.inl ⟨hC.1,by rw[hh3,hC.2]⟩))));have b3:decide (1<(j:Int)-(f:Int))=true:=decide_eq_true (by have:=mr.o;have:=HJ.o;have:=HJ2.o;omega);rw[decide_eq_true hC.2] at e3;clear hA hB hT0 hJT OE hC hh3;by_cases hjs:j<s.size
       ·obtain⟨cb,hc2⟩:∃c,s[j]'hjs=c:=⟨_,rfl⟩
        have hx2:∀h:j<s.size,s[j]'h=cb:=fun _=>hc2
        have p3:(0:Int)<=(j:Int):=by omega
        have p4:(j:Int)<(s.size:Int):=by omega
        cases hdg:jF cb with
        |true=>
         have h11:J=11:=gH HT.o HJ.o mr.o hjs (by rw[hc2];exact hdg);clear hc2;have q9:decide ((j:Int)-(f:Int)<11)=false:=decide_eq_false (by have:=mr.o;omega);clear h11;go_wp2_with fail
         refine(bU cb _).mono ?_;rintro e w3 ⟨rfl,rfl⟩;rw[hdg];go_wp2_with fail
         refine(bR s (f:Int) (f:Int) false _).mono ?_;rintro e w3 ⟨rfl,hb⟩;clear c0 c1 c2 f0 f1 f2 d0 d1 d2 g0 g1 g2;replace aZ:=bZ hb aZ;replace bf:=bZ hb bf;replace HB:=dW HB hb;clear hb;obtain⟨c0,c1,c2,f0,f1,f2⟩:=aj aZ.o;obtain⟨d0,d1,d2,g0,g1,g2⟩:=aj bf.o;unfold dZ;go_wp2;refine bodyPost_ret (v:=.tuple #[.agg #[.string s,.int .i64 (f:Int),.bool true],.int .i64 0]) (by simp[results,results179,go_sem,d0,d1,d2]) rfl ⟨congrArg Ending.returned jc.o.symm,aQ HB.o (Nat.le_succ w.heap.size) s (f:Int) true⟩
        |false=>
         clear hc2;go_wp2_with fail
         refine(bU cb _).mono ?_;rintro e w3 ⟨rfl,rfl⟩;rw[hdg];go_wp2_with fail
         refine(bR s (f:Int) (f:Int) false _).mono ?_;rintro e w3 ⟨rfl,hb⟩;clear c0 c1 c2 f0 f1 f2 d0 d1 d2 g0 g1 g2;replace aZ:=bZ hb aZ;replace bf:=bZ hb bf;replace HB:=dW HB hb;clear hb;obtain⟨c0,c1,c2,f0,f1,f2⟩:=aj aZ.o;obtain⟨d0,d1,d2,g0,g1,g2⟩:=aj bf.o;unfold dZ;go_wp2;refine bodyPost_ret (v:=.tuple #[.agg #[.string s,.int .i64 (f:Int),.bool true],.int .i64 0]) (by simp[results,results179,go_sem,d0,d1,d2]) rfl ⟨congrArg Ending.returned jc.o.symm,aQ HB.o (Nat.le_succ w.heap.size) s (f:Int) true⟩
       ·have p3:decide ((j:Int)<(s.size:Int))=false:=decide_eq_false (by omega);have IJ:decide (j<s.size)=false:=decide_eq_false (by omega);clear hjs;go_wp2_with fail
        refine(bR s (f:Int) (f:Int) false _).mono ?_;rintro e w3 ⟨rfl,hb⟩;clear c0 c1 c2 f0 f1 f2 d0 d1 d2 g0 g1 g2;replace aZ:=bZ hb aZ;replace bf:=bZ hb bf;replace HB:=dW HB hb;clear hb;obtain⟨c0,c1,c2,f0,f1,f2⟩:=aj aZ.o;obtain⟨d0,d1,d2,g0,g1,g2⟩:=aj bf.o;unfold dZ;go_wp2;refine bodyPost_ret (v:=.tuple #[.agg #[.string s,.int .i64 (f:Int),.bool true],.int .i64 0]) (by simp[results,results179,go_sem,d0,d1,d2]) rfl ⟨congrArg Ending.returned jc.o.symm,aQ HB.o (Nat.le_succ w.heap.size) s (f:Int) true⟩
      have hz:f+T.length=j:=by have:=mr.o;omega
      have jc:=ai (Ef.o hA hB (fun h=>hC ⟨h.1,by have:=h.2;rw[hh3] at this;injection this⟩) (by omega));rw[Iy HT.o hT0,hz,Int.one_mul] at jc;by_cases h1:1<T.length
      ·have b3:decide (1<(j:Int)-(f:Int))=true:=decide_eq_true (by have:=mr.o;have:=HJ.o;have:=HJ2.o;omega);rw[decide_eq_false (fun h=>hC ⟨h1,h⟩)] at e3;clear hA hB hT0 hJT OE hC hh3 hz h1;by_cases hjs:j<s.size
       ·obtain⟨cb,hc2⟩:∃c,s[j]'hjs=c:=⟨_,rfl⟩
        have hx2:∀h:j<s.size,s[j]'h=cb:=fun _=>hc2
        have p3:(0:Int)<=(j:Int):=by omega
        have p4:(j:Int)<(s.size:Int):=by omega
        cases hdg:jF cb with
        |true=>
         have h11:J=11:=gH HT.o HJ.o mr.o hjs (by rw[hc2];exact hdg);clear hc2;have q9:decide ((j:Int)-(f:Int)<11)=false:=decide_eq_false (by have:=mr.o;omega);clear h11;go_wp2_with fail
         refine(bU cb _).mono ?_;rintro e w3 ⟨rfl,rfl⟩;rw[hdg];have p8:(0:Int)<=(j:Int):=by omega
         go_wp2;refine bodyPost_ret (v:=.tuple #[.agg #[.string s,.int .i64 ((j:Nat):Int),.bool false],.int .i64 (fU T)]) (by simp[results,results179,go_sem,d0,d1,d2]) rfl ⟨congrArg Ending.returned jc.o.symm,aQ (HB.o.setCell (p:=⟨w.heap.size,1,none⟩) (Nat.le_refl w.heap.size) _) (Nat.le_succ w.heap.size) s ((j:Nat):Int) false⟩
        |false=>
         clear hc2;go_wp2_with fail
         refine(bU cb _).mono ?_;rintro e w3 ⟨rfl,rfl⟩;rw[hdg];have p8:(0:Int)<=(j:Int):=by omega
         go_wp2;refine bodyPost_ret (v:=.tuple #[.agg #[.string s,.int .i64 ((j:Nat):Int),.bool false],.int .i64 (fU T)]) (by simp[results,results179,go_sem,d0,d1,d2]) rfl ⟨congrArg Ending.returned jc.o.symm,aQ (HB.o.setCell (p:=⟨w.heap.size,1,none⟩) (Nat.le_refl w.heap.size) _) (Nat.le_succ w.heap.size) s ((j:Nat):Int) false⟩
       ·have p3:decide ((j:Int)<(s.size:Int))=false:=decide_eq_false (by omega);have IJ:decide (j<s.size)=false:=decide_eq_false (by omega);clear hjs;have p8:(0:Int)<=(j:Int):=by omega
        go_wp2;refine bodyPost_ret (v:=.tuple #[.agg #[.string s,.int .i64 ((j:Nat):Int),.bool false],.int .i64 (fU T)]) (by simp[results,results179,go_sem,d0,d1,d2]) rfl ⟨congrArg Ending.returned jc.o.symm,aQ (HB.o.setCell (p:=⟨w.heap.size,1,none⟩) (Nat.le_refl w.heap.size) _) (Nat.le_succ w.heap.size) s ((j:Nat):Int) false⟩
      ·have b3:decide (1<(j:Int)-(f:Int))=false:=decide_eq_false (by have:=mr.o;have:=HJ.o;have:=HJ2.o;omega);clear hA hB hT0 hJT OE hC hh3 hz h1 e3;by_cases hjs:j<s.size
       ·obtain⟨cb,hc2⟩:∃c,s[j]'hjs=c:=⟨_,rfl⟩
        have hx2:∀h:j<s.size,s[j]'h=cb:=fun _=>hc2
        have p3:(0:Int)<=(j:Int):=by omega
        have p4:(j:Int)<(s.size:Int):=by omega
        cases hdg:jF cb with
        |true=>
         have h11:J=11:=gH HT.o HJ.o mr.o hjs (by rw[hc2];exact hdg);clear hc2;have q9:decide ((j:Int)-(f:Int)<11)=false:=decide_eq_false (by have:=mr.o;omega);clear h11;go_wp2_with fail
         refine(bU cb _).mono ?_;rintro e w3 ⟨rfl,rfl⟩;rw[hdg];have p8:(0:Int)<=(j:Int):=by omega
         go_wp2;refine bodyPost_ret (v:=.tuple #[.agg #[.string s,.int .i64 ((j:Nat):Int),.bool false],.int .i64 (fU T)]) (by simp[results,results179,go_sem,d0,d1,d2]) rfl ⟨congrArg Ending.returned jc.o.symm,aQ (HB.o.setCell (p:=⟨w.heap.size,1,none⟩) (Nat.le_refl w.heap.size) _) (Nat.le_succ w.heap.size) s ((j:Nat):Int) false⟩
        |false=>
         clear hc2;go_wp2_with fail
         refine(bU cb _).mono ?_;rintro e w3 ⟨rfl,rfl⟩;rw[hdg];have p8:(0:Int)<=(j:Int):=by omega
         go_wp2;refine bodyPost_ret (v:=.tuple #[.agg #[.string s,.int .i64 ((j:Nat):Int),.bool false],.int .i64 (fU T)]) (by simp[results,results179,go_sem,d0,d1,d2]) rfl ⟨congrArg Ending.returned jc.o.symm,aQ (HB.o.setCell (p:=⟨w.heap.size,1,none⟩) (Nat.le_refl w.heap.size) _) (Nat.le_succ w.heap.size) s ((j:Nat):Int) false⟩
       ·have p3:decide ((j:Int)<(s.size:Int))=false:=decide_eq_false (by omega);have IJ:decide (j<s.size)=false:=decide_eq_false (by omega);clear hjs;have p8:(0:Int)<=(j:Int):=by omega
        go_wp2;refine bodyPost_ret (v:=.tuple #[.agg #[.string s,.int .i64 ((j:Nat):Int),.bool false],.int .i64 (fU T)]) (by simp[results,results179,go_sem,d0,d1,d2]) rfl ⟨congrArg Ending.returned jc.o.symm,aQ (HB.o.setCell (p:=⟨w.heap.size,1,none⟩) (Nat.le_refl w.heap.size) _) (Nat.le_succ w.heap.size) s ((j:Nat):Int) false⟩
end Go.Proofs.YtnmpijbcajclgaaGreatDoor.Mine
end
