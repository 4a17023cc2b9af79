/- Texts of one claim, one behind the other, made short by a program. -/
import Derived.Test.YtnmpijbcajclgaaGreatDoorMA4
import Derived.Test.YtnmpijbcajclgaaGreatDoorMA5
set_option maxHeartbeats 8000000
set_option linter.unusedSimpArgs false
set_option linter.unusedVariables false
set_option maxRecDepth 100000
section
namespace Go.Proofs.YtnmpijbcajclgaaGreatDoor.Mine
open Tryz
open Go.RowKit YtnmpijbcajclgaaGreatDoorW.PrintWords YtnmpijbcajclgaaGreatDoorW.PrintLast YtnmpijbcajclgaaGreatDoorW.PrintMore
open PNodeAlone
def bytes(s:ByteArray):List UInt8:=s.data.toList
theorem eD(s:ByteArray):(bytes s).length=s.size:=by simp[bytes]
theorem jb{s:ByteArray}{l:List UInt8}(h:l<:+bytes s):l=bu s (s.size-l.length):=by
 obtain⟨t,ht⟩:=h;have h1:(bytes s).length=t.length+l.length:=by rw[<-ht];simp
 rw[eD] at h1;unfold bu;rw[show s.data.toList=t++l from ht.symm,show s.size-l.length=t.length by omega];simp
theorem Dx(s:ByteArray)(i:Nat):bu s i<:+bytes s:=List.drop_suffix _ _
theorem lq{s:ByteArray}{i:Nat}{c:UInt8}{r:List UInt8}(h:bu s i=c::r):i<s.size∧bt s (i:Int)=(c.toNat:Int)∧bu s (i+1)=r:=by
 have h1:i<s.size:=by
  rcases Nat.lt_or_ge i s.size with h1|h1
  ·exact h1
  ·rw[gP h1] at h;cases h
 rw[dP h1] at h;injection h with h2 h3;exact⟨h1,by simp[bt,h1,h2],h3⟩
theorem iy{x:Int}(h0: -9223372036854775808<=x)(h1:x<=9223372036854775807):wrap64 x=x:=by unfold wrap64;omega
theorem Az(s:ByteArray)(hs:s.size<=1000)(d:Nat):∀(k i:Nat),i<=s.size->s.size-i=d->d<k->
 aA.l0 k s (i:Int) (-1)=some (s,((s.size-(skip (bu s i)).length:Nat):Int), -1):=by
 induction d with
 |zero=>
  intro k i h0 hd hk;obtain⟨k,rfl⟩:∃m,k=m+1:=⟨k-1,by omega⟩
  simp only[aA.l0];rw[if_pos (by omega),if_neg (by omega),gP (by omega)];simp[skip];omega
 |succ d ih=>
  intro k i h0 hd hk;obtain⟨k,rfl⟩:∃m,k=m+1:=⟨k-1,by omega⟩
  have hlt:i<s.size:=by omega
  have hc:=dP hlt;obtain⟨h1,h2,h3⟩:=lq hc;simp only[aA.l0];rw[if_pos (by omega),if_pos (by omega),if_pos (by omega),h2];by_cases h32:s[i]=32
  ·rw[if_pos (by rw[h32];rfl),iy (by omega) (by omega),show (i:Int)+1=((i+1:Nat):Int) by omega,ih k (i+1) (by omega) (by omega) (by omega),hc];simp[skip,h32]
  ·have hn:¬((s[i].toNat:Int)=32):=by
    intro h;exact h32 (UInt8.toNat_inj.mp (by simpa using (by omega:s[i].toNat=32)))
   rw[if_neg hn,hc,skip,if_neg h32,<-hc,gu]
   congr 3
   omega
theorem zq{s:ByteArray}(hs:s.size<=1000){i:Nat}(hi:i<=s.size):aA.f (s.size+1) s (i:Int) (-1)=some (s,((s.size-(skip (bu s i)).length:Nat):Int), -1):=
 Az s hs (s.size-i) _ i hi rfl (by omega)
theorem oU{s:ByteArray}(i:Int){b:Int}(hb:0<=b):aA.f 1 s i b=some (s,i,b):=by
 simp only[aA.f,aA.l0];rw[if_neg (by omega)]
def qm(s:ByteArray):Option Nat->Int
 |none=> -1
 |some n=>((s.size-n:Nat):Int)
def cZ(w0 w:World)(g:Nat)(s:ByteArray)(st:St):Prop:=st.ok (bytes s)∧ag w0 w g s ((s.size-st.l.length:Nat):Int) (qm s st.bad)
def yx(w0 w:World)(g:Nat)(s:ByteArray)(v:Value)(st:St)(e:Ending)(w':World):Prop:=
 e=.returned v∧cZ w0 w' g s st∧Below w0.heap.size w0 w'∧az w w' g none
theorem l8(s:ByteArray)(n:Nat):0<=qm s (some n):=by simp[qm]
section
variable{g:Nat}{s:ByteArray}{w0 w:World}{st:St}
theorem tT(h:st.ok (bytes s)):st.l.length<=s.size:=by have:=h.le;rwa [eD] at this
theorem rZ(h:st.ok (bytes s)):bu s (s.size-st.l.length)=st.l:=(jb h.1).symm
theorem EB(hs:s.size<=1000)(hI:cZ w0 w g s st)(hB:Below w0.heap.size w0 w):
 Calls prog 144 #[.pointer (some ⟨g,0,none⟩)] w (yx w0 w g s (.tuple #[]) (bY st)):=by
 obtain⟨hok,hi⟩:=hI;have hok2:=iP hok;obtain⟨l,b⟩:=st;cases b with
 |none=>
  have h:=zq hs (Nat.sub_le s.size l.length);rw[rZ (st:=⟨l,none⟩) hok] at h;exact(aA.calls _ g s _ _ _ _ _ w0 w hi hB h).mono fun e w' ⟨he,h1,h2,h3⟩=>⟨he,⟨hok2,h1⟩,h2,h3⟩
 |some n=>
  exact(aA.calls _ g s _ _ _ _ _ w0 w hi hB (oU _ (l8 s n))).mono fun e w' ⟨he,h1,h2,h3⟩=>⟨he,⟨hok2,h1⟩,h2,h3⟩
theorem Dj(n:Nat)(hn:n<=s.size)(hI:cZ w0 w g s st)(hB:Below w0.heap.size w0 w):
 Calls prog 146 #[.pointer (some ⟨g,0,none⟩),.int .i64 ((s.size-n:Nat):Int)] w (yx w0 w g s (.tuple #[]) (iQ st n)):=by
 obtain⟨hok,hi⟩:=hI;have hok2:=DF (n:=n) hok (by rw[eD];exact hn);obtain⟨l,b⟩:=st;cases b with
 |none=>
  exact(aH.calls g s _ _ ((s.size-n:Nat):Int) s _ _ w0 w hi hB (by simp only[aH.f];rw[if_pos (by simp[qm])];rfl)).mono fun e w' ⟨he,h1,h2,h3⟩=>⟨he,⟨hok2,h1⟩,h2,h3⟩
 |some m=>
  exact(aH.calls g s _ _ ((s.size-n:Nat):Int) s _ _ w0 w hi hB (by simp only[aH.f];rw[if_neg (by have:=l8 s m;omega)];rfl)).mono fun e w' ⟨he,h1,h2,h3⟩=>⟨he,⟨hok2,h1⟩,h2,h3⟩
theorem Ns{s m:ByteArray}(hs:s.size<=1000)(hm:m.size<=1000){i:Nat}(hi:i<=s.size):
 bV.f (s.size+1) s (i:Int) (-1) m=some (s,((s.size-(lC (bytes m) (skip (bu s i))).l.length:Nat):Int),qm s (lC (bytes m) (skip (bu s i))).bad):=by
 have ku:skip (bu s i)<:+bytes s:=(jJ _).trans (Dx s i);have hd:=jb ku;have hle:(skip (bu s i)).length<=s.size:=by have:=ku.length_le;rwa [eD] at this
 simp only[bV.f];rw[zq hs hi];simp only[Option.bind_some];generalize skip (bu s i)=L at hd hle|-;rw[if_neg (by omega),iy (by omega) (by omega)];have Kn:(bytes m).length=m.size:=eD m;by_cases h1:(s.size:Int)-((s.size-L.length:Nat):Int)<(m.size:Int)
 ·have hp:(bytes m).isPrefixOf L=false:=by
   rw[Bool.eq_false_iff];intro hp;have:=(List.isPrefixOf_iff_prefix.mp hp).length_le;omega
  rw[if_pos h1];simp[lC,hp,aH.f,qm]
 ·rw[if_neg h1,if_pos (by omega),iy (by omega) (by omega),if_pos (by omega),if_pos (by omega)];have he:(s.extract (((s.size-L.length:Nat):Int)).toNat ((((s.size-L.length:Nat):Int)+(m.size:Int))).toNat).toList=L.take m.size:=by
   rw[Lib.extract_toList,show (((s.size-L.length:Nat):Int)).toNat=s.size-L.length by omega,show ((((s.size-L.length:Nat):Int)+(m.size:Int))).toNat-(s.size-L.length)=m.size by omega];exact congrArg _ hd.symm
  rw[he,Lib.toList_data];by_cases h2:L.take m.size=m.data.toList
  ·have hp:(bytes m).isPrefixOf L=true:=List.isPrefixOf_iff_prefix.mpr (List.prefix_iff_eq_take.mpr (by rw[Kn];exact h2.symm));rw[if_pos h2];simp[lC,hp,qm,Kn];omega
  ·have hp:(bytes m).isPrefixOf L=false:=by
    rw[Bool.eq_false_iff];intro hp;have:=List.prefix_iff_eq_take.mp (List.isPrefixOf_iff_prefix.mp hp);rw[Kn] at this;exact h2 this.symm
   rw[if_neg h2];simp[lC,hp,aH.f,qm]
theorem Fv{s m:ByteArray}(i:Int){b:Int}(hb:0<=b):bV.f 1 s i b m=some (s,i,b):=by
 simp only[bV.f];rw[oU i hb];simp only[Option.bind_some];rw[if_pos hb];simp only[aH.f];rw[if_neg (by omega)];rfl
theorem uW(m:ByteArray)(hm:m.size<=1000)(hs:s.size<=1000)(hI:cZ w0 w g s st)(hB:Below w0.heap.size w0 w):
 Calls prog 202 #[.pointer (some ⟨g,0,none⟩),.string m] w (yx w0 w g s (.tuple #[]) (dO (bytes m) st)):=by
 obtain⟨hok,hi⟩:=hI;have hok2:=iC (m:=bytes m) hok;obtain⟨l,b⟩:=st;cases b with
 |none=>
  have h:=Ns hs hm (Nat.sub_le s.size l.length);rw[rZ (st:=⟨l,none⟩) hok] at h;exact(bV.calls _ g s _ _ _ _ _ _ w0 w hi hB h).mono fun e w' ⟨he,h1,h2,h3⟩=>⟨he,⟨hok2,h1⟩,h2,h3⟩
 |some n=>
  exact(bV.calls _ g s _ _ _ _ _ _ w0 w hi hB (Fv _ (l8 s n))).mono fun e w' ⟨he,h1,h2,h3⟩=>⟨he,⟨hok2,h1⟩,h2,h3⟩
end
theorem BZ(c:UInt8):isLet (c.toNat:Int)=wO c:=by
 rw[isLet,wO,decide_eq_decide,UInt8.le_iff_toNat_le,UInt8.le_iff_toNat_le,show (97:UInt8).toNat=97 from rfl,show (122:UInt8).toNat=122 from rfl];omega
theorem uo(c:UInt8):pE (c.toNat:Int)=jF c:=by
 rw[pE,jF,decide_eq_decide,UInt8.le_iff_toNat_le,UInt8.le_iff_toNat_le,show (48:UInt8).toNat=48 from rfl,show (57:UInt8).toNat=57 from rfl];omega
theorem xS(p:UInt8->Bool)(r:List UInt8):r.take (r.takeWhile p).length=r.takeWhile p:=(List.prefix_iff_eq_take.mp (List.takeWhile_prefix p)).symm
theorem qY(p:UInt8->Bool)(r:List UInt8):(r.takeWhile p).length+(r.dropWhile p).length=r.length:=by
 rw[<-List.length_append,List.takeWhile_append_dropWhile]
theorem wM(s:ByteArray)(frm:Nat):∀(k at_:Nat),frm<at_->at_<=s.size->s.size-at_<=k->jk s frm k at_=at_+((bu s at_).takeWhile pX).length
 |0,at_,_,h1,h2=>by rw[gP (by omega)];simp[jk]
 |k+1,at_,h0,h1,h2=>by
  rcases Nat.lt_or_ge at_ s.size with hlt|hge
  ·have hc:=dP hlt;obtain⟨_,hb,_⟩:=lq hc;have hok:kF s frm at_=pX s[at_]:=by simp[kF,hb,BZ,uo,pX,h0]
   unfold jk;rw[hok,hc,List.takeWhile_cons];by_cases ha:pX s[at_]=true
   ·rw[if_pos ⟨hlt,ha⟩,if_pos ha,wM s frm k (at_+1) (by omega) (by omega) (by omega)];simp;omega
   ·rw[if_neg (fun h=>ha h.2),if_neg ha];simp
  ·unfold jk;rw[if_neg (fun h=>by omega),gP hge];simp
theorem Fa(s:ByteArray)(l:List UInt8)(hl:l<:+bytes s)(hle:l.length<=s.size):jk s (s.size-l.length) (s.size-(s.size-l.length)) (s.size-l.length)=s.size-(fq l).2.l.length:=by
 have hd:=jb hl
 match l with
 | []=>simp[fq,jk]
 |c::r=>
  have hlt:s.size-(c::r).length<s.size:=by simp at hle|-;omega
  obtain⟨_,hb,h3⟩:=lq hd.symm;obtain⟨k,hk⟩:∃k,s.size-(s.size-(c::r).length)=k+1:=⟨r.length,by simp at hle|-;omega⟩
  rw[hk];have hok:kF s (s.size-(c::r).length) (s.size-(c::r).length)=wO c:=by simp only[kF,hb,BZ];simp
  unfold jk;rw[hok];by_cases hc:wO c=true
  ·have hw:=qY pX r;rw[if_pos ⟨hlt,hc⟩,wM _ _ _ _ (by omega) (by omega) (by simp at hk hle|-;omega),h3];simp only[fq,hc,if_true];simp at hle|-;omega
  ·rw[if_neg (fun h=>hc h.2)];simp[fq,hc]
theorem Fq(s:ByteArray)(l:List UInt8)(hl:l<:+bytes s)(hle:l.length<=s.size):s.extract (s.size-l.length) (s.size-(fq l).2.l.length)=⟨(fq l).1.toArray⟩:=by
 have hd:=jb hl;have h:(s.extract (s.size-l.length) (s.size-(fq l).2.l.length)).data.toList=(fq l).1:=by
  rw[Lib.extract_data,show s.data.toList.drop (s.size-l.length)=l from hd.symm]
  match l with
  | []=>simp[fq]
  |c::r=>
   have hw:=qY pX r;by_cases hc:wO c=true
   ·simp only[fq,hc,if_true];rw[show s.size-(r.dropWhile pX).length-(s.size-(c::r).length)=(r.takeWhile pX).length+1 by simp at hle|-;omega,List.take_succ_cons,xS]
   ·simp[fq,hc]
 rw[<-h]
theorem Hl(s:ByteArray)(l:List UInt8)(hle:l.length<=s.size):(if s.size-(fq l).2.l.length=s.size-l.length then ((s.size-l.length:Nat):Int) else-1)=qm s (fq l).2.bad:=by
 match l with
 | []=>simp[fq,qm]
 |c::r=>
  have hw:=qY pX r;by_cases hc:wO c=true
  ·simp only[fq,hc,if_true];rw[if_neg (by simp at hle|-;omega)];rfl
  ·simp[fq,hc,qm]
theorem Ov(g:Nat)(s:ByteArray)(at0:Nat)(b:Int)(w0 w:World)(hI:ag w0 w g s at0 b)(hB:Below w0.heap.size w0 w)(h1:at0<=s.size)(hs:s.size<=1000)(hb:0<=b):
 Calls prog 145 #[.pointer (some ⟨g,0,none⟩)] w fun e w'=>e=.returned (.string ⟨#[]⟩)∧ag w0 w' g s at0 b∧Below w0.heap.size w0 w'∧az w w' g none:=by
 have HI:=ai hI;have HB:=ai hB;have HK:=ai (az.refl w g none);have HS:=ai hs;have HX:=ai (show s.extract at0 at0=⟨#[]⟩ by simp;rfl);clear hI hB;go_enter func145,ntmps145
 go_wp2_with (go_at_call 144;(with_reducible refine(aA.calls 1 g s at0 b s at0 b w0 _ ?side1 ?side2 (oU _ hb)).mono ?_);(case side1=>(repeat(first|(with_reducible first|exact HI.o|apply ag.alloc|apply ag.drewN|apply ag.drew|apply ag.bG|apply ag.bE|apply ag.bF)|exact HI.o)));(case side2=>(repeat(first|(with_reducible first|exact HB.o|apply ae|apply ah|apply ak|refine au ?_ (ag.ge HI.o))|exact HB.o)));rintro e w2 ⟨rfl,hi,hb,hk⟩;replace HI:=ai hi;replace HB:=ai hb;replace HK:=ai (az.trans (by(repeat(first|(with_reducible first|exact HK.o|apply az.cO|apply aC|apply aJ|apply aG)|exact HK.o))) hk (Or.inl rfl));clear hi hb hk;obtain⟨HG,hg⟩:=HI.o;have hc0:=aT HG;have hc1:=aR HG;have hc2:=aU HG;have hf0:=af HG 0;have hf1:=af HG 1;have hf2:=af HG 2;clear HG hg)
 clear hc0 hc1 hc2 hf0 hf1 hf2;go_loopg [] 1 (fun _ wr=>ay (ag w0 wr g s at0 b)∧ay (az w wr g none)∧ay (Below w0.heap.size w0 wr))
 case atStart=>exact⟨HI,HK,HB⟩
 case round=>
  clear HI HK HB;obtain⟨HI,HK,HB⟩:=hrel;obtain⟨HG,hg⟩:=HI.o;have hc0:=aT HG;have hc1:=aR HG;have hc2:=aU HG;have hf0:=af HG 0;have hf1:=af HG 1;have hf2:=af HG 2;clear HG hg;have q1:=decide_eq_false (show ¬b<0 by omega);go_wp2_with fail
  go_quiet (fail)
  go_wp2_with (go_at_call 146;(with_reducible refine(aH.calls g s at0 b at0 s at0 b w0 _ ?side1 ?side2 (by simp only[aH.f];rw[if_neg (by omega)])).mono ?_);(case side1=>(repeat(first|(with_reducible first|exact HI.o|apply ag.alloc|apply ag.drewN|apply ag.drew|apply ag.bG|apply ag.bE|apply ag.bF)|exact HI.o)));(case side2=>(repeat(first|(with_reducible first|exact HB.o|apply ae|apply ah|apply ak|refine au ?_ (ag.ge HI.o))|exact HB.o)));rintro e w2 ⟨rfl,hi,hb,hk⟩;replace HI:=ai hi;replace HB:=ai hb;replace HK:=ai (az.trans (by(repeat(first|(with_reducible first|exact HK.o|apply az.cO|apply aC|apply aJ|apply aG)|exact HK.o))) hk (Or.inl rfl));clear hi hb hk;obtain⟨HG,hg⟩:=HI.o;have hc0:=aT HG;have hc1:=aR HG;have hc2:=aU HG;have hf0:=af HG 0;have hf1:=af HG 1;have hf2:=af HG 2;clear HG hg)
  go_quiet (fail)
  go_wp2;go_ret;exact⟨by first|rfl|(rw[HX.o];rfl)|simp,by(repeat(first|(with_reducible first|exact HI.o|apply ag.alloc|apply ag.drewN|apply ag.drew|apply ag.bG|apply ag.bE|apply ag.bF)|exact HI.o)),by(repeat(first|(with_reducible first|exact HB.o|apply ae|apply ah|apply ak|refine au ?_ (ag.ge HI.o))|exact HB.o)),by(repeat(first|(with_reducible first|exact HK.o|apply az.cO|apply aC|apply aJ|apply aG)|exact HK.o))⟩
theorem Bw(k:Nat)(g:Nat)(s:ByteArray)(at0 at1:Nat)(b0:Int){b:Int}(w0 w:World)(hI:ag w0 w g s at0 b0)(hB:Below w0.heap.size w0 w)(hm:bV.f k s at0 b0 (⟨#[34]⟩:ByteArray)=some (s,(at1:Int),b))(hb:0<=b):
 Calls prog 203 #[.pointer (some ⟨g,0,none⟩)] w fun e w'=>e=.returned (.string ⟨#[]⟩)∧ag w0 w' g s at1 b∧Below w0.heap.size w0 w'∧az w w' g none:=by
 have HM:=ai hm;have HI:=ai hI;have HB:=ai hB;have HK:=ai (az.refl w g none);clear hI hB hm;go_enter func203,ntmps203
 go_wp2_with (go_at_call 202;(with_reducible refine(bV.calls k g s at0 b0 (⟨#[34]⟩:ByteArray) s at1 b w0 _ ?side1 ?side2 HM.o).mono ?_);(case side1=>(repeat(first|(with_reducible first|exact HI.o|apply ag.alloc|apply ag.drewN|apply ag.drew|apply ag.bG|apply ag.bE|apply ag.bF)|exact HI.o)));(case side2=>(repeat(first|(with_reducible first|exact HB.o|apply ae|apply ah|apply ak|refine au ?_ (ag.ge HI.o))|exact HB.o)));rintro e w2 ⟨rfl,hi,hb,hk⟩;replace HI:=ai hi;replace HB:=ai hb;replace HK:=ai (az.trans (by(repeat(first|(with_reducible first|exact HK.o|apply az.cO|apply aC|apply aJ|apply aG)|exact HK.o))) hk (Or.inl rfl));clear hi hb hk;obtain⟨HG,hg⟩:=HI.o;have hc0:=aT HG;have hc1:=aR HG;have hc2:=aU HG;have hf0:=af HG 0;have hf1:=af HG 1;have hf2:=af HG 2;clear HG hg)
 clear hc0 hc1 hc2 hf0 hf1 hf2;go_loopg [] 1 (fun _ wr=>ay (ag w0 wr g s at1 b)∧ay (az w wr g none)∧ay (Below w0.heap.size w0 wr))
 case atStart=>exact⟨HI,HK,HB⟩
 case round=>
  clear HI HK HB;obtain⟨HI,HK,HB⟩:=hrel;obtain⟨HG,hg⟩:=HI.o;have hc0:=aT HG;have hc1:=aR HG;have hc2:=aU HG;have hf0:=af HG 0;have hf1:=af HG 1;have hf2:=af HG 2;clear HG hg;have q1:=decide_eq_false (show ¬b<0 by omega);go_wp2;go_ret;exact⟨by first|rfl|simp,by(repeat(first|(with_reducible first|exact HI.o|apply ag.alloc|apply ag.drewN|apply ag.drew|apply ag.bG|apply ag.bE|apply ag.bF)|exact HI.o)),by(repeat(first|(with_reducible first|exact HB.o|apply ae|apply ah|apply ak|refine au ?_ (ag.ge HI.o))|exact HB.o)),by(repeat(first|(with_reducible first|exact HK.o|apply az.cO|apply aC|apply aJ|apply aG)|exact HK.o))⟩
section
variable{g:Nat}{s:ByteArray}{w0 w:World}{st:St}
theorem xR(hs:s.size<=1000)(hI:cZ w0 w g s st)(hB:Below w0.heap.size w0 w):
 Calls prog 145 #[.pointer (some ⟨g,0,none⟩)] w (yx w0 w g s (.string ⟨(dC st).1.toArray⟩) (dC st).2):=by
 obtain⟨hok,hi⟩:=hI;have hok2:=jf hok;have hle:=tT hok;obtain⟨l,b⟩:=st;cases b with
 |none=>
  have h:=zq hs (Nat.sub_le s.size l.length);rw[rZ (st:=⟨l,none⟩) hok] at h;have ku:skip l<:+bytes s:=(jJ _).trans hok.1;have hle2:(skip l).length<=s.size:=by have:=ku.length_le;rwa [eD] at this
  refine(FO _ g s _ _ w0 w hi hB hs h (by omega)).mono ?_;rintro e w' ⟨en,he0,he,h1,h2,h3⟩;rw[Fa s _ ku hle2] at he0;subst he0;rw[Hl s _ hle2] at h1;rw[Fq s _ ku hle2] at he;exact⟨he,⟨hok2,h1⟩,h2,h3⟩
 |some n=>
  exact(Ov g s _ _ w0 w hi hB (by omega) hs (l8 s n)).mono fun e w' ⟨he,h1,h2,h3⟩=>⟨he,⟨hok2,h1⟩,h2,h3⟩
theorem LF(hs:s.size<=1000)(hI:cZ w0 w g s st)(hB:Below w0.heap.size w0 w):
 Calls prog 203 #[.pointer (some ⟨g,0,none⟩)] w (yx w0 w g s (.string ⟨(il st).1.toArray⟩) (il st).2):=by
 obtain⟨hok,hi⟩:=hI;have hok2:=yV hok;have hle:=tT hok;obtain⟨l,b⟩:=st;cases b with
 |some n=>
  have ht:il ⟨l,some n⟩=([],⟨l,some n⟩):=vz rfl;rw[ht] at hok2|-;exact(Bw 1 g s _ _ _ w0 w hi hB (Fv _ (l8 s n)) (l8 s n)).mono fun e w' ⟨he,h1,h2,h3⟩=>⟨he,⟨hok2,h1⟩,h2,h3⟩
 |none=>
  have h:=Ns (m:=(⟨#[34]⟩:ByteArray)) hs (by decide) (Nat.sub_le s.size l.length);rw[rZ (st:=⟨l,none⟩) hok] at h;have hm:lC (bytes (⟨#[34]⟩:ByteArray)) (skip l)=dO [34] ⟨l,none⟩:=rfl;rw[hm] at h;have aa8:=iC (m:= [34]) hok;cases hb:(dO [34] ⟨l,none⟩).bad with
  |none=>
   have ht:il ⟨l,none⟩=mW (dR (dO [34] ⟨l,none⟩).l []):=by unfold il;rw[hb]
   rw[ht] at hok2|-;rw[hb] at h;refine(GQ _ g s _ _ w0 w hi hB hs h (Nat.sub_le _ _)).mono ?_;rw[rZ aa8];rintro e w' (⟨t,r,hx,he,h1,h2,h3⟩|⟨r,hx,he,h1,h2,h3⟩)
   ·rw[hx] at hok2|-;exact⟨he,⟨hok2,h1⟩,h2,h3⟩
   ·rw[hx] at hok2|-;exact⟨he,⟨hok2,h1⟩,h2,h3⟩
  |some n=>
   have ht:il ⟨l,none⟩=([],dO [34] ⟨l,none⟩):=by unfold il;rw[hb]
   rw[ht] at hok2|-;rw[hb] at h;refine(Bw _ g s _ _ _ w0 w hi hB h (l8 s n)).mono fun e w' ⟨he,h1,h2,h3⟩=>⟨he,⟨hok2, ?_⟩,h2,h3⟩
   rw[hb];exact h1
end
theorem Bq(ds:List UInt8)(c:UInt8):fU (ds++ [c])=10*fU ds+((c.toNat:Int)-48):=by simp[fU]
theorem QV(ds:List UInt8):∀n:Int,0<=n->(∀c∈ds,jF c=true)->0<=ds.foldl (fun (n:Int) (c:UInt8)=>10*n+((c.toNat:Int)-48)) n∧ds.foldl (fun (n:Int) (c:UInt8)=>10*n+((c.toNat:Int)-48)) n<(n+1)*10^ds.length:=by
 induction ds with
 |nil=>intro n h0 _;simp;omega
 |cons c r ih=>
  intro n h0 h;have hc:=h c (by simp);rw[<-uo] at hc;simp only[pE,decide_eq_true_eq] at hc;obtain⟨h1,h2⟩:=ih (10*n+((c.toNat:Int)-48)) (by omega) (fun x hx=>h x (by simp[hx]));refine⟨h1,Int.lt_of_lt_of_le h2 ?_⟩;rw[List.length_cons,Int.pow_succ,Int.mul_comm (10^r.length) 10,<-Int.mul_assoc];exact Int.mul_le_mul_of_nonneg_right (by omega) (Int.pow_nonneg (by omega))
theorem qi(ds:List UInt8)(h:∀c∈ds,jF c=true):0<=fU ds∧fU ds<10^ds.length:=by
 have:=QV ds 0 (by omega) h;unfold fU;rw[show ((0:Int)+1)*10^ds.length=10^ds.length by omega] at this;exact this
theorem QW(c:UInt8):ig.f (c.toNat:Int)=some (jF c):=by
 rw[<-uo];unfold ig.f pE;split
 ·congr 1
  rw[decide_eq_decide];omega
 ·simp;omega
theorem OQ(s:ByteArray)(a b:Int):aH.f s a (-1) b=some (s,a,b):=by
 unfold aH.f;rw[if_pos (by omega)]
theorem yY(s:ByteArray)(first at_ frm:Nat)(sg:Int)(hsg:sg=1∨sg= -1)(pre:List UInt8)(hs:s.size<=1000)(_hfr:frm<=s.size)
 (h0:first<=at_) (h1:at_<=s.size) (hp:pre.length=at_-first) (h10:pre.length<=10) (hd:bu s first=pre++bu s at_) (hpd:∀c∈pre,jF c=true)
 (hend:(bu s at_).takeWhile jF= []) (k:Nat):
 ax.j3 (k+1) ((s.size-frm:Nat):Int) sg (fU pre) (first:Int) false s (at_:Int) (-1)
  =some ((kg frm sg (bu s first)).1,s,((s.size-(kg frm sg (bu s first)).2.l.length:Nat):Int),qm s (kg frm sg (bu s first)).2.bad):=by
 have htw:(bu s first).takeWhile jF=pre:=by
  rw[hd,List.takeWhile_append_of_pos hpd,hend,List.append_nil]
 have hdw:(bu s first).dropWhile jF=bu s at_:=by
  rw[hd,List.dropWhile_append_of_pos hpd];cases hx:bu s at_ with
  |nil=>rfl
  |cons c r=>
   rw[hx] at hend;have:jF c=false:=by
    rw[List.takeWhile_cons] at hend;cases hc:jF c with
    |true=>rw[hc] at hend;simp at hend
    |false=>rfl
   rw[List.dropWhile_cons,this];simp
 have hb:=qi pre hpd;have hbig:fU pre<=10000000000:=by
  have h3:(10:Int)^pre.length<=10^10:=by exact_mod_cast Nat.pow_le_pow_right (by omega:0<10) h10
  have:(10:Int)^10=10000000000:=by decide
  omega
 have hat:((s.size-(bu s at_).length:Nat):Int)=(at_:Int):=by rw[gu];omega
 have hw:wrap64 (sg*fU pre)=sg*fU pre:=by
  rcases hsg with rfl|rfl
  ·exact iy (by omega) (by omega)
  ·exact iy (by omega) (by omega)
 have key:∀b:Bool,(b=true↔qx sg (bu s first))->(if b=true then (some (sg*fU pre,s,(at_:Int),((s.size-frm:Nat):Int))) else (some (sg*fU pre,s,(at_:Int),(-1:Int))))=some ((kg frm sg (bu s first)).1,s,((s.size-(kg frm sg (bu s first)).2.l.length:Nat):Int),qm s (kg frm sg (bu s first)).2.bad):=by
  intro b hbb;unfold kg;rw[htw,if_neg (show ¬10<pre.length by omega),hdw];by_cases hbad:qx sg (bu s first)
  ·rw[if_pos (hbb.mpr hbad),if_pos hbad];simp only[hat];rfl
  ·rw[if_neg (fun h=>hbad (hbb.mp h)),if_neg hbad];simp only[hat];rfl
 simp only[ax.j3,hw,OQ];rw[if_neg (by simp)];simp only[Option.bind_some];unfold qx at key;rw[htw] at key;by_cases e1:(at_:Int)=(first:Int)
 ·rw[if_pos e1];have:=key true (by simp;exact Or.inl (List.eq_nil_of_length_eq_zero (by omega)))
  simpa using this
 ·have abq:pre≠ []:=by intro h;rw[h] at hp;simp at hp;omega
  rw[if_neg e1];have hneg:∀(x:Prop),x=(sg<0∧fU pre=0)->((x)↔(if sg<0 then (if fU pre=0 then True else False) else False)):=by
   intro x hx;rw[hx];by_cases a:sg<0<;>by_cases b:fU pre=0<;>simp[a,b]
  have tail:∀(q:Prop),(¬q)->(q=(1<pre.length∧(bu s first).head? =some 48))->
   (if sg<0 then (if fU pre=0 then (some (sg*fU pre,s,(at_:Int),((s.size-frm:Nat):Int))) else (some (sg*fU pre,s,(at_:Int),(-1:Int)))) else (some (sg*fU pre,s,(at_:Int),(-1:Int))))=some ((kg frm sg (bu s first)).1,s,((s.size-(kg frm sg (bu s first)).2.l.length:Nat):Int),qm s (kg frm sg (bu s first)).2.bad):=by
   intro q hq hqe;rw[hqe] at hq;have:=key (decide (sg<0∧fU pre=0)) (by
    simp only[decide_eq_true_eq];constructor
    ·exact fun h=>Or.inr (Or.inr h)
    ·rintro (h|h|h)
     ·exact absurd h abq
     ·exact absurd h hq
     ·exact h)
   rw[<-this];by_cases a:sg<0<;>by_cases b:fU pre=0<;>simp[a,b]
  rw[iy (by omega) (by omega)];by_cases e2:(at_:Int)-(first:Int)>1
  ·rw[if_pos e2,if_pos (by omega),if_pos (by omega)];obtain⟨c,r,hc⟩:∃c r,bu s first=c::r:=⟨_,_,dP (by omega)⟩
   obtain⟨_,hbt,_⟩:=lq hc;rw[hbt];by_cases e3:(c.toNat:Int)=48
   ·rw[if_pos e3];have:=key true (by simp;exact Or.inr (Or.inl ⟨by omega,by rw[hc];simp;exact UInt8.toNat_inj.mp (by simpa using (by omega:c.toNat=48))⟩))
    simpa using this
   ·rw[if_neg e3];refine tail _ ?_ rfl;rintro⟨_,h⟩;rw[hc] at h;simp at h;rw[h] at e3;exact e3 rfl
  ·rw[if_neg e2];refine tail _ ?_ rfl;rintro⟨h,_⟩;omega
theorem uN(s:ByteArray)(first frm:Nat)(sg:Int)(hsg:sg=1∨sg= -1)(hs:s.size<=1000)(hfr:frm<=s.size)(d:Nat):∀(k at_:Nat) (pre:List UInt8),
 first<=at_->at_<=s.size->pre.length=at_-first->pre.length<=10->bu s first=pre++bu s at_->(∀c∈pre,jF c=true)->s.size-at_=d->2*d+1<k->
 ax.l0 k ((s.size-frm:Nat):Int) sg (fU pre) (first:Int) s (at_:Int) (-1)
  =some ((kg frm sg (bu s first)).1,s,((s.size-(kg frm sg (bu s first)).2.l.length:Nat):Int),qm s (kg frm sg (bu s first)).2.bad):=by
 induction d with
 |zero=>
  intro k at_ pre h0 h1 hp h10 hd hpd he hk;obtain⟨k,rfl⟩:∃m,k=m+2:=⟨k-2,by omega⟩
  simp only[ax.l0];rw[if_neg (by omega)];exact yY s first at_ frm sg hsg pre hs hfr h0 h1 hp h10 hd hpd (by rw[gP (by omega)];rfl) k
 |succ d ih=>
  intro k at_ pre h0 h1 hp h10 hd hpd he hk;obtain⟨k,rfl⟩:∃m,k=m+2:=⟨k-2,by omega⟩
  have hlt:at_<s.size:=by omega
  have hc:=dP hlt;generalize hcc:s[at_]'hlt=c at hc;obtain⟨_,hbt,_⟩:=lq hc;simp only[ax.l0];rw[if_pos (by omega),if_pos (by omega),hbt,QW];simp only[Option.bind_some];cases Bo:jF c with
  |false=>exact yY s first at_ frm sg hsg pre hs hfr h0 h1 hp h10 hd hpd (by rw[hc,List.takeWhile_cons,Bo];simp) k
  |true=>
   have hdd:=Bo;rw[<-uo] at hdd;simp only[pE,decide_eq_true_eq] at hdd;simp only[ax.j3,if_true,OQ,Option.bind_some];rw[iy (by omega) (by omega)];by_cases h11:(at_:Int)-(first:Int)≥10
   ·rw[if_pos h11];have h12:10<((bu s first).takeWhile jF).length:=by
     rw[hd,List.takeWhile_append_of_pos hpd,hc,List.takeWhile_cons,if_pos Bo];simp;omega
    have h13:(bu s first).drop 10=bu s at_:=by
     rw[hd,<-show pre.length=10 by omega,List.drop_left]
    unfold kg;rw[if_pos h12];simp only[h13,gu];have:((s.size-(s.size-at_):Nat):Int)=(at_:Int):=by omega
    rw[this];rfl
   ·have hb:=qi pre hpd;have hbig:fU pre<=1000000000:=by
     have h3:(10:Int)^pre.length<=10^9:=by exact_mod_cast Nat.pow_le_pow_right (by omega:0<10) (by omega:pre.length<=9)
     have:(10:Int)^9=1000000000:=by decide
     omega
    rw[if_neg h11,if_pos (by omega),if_pos (by omega),hbt,Int.emod_eq_of_lt (by omega) (by omega),iy (x:=10*fU pre) (by omega) (by omega),iy (x:=10*fU pre+((c.toNat:Int)-48)) (by omega) (by omega),iy (x:=(at_:Int)+1) (by omega) (by omega),
     <-Bq,show (at_:Int)+1=((at_+1:Nat):Int) by omega]
    refine ih k (at_+1) (pre++ [c]) (by omega) (by omega) (by simp;omega) (by simp;omega) (by rw[hd,hc];simp) ?_ (by omega) (by omega);intro x hx;rcases List.mem_append.mp hx with hx|hx
    ·exact hpd x hx
    ·simp at hx;subst hx;exact Bo
theorem Oi{s:ByteArray}(hs:s.size<=1000){i:Nat}(hi:i<=s.size):
 ax.f (2*s.size+10) s (i:Int) (-1)=some ((sQ (skip (bu s i))).1,s,((s.size-(sQ (skip (bu s i))).2.l.length:Nat):Int),qm s (sQ (skip (bu s i))).2.bad):=by
 have ku:skip (bu s i)<:+bytes s:=(jJ _).trans (Dx s i);have hd:=jb ku;have hle:(skip (bu s i)).length<=s.size:=by have:=ku.length_le;rwa [eD] at this
 have hbl:aA.f (2*s.size+10) s (i:Int) (-1)=some (s,((s.size-(skip (bu s i)).length:Nat):Int), -1):=Az s hs (s.size-i) _ i hi rfl (by omega);simp only[ax.f];rw[hbl];simp only[Option.bind_some];generalize skip (bu s i)=L at hd hle|-;rw[if_neg (by omega)];have v0:(0:Int)=fU []:=rfl;cases L with
 |nil=>
  rw[if_neg (by simp)];have e:ax.j0 (2*s.size+10) ((s.size-([]:List UInt8).length:Nat):Int) 1 0 false s ((s.size-([]:List UInt8).length:Nat):Int) (-1)=ax.l0 (2*s.size+8) ((s.size-([]:List UInt8).length:Nat):Int) 1 0 ((s.size-([]:List UInt8).length:Nat):Int) s ((s.size-([]:List UInt8).length:Nat):Int) (-1):=by
   rw[show 2*s.size+10=(2*s.size+8)+1+1 from rfl];simp[ax.j0,ax.j1]
  rw[e,v0];have h:=uN s (s.size-([]:List UInt8).length) ([]:List UInt8).length 1 (Or.inl rfl) hs (by simp) (s.size-(s.size-([]:List UInt8).length)) (2*s.size+8) (s.size-([]:List UInt8).length) [] (Nat.le_refl _) (by omega) (by simp) (by simp) (by simp) (by simp) rfl (by omega);rw[<-hd] at h;exact h
 |cons c r=>
  have hlt:(s.size-(c::r).length)<s.size:=by simp at hle|-;omega
  obtain⟨_,hbt,h3⟩:=lq hd.symm;rw[if_pos (by omega),if_pos (by omega),hbt];by_cases h45:c=45
  ·have e:ax.j0 (2*s.size+10) ((s.size-(c::r).length:Nat):Int) 1 0 ((c.toNat:Int)==45) s ((s.size-(c::r).length:Nat):Int) (-1)=ax.l0 (2*s.size+8) ((s.size-(c::r).length:Nat):Int) (-1) 0 ((s.size-(c::r).length+1:Nat):Int) s ((s.size-(c::r).length+1:Nat):Int) (-1):=by
    rw[show 2*s.size+10=(2*s.size+8)+1+1 from rfl];rw[show ((c.toNat:Int)==45)=true by rw[h45];rfl];simp only[ax.j0,ax.j1,if_true];rw[iy (by omega) (by omega),show ((s.size-(c::r).length:Nat):Int)+1=((s.size-(c::r).length+1:Nat):Int) by omega]
   rw[e,v0];have h:=uN s (s.size-(c::r).length+1) (c::r).length (-1) (Or.inr rfl) hs hle (s.size-(s.size-(c::r).length+1)) (2*s.size+8) (s.size-(c::r).length+1) [] (Nat.le_refl _) (by omega) (by simp) (by simp) (by simp) (by simp) rfl (by omega);rw[h3] at h;unfold sQ;simp only[if_pos h45];exact h
  ·have e:ax.j0 (2*s.size+10) ((s.size-(c::r).length:Nat):Int) 1 0 ((c.toNat:Int)==45) s ((s.size-(c::r).length:Nat):Int) (-1)=ax.l0 (2*s.size+8) ((s.size-(c::r).length:Nat):Int) 1 0 ((s.size-(c::r).length:Nat):Int) s ((s.size-(c::r).length:Nat):Int) (-1):=by
    rw[show 2*s.size+10=(2*s.size+8)+1+1 from rfl];have:((c.toNat:Int)==45)=false:=by rw[show (45:Int)=((45:Nat):Int) from rfl,nR (by decide)];simpa using h45
    rw[this];simp[ax.j0,ax.j1]
   rw[e,v0];have h:=uN s (s.size-(c::r).length) (c::r).length 1 (Or.inl rfl) hs hle (s.size-(s.size-(c::r).length)) (2*s.size+8) (s.size-(c::r).length) [] (Nat.le_refl _) (by omega) (by simp) (by simp) (by simp) (by simp) rfl (by omega);rw[<-hd] at h;unfold sQ;simp only[if_neg h45];exact h
theorem GD{s:ByteArray}(i:Int){b:Int}(hb:0<=b):ax.f 1 s i b=some (0,s,i,b):=by
 simp only[ax.f];rw[oU i hb];simp only[Option.bind_some];rw[if_pos hb]
section
variable{g:Nat}{s:ByteArray}{w0 w:World}{st:St}
theorem lI(hs:s.size<=1000)(hI:cZ w0 w g s st)(hB:Below w0.heap.size w0 w):
 Calls prog 204 #[.pointer (some ⟨g,0,none⟩)] w (yx w0 w g s (.int .i64 (eF st).1) (eF st).2):=by
 obtain⟨hok,hi⟩:=hI;have hok2:=kV hok;obtain⟨l,b⟩:=st;cases b with
 |none=>
  have h:=Oi hs (Nat.sub_le s.size l.length);rw[rZ (st:=⟨l,none⟩) hok] at h;exact(ax.calls _ g s _ _ _ _ _ _ w0 w hi hB h).mono fun e w' ⟨he,h1,h2,h3⟩=>⟨he,⟨hok2,h1⟩,h2,h3⟩
 |some n=>
  exact(ax.calls _ g s _ _ _ _ _ _ w0 w hi hB (GD _ (l8 s n))).mono fun e w' ⟨he,h1,h2,h3⟩=>⟨he,⟨hok2,h1⟩,h2,h3⟩
end
end Go.Proofs.YtnmpijbcajclgaaGreatDoor.Mine
end
