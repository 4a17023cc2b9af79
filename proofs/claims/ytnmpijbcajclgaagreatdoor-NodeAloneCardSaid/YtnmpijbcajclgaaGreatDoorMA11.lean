/- Texts of one claim, one behind the other, made short by a program. -/
import Derived.Test.YtnmpijbcajclgaaGreatDoorMA10
set_option maxHeartbeats 8000000
set_option linter.unusedSimpArgs false
set_option linter.unusedVariables false
set_option maxRecDepth 100000
section
namespace Go.Proofs.YtnmpijbcajclgaaGreatDoor.Mine
open Tryz
open Go.RowKit YtnmpijbcajclgaaGreatDoorW.PrintWords YtnmpijbcajclgaaGreatDoorW.PrintLast YtnmpijbcajclgaaGreatDoorW.PrintMore
open PNodeAlone
theorem Cj(g:Nat)(lb:Array Value)(p:iZ->Bool)(A:Option Addr)(n c:Nat)(L:List iZ)(w:World)(eg:∀args w,(callFunc g args).run prog w=.ok (.enter g args) w)(hn:L.length=n)(hr:Kd.C uM w A n L)(hl:n<=100000)
 (hp:Ap g lb jD p w L):
 Calls prog 81 #[.slice A n c,.func (.func g) #[] lb] w fun e w'=>e=.returned (.bool (L.any p))∧Below w.heap.size w w':=by
 have HC:=ai (wE g lb p A n c L w eg hn hr hl hp);have HX:=ai (E8 p L);generalize xM p L=z at HC HX;clear hr hn hp;go_enter func81,ntmps81
 go_wp2_with fail
 refine HC.o.mono ?_;rintro e w2 ⟨rfl,hb⟩;go_wp2;go_ret;exact⟨by rw[<-HX.o];rfl,hb⟩
theorem LD(nm:ByteArray)(B:Nat)(w:World)(hc:w.cell? ⟨B,0,none⟩=some (.string nm)):DC 82 #[.pointer (some ⟨B,0,none⟩)] jD (fun x=>x.f0.toList==nm.toList) w:=fun W x hb=>by
 have h0:=(hb.cell (World.block_lt_of_cell? w _ hc)).trans hc;have hlt:=World.block_lt_of_cell? W _ h0;show Calls _ _ #[jD x,.pointer (some ⟨B,0,none⟩)] W _;unfold jD;go_enter func82,ntmps82
 go_wp2;go_ret;exact⟨rfl,ae (Below.refl _ _) _⟩
def kindOk(a:iZ):Bool:=
 if a.f1=1 then !decide (a.f2< -2147483648)&&(!decide (2147483648<a.f3)&& !decide (a.f3<a.f2))
 else (a.f1==2)&&((a.f2==0)&&(a.f3==0))
def iM(S:List iZ)(i:Nat):Bool:=eQ (S.getD i z30).f0&&(!((S.take i).any fun x=>x.f0.toList==(S.getD i z30).f0.toList)&&kindOk (S.getD i z30))
def iA(S:List iZ):Nat->Nat->Option Nat
 |0,_=>none
 |k+1,i=>if iM S i then iA S k (i+1) else some i
def cB(S:List iZ):Option Nat:=if S.length<1∨4<S.length then some 0 else iA S S.length 0
def fE(w:World)(S:List iZ)(e:Ending)(w':World):Prop:=
 match cB S with
 |none=>e=.returned .nilIface∧Below w.heap.size w w'
 |some i=>∃b,w.heap.size<=b∧e=.returned (.iface 178 (.pointer (some ⟨b,0,none⟩)))∧eU w' b ⟨#[118,97,108,117,101]⟩ (i:Int) 3∧Below w.heap.size w w'
theorem OJ{w w':World}{S:List iZ}{e:Ending}{i:Nat}(h:cB S=some i)(ho:∃b,w.heap.size<=b∧e=.returned (.iface 178 (.pointer (some ⟨b,0,none⟩)))∧eU w' b ⟨#[118,97,108,117,101]⟩ (i:Int) 3∧Below w.heap.size w w'):fE w S e w':=by
 unfold fE;rw[h];exact ho
theorem U8{w w':World}{S:List iZ}{e:Ending}(h:cB S=none)(ho:e=.returned .nilIface∧Below w.heap.size w w'):fE w S e w':=by
 unfold fE;rw[h];exact ho
theorem fE.bad{w w':World}{S:List iZ}{e:Ending}{i:Nat}(h:fE w S e w')(hb:cB S=some i):∃b,w.heap.size<=b∧e=.returned (.iface 178 (.pointer (some ⟨b,0,none⟩)))∧eU w' b ⟨#[118,97,108,117,101]⟩ (i:Int) 3∧Below w.heap.size w w':=by
 unfold fE at h;rw[hb] at h;exact h
theorem fE.ok{w w':World}{S:List iZ}{e:Ending}(h:fE w S e w')(hb:cB S=none):e=.returned .nilIface∧Below w.heap.size w w':=by
 unfold fE at h;rw[hb] at h;exact h
theorem tZ{S:List iZ}:∀(k i:Nat),iA S k i=none->∀j,i<=j->j<i+k->iM S j=true
 |0,i,_,j,h1,h2=>by omega
 |k+1,i,h,j,h1,h2=>by
  unfold iA at h;split at h
  ·by_cases hj:j=i
   ·rw[hj];assumption
   ·exact tZ k (i+1) h j (by omega) (by omega)
  ·cases h
theorem dn{S:List iZ}(h:cB S=none):1<=S.length∧S.length<=4∧∀a∈S,eQ a.f0=true∧kindOk a=true:=by
 unfold cB at h;split at h
 ·cases h
 ·refine⟨by omega,by omega,fun a ha=> ?_⟩;obtain⟨i,hi,rfl⟩:=List.getElem_of_mem ha;have:=tZ S.length 0 h i (Nat.zero_le _) (by omega);have e:S.getD i z30=S[i]:=by rw[List.getD_eq_getElem?_getD,List.getElem?_eq_getElem hi];rfl
  unfold iM at this;rw[e] at this;simp only[Bool.and_eq_true] at this;exact⟨this.1,this.2.2⟩
theorem qy(A:Option Addr)(n c:Nat)(S:List iZ)(w:World)(hn:S.length=n)(hr:Kd.C uM w A n S)(hl:n<=100000)(hcd:n<=c):
 Calls prog 39 #[.slice A n c] w (fE w S):=by
 have nO:=ai hr;have HN:=ai hn;clear hr hn;by_cases hlen:n<1∨4<n
 ·have HB:=ai (fun e w' ho=>OJ (w:=w) (w':=w') (S:=S) (e:=e) (i:=0) (by unfold cB;rw[if_pos (by have:=HN.o;omega)]) ho);generalize fE w S=Co at HB|-;by_cases h1:n<1
  ·have q1:decide ((n:Int)<1)=true:=decide_eq_true (by omega);clear hlen;obtain rfl:n=0:=by omega
   go_enter func39,ntmps39
   go_wp2_with fail
   refine(bL _ _ _).mono ?_;rintro e w1 ⟨b,h1,rfl,hf,hb⟩;go_wp2
   try go_ret
   exact HB.o _ _ ⟨b,h1,rfl,hf,hb⟩
  ·have q1:decide ((n:Int)<1)=false:=decide_eq_false (by omega);have q2:decide (4<(n:Int))=true:=decide_eq_true (by omega);clear hlen;go_enter func39,ntmps39
   go_wp2_with fail
   refine(bL _ _ _).mono ?_;rintro e w1 ⟨b,h1,rfl,hf,hb⟩;go_wp2
   try go_ret
   exact HB.o _ _ ⟨b,h1,rfl,hf,hb⟩
 ·have q1:decide ((n:Int)<1)=false:=decide_eq_false (by omega);have q2:decide (4<(n:Int))=false:=decide_eq_false (by omega);have FE:=ai (show cB S=iA S n 0 by unfold cB;rw[if_neg (by have:=HN.o;omega),HN.o]);have rY:=ai (fun i e w' h ho=>OJ (w:=w) (w':=w') (S:=S) (e:=e) (i:=i) h ho);have Nb:=ai (fun e w' h ho=>U8 (w:=w) (w':=w') (S:=S) (e:=e) h ho);generalize fE w S=Co at rY Nb|-;clear hlen;go_enter func39,ntmps39
  go_wp2_with fail
  go_loopg [3,4,16,21,33,54] (n+1) (fun k v3 v4 v16 v21 v33 v54 W=>∃i:Nat,ay (i<=n∧k+i=n+1∧cB S=iA S (n-i) i)∧v16=.int .i64 (i:Int)∧ay (Below w.heap.size w W))
  case atStart=>exact⟨0,⟨by omega,by omega,FE.o⟩,rfl,⟨Below.refl _ _⟩⟩
  case round=>
   obtain⟨i,HI,rfl,HB⟩:=hrel;by_cases hi:i<n
   ·have b1:decide ((i:Int)<(n:Int))=true:=decide_eq_true (by omega);have b2:decide (i<n)=true:=decide_eq_true (by omega);have p1:(0:Int)<=(i:Int):=by omega
    have p2:(i:Int)<(n:Int):=by omega
    have hstep:iA S (n-i) i=if iM S i then iA S (n-(i+1)) (i+1) else some i:=by
     rw[show n-i=(n-(i+1))+1 by omega];rfl
    obtain⟨ad,e,h0,h1,h2,h3⟩:=qB nO.o i p1 p2;cases e
    rw[Int.toNat_natCast] at h0 h1 h2 h3;replace h0:=(HB.o.cell (World.block_lt_of_cell? w _ h0)).trans h0;replace h1:=(HB.o.cell (World.block_lt_of_cell? w _ h1)).trans h1;replace h2:=(HB.o.cell (World.block_lt_of_cell? w _ h2)).trans h2;replace h3:=(HB.o.cell (World.block_lt_of_cell? w _ h3)).trans h3;have hrd:lS S (i:Int)=S.getD i z30:=rfl;rw[hrd] at h0 h1 h2 h3;unfold iM at hstep;generalize S.getD i z30=p at h0 h1 h2 h3 hstep;have J6:=ai hstep;clear hrd hstep;go_wp2_with fail
    refine(F9 p.f0 _).mono ?_;rintro e w1 ⟨rfl,hb⟩;have hnew:=heap_alloc_new wr (.cells #[.string p.f0,.int .i64 p.f1,.int .i64 p.f2,.int .i64 p.f3] 30 (0,0));have fI:=ai ((hb.block _ (aI hnew)).trans hnew);replace HB:=ai (aD (ae HB.o (.cells #[.string p.f0,.int .i64 p.f1,.int .i64 p.f2,.int .i64 p.f3] 30)) (dX (ae HB.o _)) hb);clear hb hnew h0 h1 h2 h3;generalize wr.heap.size=g6 at fI|-;cases hnm:eQ p.f0 with
    |false=>
     have HST:=ai (show iA S (n-i) i=some i by rw[J6.o,hnm];rfl);have HE:=ai (fun e w' ho=>rY.o i e w' (by rw[HI.o.2.2,HST.o]) ho);clear hnm;go_wp2_with fail
     refine(bL _ _ _).mono ?_;rintro e w9 ⟨b,hbl,rfl,hf,hb⟩;have hfin:=HE.o _ _ ⟨b,Nat.le_trans HB.o.size hbl,rfl,hf,aD HB.o HB.o.size hb⟩;clear hf hb hbl;go_wp2
     try go_ret
     exact hfin
    |true=>
     rw[hnm,Bool.true_and] at J6;clear hnm;have p3:(i:Int)<=(c:Int):=by omega
     have HC:=ai (fun W (hW:Below w.heap.size w W∧W.cell? ⟨g6,0,none⟩=some (.string p.f0))=>Cj 82 #[.pointer (some ⟨g6,0,none⟩)] _ (some ad) i c (S.take i) W (enters_of func82 (by kernel_rfl) rfl) (by rw[List.length_take];have:=HN.o;omega) (Hg (Kd.aY nO.o hW.1) i (by omega)) (by omega) ((LD p.f0 g6 W hW.2).on _));have q0:=bK fI.o;go_wp2_with fail
     refine(HC.o _ ⟨HB.o,q0⟩).mono ?_;rintro e w2 ⟨rfl,hb⟩;replace fI:=bZ hb fI;replace HB:=dW HB hb;clear hb q0;clear HC;cases hany:((S.take i).any fun x=>x.f0.toList==p.f0.toList) with
     |true=>
      have HST:=ai (show iA S (n-i) i=some i by rw[J6.o,hany];rfl);have HE:=ai (fun e w' ho=>rY.o i e w' (by rw[HI.o.2.2,HST.o]) ho);clear hany;go_wp2_with fail
      refine(bL _ _ _).mono ?_;rintro e w9 ⟨b,hbl,rfl,hf,hb⟩;have hfin:=HE.o _ _ ⟨b,Nat.le_trans HB.o.size hbl,rfl,hf,aD HB.o HB.o.size hb⟩;clear hf hb hbl;go_wp2
      try go_ret
      exact hfin
     |false=>
      rw[hany,Bool.not_false,Bool.true_and] at J6;clear hany;have y0:=bK fI.o;have y1:=bS fI.o;have y2:=dh fI.o;have y3:=dA fI.o;have HST:=J6;clear J6;by_cases t1:p.f1=1
      ·have o1:(p.f1==1)=true:=by simpa using t1
       by_cases t2:p.f2< -2147483648
       ·have e2:decide (p.f2< -2147483648)=true:=decide_eq_true t2;have HV:=ai (show kindOk p=false by unfold kindOk;rw[if_pos t1,e2];rfl);clear t1 t2;have HE:=ai (fun e w' ho=>rY.o i e w' (by rw[HI.o.2.2,HST.o,HV.o];rfl) ho);go_wp2_with fail
        refine(bL _ _ _).mono ?_;rintro e w9 ⟨b,hbl,rfl,hf,hb⟩;have hfin:=HE.o _ _ ⟨b,Nat.le_trans HB.o.size hbl,rfl,hf,aD HB.o HB.o.size hb⟩;clear hf hb hbl;go_wp2
        try go_ret
        exact hfin
       ·have e2:decide (p.f2< -2147483648)=false:=decide_eq_false t2;by_cases t3:2147483648<p.f3
        ·have e3:decide (2147483648<p.f3)=true:=decide_eq_true t3;have HV:=ai (show kindOk p=false by unfold kindOk;rw[if_pos t1,e2,e3];rfl);clear t1 t2 t3;have HE:=ai (fun e w' ho=>rY.o i e w' (by rw[HI.o.2.2,HST.o,HV.o];rfl) ho);go_wp2_with fail
         refine(bL _ _ _).mono ?_;rintro e w9 ⟨b,hbl,rfl,hf,hb⟩;have hfin:=HE.o _ _ ⟨b,Nat.le_trans HB.o.size hbl,rfl,hf,aD HB.o HB.o.size hb⟩;clear hf hb hbl;go_wp2
         try go_ret
         exact hfin
        ·have e3:decide (2147483648<p.f3)=false:=decide_eq_false t3;by_cases t4:p.f3<p.f2
         ·have e4:decide (p.f3<p.f2)=true:=decide_eq_true t4;have HV:=ai (show kindOk p=false by unfold kindOk;rw[if_pos t1,e2,e3,e4];rfl);clear t1 t2 t3 t4;have HE:=ai (fun e w' ho=>rY.o i e w' (by rw[HI.o.2.2,HST.o,HV.o];rfl) ho);go_wp2_with fail
          refine(bL _ _ _).mono ?_;rintro e w9 ⟨b,hbl,rfl,hf,hb⟩;have hfin:=HE.o _ _ ⟨b,Nat.le_trans HB.o.size hbl,rfl,hf,aD HB.o HB.o.size hb⟩;clear hf hb hbl;go_wp2
          try go_ret
          exact hfin
         ·have e4:decide (p.f3<p.f2)=false:=decide_eq_false t4;have HV:=ai (show kindOk p=true by unfold kindOk;rw[if_pos t1,e2,e3,e4];rfl);clear t1 t2 t3 t4;go_wp2_with fail
          go_roundg (gk-1)
          case measure=>have:=HI.o;omega
          case rel=>exact⟨i+1,⟨by omega,by have:=HI.o;omega,by rw[HI.o.2.2,HST.o,HV.o];rfl⟩,rfl,HB⟩
      ·have o1:(p.f1==1)=false:=by simpa using t1
       have jy:=ai (show kindOk p=((p.f1==2)&&((p.f2==0)&&(p.f3==0))) by unfold kindOk;rw[if_neg t1]);clear t1;cases e1:(p.f1==2) with
       |false=>
        have HV:=ai (show kindOk p=false by rw[jy.o,e1];rfl);have HE:=ai (fun e w' ho=>rY.o i e w' (by rw[HI.o.2.2,HST.o,HV.o];rfl) ho);go_wp2_with fail
        refine(bL _ _ _).mono ?_;rintro e w9 ⟨b,hbl,rfl,hf,hb⟩;have hfin:=HE.o _ _ ⟨b,Nat.le_trans HB.o.size hbl,rfl,hf,aD HB.o HB.o.size hb⟩;clear hf hb hbl;go_wp2
        try go_ret
        exact hfin
       |true=>
        cases e2:(p.f2==0) with
        |false=>
         have HV:=ai (show kindOk p=false by rw[jy.o,e1,e2];rfl);have HE:=ai (fun e w' ho=>rY.o i e w' (by rw[HI.o.2.2,HST.o,HV.o];rfl) ho);go_wp2_with fail
         refine(bL _ _ _).mono ?_;rintro e w9 ⟨b,hbl,rfl,hf,hb⟩;have hfin:=HE.o _ _ ⟨b,Nat.le_trans HB.o.size hbl,rfl,hf,aD HB.o HB.o.size hb⟩;clear hf hb hbl;go_wp2
         try go_ret
         exact hfin
        |true=>
         cases e3:(p.f3==0) with
         |false=>
          have HV:=ai (show kindOk p=false by rw[jy.o,e1,e2,e3];rfl);have HE:=ai (fun e w' ho=>rY.o i e w' (by rw[HI.o.2.2,HST.o,HV.o];rfl) ho);go_wp2_with fail
          refine(bL _ _ _).mono ?_;rintro e w9 ⟨b,hbl,rfl,hf,hb⟩;have hfin:=HE.o _ _ ⟨b,Nat.le_trans HB.o.size hbl,rfl,hf,aD HB.o HB.o.size hb⟩;clear hf hb hbl;go_wp2
          try go_ret
          exact hfin
         |true=>
          have HV:=ai (show kindOk p=true by rw[jy.o,e1,e2,e3];rfl);go_wp2_with fail
          go_roundg (gk-1)
          case measure=>have:=HI.o;omega
          case rel=>exact⟨i+1,⟨by omega,by have:=HI.o;omega,by rw[HI.o.2.2,HST.o,HV.o];rfl⟩,rfl,HB⟩
   ·have b1:decide ((i:Int)<(n:Int))=false:=decide_eq_false (by omega);have b2:decide (i<n)=false:=decide_eq_false (by omega);have hfin:=fun W=>Nb.o (.returned .nilIface) W (by rw[HI.o.2.2,show n-i=0 by omega];rfl)
    have Fx:=hfin _ ⟨rfl,HB.o⟩;clear hfin;go_wp2
    try go_ret
    exact Fx
theorem jK{n:Int}(h: -9223372036854775808<=n)(h2:n<=9223372036854775807):wrap64 n=n:=by unfold wrap64;omega
theorem G8{n:Int}(h: -9223372036854775808<=n)(h2:n<=9223372036854775807):IntKind.i64.wrap n=n:=by
 have h3:(2^IntKind.i64.bits:Int)=18446744073709551616:=by decide
 have h4:(2^(IntKind.i64.bits-1):Int)=9223372036854775808:=by decide
 unfold IntKind.wrap;simp only[h3,h4,show IntKind.i64.signed=true from rfl,Bool.true_and,decide_eq_true_eq];split<;>omega
theorem JZ(k:Nat)(h:k<=8):1<=(2:Int)^k∧(2:Int)^k<=256:=by
 have:k=0∨k=1∨k=2∨k=3∨k=4∨k=5∨k=6∨k=7∨k=8:=by omega
 rcases this with rfl|rfl|rfl|rfl|rfl|rfl|rfl|rfl|rfl<;>decide
def CJ(k mn mx:Int):Prop:=k=1-> -2147483648<=mn∧mx<=2147483648∧mn<=mx
def PU(x:jl):Prop:=(-9223372036854775808<=x.f0∧x.f0<=9223372036854775807)∧ -9223372036854775808<=x.f1∧x.f1<=9223372036854775807
def tK(l:List jl):Prop:=∀x∈l,PU x
theorem tK.snoc{l:List jl}{x:jl}(h:tK l)(hx:PU x):tK (l++ [x]):=fun y hy=>by
 rcases List.mem_append.1 hy with hy|hy
 ·exact h y hy
 ·rw[List.mem_singleton.1 hy];exact hx
theorem wrap64_in(n:Int): -9223372036854775808<=wrap64 n∧wrap64 n<=9223372036854775807:=by unfold wrap64;omega
theorem Jv{l:Int}(h0:0<=l)(h8:l<=8):∃L:Nat,l=(L:Int)∧L<=8:=by
 obtain⟨L,rfl⟩:=Int.eq_ofNat_of_zero_le h0;exact⟨L,rfl,by omega⟩
theorem Nv(L:Nat)(hL:L<=8)(c:Int)(w:World):Calls prog 153 #[.agg #[.int .i64 (L:Int),.int .i64 c],.int .i64 (L:Int)] w fun e w'=>e=.returned (.bool (decide (0<=c∧c<2^L)))∧Below w.heap.size w w':=by
 have b1:decide ((0:Int)<=(L:Int))=true:=decide_eq_true (by omega);have b2:decide ((L:Int)<=8)=true:=decide_eq_true (by omega);have b3:decide ((L:Int)<=(L:Int))=true:=decide_eq_true (by omega);have p0:(0:Int)<=(L:Int):=by omega
 go_enter func153,ntmps153
 go_upto_region 1 with (fail)
 have hb:=ae (Below.refl w.heap.size w) (.cells #[.int .i64 (L:Int),.int .i64 c] 194);have hk:=heap_alloc_new w (.cells #[.int .i64 (L:Int),.int .i64 c] 194);generalize w.alloc (.cells #[.int .i64 (L:Int),.int .i64 c] 194)=w2 at hb hk|-;generalize w.heap.size=g at hk|-;have q0:∀q:aW w2,q.w.cell? ⟨g,0,none⟩=some (.int .i64 (L:Int)):=fun q=>q.cell ((bK hk))
 have q1:∀q:aW w2,q.w.cell? ⟨g,1,none⟩=some (.int .i64 c):=fun q=>q.cell ((bS hk))
 have HB:=ai hb;clear hb hk;by_cases hc:0<=c
 ·have b4:decide (0<=c)=true:=decide_eq_true hc;refine wp_region_quiet_below (by kernel_rfl) (by kernel_rfl) ?_
  repeat((with_reducible refine wpQuiet_step (fun K hK=> ?_));go_simp;first|((with_reducible refine hK _ ?_);clear hK K)|((with_reducible apply Exists.intro);(with_reducible refine⟨fun _=> ?_,hK _ ?_⟩);(fail);clear hK K))
  with_reducible refine wpQuiet_nil ?_
  rintro _ ⟨pq,rfl⟩;have hp:=JZ L hL;have hw:IntKind.i64.wrap (2^L)=(2:Int)^L:=G8 (by omega) (by omega);have hfin:=aD HB.o HB.o.size pq.h;clear hp;go_wp2;go_ret;have hd:decide (c<(2:Int)^L)=decide (0<=c∧c<2^L):=decide_eq_decide.2 ⟨fun h=>⟨hc,h⟩,fun h=>h.2⟩;exact⟨congrArg (fun b=>Ending.returned (Value.bool b)) (by first|exact hd|(rw[hw];exact hd)),hfin⟩
 ·have b4:decide (0<=c)=false:=decide_eq_false hc;refine wp_region_quiet_below (by kernel_rfl) (by kernel_rfl) ?_
  repeat((with_reducible refine wpQuiet_step (fun K hK=> ?_));go_simp;first|((with_reducible refine hK _ ?_);clear hK K)|((with_reducible apply Exists.intro);(with_reducible refine⟨fun _=> ?_,hK _ ?_⟩);(fail);clear hK K))
  with_reducible refine wpQuiet_nil ?_
  rintro _ ⟨pq,rfl⟩;have hfin:=aD HB.o HB.o.size pq.h;go_wp2;go_ret;exact⟨by first|rfl|exact congrArg (fun b=>Ending.returned (Value.bool b)) (decide_eq_false (fun h=>by omega)).symm,hfin⟩
def Ac(s:ByteArray):Nat->Nat
 |0=>0
 |i+1=>if h:i<s.size then (Ac s i*256)|||s[i].toNat else Ac s i*256
theorem OA(n b:Nat)(hn:n<256)(hb:b<256):(n*256)|||b<65536:=Nat.or_lt_two_pow (n:=16) (by omega) (by omega)
theorem Oj(s:ByteArray):Ac s 1<256:=by
 show (if h:0<s.size then (0*256)|||s[0].toNat else 0*256)<256;split
 ·rw[Nat.zero_mul,Nat.zero_or];exact s[0].toNat_lt
 ·omega
theorem RB(s:ByteArray):Ac s 2<65536:=by
 have h:=Oj s;show (if h:1<s.size then (Ac s 1*256)|||s[1].toNat else Ac s 1*256)<65536;generalize Ac s 1=n at h|-;split
 ·exact OA n _ h s[1].toNat_lt
 ·omega
theorem QY(n b:Nat)(hn:n<256)(hb:b<256):Go.bits .or .i64 (wrap64 ((n:Int)*256)) (wrap64 (b:Int))=(((n*256)|||b:Nat):Int):=by
 rw[jK (by omega) (by omega),jK (by omega) (by omega),show (n:Int)*256=((n*256:Nat):Int) by omega];have hx:=OA n b hn hb;have h1:(BitVec.ofInt 64 ((n*256:Nat):Int)).toNat=n*256:=by rw[BitVec.ofInt_natCast,BitVec.toNat_ofNat];exact Nat.mod_eq_of_lt (by omega)
 have h2:(BitVec.ofInt 64 (b:Int)).toNat=b:=by rw[BitVec.ofInt_natCast,BitVec.toNat_ofNat];exact Nat.mod_eq_of_lt (by omega)
 show IntKind.i64.wrap ((BitVec.ofInt 64 ((n*256:Nat):Int)|||BitVec.ofInt 64 (b:Int)).toNat:Int)=_;rw[BitVec.toNat_or,h1,h2];exact G8 (by omega) (by omega)
theorem Bl{α:Type}(h:Array α)(a b:α):((h.push a).push b)[h.size]? =some a∧((h.push a).push b)[h.size+1]? =some b:=by
 refine⟨?_, ?_⟩
 ·simp only[Array.getElem?_push,Array.size_push];rw[if_neg (by omega),if_pos trivial]
 ·simp only[Array.getElem?_push,Array.size_push];rw[if_pos trivial]
def cellV(a:SA)(v:SV)(L:Nat):Int:=
 if a.f1=1 then (if v.f0<a.f2∨a.f3<v.f0 then-1 else ((v.f0-a.f2)*2^L)/(a.f3-a.f2+1)) else ((Ac v.f1 2:Nat):Int)/2^(16-L)
theorem MS(x d:Int)(L:Nat)(hL:L<=8)(h0:0<=x)(h1:x<d)(h2:d<=4294967297):IntKind.i64.wrap ((IntKind.i64.wrap (x*2^L)).tdiv d)=x*2^L/d:=by
 obtain⟨p1,p2⟩:=JZ L hL;have q1:0<=x*2^L:=Int.mul_nonneg h0 (by omega);have q2:x*2^L<d*2^L:=Int.mul_lt_mul_of_pos_right h1 (by omega);have q0:x*2^L<=x*256:=Int.mul_le_mul_of_nonneg_left p2 h0;rw[G8 (n:=x*2^L) (by omega) (by omega),Int.tdiv_eq_ediv_of_nonneg q1];have q4:0<=x*2^L/d:=Int.ediv_nonneg q1 (by omega);have q5:x*2^L/d<2^L:=Int.ediv_lt_of_lt_mul (by omega) (by rw[Int.mul_comm (2^L)];exact q2);exact G8 (by omega) (by omega)
theorem yF(a:SA)(v:SV)(L:Nat)(hL:L<=8)(ha:CJ a.f1 a.f2 a.f3)(w:World):Calls prog 96 #[jD a,xU v,.int .i64 (L:Int)] w fun e w'=>e=.returned (.int .i64 (cellV a v L))∧Below w.heap.size w w':=by
 have b1:decide ((L:Int)<0)=false:=decide_eq_false (by omega);have b2:decide (8<(L:Int))=false:=decide_eq_false (by omega);have p0:(0:Int)<=(L:Int):=by omega
 unfold jD xU;obtain⟨r,hr⟩:∃r,r=cellV a v L:=⟨_,rfl⟩
 rw[<-hr];unfold cellV at hr;go_enter func96,ntmps96
 go_upto_region 1 with (fail)
 have hb:=ae (ae (Below.refl w.heap.size w) (.cells #[.string a.f0,.int .i64 a.f1,.int .i64 a.f2,.int .i64 a.f3] 30)) (.cells #[.int .i64 v.f0,.string v.f1] 37);obtain⟨k1,k2⟩:=Bl w.heap (.cells #[.string a.f0,.int .i64 a.f1,.int .i64 a.f2,.int .i64 a.f3] 30 (0,0)) (.cells #[.int .i64 v.f0,.string v.f1] 37 (0,0));generalize hW:(w.alloc (.cells #[.string a.f0,.int .i64 a.f1,.int .i64 a.f2,.int .i64 a.f3] 30)).alloc (.cells #[.int .i64 v.f0,.string v.f1] 37)=w2 at hb|-;have rW:=ai (show w2.heap[w.heap.size]? =some (.cells #[.string a.f0,.int .i64 a.f1,.int .i64 a.f2,.int .i64 a.f3] 30 (0,0)) from by rw[<-hW];exact k1);have xy:=ai (show w2.heap[w.heap.size+1]? =some (.cells #[.int .i64 v.f0,.string v.f1] 37 (0,0)) from by rw[<-hW];exact k2);have HB:=ai hb;clear hb k1 k2 hW;generalize w.heap.size+1=g2 at xy|-;obtain⟨g1,hg1⟩:∃g,g=w.heap.size:=⟨_,rfl⟩
 rw[<-hg1] at rW|-;clear hg1;have x1:=bS rW.o;by_cases hk:a.f1=1
 ·have c1:(a.f1==1)=true:=by rw[beq_iff_eq];exact hk
  obtain⟨h1,h2,h3⟩:=ha hk;have x2:=dh rW.o;have x3:=dA rW.o;have y0:=bK xy.o;have d3:decide (a.f2< -2147483648)=false:=decide_eq_false (by omega);have d4:decide (2147483648<a.f3)=false:=decide_eq_false (by omega);rw[if_pos hk] at hr;clear hk ha;by_cases c2:v.f0<a.f2
  ·have d1:decide (v.f0<a.f2)=true:=decide_eq_true c2;rw[if_pos (.inl c2)] at hr;subst hr;go_wp2;go_ret;exact⟨rfl,HB.o⟩
  ·have d1:decide (v.f0<a.f2)=false:=decide_eq_false c2;by_cases c3:a.f3<v.f0
   ·have d2:decide (a.f3<v.f0)=true:=decide_eq_true c3;rw[if_pos (.inr c3)] at hr;subst hr;go_wp2;go_ret;exact⟨rfl,HB.o⟩
   ·have d2:decide (a.f3<v.f0)=false:=decide_eq_false c3;rw[if_neg (by omega)] at hr;have HR:=ai hr;clear hr;have q2:∀q:aW w2,q.w.cell? ⟨g1,2,none⟩=some (.int .i64 a.f2):=fun q=>q.cell x2
    have q3:∀q:aW w2,q.w.cell? ⟨g1,3,none⟩=some (.int .i64 a.f3):=fun q=>q.cell x3
    have q0:∀q:aW w2,q.w.cell? ⟨g2,0,none⟩=some (.int .i64 v.f0):=fun q=>q.cell y0
    have s1:IntKind.i64.wrap (v.f0-a.f2)=v.f0-a.f2:=G8 (by omega) (by omega);have s2:IntKind.i64.wrap (a.f3-a.f2)=a.f3-a.f2:=G8 (by omega) (by omega);obtain⟨dv,hdv⟩:∃d,d=a.f3-a.f2+1:=⟨_,rfl⟩
    have s3:IntKind.i64.wrap (a.f3-a.f2+1)=dv:=by rw[hdv];exact G8 (by omega) (by omega)
    have ne:¬(dv=0):=by omega
    have HD:=ai (show dv=a.f3-a.f2+1∧0<=v.f0-a.f2∧v.f0-a.f2<dv∧dv<=4294967297 by omega);clear hdv;go_upto_region 6 with (fail)
    refine wp_region_quiet_below (by kernel_rfl) (by kernel_rfl) ?_
    repeat((with_reducible refine wpQuiet_step (fun K hK=> ?_));go_simp;first|((with_reducible refine hK _ ?_);clear hK K)|((with_reducible apply Exists.intro);(with_reducible refine⟨fun _=> ?_,hK _ ?_⟩);(fail);clear hK K))
    with_reducible refine wpQuiet_nil ?_
    rintro _ ⟨pq,rfl⟩;have hfin:=aD HB.o HB.o.size pq.h;have hval:=MS (v.f0-a.f2) dv L hL HD.o.2.1 HD.o.2.2.1 HD.o.2.2.2;rw[<-HD.o.1] at HR;have HV:=ai (hval.trans HR.o.symm);clear hval s1 s2 s3 ne q0 q2 q3;go_wp2;go_ret;exact⟨congrArg (fun z=>Ending.returned (Value.int .i64 z)) HV.o,hfin⟩
 ·have c1:(a.f1==1)=false:=by rw[beq_eq_false_iff_ne];exact hk
  rw[if_neg hk] at hr;have HR:=ai hr;clear hk ha hr;have y1:=bS xy.o;go_wp2_with fail
  go_loopg [7,54] 3 (fun k v7 v54 W=>∃i:Nat,ay (i<=2∧k+i=3)∧v7=.int .i64 ((Ac v.f1 i:Nat):Int)∧v54=.int .i64 (i:Int)∧W=w2)
  case atStart=>exact⟨0,⟨by omega,by omega⟩,rfl,rfl,rfl⟩
  case round=>
   obtain⟨i,HI,rfl,rfl,hrel⟩:=hrel;subst hrel;by_cases hi:i<2
   ·have e1:decide ((i:Int)<2)=true:=decide_eq_true (by omega);by_cases hs:i<v.f1.size
    ·have e2:decide ((i:Int)<(v.f1.size:Int))=true:=decide_eq_true (by omega);have e3:decide (i<v.f1.size)=true:=decide_eq_true hs;have p1:(0:Int)<=(i:Int):=by omega
     have p2:(i:Int)<(v.f1.size:Int):=by omega
     have hx:i=0∨i=1:=by omega
     have hn:Ac v.f1 i<256:=by
      rcases hx with rfl|rfl
      ·show (0:Nat)<256;omega
      ·exact Oj v.f1
     have hor:=QY (Ac v.f1 i) v.f1[i].toNat hn v.f1[i].toNat_lt;have hnx:Ac v.f1 (i+1)=(Ac v.f1 i*256)|||v.f1[i].toNat:=by
      show (if h:i<v.f1.size then (Ac v.f1 i*256)|||v.f1[i].toNat else Ac v.f1 i*256)=_;rw[dif_pos hs]
     have nP:=ai (And.intro hor hnx);clear hx hn hor hnx;go_wp2_with fail
     go_roundg (gk-1)
     case measure=>have:=HI.o;omega
     case rel=>exact⟨i+1,⟨by omega,by have:=HI.o;omega⟩,by rw[nP.o.1,nP.o.2],by first|rfl|(rw[jK (by omega) (by omega)];rfl),rfl⟩
    ·have e2:decide ((i:Int)<(v.f1.size:Int))=false:=decide_eq_false (by omega);have e3:decide (i<v.f1.size)=false:=decide_eq_false hs;have hx:i=0∨i=1:=by omega
     have hn:Ac v.f1 i<256:=by
      rcases hx with rfl|rfl
      ·show (0:Nat)<256;omega
      ·exact Oj v.f1
     have hnx:Ac v.f1 (i+1)=Ac v.f1 i*256:=by
      show (if h:i<v.f1.size then (Ac v.f1 i*256)|||v.f1[i].toNat else Ac v.f1 i*256)=_;rw[dif_neg hs]
     have nP:=ai (And.intro hn hnx);clear hx hn hnx;go_wp2_with fail
     go_roundg (gk-1)
     case measure=>have:=HI.o;omega
     case rel=>exact⟨i+1,⟨by omega,by have:=HI.o;omega⟩,by rw[nP.o.2,jK (by omega) (by have:=nP.o.1;omega)];rfl,by first|rfl|(rw[jK (by omega) (by omega)];rfl),rfl⟩
   ·have e1:decide ((i:Int)<2)=false:=decide_eq_false (by omega);have hi2:i=2:=by have:=HI.o;omega
    subst hi2;have hl:=RB v.f1;have hfin:=HB.o;go_wp2;go_ret;exact⟨by rw[HR.o];rfl,hfin⟩
theorem Uk(a:SA)(v:SV)(l:Int)(h0:0<=l)(h8:l<=8)(ha:CJ a.f1 a.f2 a.f3):∃r:Int,((a.f1=1->a.f2<=v.f0∧v.f0<=a.f3)->0<=r∧r<2^l.toNat)∧∀w,Calls prog 96 #[jD a,xU v,.int .i64 l] w fun e w'=>e=.returned (.int .i64 r)∧Below w.heap.size w w':=by
 obtain⟨L,rfl,hL⟩:=Jv h0 h8;refine⟨cellV a v L,fun h=> ?_,fun w=>yF a v L hL ha w⟩;rw[Int.toNat_natCast];unfold cellV;by_cases hk:a.f1=1
 ·obtain⟨h1,h2,h3⟩:=ha hk;obtain⟨h4,h5⟩:=h hk;rw[if_pos hk,if_neg (by omega)];obtain⟨p1,p2⟩:=JZ L hL;exact⟨Int.ediv_nonneg (Int.mul_nonneg (by omega) (by omega)) (by omega),Int.ediv_lt_of_lt_mul (by omega) (by rw[Int.mul_comm (2^L)];exact Int.mul_lt_mul_of_pos_right (by omega) (by omega))⟩
 ·rw[if_neg hk];have hx:=RB v.f1;generalize Ac v.f1 2=x at hx;have:L=0∨L=1∨L=2∨L=3∨L=4∨L=5∨L=6∨L=7∨L=8:=by omega
  rcases this with rfl|rfl|rfl|rfl|rfl|rfl|rfl|rfl|rfl<;>simp<;>omega
def yc(a:SA)(p:SP)(L:Nat):Int×Int:=
 if p.f1=1 then (cellV a ⟨p.f2,⟨#[]⟩⟩ L,cellV a ⟨p.f3,⟨#[]⟩⟩ L) else if p.f1=2 then (cellV a ⟨0,p.f4⟩ L,cellV a ⟨0,p.f4⟩ L) else (cellV a ⟨0,p.f4⟩ L,cellV a ⟨0,p.f4++⟨#[255,255]⟩⟩ L)
theorem EO(a:SA)(p:SP)(L:Nat)(hL:L<=8)(ha:CJ a.f1 a.f2 a.f3)(hs:p.f4.size<=1000000)(w:World):Calls prog 87 #[jD a,lK p,.int .i64 (L:Int)] w fun e w'=>e=.returned (.tuple #[.int .i64 (yc a p L).1,.int .i64 (yc a p L).2])∧Below w.heap.size w w':=by
 have hcl:=fun (n:Int) (s:ByteArray) (W:World)=>yF a ⟨n,s⟩ L hL ha W
 have hsz:¬(9223372036854775807<p.f4.size+2):=by omega
 unfold jD xU at hcl;obtain⟨r1,hr1⟩:∃r,r=(yc a p L).1:=⟨_,rfl⟩
 obtain⟨r2,hr2⟩:∃r,r=(yc a p L).2:=⟨_,rfl⟩
 rw[<-hr1,<-hr2];have HR:=ai (And.intro hr1 hr2);have HC:=ai hcl;unfold jD lK;clear hcl hr1 hr2;go_enter func87,ntmps87
 go_upto_region 1 with (fail)
 have hb:=ae (ae (Below.refl w.heap.size w) (.cells #[.string a.f0,.int .i64 a.f1,.int .i64 a.f2,.int .i64 a.f3] 30)) (.cells #[.string p.f0,.int .i64 p.f1,.int .i64 p.f2,.int .i64 p.f3,.string p.f4] 168);obtain⟨k1,k2⟩:=Bl w.heap (.cells #[.string a.f0,.int .i64 a.f1,.int .i64 a.f2,.int .i64 a.f3] 30 (0,0)) (.cells #[.string p.f0,.int .i64 p.f1,.int .i64 p.f2,.int .i64 p.f3,.string p.f4] 168 (0,0));generalize hW:(w.alloc (.cells #[.string a.f0,.int .i64 a.f1,.int .i64 a.f2,.int .i64 a.f3] 30)).alloc (.cells #[.string p.f0,.int .i64 p.f1,.int .i64 p.f2,.int .i64 p.f3,.string p.f4] 168)=w2 at hb|-;have rW:=ai (show w2.heap[w.heap.size]? =some (.cells #[.string a.f0,.int .i64 a.f1,.int .i64 a.f2,.int .i64 a.f3] 30 (0,0)) from by rw[<-hW];exact k1);have xy:=ai (show w2.heap[w.heap.size+1]? =some (.cells #[.string p.f0,.int .i64 p.f1,.int .i64 p.f2,.int .i64 p.f3,.string p.f4] 168 (0,0)) from by rw[<-hW];exact k2);have HB:=ai hb;clear hb k1 k2 hW;generalize w.heap.size+1=g2 at xy|-;obtain⟨g1,hg1⟩:∃g,g=w.heap.size:=⟨_,rfl⟩
 rw[<-hg1] at rW|-;clear hg1;have y1:=bS xy.o;have y4:=dI xy.o;have x0:=bK rW.o;have x1:=bS rW.o;have x2:=dh rW.o;have x3:=dA rW.o;have q0:∀q:aW w2,q.w.cell? ⟨g1,0,none⟩=some (.string a.f0):=fun q=>q.cell x0
 have q1:∀q:aW w2,q.w.cell? ⟨g1,1,none⟩=some (.int .i64 a.f1):=fun q=>q.cell x1
 have q2:∀q:aW w2,q.w.cell? ⟨g1,2,none⟩=some (.int .i64 a.f2):=fun q=>q.cell x2
 have q3:∀q:aW w2,q.w.cell? ⟨g1,3,none⟩=some (.int .i64 a.f3):=fun q=>q.cell x3
 have q4:∀q:aW w2,q.w.cell? ⟨g2,4,none⟩=some (.string p.f4):=fun q=>q.cell y4
 have q5:∀q:aW w2,q.w.cell? ⟨g2,2,none⟩=some (.int .i64 p.f2):=fun q=>q.cell ((dh xy.o))
 have q6:∀q:aW w2,q.w.cell? ⟨g2,3,none⟩=some (.int .i64 p.f3):=fun q=>q.cell ((dA xy.o))
 unfold yc at HR;by_cases h1:p.f1=1
 ·have c1:(p.f1==1)=true:=by rw[beq_iff_eq];exact h1
  rw[if_pos h1] at HR;clear h1;go_upto_region 3 with (fail)
  refine wp_region_quiet_below (by kernel_rfl) (by kernel_rfl) ?_
  repeat((with_reducible refine wpQuiet_step (fun K hK=> ?_));go_simp;first|((with_reducible refine hK _ ?_);clear hK K)|((with_reducible apply Exists.intro);(with_reducible refine⟨fun _=> ?_,hK _ ?_⟩);((go_at_call 96;(with_reducible refine Calls.dF (HC.o _ _ _))));clear hK K))
  with_reducible refine wpQuiet_nil ?_
  rintro _ ⟨pq,rfl⟩;have hfin:=aD HB.o HB.o.size pq.h;clear x0 x1 x2 x3 q0 q1 q2 q3 q4 q5 q6 y1 y4;go_wp2
  go_ret2
  exact⟨by rw[HR.o.1,HR.o.2];rfl,hfin⟩
 ·have c1:(p.f1==1)=false:=by rw[beq_eq_false_iff_ne];exact h1
  rw[if_neg h1] at HR;clear h1;by_cases h2:p.f1=2
  ·have c2:(p.f1==2)=true:=by rw[beq_iff_eq];exact h2
   rw[if_pos h2] at HR;clear h2;go_wp2_with fail
   refine(HC.o _ _ _).mono ?_;rintro e w3 ⟨rfl,hb3⟩;have hfin:=aD HB.o HB.o.size hb3;clear x0 x1 x2 x3 q0 q1 q2 q3 q4 q5 q6 y1 y4;go_wp2
   go_ret2
   exact⟨by rw[HR.o.1,HR.o.2];rfl,hfin⟩
  ·have c2:(p.f1==2)=false:=by rw[beq_eq_false_iff_ne];exact h2
   rw[if_neg h2] at HR;clear h2;go_upto_region 7 with (fail)
   refine wp_region_quiet_below (by kernel_rfl) (by kernel_rfl) ?_
   repeat((with_reducible refine wpQuiet_step (fun K hK=> ?_));go_simp;first|((with_reducible refine hK _ ?_);clear hK K)|((with_reducible apply Exists.intro);(with_reducible refine⟨fun _=> ?_,hK _ ?_⟩);((go_at_call 96;(with_reducible refine Calls.dF (HC.o _ _ _))));clear hK K))
   with_reducible refine wpQuiet_nil ?_
   rintro _ ⟨pq,rfl⟩;have hfin:=aD HB.o HB.o.size pq.h;clear x0 x1 x2 x3 q0 q1 q2 q3 q4 q5 q6 y1 y4;go_wp2
   go_ret2
   exact⟨by rw[HR.o.1,HR.o.2];rfl,hfin⟩
theorem JD(a:SA)(p:SP)(l:Int)(h0:0<=l)(h8:l<=8)(ha:CJ a.f1 a.f2 a.f3)(hs:p.f4.size<=1000000):∃r1 r2:Int,∀w,Calls prog 87 #[jD a,lK p,.int .i64 l] w fun e w'=>e=.returned (.tuple #[.int .i64 r1,.int .i64 r2])∧Below w.heap.size w w':=by
 obtain⟨L,rfl,hL⟩:=Jv h0 h8;exact⟨_,_,fun w=>EO a p L hL ha hs w⟩
abbrev M5:=MC
abbrev NP:Nat:=194
theorem Cy:(prog.info? 194).map (fun i=>(i.zero,i.size,i.bytes))=some (some (.agg #[(.int .i64 0),(.int .i64 0)]),2,16):=by kernel_rfl
theorem PV(c l:Int)(h0:0<=l)(h8:l<=8)(w:World):Calls prog 95 #[.int .i64 c,.int .i64 l] w fun e w'=>∃(v0:Value) (r:List jl),e=.returned v0∧Kd.R M5 NP w' w.heap.size (fun _=>True) v0 r∧(r.length<=9∧tK r∧(0<=c∧c<2^l.toNat->0<r.length))∧Below w.heap.size w w':=by
 obtain⟨L,rfl,hL⟩:=Jv h0 h8;rw[Int.toNat_natCast];have hgc:=Nv L hL c w;by_cases hg:0<=c∧c<2^L
 ·rw[decide_eq_true hg] at hgc;have HC:=ai (show 0<=c∧c<=256 by have:=JZ L hL;omega);have HL:=ai hL;have OB:=ai hgc;clear hg h0 h8 hL hgc;go_enter func95,ntmps95
  go_wp2_with fail
  refine OB.o.mono ?_;rintro e w1 ⟨rfl,hb⟩;have HB:=ai hb;have HO:ay (Kd.R M5 NP w1 w.heap.size (fun _=>True) (.slice none 0 0) ([]:List jl)):=⟨Kd.iF _ _ _ _ _⟩
  clear hb OB;go_wp2_with fail
  go_loopg [5,6] (L+2) (fun k v5 v6 W=>∃(i:Nat) (acc:List jl),ay (i<=L+1∧k+i=L+2∧acc.length=i∧tK acc)∧v6=.int .i64 (i:Int)∧ay (Kd.R M5 NP W w.heap.size (fun _=>True) v5 acc)∧ay (Below w.heap.size w W))
  case atStart=>exact⟨0,[],⟨by omega,by omega,rfl,fun x hx=>by cases hx⟩,rfl,HO,HB⟩
  case round=>
   clear HO HB;obtain⟨i,acc,HM,rfl,HO,HB⟩:=hrel;obtain⟨Ao,co,rfl⟩:=Kd.dE HO.o;by_cases hi:i<=L
   ·have b1:decide ((i:Int)<=(L:Int))=true:=decide_eq_true (by omega);have s1:wrap64 ((L:Int)-(i:Int))=((L-i:Nat):Int):=by rw[jK (by have:=HL.o;omega) (by have:=HL.o;omega)];omega
    have p1:(0:Int)<=((L-i:Nat):Int):=by omega
    go_wp2_with ((with_reducible refine bn (b:=.append) (xs:= #[.tmp 18,.tmp 26]) rfl ?_);at_builtin;go_loud (refine Kd.di M5 (w0:=w) w.heap.size rfl (.tmp 18) (.tmp 26) 191 NP (.agg #[(.int .i64 0),(.int .i64 0)]) 16 rfl underlying191 Cy rfl (by decide) (by decide) _ acc (⟨(i:Int),c/2^min (L-i) 64⟩:jl) [.int .i64 ((⟨(i:Int),c/2^min (L-i) 64⟩:jl)).f0,.int .i64 ((⟨(i:Int),c/2^min (L-i) 64⟩:jl)).f1] (fun _=>True) (fun _=>False) rfl ?aX ?aP (fun _ hk=>hk.elim) ?aF HO.o HB.o HB.o.size ?aL ?_;(case aX=>first|rfl|(go_simp;done)|(go_simp;rfl));(case aP=>exact tu _ _ _ _);(case aF=>exact(fun _ _=>trivial));(case aL=>have:=HM.o;have:=HL.o;omega);intro v9 w9 ho hb hg hat;replace HB:=ai (HB.o.grown hg HB.o.size (fun k1 hk1=>Kd.jU HO.o k1 hk1));replace HO:=ai ho;clear ho hb hg hat))
    go_roundg (gk-1)
    case measure=>have:=HM.o;omega
    case rel=>exact⟨i+1,_,⟨by omega,by have:=HM.o;omega,by rw[List.length_append];have:=HM.o;simp;omega,HM.o.2.2.2.snoc ⟨by show-9223372036854775808<=(i:Int)∧(i:Int)<=_;have:=HL.o;omega,by have:=HC.o;have h2:(0:Int)<2^min (L-i) 64:=Int.pow_pos (by decide);have h3:=Int.ediv_nonneg this.1 (Int.le_of_lt h2);have h4:c/2^min (L-i) 64<=c:=Int.ediv_le_self _ this.1;show-9223372036854775808<=c/2^min (L-i) 64∧c/2^min (L-i) 64<=_;omega⟩⟩,by first|rfl|(rw[jK (by omega) (by have:=HL.o;omega)];rfl),HO,HB⟩
   ·have b1:decide ((i:Int)<=(L:Int))=false:=decide_eq_false (by omega);have hfin:=And.intro HO.o HB.o;go_wp2;go_ret;exact⟨_,acc,rfl,hfin.1,⟨by have:=HM.o;have:=HL.o;omega,HM.o.2.2.2,fun _=>by have:=HM.o;omega⟩,hfin.2⟩
 ·rw[decide_eq_false hg] at hgc;go_enter func95,ntmps95
  go_wp2_with fail
  refine hgc.mono ?_;rintro e w1 ⟨rfl,hb⟩;go_wp2;go_ret;exact⟨_,[],rfl,Kd.iF _ _ _ _ _,⟨Nat.zero_le _,(fun x hx=>by cases hx),fun h=>absurd h hg⟩,hb⟩
theorem Cv(z:Int)(b:Nat)(h0:0<=z)(h1:z<=1000): -9223372036854775808<=z/2^min b 64∧z/2^min b 64<=9223372036854775807:=by
 have h2:(0:Int)<2^min b 64:=Int.pow_pos (by decide);have h3:=Int.ediv_nonneg h0 (Int.le_of_lt h2);have h4:z/2^min b 64<=z:=Int.ediv_le_self _ h0;omega
theorem zh(z hi:Int)(b:Nat)(hb:b<=8)(hz:0<=z∧z<=256):∃X:Int,(1<=X∧X<=256)∧wrap64 (z+wrap64 (2^min b 64))=z+X:=by
 have hp:=JZ b hb;refine⟨2^b,hp, ?_⟩;rw[Nat.min_eq_left (by omega:b<=64)];generalize (2:Int)^b=X at hp|-;rw[jK (n:=X) (by omega) (by omega),jK (by omega) (by omega)]
theorem BM{hi z X:Int}{k ko:Nat}{acc:List jl}{x:jl}(h:0<=z∧z<=512∧acc.length<=256∧(z<=hi->(acc.length:Int)+(hi+1-z)<=256∧hi+1-z<(k:Int))∧0<k∧tK acc)(hz:z<=hi)(hk:ko+1=k)(hh:hi<256)(hX:1<=X∧X<=256)(hx:PU x):ay (0<=z+X∧z+X<=512∧(acc++ [x]).length<=256∧(z+X<=hi->((acc++ [x]).length:Int)+(hi+1-(z+X))<=256∧hi+1-(z+X)<(ko:Int))∧0<ko∧tK (acc++ [x])):=by
 obtain⟨h1,h2,h3,h4,h5,h6⟩:=h;have h7:=h4 hz;rw[List.length_append,List.length_singleton];exact⟨by omega,by omega,by omega,fun _=>by omega,by omega,h6.snoc hx⟩
theorem PL(lo hi l:Int)(h0:0<=l)(h8:l<=8)(w:World):Calls prog 89 #[.int .i64 lo,.int .i64 hi,.int .i64 l] w fun e w'=>∃(v0:Value) (r:List jl),e=.returned v0∧Kd.R M5 NP w' w.heap.size (fun _=>True) v0 r∧(r.length<=256∧tK r)∧Below w.heap.size w w':=by
 obtain⟨L,rfl,hL⟩:=Jv h0 h8;have hgc:=fun c W=>Nv L hL c W
 have OB:=ai hgc;have hout:Kd.R M5 NP w w.heap.size (fun _=>True) (.slice none 0 0) ([]:List jl):=Kd.iF _ _ _ _ _;by_cases h1:hi<lo
 ·have b1:decide (hi<lo)=true:=decide_eq_true h1;go_enter func89,ntmps89
  go_wp2;go_ret;exact⟨_,[],rfl,Kd.iF _ _ _ _ _,⟨Nat.zero_le _,(fun x hx=>by cases hx)⟩,Below.refl _ _⟩
 have b1:decide (hi<lo)=false:=decide_eq_false h1;have hg1:=OB.o lo;by_cases h2:0<=lo∧lo<2^L
 ·rw[decide_eq_true h2] at hg1;by_cases h3:0<=hi∧hi<2^L
  ·have hg2:=OB.o hi;rw[decide_eq_true h3] at hg2;have HC:=ai (show 0<=lo∧lo<=hi∧hi<256 by have:=JZ L hL;omega);have HL:=ai hL;have uP:=ai hg1;have HG2:=ai hg2;clear h1 h2 h3 hL h0 h8 hgc hg1 hg2 hout OB;go_enter func89,ntmps89
   go_wp2_with fail
   refine(uP.o _).mono ?_;rintro e w1 ⟨rfl,hb⟩;go_wp2_with fail
   refine(HG2.o _).mono ?_;rintro e w2 ⟨rfl,hb2⟩;have HB:=ai (aD hb hb.size hb2);have HO:ay (Kd.R M5 NP w2 w.heap.size (fun _=>True) (.slice none 0 0) ([]:List jl)):=⟨Kd.iF _ _ _ _ _⟩
   clear hb hb2 uP HG2 b1;go_wp2_with fail
   go_loopg [0,7] 257 (fun k v0 v7 W=>∃(lo:Int) (acc:List jl),ay (0<=lo∧lo<=512∧acc.length<=256∧(lo<=hi->(acc.length:Int)+(hi+1-lo)<=256∧hi+1-lo<k)∧0<k∧tK acc)∧v0=.int .i64 lo∧ay (Kd.R M5 NP W w.heap.size (fun _=>True) v7 acc)∧ay (Below w.heap.size w W))
   case atStart=>exact⟨lo,[],⟨by have:=HC.o;omega,by have:=HC.o;omega,Nat.zero_le _,(fun _=>by have:=HC.o;show ((0:Nat):Int)+_<=256∧_;omega),by omega,(fun x hx=>by cases hx)⟩,rfl,HO,HB⟩
   case round=>
    clear HO HB;obtain⟨z,acc,HM,rfl,HO,HB⟩:=hrel;obtain⟨Ao,co,rfl⟩:=Kd.dE HO.o;by_cases hz:z<=hi
    ·have b1:decide (z<=hi)=true:=decide_eq_true hz;have HZ:=ai hz;obtain⟨ko,hko⟩:∃ko,ko+1=gk:=⟨gk-1,by have:=HM.o;omega⟩
     have MN:=ai hko;have zU:=HM;clear hz hko HM;go_wp2_with fail
     go_loopg [8] (L+1) (fun k v8 W=>∃b:Nat,ay (b<=L∧k+b=L+1)∧v8=.int .i64 (b:Int)∧W=wr)
     case atStart=>exact⟨0,⟨by omega,by omega⟩,rfl,rfl⟩
     case round=>
      obtain⟨b,Va,rfl,hrel⟩:=hrel;subst hrel;have q1:(0:Int)<=(b:Int):=by omega
      by_cases hb:b<L
      ·have d1:decide ((b:Int)<(L:Int))=true:=decide_eq_true (by omega);obtain⟨c,hc⟩:∃c,c=b+1:=⟨_,rfl⟩
       have q2:(0:Int)<=(c:Int):=by omega
       have s1:wrap64 ((b:Int)+1)=(c:Int):=by rw[jK (by omega) (by have:=HL.o;omega),hc];rfl
       obtain⟨X,s2⟩:∃X,wrap64 ((2:Int)^min c 64)=X:=⟨_,rfl⟩
       obtain⟨Y,s3⟩:∃Y,wrap64 (X-1)=Y:=⟨_,rfl⟩
       obtain⟨U,s4⟩:∃U,Go.bits .and .i64 z Y=U:=⟨_,rfl⟩
       obtain⟨V,s5⟩:∃V,wrap64 (z+X)=V:=⟨_,rfl⟩
       obtain⟨T,s6⟩:∃T,wrap64 (V-1)=T:=⟨_,rfl⟩
       have HCB:=ai hc;have wT:=ai s1;clear hc;by_cases hu:U=0
       ·have d2:(U==0)=true:=by rw[beq_iff_eq];exact hu
        clear hu;by_cases ht:T<=hi
        ·have d3:decide (T<=hi)=true:=decide_eq_true ht;clear ht;go_wp2_with fail
         go_roundg (gk-1)
         case measure=>have:=Va.o;omega
         case rel=>exact⟨c,⟨by have:=HCB.o;omega,by have:=HCB.o;have:=Va.o;omega⟩,by rw[wT.o],rfl⟩
        ·have d3:decide (T<=hi)=false:=decide_eq_false ht;clear ht;go_wp2_with ((with_reducible refine bn (b:=.append) (xs:= #[.tmp 55,.tmp 63]) rfl ?_);at_builtin;go_loud (refine Kd.di M5 (w0:=w) w.heap.size rfl (.tmp 55) (.tmp 63) 191 NP (.agg #[(.int .i64 0),(.int .i64 0)]) 16 rfl underlying191 Cy rfl (by decide) (by decide) _ acc (⟨wrap64 ((L:Int)-(b:Int)),z/2^min b 64⟩:jl) [.int .i64 ((⟨wrap64 ((L:Int)-(b:Int)),z/2^min b 64⟩:jl)).f0,.int .i64 ((⟨wrap64 ((L:Int)-(b:Int)),z/2^min b 64⟩:jl)).f1] (fun _=>True) (fun _=>False) rfl ?aX ?aP (fun _ hk=>hk.elim) ?aF HO.o HB.o HB.o.size ?aL ?_;(case aX=>first|rfl|(go_simp;done)|(go_simp;rfl));(case aP=>exact tu _ _ _ _);(case aF=>exact(fun _ _=>trivial));(case aL=>have:=zU.o;have:=HL.o;omega);intro v9 w9 ho hb hg hat;replace HB:=ai (HB.o.grown hg HB.o.size (fun k1 hk1=>Kd.jU HO.o k1 hk1));replace HO:=ai ho;clear ho hb hg hat))
         obtain⟨X2,hX2,e1⟩:=zh z hi b (by have:=Va.o;have:=HL.o;omega) (by have:=zU.o;have:=HZ.o;have:=HC.o;omega);have HE:=ai (And.intro hX2 e1);clear hX2 e1;go_roundg ko
         case measure=>have:=MN.o;omega
         case rel=>exact⟨z+X2,_,BM zU.o HZ.o MN.o HC.o.2.2 HE.o.1 (⟨wrap64_in _,Cv z b zU.o.1 (by have:=zU.o;omega)⟩),by rw[HE.o.2],HO,HB⟩
       ·have d2:(U==0)=false:=by rw[beq_eq_false_iff_ne];exact hu
        clear hu;go_wp2_with ((with_reducible refine bn (b:=.append) (xs:= #[.tmp 55,.tmp 63]) rfl ?_);at_builtin;go_loud (refine Kd.di M5 (w0:=w) w.heap.size rfl (.tmp 55) (.tmp 63) 191 NP (.agg #[(.int .i64 0),(.int .i64 0)]) 16 rfl underlying191 Cy rfl (by decide) (by decide) _ acc (⟨wrap64 ((L:Int)-(b:Int)),z/2^min b 64⟩:jl) [.int .i64 ((⟨wrap64 ((L:Int)-(b:Int)),z/2^min b 64⟩:jl)).f0,.int .i64 ((⟨wrap64 ((L:Int)-(b:Int)),z/2^min b 64⟩:jl)).f1] (fun _=>True) (fun _=>False) rfl ?aX ?aP (fun _ hk=>hk.elim) ?aF HO.o HB.o HB.o.size ?aL ?_;(case aX=>first|rfl|(go_simp;done)|(go_simp;rfl));(case aP=>exact tu _ _ _ _);(case aF=>exact(fun _ _=>trivial));(case aL=>have:=zU.o;have:=HL.o;omega);intro v9 w9 ho hb hg hat;replace HB:=ai (HB.o.grown hg HB.o.size (fun k1 hk1=>Kd.jU HO.o k1 hk1));replace HO:=ai ho;clear ho hb hg hat))
        obtain⟨X2,hX2,e1⟩:=zh z hi b (by have:=Va.o;have:=HL.o;omega) (by have:=zU.o;have:=HZ.o;have:=HC.o;omega);have HE:=ai (And.intro hX2 e1);clear hX2 e1;go_roundg ko
        case measure=>have:=MN.o;omega
        case rel=>exact⟨z+X2,_,BM zU.o HZ.o MN.o HC.o.2.2 HE.o.1 (⟨wrap64_in _,Cv z b zU.o.1 (by have:=zU.o;omega)⟩),by rw[HE.o.2],HO,HB⟩
      ·have d1:decide ((b:Int)<(L:Int))=false:=decide_eq_false (by omega);go_wp2_with ((with_reducible refine bn (b:=.append) (xs:= #[.tmp 55,.tmp 63]) rfl ?_);at_builtin;go_loud (refine Kd.di M5 (w0:=w) w.heap.size rfl (.tmp 55) (.tmp 63) 191 NP (.agg #[(.int .i64 0),(.int .i64 0)]) 16 rfl underlying191 Cy rfl (by decide) (by decide) _ acc (⟨wrap64 ((L:Int)-(b:Int)),z/2^min b 64⟩:jl) [.int .i64 ((⟨wrap64 ((L:Int)-(b:Int)),z/2^min b 64⟩:jl)).f0,.int .i64 ((⟨wrap64 ((L:Int)-(b:Int)),z/2^min b 64⟩:jl)).f1] (fun _=>True) (fun _=>False) rfl ?aX ?aP (fun _ hk=>hk.elim) ?aF HO.o HB.o HB.o.size ?aL ?_;(case aX=>first|rfl|(go_simp;done)|(go_simp;rfl));(case aP=>exact tu _ _ _ _);(case aF=>exact(fun _ _=>trivial));(case aL=>have:=zU.o;have:=HL.o;omega);intro v9 w9 ho hb hg hat;replace HB:=ai (HB.o.grown hg HB.o.size (fun k1 hk1=>Kd.jU HO.o k1 hk1));replace HO:=ai ho;clear ho hb hg hat))
       obtain⟨X2,hX2,e1⟩:=zh z hi b (by have:=Va.o;have:=HL.o;omega) (by have:=zU.o;have:=HZ.o;have:=HC.o;omega);have HE:=ai (And.intro hX2 e1);clear hX2 e1;go_roundg ko
       case measure=>have:=MN.o;omega
       case rel=>exact⟨z+X2,_,BM zU.o HZ.o MN.o HC.o.2.2 HE.o.1 (⟨wrap64_in _,Cv z b zU.o.1 (by have:=zU.o;omega)⟩),by rw[HE.o.2],HO,HB⟩
    ·have b1:decide (z<=hi)=false:=decide_eq_false hz;have hfin:=And.intro HO.o HB.o;go_wp2;go_ret
     first|exact⟨_,acc,rfl,hfin.1,⟨HM.o.2.2.1,HM.o.2.2.2.2.2⟩,hfin.2⟩|exact⟨_,rfl,acc,hfin.1,⟨HM.o.2.2.1,HM.o.2.2.2.2.2⟩,hfin.2⟩
  ·have hg2:=OB.o hi;rw[decide_eq_false h3] at hg2;go_enter func89,ntmps89
   go_wp2_with fail
   refine(hg1 _).mono ?_;rintro e w1 ⟨rfl,hb⟩;go_wp2_with fail
   refine(hg2 _).mono ?_;rintro e w2 ⟨rfl,hb2⟩;go_wp2;go_ret;exact⟨_,[],rfl,Kd.iF _ _ _ _ _,⟨Nat.zero_le _,(fun x hx=>by cases hx)⟩,aD hb hb.size hb2⟩
 ·rw[decide_eq_false h2] at hg1;go_enter func89,ntmps89
  go_wp2_with fail
  refine(hg1 _).mono ?_;rintro e w1 ⟨rfl,hb⟩;go_wp2;go_ret;exact⟨_,[],rfl,Kd.iF _ _ _ _ _,⟨Nat.zero_le _,(fun x hx=>by cases hx)⟩,hb⟩
theorem Df{a:SA}(h:kindOk a=true):CJ a.f1 a.f2 a.f3:=fun h1=>by
 unfold kindOk at h;rw[if_pos h1] at h;simp only[Bool.and_eq_true,Bool.not_eq_true',decide_eq_false_iff_not] at h;omega
theorem Jz{s:ByteArray}(h:eQ s=true):s.size<=12:=by
 unfold eQ at h;simp only[Bool.and_eq_true,decide_eq_true_eq] at h;exact h.2.1
theorem Ob(s:ByteArray):s.toList.length=s.size:=by rw[ByteArray.toList_eq,Array.length_toList];rfl
structure YZ(S:List SA)(p:SP):Prop where
 find:0<=gN p.f0 S
 lt:(gN p.f0 S).toNat<S.length
 name:p.f0.size<=12
 str:p.f4.size<=40
 lo: -2147483648<=p.f2∧p.f2<=2147483648
 hi: -2147483648<=p.f3∧p.f3<=2147483648
 at_:CJ (S.getD (gN p.f0 S).toNat z30).f1 (S.getD (gN p.f0 S).toNat z30).f2 (S.getD (gN p.f0 S).toNat z30).f3
theorem VD{S:List SA}{F:List SP}(hc:cB S=none)(hf:cu S F=none):(1<=F.length∧F.length<=4)∧∀p∈F,YZ S p:=by
 obtain⟨_,_,hA⟩:=dn hc;unfold cu at hf;split at hf
 ·cases hf
 ·rename_i hl
  refine⟨by omega,fun p hp=> ?_⟩;obtain⟨i,hi,rfl⟩:=List.getElem_of_mem hp;have h:=oD F.length 0 hf i (Nat.zero_le _) (by omega);have e:F.getD i z168=F[i]:=by rw[List.getD_eq_getElem?_getD,List.getElem?_eq_getElem hi];rfl
  unfold qj at h;rw[e] at h;generalize F[i]=p at h;simp only[Bool.and_eq_true,decide_eq_true_eq] at h;obtain⟨⟨h1,_⟩,h3⟩:=h;obtain⟨k,hk,hlt,hat⟩:=zu (fun x:SA=>x.f0.toList==p.f0.toList) z30 S 0 h1;have hk':gN p.f0 S=(k:Int):=by
   have:gN p.f0 S=((0+k:Nat):Int):=hk;omega
  rw[hk',Int.toNat_natCast] at h3;have hm:S.getD k z30∈S:=by
   rw[List.getD_eq_getElem?_getD,List.getElem?_eq_getElem hlt];exact List.getElem_mem _
  obtain⟨hn,hkd⟩:=hA _ hm;have hname:p.f0.size<=12:=by
   have e1:(S.getD k z30).f0.toList=p.f0.toList:=by simpa using hat
   have e2:=Jz hn;rw[<-Ob,e1,Ob] at e2;exact e2
  refine⟨h1,by rw[hk'];simpa using hlt,hname, ?_, ?_, ?_,by rw[hk',Int.toNat_natCast];exact Df hkd⟩
  all_goals
   unfold bQ at h3;split at h3
   ·simp only[Bool.and_eq_true,decide_eq_true_eq,beq_iff_eq] at h3;have:=Df hkd h3.1.1.1.1
    first
     |omega
     |(have e2:=Ob p.f4;rw[h3.2] at e2;simp at e2;omega)
   ·split at h3
    ·simp only[Bool.and_eq_true,decide_eq_true_eq,beq_iff_eq] at h3;have h4:=h3.2;unfold jw at h4;simp only[Bool.and_eq_true,decide_eq_true_eq] at h4;omega
    ·cases h3
open Go.Maps
def eG.new(a l:Int)(S:List SA):eG:=⟨a,l,S,[],0,none,[],[],0,[],0,0⟩
theorem Uo(A:Option Addr)(n c:Nat)(S:List SA)(a l:Int)(b:Nat)(ok:Nat->Prop)(w:World)(ha:0<=a∧a<32)(h0:0<=l∧l<=8)(hr:Kd.R Pp tA w b ok (.slice A n c) S)(hb:b<=w.heap.size)(hck:cB S=none):
 Calls prog 10 #[.int .i64 a,.slice A n c,.int .i64 l] w fun e w'=>∃g h,e=.returned (.tuple #[.pointer (some ⟨g,0,none⟩),.nilIface])∧w.heap.size<=g∧cK w.heap.size w' g h (eG.new a l S)∧Below w.heap.size w w':=by
 obtain⟨hn,hnc,hC⟩:=Kd.bN hr;subst hn;have hl:=(dn hck).2.1;have HC:=ai ((qy A S.length c S w rfl hC (by omega) hnc).mono (fun e w' hq=>fE.ok hq hck));have b1:decide (a<0)=false:=decide_eq_false (by omega);have b2:decide (32<=a)=false:=decide_eq_false (by omega);have b3:decide (l<0)=false:=decide_eq_false (by omega);have b4:decide (8<l)=false:=decide_eq_false (by omega);have HR:=ai hr;have HL:=ai (show S.length<=1000000 by omega);obtain⟨n,hn⟩:∃n,n=S.length:=⟨_,rfl⟩
 rw[<-hn] at HR HC HL|-;clear hr hn hnc hC hl hck ha h0;go_enter func10,ntmps10
 go_wp2_with fail
 refine HC.o.mono ?_;rintro e w1 ⟨rfl,hb1⟩;have HB:=ai hb1;have HR1:=ai (Kd.jr (Kd.bJ HR.o hb1) (Nat.zero_le _));clear HC HR hb1 hb;go_wp2_with fail
 refine(clA.row (base:=0) (Nat.zero_le _) HR1.o HL.o (by decide)).mono ?_;rintro e w2 ⟨A2,c2,rfl,hR2,hge,hb2⟩;have hS:=MJ hR2 (b':=w.heap.size) (fun k hk=>Nat.le_trans HB.o.size (hge k hk));replace HB:=dW HB hb2;have HS:=ai hS;clear HR1 hR2 hge hb2 hS;have hmm:= @run_makeMap prog;have hs1:(w2.alloc (Obj.map #[] 0)).heap.size=w2.heap.size+1:=by show (w2.heap.push _).size=_;exact Array.size_push _
 have Bv:=ae (Below.refl w2.heap.size w2) (Obj.map #[] 0);have zP:=fP.made (P:=prog) (k:=3) (kv:=kI) w2;have hm0:(w2.alloc (Obj.map #[] 0)).heap[w2.heap.size]? =some (Obj.map #[] 0):=heap_alloc_new w2 _;go_wp2
 go_ret2
 have hsz:=HB.o.size;obtain⟨W,hW⟩:∃W,W=w2.alloc (Obj.map #[] 0):=⟨_,rfl⟩
 rw[<-hW] at Bv zP hm0 hs1|-;generalize hcs:Obj.cells _ _=o;have hbn:=ae (Below.refl W.heap.size W) o;have hnew:=heap_alloc_new W o;rw[hs1] at hnew;have hbw:=aD Bv Bv.size hbn;have hsw:=Bv.size;refine⟨w2.heap.size+1,⟨.slice A2 n c2,.slice none 0 0,.map none,.slice none 0 0,.slice none 0 0,w2.heap.size,.slice none 0 0⟩,rfl,by omega,⟨by rw[hnew,<-hcs];rfl,by omega,⟨Kd.bJ HS.o hbw,Kd.iF _ _ _ _ _,⟨fun _=>rfl,fun q hq=>by cases hq⟩,Kd.iF _ _ _ _ _,Kd.iF _ _ _ _ _,⟨zP.below hbn,hsz,fun e=>by cases e⟩,Kd.iF _ _ _ _ _⟩⟩,aD HB.o HB.o.size hbw⟩
def gG(l:List UInt8):List UInt8:=l.flatMap fun c=>if c=34∨c=92 then [92,c] else [c]
theorem mF(l:List UInt8):(gG l).length<=2*l.length:=by
 induction l with
 |nil=>simp[gG]
 |cons c r ih=>
  have:gG (c::r)=(if c=34∨c=92 then [92,c] else [c])++gG r:=rfl;rw[this,List.length_append,List.length_cons];by_cases h:c=34∨c=92
  ·rw[if_pos h];simp only[List.length_cons,List.length_nil];omega
  ·rw[if_neg h];simp only[List.length_cons,List.length_nil];omega
theorem EX(l:List UInt8)(c:UInt8):gG (l++ [c])=gG l++(if c=34∨c=92 then [92,c] else [c]):=by
 unfold gG;rw[List.flatMap_append];simp only[List.flatMap_cons,List.flatMap_nil,List.append_nil]
theorem nD(s:ByteArray)(w:World)(hs:s.size<=1000000000):Calls prog 92 #[.string s] w fun e w'=>e=.returned (.string ⟨(34::gG s.data.toList++ [34]).toArray⟩)∧Below w.heap.size w w':=by
 have hcv:=fun W:World=>Lib.run_convert_string_bytes (P:=prog) W 9 263 5 s underlying9 underlying263 underlying5
 go_enter func92,ntmps92
 go_wp2_with fail
 have hR0:Kd.R (Kd.int .u8) 5 (w.alloc (.cells #[.int .u8 34] 5)) w.heap.size (fun k=>k≠w.heap.size+1) (.slice (some ⟨w.heap.size,0,none⟩) 1 1) (fo [34]):=
  ⟨fun k hk=>by
   have:w.heap.size=k:=by simpa [Value.ownBlock] using hk
   omega,[.int .u8 34],World.ownsRow_lit w #[.int .u8 34] 1 (Nat.le_refl _) (by decide) rfl,dN.one rfl (dN.none _ _)⟩
 have hsz:(w.alloc (.cells #[.int .u8 34] 5)).heap.size=w.heap.size+1:=by show (w.heap.push _).size=_;exact Array.size_push _
 have HO:=ai (Kd.bJ hR0 (qz (Below.refl _ _) (Nat.le_refl _) 5 s));have HB:=ai (qz (ae (Below.refl w.heap.size w) (.cells #[.int .u8 34] 5)) (by rw[hsz];omega) 5 s);have HC:ay (∀j,j<s.size->(Lib.bytesWorld (w.alloc (Obj.cells #[Value.int IntKind.u8 34] 5)) 5 s).cell? ⟨w.heap.size+1,j,none⟩=some (.int .u8 (s.data.toList.getD j 0).toNat)):=⟨fun j hj=>by
  have:=Lib.bytesWorld_cell (w.alloc (Obj.cells #[Value.int IntKind.u8 34] 5)) 5 s j hj
  rwa [hsz] at this⟩
 have HL:ay (w.heap.size+1<(Lib.bytesWorld (w.alloc (Obj.cells #[Value.int IntKind.u8 34] 5)) 5 s).heap.size):=⟨by rw[Lib.bytesWorld_size,hsz];omega⟩
 generalize grownCap (w.alloc (Obj.cells #[Value.int IntKind.u8 34] 5)) s.size 0 5=cp;generalize Value.slice (some {block:=w.heap.size,off:=0}) 1 1=v0 at HO|-;generalize Lib.bytesWorld (w.alloc (Obj.cells #[Value.int IntKind.u8 34] 5)) 5 s=w1 at HO HB HC HL|-;generalize hgB:w.heap.size+1=gB at HO HC HL|-;clear hR0 hsz hgB;go_loopg [3,5,10] (s.size+1) (fun k v3 v5 v10 W=>∃(i:Nat) (acc:List UInt8),ay (i<=s.size∧k+i=s.size+1∧acc=34::gG (s.data.toList.take i)∧acc.length<=1+2*i)∧v10=.int .i64 i∧ay (Kd.R (Kd.int .u8) 5 W w.heap.size (fun k=>k≠gB) v3 (fo acc))∧ay (Below w.heap.size w W)∧ay (∀j,j<s.size->W.cell? ⟨gB,j,none⟩=some (.int .u8 (s.data.toList.getD j 0).toNat))∧ay (gB<W.heap.size))
 case atStart=>exact⟨0,[34],⟨by omega,by omega,by simp[gG],by simp⟩,rfl,HO,HB,HC,HL⟩
 case round=>
  clear HO HB HC HL;obtain⟨i,acc,HN,rfl,HO,HB,HC,HL⟩:=hrel;by_cases hi:i<s.size
  ·have b1:decide ((i:Int)<(s.size:Int))=true:=decide_eq_true (by omega);have hc:=HC.o i hi;have hd:s.data.toList.getD i 0=s[i]'hi:=by
    rw[List.getD_eq_getElem?_getD,List.getElem?_eq_getElem (by simpa using hi)];rfl
   rw[hd] at hc;have htk:gG (s.data.toList.take (i+1))=gG (s.data.toList.take i)++(if s[i]'hi=34∨s[i]'hi=92 then [92,s[i]'hi] else [s[i]'hi]):=by
    rw[List.take_succ_eq_append_getElem (by simpa using hi),EX];rfl
   have HT:=ai htk;clear htk hd;generalize s[i]'hi=c at hc HT;have p1:(0:Int)<=(i:Int):=by omega
   have p2:(i:Int)<(s.size:Int):=by omega
   have e1:((c.toNat:Int)==(34:Int))=decide (c=34):=nR (n:=34) (by decide);have e2:((c.toNat:Int)==(92:Int))=decide (c=92):=nR (n:=92) (by decide);by_cases h34:c=34
   ·subst h34;rw[decide_eq_true rfl] at e1;go_wp2_with (first|((with_reducible refine bn (b:=.append) (xs:= #[.tmp 20,.tmp 21]) rfl ?_);at_builtin;go_loud (refine Kd.di (Kd.int .u8) (w0:=w) w.heap.size rfl (.tmp 20) (.tmp 21) 263 5 (.int .u8 0) 1 rfl underlying263 info5 rfl (by decide) (by omega) _ (fo _) (((92:UInt8)).toNat:Int) [.int .u8 92] (fun k=>k≠gB) (fun _=>False) rfl ?aX ?aP (fun _ hk=>hk.elim) ?aF HO.o HB.o HB.o.size ?aL ?_;(case aX=>first|rfl|(go_simp;done)|(go_simp;rfl));(case aP=>exact rfl);(case aF=>exact(fun k hk=>by have:=HL.o;omega));(case aL=>have:=HN.o;simp[fo];omega);intro v9 w9 ho hb hg hat;rw[<-eY] at ho;replace HB:=ai hb;replace HC:=ai (fun j hj=>(cell_grown hg (HC.o j hj) (fun e=>HO.o.1 _ e.symm rfl)));replace HO:=ai ho;replace HL:=ai (Nat.lt_of_lt_of_le HL.o hg.size);clear ho hb hg hat))|((with_reducible refine bn (b:=.append) (xs:= #[.tmp 23,.tmp 25]) rfl ?_);at_builtin;go_loud (refine Kd.di (Kd.int .u8) (w0:=w) w.heap.size rfl (.tmp 23) (.tmp 25) 263 5 (.int .u8 0) 1 rfl underlying263 info5 rfl (by decide) (by omega) _ (fo _) (((34:UInt8)).toNat:Int) [.int .u8 34] (fun k=>k≠gB) (fun _=>False) rfl ?aX ?aP (fun _ hk=>hk.elim) ?aF HO.o HB.o HB.o.size ?aL ?_;(case aX=>first|rfl|(go_simp;done)|(go_simp;rfl));(case aP=>exact rfl);(case aF=>exact(fun k hk=>by have:=HL.o;omega));(case aL=>have:=HN.o;simp[fo];omega);intro v9 w9 ho hb hg hat;rw[<-eY] at ho;replace HB:=ai hb;replace HC:=ai (fun j hj=>(cell_grown hg (HC.o j hj) (fun e=>HO.o.1 _ e.symm rfl)));replace HO:=ai ho;replace HL:=ai (Nat.lt_of_lt_of_le HL.o hg.size);clear ho hb hg hat)))
    go_roundg (gk-1)
    case measure=>have:=HN.o;omega
    case rel=>exact⟨i+1,acc++ [92]++ [34],⟨by have:=HN.o;omega,by have:=HN.o;omega,by rw[HT.o,HN.o.2.2.1];simp[*],by have:=HN.o;simp only[List.length_append,List.length_cons,List.length_nil];omega⟩,rfl,HO,HB,HC,HL⟩
   ·by_cases h92:c=92
    ·subst h92;rw[decide_eq_false h34] at e1;rw[decide_eq_true rfl] at e2;go_wp2_with (first|((with_reducible refine bn (b:=.append) (xs:= #[.tmp 20,.tmp 21]) rfl ?_);at_builtin;go_loud (refine Kd.di (Kd.int .u8) (w0:=w) w.heap.size rfl (.tmp 20) (.tmp 21) 263 5 (.int .u8 0) 1 rfl underlying263 info5 rfl (by decide) (by omega) _ (fo _) (((92:UInt8)).toNat:Int) [.int .u8 92] (fun k=>k≠gB) (fun _=>False) rfl ?aX ?aP (fun _ hk=>hk.elim) ?aF HO.o HB.o HB.o.size ?aL ?_;(case aX=>first|rfl|(go_simp;done)|(go_simp;rfl));(case aP=>exact rfl);(case aF=>exact(fun k hk=>by have:=HL.o;omega));(case aL=>have:=HN.o;simp[fo];omega);intro v9 w9 ho hb hg hat;rw[<-eY] at ho;replace HB:=ai hb;replace HC:=ai (fun j hj=>(cell_grown hg (HC.o j hj) (fun e=>HO.o.1 _ e.symm rfl)));replace HO:=ai ho;replace HL:=ai (Nat.lt_of_lt_of_le HL.o hg.size);clear ho hb hg hat))|((with_reducible refine bn (b:=.append) (xs:= #[.tmp 23,.tmp 25]) rfl ?_);at_builtin;go_loud (refine Kd.di (Kd.int .u8) (w0:=w) w.heap.size rfl (.tmp 23) (.tmp 25) 263 5 (.int .u8 0) 1 rfl underlying263 info5 rfl (by decide) (by omega) _ (fo _) (((92:UInt8)).toNat:Int) [.int .u8 92] (fun k=>k≠gB) (fun _=>False) rfl ?aX ?aP (fun _ hk=>hk.elim) ?aF HO.o HB.o HB.o.size ?aL ?_;(case aX=>first|rfl|(go_simp;done)|(go_simp;rfl));(case aP=>exact rfl);(case aF=>exact(fun k hk=>by have:=HL.o;omega));(case aL=>have:=HN.o;simp[fo];omega);intro v9 w9 ho hb hg hat;rw[<-eY] at ho;replace HB:=ai hb;replace HC:=ai (fun j hj=>(cell_grown hg (HC.o j hj) (fun e=>HO.o.1 _ e.symm rfl)));replace HO:=ai ho;replace HL:=ai (Nat.lt_of_lt_of_le HL.o hg.size);clear ho hb hg hat)))
     go_roundg (gk-1)
     case measure=>have:=HN.o;omega
     case rel=>exact⟨i+1,acc++ [92]++ [92],⟨by have:=HN.o;omega,by have:=HN.o;omega,by rw[HT.o,HN.o.2.2.1];simp[*],by have:=HN.o;simp only[List.length_append,List.length_cons,List.length_nil];omega⟩,rfl,HO,HB,HC,HL⟩
    ·rw[decide_eq_false h34] at e1;rw[decide_eq_false h92] at e2;go_wp2_with (first|((with_reducible refine bn (b:=.append) (xs:= #[.tmp 23,.tmp 25]) rfl ?_);at_builtin;go_loud (refine Kd.di (Kd.int .u8) (w0:=w) w.heap.size rfl (.tmp 23) (.tmp 25) 263 5 (.int .u8 0) 1 rfl underlying263 info5 rfl (by decide) (by omega) _ (fo _) ((c).toNat:Int) [.int .u8 (c.toNat:Int)] (fun k=>k≠gB) (fun _=>False) rfl ?aX ?aP (fun _ hk=>hk.elim) ?aF HO.o HB.o HB.o.size ?aL ?_;(case aX=>first|rfl|(go_simp;done)|(go_simp;rfl));(case aP=>exact rfl);(case aF=>exact(fun k hk=>by have:=HL.o;omega));(case aL=>have:=HN.o;simp[fo];omega);intro v9 w9 ho hb hg hat;rw[<-eY] at ho;replace HB:=ai hb;replace HC:=ai (fun j hj=>(cell_grown hg (HC.o j hj) (fun e=>HO.o.1 _ e.symm rfl)));replace HO:=ai ho;replace HL:=ai (Nat.lt_of_lt_of_le HL.o hg.size);clear ho hb hg hat)))
     go_roundg (gk-1)
     case measure=>have:=HN.o;omega
     case rel=>exact⟨i+1,acc++ [c],⟨by have:=HN.o;omega,by have:=HN.o;omega,by rw[HT.o,HN.o.2.2.1];simp[*],by have:=HN.o;simp only[List.length_append,List.length_cons,List.length_nil];omega⟩,rfl,HO,HB,HC,HL⟩
  ·have b1:decide ((i:Int)<(s.size:Int))=false:=decide_eq_false (by omega);have hi2:i=s.size:=by have:=HN.o;omega
   go_wp2_with (((with_reducible refine bn (b:=.append) (xs:= #[.tmp 28,.tmp 29]) rfl ?_);at_builtin;go_loud (refine Kd.di (Kd.int .u8) (w0:=w) w.heap.size rfl (.tmp 28) (.tmp 29) 263 5 (.int .u8 0) 1 rfl underlying263 info5 rfl (by decide) (by omega) _ (fo _) (((34:UInt8)).toNat:Int) [.int .u8 34] (fun k=>k≠gB) (fun _=>False) rfl ?aX ?aP (fun _ hk=>hk.elim) ?aF HO.o HB.o HB.o.size ?aL ?_;(case aX=>first|rfl|(go_simp;done)|(go_simp;rfl));(case aP=>exact rfl);(case aF=>exact(fun k hk=>by have:=HL.o;omega));(case aL=>have:=HN.o;simp[fo];omega);intro v9 w9 ho hb hg hat;rw[<-eY] at ho;replace HB:=ai hb;replace HC:=ai (fun j hj=>(cell_grown hg (HC.o j hj) (fun e=>HO.o.1 _ e.symm rfl)));replace HO:=ai ho;replace HL:=ai (Nat.lt_of_lt_of_le HL.o hg.size);clear ho hb hg hat));have hs2:=mY (P:=prog) underlying263 underlying5 underlying9 (Kd.lF HO.o);rw[vU] at hs2)
   go_ret;refine⟨?_,HB.o⟩;have ha:acc=34::gG s.data.toList:=by rw[HN.o.2.2.1,hi2,List.take_of_length_le (by simp)]
   rw[ha];rfl
end Go.Proofs.YtnmpijbcajclgaaGreatDoor.Mine
end
