/- Texts of one claim, one behind the other, made short by a program. -/
import Derived.Test.YtnmpijbcajclgaaGreatDoorMA8
import Derived.Maps.OwnSet
import Derived.Maps.RangeWalk
import Derived.DeepKeys4
set_option maxHeartbeats 8000000
set_option linter.unusedSimpArgs false
set_option linter.unusedVariables false
set_option maxRecDepth 100000
section
namespace Go.Proofs.YtnmpijbcajclgaaGreatDoor.Mine
open Tryz
open Go.RowKit YtnmpijbcajclgaaGreatDoorW.PrintWords YtnmpijbcajclgaaGreatDoorW.PrintLast YtnmpijbcajclgaaGreatDoorW.PrintMore
open PNodeAlone
def bQ(a:iZ)(p:iI):Bool:=
 if p.f1=1 then (a.f1==1)&&decide (a.f2<=p.f2)&&decide (p.f3<=a.f3)&&decide (p.f2<=p.f3)&&(p.f4.toList== [])
 else if p.f1=2∨(p.f1=3∧p.f4.toList≠ []) then (a.f1==2)&&(p.f2==0)&&(p.f3==0)&&jw p.f4
 else false
def qj(S:List iZ)(F:List iI)(i:Nat):Bool:=
 decide (0<=gN (F.getD i z168).f0 S)&& !((F.take i).any fun x=>x.f0.toList==(F.getD i z168).f0.toList)&&bQ (S.getD (gN (F.getD i z168).f0 S).toNat z30) (F.getD i z168)
def jq(S:List iZ)(F:List iI):Nat->Nat->Option Nat
 |0,_=>none
 |k+1,i=>if qj S F i then jq S F k (i+1) else some i
def cu(S:List iZ)(F:List iI):Option Nat:=if F.length<1∨4<F.length then some 0 else jq S F F.length 0
def fu(w:World)(S:List iZ)(F:List iI)(e:Ending)(w':World):Prop:=
 match cu S F with
 |none=>e=.returned .nilIface∧Below w.heap.size w w'
 |some i=>∃b,w.heap.size<=b∧e=.returned (.iface 178 (.pointer (some ⟨b,0,none⟩)))∧eU w' b ⟨#[118,97,108,117,101]⟩ (i:Int) 3∧Below w.heap.size w w'
theorem Oc{w w':World}{S:List iZ}{F:List iI}{e:Ending}{i:Nat}(h:cu S F=some i)(ho:∃b,w.heap.size<=b∧e=.returned (.iface 178 (.pointer (some ⟨b,0,none⟩)))∧eU w' b ⟨#[118,97,108,117,101]⟩ (i:Int) 3∧Below w.heap.size w w'):fu w S F e w':=by
 unfold fu;rw[h];exact ho
theorem Xd{w w':World}{S:List iZ}{F:List iI}{e:Ending}(h:cu S F=none)(ho:e=.returned .nilIface∧Below w.heap.size w w'):fu w S F e w':=by
 unfold fu;rw[h];exact ho
theorem Hg{α:Type}{d:Kd α}{w:World}{A:Option Addr}{n:Nat}{xs:List α}(h:Kd.C d w A n xs)(i:Nat)(hi:i<=n):Kd.C d w A i (xs.take i):=by
 refine⟨by rw[List.length_take];have:=h.1;omega,by have:=h.2.1;omega,fun h0=> ?_⟩;obtain⟨ad,e,hc⟩:=h.2.2 (by omega);refine⟨ad,e,fun j q hj=>hc j q ?_⟩;rw[List.getElem?_take] at hj;split at hj
 ·exact hj
 ·cases hj
theorem Ou{S:List iZ}{F:List iI}{i:Nat}(h:gN (F.getD i z168).f0 S<0):qj S F i=false:=by
 unfold qj;rw[decide_eq_false (by omega)];rfl
theorem Nr{S:List iZ}{F:List iI}{i:Nat}(h:((F.take i).any fun x=>x.f0.toList==(F.getD i z168).f0.toList)=true):qj S F i=false:=by
 unfold qj;rw[h];simp
theorem QQ{S:List iZ}{F:List iI}{i:Nat}(h0:0<=gN (F.getD i z168).f0 S)(h:((F.take i).any fun x=>x.f0.toList==(F.getD i z168).f0.toList)=false):qj S F i=bQ (S.getD (gN (F.getD i z168).f0 S).toNat z30) (F.getD i z168):=by
 unfold qj;rw[h,decide_eq_true h0];rfl
theorem yD{α:Type}(p:α->Bool):∀(l:List α) (i:Nat),idxFrom p l i<(i:Int)+l.length
 | [],i=>by simp only[idxFrom,List.length_nil];omega
 |x::r,i=>by
  unfold idxFrom;split
  ·simp only[List.length_cons];omega
  ·have:=yD p r (i+1);simp only[List.length_cons];omega
theorem tJ(nm:ByteArray)(L:List iZ):gN nm L<(L.length:Int):=by
 have:=yD (fun x:iZ=>x.f0.toList==nm.toList) L 0;unfold gN xM;omega
theorem oV(A B:Option Addr)(n m c d:Nat)(S:List iZ)(F:List iI)(w:World)(hn:S.length=n)(hm:F.length=m)(hr:Kd.C uM w A n S)(hr2:Kd.C pG w B m F)(hl:n<=100000)(hl2:m<=100000)(hcd:m<=d):
 Calls prog 84 #[.slice A n c,.slice B m d] w (fu w S F):=by
 have nO:=ai hr;have DX:=ai hr2;have HN:=ai hn;have HM:=ai hm;clear hr hr2 hn hm;by_cases hlen:m<1∨4<m
 ·have HB:=ai (fun e w' ho=>Oc (w:=w) (w':=w') (S:=S) (F:=F) (e:=e) (i:=0) (by unfold cu;rw[if_pos (by have:=HM.o;omega)]) ho);generalize fu w S F=Co at HB|-;by_cases h1:m<1
  ·have q1:decide ((m:Int)<1)=true:=decide_eq_true (by omega);clear hlen;obtain rfl:m=0:=by omega
   go_enter func84,ntmps84
   go_wp2_with fail
   refine(bL _ _ _).mono ?_;rintro e w1 ⟨b,h1,rfl,hf,hb⟩;go_wp2
   try go_ret
   exact HB.o _ _ ⟨b,h1,rfl,hf,hb⟩
  ·have q1:decide ((m:Int)<1)=false:=decide_eq_false (by omega);have q2:decide (4<(m:Int))=true:=decide_eq_true (by omega);clear hlen;go_enter func84,ntmps84
   go_wp2_with fail
   refine(bL _ _ _).mono ?_;rintro e w1 ⟨b,h1,rfl,hf,hb⟩;go_wp2
   try go_ret
   exact HB.o _ _ ⟨b,h1,rfl,hf,hb⟩
 ·have q1:decide ((m:Int)<1)=false:=decide_eq_false (by omega);have q2:decide (4<(m:Int))=false:=decide_eq_false (by omega);have FE:=ai (show cu S F=jq S F m 0 by unfold cu;rw[if_neg (by have:=HM.o;omega),HM.o]);have rY:=ai (fun i e w' h ho=>Oc (w:=w) (w':=w') (S:=S) (F:=F) (e:=e) (i:=i) h ho);have Nb:=ai (fun e w' h ho=>Xd (w:=w) (w':=w') (S:=S) (F:=F) (e:=e) h ho);generalize fu w S F=Co at rY Nb|-;clear hlen;go_enter func84,ntmps84
  go_wp2_with fail
  go_loopg [5,6,7,8,20,42,44,46] (m+1) (fun k v5 v6 v7 v8 v20 v42 v44 v46 W=>∃i:Nat,ay (i<=m∧k+i=m+1∧cu S F=jq S F (m-i) i)∧v20=.int .i64 (i:Int)∧ay (Below w.heap.size w W))
  case atStart=>exact⟨0,⟨by omega,by omega,FE.o⟩,rfl,⟨Below.refl _ _⟩⟩
  case round=>
   obtain⟨i,HI,rfl,HB⟩:=hrel;by_cases hi:i<m
   ·have b1:decide ((i:Int)<(m:Int))=true:=decide_eq_true (by omega);have b2:decide (i<m)=true:=decide_eq_true (by omega);have p1:(0:Int)<=(i:Int):=by omega
    have p2:(i:Int)<(m:Int):=by omega
    have hstep:jq S F (m-i) i=if qj S F i then jq S F (m-(i+1)) (i+1) else some i:=by
     rw[show m-i=(m-(i+1))+1 by omega];rfl
    have HST:=ai hstep;clear hstep;obtain⟨ad,e,h0,h1,h2,h3,h4⟩:=tL DX.o i p1 p2;cases e
    rw[Int.toNat_natCast] at h0 h1 h2 h3 h4;replace h0:=(HB.o.cell (World.block_lt_of_cell? w _ h0)).trans h0;replace h1:=(HB.o.cell (World.block_lt_of_cell? w _ h1)).trans h1;replace h2:=(HB.o.cell (World.block_lt_of_cell? w _ h2)).trans h2;replace h3:=(HB.o.cell (World.block_lt_of_cell? w _ h3)).trans h3;replace h4:=(HB.o.cell (World.block_lt_of_cell? w _ h4)).trans h4;have hrd:kZ F (i:Int)=F.getD i z168:=rfl;rw[hrd] at h0 h1 h2 h3 h4;obtain⟨p,hp⟩:∃p,p=F.getD i z168:=⟨_,rfl⟩
    rw[<-hp] at h0 h1 h2 h3 h4;have HP:=ai hp;clear hrd hp;go_wp2_with fail
    refine(oJ A n c S p.f0 _ HN.o (Kd.aY nO.o (ae HB.o _)) hl).mono ?_;rintro e w1 ⟨rfl,hb⟩;have hnew:=heap_alloc_new wr (.cells #[.string p.f0,.int .i64 p.f1,.int .i64 p.f2,.int .i64 p.f3,.string p.f4] 168 (0,0));have fI:=ai ((hb.block _ (aI hnew)).trans hnew);replace HB:=ai (aD (ae HB.o (.cells #[.string p.f0,.int .i64 p.f1,.int .i64 p.f2,.int .i64 p.f3,.string p.f4] 168)) (dX (ae HB.o _)) hb);clear hb hnew h0 h1 h2 h3 h4;generalize wr.heap.size=g6 at fI|-;have xG:=ai (tJ p.f0 S);obtain⟨kk,hkk⟩:∃k,k=gN p.f0 S:=⟨_,rfl⟩
    rw[<-hkk] at xG|-;have HK:=ai hkk;clear hkk;by_cases hneg:kk<0
    ·have n1:decide (kk<0)=true:=decide_eq_true hneg;have HE:=ai (fun e w' ho=>rY.o i e w' (by rw[HI.o.2.2,HST.o,Ou (by rw[<-HP.o,<-HK.o];exact hneg)];rfl) ho);clear hneg;go_wp2_with fail
     refine(bL _ _ _).mono ?_;rintro e w9 ⟨b,hbl,rfl,hf,hb⟩;have hfin:=HE.o _ _ ⟨b,Nat.le_trans HB.o.size hbl,rfl,hf,aD HB.o HB.o.size hb⟩;clear hf hb hbl;go_wp2
     try go_ret
     exact hfin
    ·have n1:decide (kk<0)=false:=decide_eq_false hneg;obtain⟨k,rfl⟩:=Int.eq_ofNat_of_zero_le (by omega:0<=kk);have hkn:k<n:=by have:=xG.o;have:=HN.o;omega
     have p3:(i:Int)<=(d:Int):=by omega
     have HC:=ai (fun W (hW:Below w.heap.size w W∧W.cell? ⟨g6,0,none⟩=some (.string p.f0))=>sK 148 #[.pointer (some ⟨g6,0,none⟩)] _ (some ad) i d (F.take i) W (enters_of func148 (by kernel_rfl) rfl) (by rw[List.length_take];have:=HM.o;omega) (Hg (Kd.aY DX.o hW.1) i (by omega)) (by omega) ((OT p.f0 g6 W hW.2).on _));have q0:=bK fI.o;clear hneg;go_wp2_with fail
     refine(HC.o _ ⟨HB.o,q0⟩).mono ?_;rintro e w2 ⟨rfl,hb⟩;replace fI:=bZ hb fI;replace HB:=dW HB hb;clear hb q0;clear HC;cases hany:((F.take i).any fun x=>x.f0.toList==p.f0.toList) with
     |true=>
      have HE:=ai (fun e w' ho=>rY.o i e w' (by rw[HI.o.2.2,HST.o,Nr (by rw[<-HP.o];exact hany)];rfl) ho);clear hany;go_wp2_with fail
      refine(bL _ _ _).mono ?_;rintro e w9 ⟨b,hbl,rfl,hf,hb⟩;have hfin:=HE.o _ _ ⟨b,Nat.le_trans HB.o.size hbl,rfl,hf,aD HB.o HB.o.size hb⟩;clear hf hb hbl;go_wp2
      try go_ret
      exact hfin
     |false=>
      obtain⟨a,ha⟩:∃a,a=S.getD k z30:=⟨_,rfl⟩
      have Dp:=ai (show qj S F i=bQ a p by rw[QQ (by rw[<-HP.o,<-HK.o];omega) (by rw[<-HP.o];exact hany),<-HP.o,<-HK.o,Int.toNat_natCast,ha]);clear hany;obtain⟨rR,e,s0,s1,s2,s3⟩:=qB (Kd.aY nO.o HB.o) (k:Int) (by omega) (by omega);cases e
      rw[Int.toNat_natCast] at s0 s1 s2 s3;have hrd:lS S (k:Int)=S.getD k z30:=rfl;rw[hrd,<-ha] at s0 s1 s2 s3;clear hrd ha;have y0:=bK fI.o;have y1:=bS fI.o;have y2:=dh fI.o;have y3:=dA fI.o;have y4:=dI fI.o;have pk0:(0:Int)<=(k:Int):=by omega
      have pk1:(k:Int)<(n:Int):=by omega
      by_cases hf1:p.f1=1
      ·have o1:(p.f1==1)=true:=by simpa using hf1
       have Qj:=ai hf1;clear hf1;by_cases t1:a.f1=1
       ·have e1:(a.f1==1)=true:=by simpa using t1
        by_cases t2:a.f2<=p.f2
        ·have e2:decide (a.f2<=p.f2)=true:=decide_eq_true t2;by_cases t3:p.f3<=a.f3
         ·have e3:decide (p.f3<=a.f3)=true:=decide_eq_true t3;by_cases t4:p.f2<=p.f3
          ·have e4:decide (p.f2<=p.f3)=true:=decide_eq_true t4;by_cases t5:p.f4.toList= []
           ·have e5:(p.f4.toList== [])=true:=by simpa using t5
            have hv:bQ a p=true:=by unfold bQ;rw[if_pos Qj.o,e1,e2,e3,e4,e5];rfl
            have HV:=ai hv;clear hv t1 t2 t3 t4;go_wp2_with fail
            go_quiet (fail)
            go_wp2_with fail
            go_roundg (gk-1)
            case measure=>have:=HI.o;omega
            case rel=>exact⟨i+1,⟨by omega,by have:=HI.o;omega,by rw[HI.o.2.2,HST.o,Dp.o,HV.o];rfl⟩,rfl,⟨ah HB.o _⟩⟩
           ·have e5:(p.f4.toList== [])=false:=by simpa using t5
            have hv:bQ a p=false:=by unfold bQ;rw[if_pos Qj.o,e1,e2,e3,e4,e5];rfl
            have HV:=ai hv;clear hv t1 t2 t3 t4;have HE:=ai (fun e w' ho=>rY.o i e w' (by rw[HI.o.2.2,HST.o,Dp.o,HV.o];rfl) ho);go_wp2_with fail
            go_quiet (fail)
            go_wp2_with fail
            refine(bL _ _ _).mono ?_;rintro e w9 ⟨b,hbl,rfl,hf,hb⟩;have hfin:=HE.o _ _ ⟨b,Nat.le_trans (ah HB.o _).size hbl,rfl,hf,aD (ah HB.o _) (ah HB.o _).size hb⟩;clear hf hb hbl;go_wp2
            try go_ret
            exact hfin
          ·have e4:decide (p.f2<=p.f3)=false:=decide_eq_false t4;have hv:bQ a p=false:=by unfold bQ;rw[if_pos Qj.o,e1,e2,e3,e4];rfl
           have HV:=ai hv;clear hv t1 t2 t3 t4;have HE:=ai (fun e w' ho=>rY.o i e w' (by rw[HI.o.2.2,HST.o,Dp.o,HV.o];rfl) ho);go_wp2_with fail
           go_quiet (fail)
           go_wp2_with fail
           refine(bL _ _ _).mono ?_;rintro e w9 ⟨b,hbl,rfl,hf,hb⟩;have hfin:=HE.o _ _ ⟨b,Nat.le_trans (ah HB.o _).size hbl,rfl,hf,aD (ah HB.o _) (ah HB.o _).size hb⟩;clear hf hb hbl;go_wp2
           try go_ret
           exact hfin
         ·have e3:decide (p.f3<=a.f3)=false:=decide_eq_false t3;have hv:bQ a p=false:=by unfold bQ;rw[if_pos Qj.o,e1,e2,e3];rfl
          have HV:=ai hv;clear hv t1 t2 t3;have HE:=ai (fun e w' ho=>rY.o i e w' (by rw[HI.o.2.2,HST.o,Dp.o,HV.o];rfl) ho);go_wp2_with fail
          go_quiet (fail)
          go_wp2_with fail
          refine(bL _ _ _).mono ?_;rintro e w9 ⟨b,hbl,rfl,hf,hb⟩;have hfin:=HE.o _ _ ⟨b,Nat.le_trans (ah HB.o _).size hbl,rfl,hf,aD (ah HB.o _) (ah HB.o _).size hb⟩;clear hf hb hbl;go_wp2
          try go_ret
          exact hfin
        ·have e2:decide (a.f2<=p.f2)=false:=decide_eq_false t2;have hv:bQ a p=false:=by unfold bQ;rw[if_pos Qj.o,e1,e2];rfl
         have HV:=ai hv;clear hv t1 t2;have HE:=ai (fun e w' ho=>rY.o i e w' (by rw[HI.o.2.2,HST.o,Dp.o,HV.o];rfl) ho);go_wp2_with fail
         go_quiet (fail)
         go_wp2_with fail
         refine(bL _ _ _).mono ?_;rintro e w9 ⟨b,hbl,rfl,hf,hb⟩;have hfin:=HE.o _ _ ⟨b,Nat.le_trans (ah HB.o _).size hbl,rfl,hf,aD (ah HB.o _) (ah HB.o _).size hb⟩;clear hf hb hbl;go_wp2
         try go_ret
         exact hfin
       ·have e1:(a.f1==1)=false:=by simpa using t1
        have hv:bQ a p=false:=by unfold bQ;rw[if_pos Qj.o,e1];rfl
        have HV:=ai hv;clear hv t1;have HE:=ai (fun e w' ho=>rY.o i e w' (by rw[HI.o.2.2,HST.o,Dp.o,HV.o];rfl) ho);go_wp2_with fail
        go_quiet (fail)
        go_wp2_with fail
        refine(bL _ _ _).mono ?_;rintro e w9 ⟨b,hbl,rfl,hf,hb⟩;have hfin:=HE.o _ _ ⟨b,Nat.le_trans (ah HB.o _).size hbl,rfl,hf,aD (ah HB.o _) (ah HB.o _).size hb⟩;clear hf hb hbl;go_wp2
        try go_ret
        exact hfin
      ·have o1:(p.f1==1)=false:=by simpa using hf1
       by_cases hf3:p.f1=3
       ·have o3:(p.f1==3)=true:=by simpa using hf3
        have o2:(p.f1==2)=false:=by rw[hf3];rfl
        by_cases hs5:p.f4.toList= []
        ·have q5:(p.f4.toList== [])=true:=by simpa using hs5
         have HV:=ai (show bQ a p=false by unfold bQ;rw[if_neg hf1,if_neg (by rw[hf3,hs5];simp)]);clear hf1 hf3;have HE:=ai (fun e w' ho=>rY.o i e w' (by rw[HI.o.2.2,HST.o,Dp.o,HV.o];rfl) ho);go_wp2_with fail
         refine(bL _ _ _).mono ?_;rintro e w9 ⟨b,hbl,rfl,hf,hb⟩;have hfin:=HE.o _ _ ⟨b,Nat.le_trans HB.o.size hbl,rfl,hf,aD HB.o HB.o.size hb⟩;clear hf hb hbl;go_wp2
         try go_ret
         exact hfin
        ·have q5:(p.f4.toList== [])=false:=by simpa using hs5
         have jy:=ai (show bQ a p=((a.f1==2)&&(p.f2==0)&&(p.f3==0)&&jw p.f4) by unfold bQ;rw[if_neg hf1,if_pos (Or.inr ⟨hf3,hs5⟩)]);clear hf1 hf3;by_cases t1:a.f1=2
         ·have e1:(a.f1==2)=true:=by simpa using t1
          by_cases t2:p.f2=0
          ·have e2:(p.f2==0)=true:=by simpa using t2
           by_cases t3:p.f3=0
           ·have e3:(p.f3==0)=true:=by simpa using t3
            cases t4:jw p.f4 with
            |true=>
             have HV:=ai (show bQ a p=true by rw[jy.o,e1,e2,e3,t4];rfl);have Sc:=ai t4;clear t1 t2 t3 t4;go_wp2_with fail
             refine(nX p.f4 _).mono ?_;rintro e w5 ⟨rfl,hb⟩;rw[Sc.o];replace HB:=dW HB hb;clear hb;go_wp2_with fail
             go_roundg (gk-1)
             case measure=>have:=HI.o;omega
             case rel=>exact⟨i+1,⟨by omega,by have:=HI.o;omega,by rw[HI.o.2.2,HST.o,Dp.o,HV.o];rfl⟩,rfl,HB⟩
            |false=>
             have HV:=ai (show bQ a p=false by rw[jy.o,e1,e2,e3,t4];rfl);have Sc:=ai t4;clear t1 t2 t3 t4;go_wp2_with fail
             refine(nX p.f4 _).mono ?_;rintro e w5 ⟨rfl,hb⟩;rw[Sc.o];replace HB:=dW HB hb;clear hb;have HE:=ai (fun e w' ho=>rY.o i e w' (by rw[HI.o.2.2,HST.o,Dp.o,HV.o];rfl) ho);go_wp2_with fail
             refine(bL _ _ _).mono ?_;rintro e w9 ⟨b,hbl,rfl,hf,hb⟩;have hfin:=HE.o _ _ ⟨b,Nat.le_trans HB.o.size hbl,rfl,hf,aD HB.o HB.o.size hb⟩;clear hf hb hbl;go_wp2
             try go_ret
             exact hfin
           ·have e3:(p.f3==0)=false:=by simpa using t3
            have HV:=ai (show bQ a p=false by rw[jy.o,e1,e2,e3];rfl);clear t1 t2 t3;have HE:=ai (fun e w' ho=>rY.o i e w' (by rw[HI.o.2.2,HST.o,Dp.o,HV.o];rfl) ho);go_wp2_with fail
            refine(bL _ _ _).mono ?_;rintro e w9 ⟨b,hbl,rfl,hf,hb⟩;have hfin:=HE.o _ _ ⟨b,Nat.le_trans HB.o.size hbl,rfl,hf,aD HB.o HB.o.size hb⟩;clear hf hb hbl;go_wp2
            try go_ret
            exact hfin
          ·have e2:(p.f2==0)=false:=by simpa using t2
           have HV:=ai (show bQ a p=false by rw[jy.o,e1,e2];rfl);clear t1 t2;have HE:=ai (fun e w' ho=>rY.o i e w' (by rw[HI.o.2.2,HST.o,Dp.o,HV.o];rfl) ho);go_wp2_with fail
           refine(bL _ _ _).mono ?_;rintro e w9 ⟨b,hbl,rfl,hf,hb⟩;have hfin:=HE.o _ _ ⟨b,Nat.le_trans HB.o.size hbl,rfl,hf,aD HB.o HB.o.size hb⟩;clear hf hb hbl;go_wp2
           try go_ret
           exact hfin
         ·have e1:(a.f1==2)=false:=by simpa using t1
          have HV:=ai (show bQ a p=false by rw[jy.o,e1];rfl);clear t1;have HE:=ai (fun e w' ho=>rY.o i e w' (by rw[HI.o.2.2,HST.o,Dp.o,HV.o];rfl) ho);go_wp2_with fail
          refine(bL _ _ _).mono ?_;rintro e w9 ⟨b,hbl,rfl,hf,hb⟩;have hfin:=HE.o _ _ ⟨b,Nat.le_trans HB.o.size hbl,rfl,hf,aD HB.o HB.o.size hb⟩;clear hf hb hbl;go_wp2
          try go_ret
          exact hfin
       ·have o3:(p.f1==3)=false:=by simpa using hf3
        by_cases hf2:p.f1=2
        ·have o2:(p.f1==2)=true:=by simpa using hf2
         have jy:=ai (show bQ a p=((a.f1==2)&&(p.f2==0)&&(p.f3==0)&&jw p.f4) by unfold bQ;rw[if_neg hf1,if_pos (Or.inl hf2)]);clear hf1 hf3 hf2;by_cases t1:a.f1=2
         ·have e1:(a.f1==2)=true:=by simpa using t1
          by_cases t2:p.f2=0
          ·have e2:(p.f2==0)=true:=by simpa using t2
           by_cases t3:p.f3=0
           ·have e3:(p.f3==0)=true:=by simpa using t3
            cases t4:jw p.f4 with
            |true=>
             have HV:=ai (show bQ a p=true by rw[jy.o,e1,e2,e3,t4];rfl);have Sc:=ai t4;clear t1 t2 t3 t4;go_wp2_with fail
             refine(nX p.f4 _).mono ?_;rintro e w5 ⟨rfl,hb⟩;rw[Sc.o];replace HB:=dW HB hb;clear hb;go_wp2_with fail
             go_roundg (gk-1)
             case measure=>have:=HI.o;omega
             case rel=>exact⟨i+1,⟨by omega,by have:=HI.o;omega,by rw[HI.o.2.2,HST.o,Dp.o,HV.o];rfl⟩,rfl,HB⟩
            |false=>
             have HV:=ai (show bQ a p=false by rw[jy.o,e1,e2,e3,t4];rfl);have Sc:=ai t4;clear t1 t2 t3 t4;go_wp2_with fail
             refine(nX p.f4 _).mono ?_;rintro e w5 ⟨rfl,hb⟩;rw[Sc.o];replace HB:=dW HB hb;clear hb;have HE:=ai (fun e w' ho=>rY.o i e w' (by rw[HI.o.2.2,HST.o,Dp.o,HV.o];rfl) ho);go_wp2_with fail
             refine(bL _ _ _).mono ?_;rintro e w9 ⟨b,hbl,rfl,hf,hb⟩;have hfin:=HE.o _ _ ⟨b,Nat.le_trans HB.o.size hbl,rfl,hf,aD HB.o HB.o.size hb⟩;clear hf hb hbl;go_wp2
             try go_ret
             exact hfin
           ·have e3:(p.f3==0)=false:=by simpa using t3
            have HV:=ai (show bQ a p=false by rw[jy.o,e1,e2,e3];rfl);clear t1 t2 t3;have HE:=ai (fun e w' ho=>rY.o i e w' (by rw[HI.o.2.2,HST.o,Dp.o,HV.o];rfl) ho);go_wp2_with fail
            refine(bL _ _ _).mono ?_;rintro e w9 ⟨b,hbl,rfl,hf,hb⟩;have hfin:=HE.o _ _ ⟨b,Nat.le_trans HB.o.size hbl,rfl,hf,aD HB.o HB.o.size hb⟩;clear hf hb hbl;go_wp2
            try go_ret
            exact hfin
          ·have e2:(p.f2==0)=false:=by simpa using t2
           have HV:=ai (show bQ a p=false by rw[jy.o,e1,e2];rfl);clear t1 t2;have HE:=ai (fun e w' ho=>rY.o i e w' (by rw[HI.o.2.2,HST.o,Dp.o,HV.o];rfl) ho);go_wp2_with fail
           refine(bL _ _ _).mono ?_;rintro e w9 ⟨b,hbl,rfl,hf,hb⟩;have hfin:=HE.o _ _ ⟨b,Nat.le_trans HB.o.size hbl,rfl,hf,aD HB.o HB.o.size hb⟩;clear hf hb hbl;go_wp2
           try go_ret
           exact hfin
         ·have e1:(a.f1==2)=false:=by simpa using t1
          have HV:=ai (show bQ a p=false by rw[jy.o,e1];rfl);clear t1;have HE:=ai (fun e w' ho=>rY.o i e w' (by rw[HI.o.2.2,HST.o,Dp.o,HV.o];rfl) ho);go_wp2_with fail
          refine(bL _ _ _).mono ?_;rintro e w9 ⟨b,hbl,rfl,hf,hb⟩;have hfin:=HE.o _ _ ⟨b,Nat.le_trans HB.o.size hbl,rfl,hf,aD HB.o HB.o.size hb⟩;clear hf hb hbl;go_wp2
          try go_ret
          exact hfin
        ·have o2:(p.f1==2)=false:=by simpa using hf2
         have HV:=ai (show bQ a p=false by unfold bQ;rw[if_neg hf1,if_neg (by rintro (h|h);exact hf2 h;exact hf3 h.1)]);clear hf1 hf3 hf2;have HE:=ai (fun e w' ho=>rY.o i e w' (by rw[HI.o.2.2,HST.o,Dp.o,HV.o];rfl) ho);go_wp2_with fail
         refine(bL _ _ _).mono ?_;rintro e w9 ⟨b,hbl,rfl,hf,hb⟩;have hfin:=HE.o _ _ ⟨b,Nat.le_trans HB.o.size hbl,rfl,hf,aD HB.o HB.o.size hb⟩;clear hf hb hbl;go_wp2
         try go_ret
         exact hfin
   ·have b1:decide ((i:Int)<(m:Int))=false:=decide_eq_false (by omega);have b2:decide (i<m)=false:=decide_eq_false (by omega);have hfin:=fun W=>Nb.o (.returned .nilIface) W (by rw[HI.o.2.2,show m-i=0 by omega];rfl)
    have Fx:=hfin _ ⟨rfl,HB.o⟩;clear hfin;go_wp2
    try go_ret
    exact Fx
abbrev SV:=LJ
abbrev SA:=iZ
abbrev SP:=iI
def xU(x:SV):Value:=.agg #[.int .i64 x.f0,.string x.f1]
def kR(A:Option Addr)(n c:Nat)(pay:ByteArray):Value:=.agg #[.slice A n c,.string pay]
def iT(a:SA)(v:SV):Bool:=
 if a.f1=1 then (v.f1.toList== [])&&(decide (a.f2<=v.f0)&&decide (v.f0<=a.f3))
 else (v.f0==0)&&jw v.f1
theorem Gd(a:SA)(v:SV)(w:World):Calls prog 156 #[jD a,xU v] w fun e w'=>e=.returned (.bool (iT a v))∧Below w.heap.size w w':=by
 unfold jD xU;by_cases t1:a.f1=1
 ·have o1:(a.f1==1)=true:=by simpa using t1
  have HV:=ai (show iT a v=((v.f1.toList== [])&&(decide (a.f2<=v.f0)&&decide (v.f0<=a.f3))) by unfold iT;rw[if_pos t1]);generalize iT a v=z at HV|-;clear t1;cases e1:(v.f1.toList== []) with
  |false=>
   have HZ:=ai (show z=false by rw[HV.o,e1];rfl);go_enter func156,ntmps156
   go_wp2;go_ret;exact⟨by rw[HZ.o];rfl,ae (ae (Below.refl _ _) _) _⟩
  |true=>
   by_cases t2:a.f2<=v.f0
   ·have e2:=decide_eq_true t2;by_cases t3:v.f0<=a.f3
    ·have e3:=decide_eq_true t3;have HZ:=ai (show z=true by rw[HV.o,e1,e2,e3];rfl);clear t2 t3;go_enter func156,ntmps156
     go_wp2;go_ret;exact⟨by rw[HZ.o];rfl,ae (ae (Below.refl _ _) _) _⟩
    ·have e3:=decide_eq_false t3;have HZ:=ai (show z=false by rw[HV.o,e1,e2,e3];rfl);clear t2 t3;go_enter func156,ntmps156
     go_wp2;go_ret;exact⟨by rw[HZ.o];rfl,ae (ae (Below.refl _ _) _) _⟩
   ·have e2:=decide_eq_false t2;have HZ:=ai (show z=false by rw[HV.o,e1,e2];rfl);clear t2;go_enter func156,ntmps156
    go_wp2;go_ret;exact⟨by rw[HZ.o];rfl,ae (ae (Below.refl _ _) _) _⟩
 ·have o1:(a.f1==1)=false:=by simpa using t1
  have HV:=ai (show iT a v=((v.f0==0)&&jw v.f1) by unfold iT;rw[if_neg t1]);generalize iT a v=z at HV|-;clear t1;cases e1:(v.f0==0) with
  |false=>
   have HZ:=ai (show z=false by rw[HV.o,e1];rfl);go_enter func156,ntmps156
   go_wp2;go_ret;exact⟨by rw[HZ.o];rfl,ae (ae (Below.refl _ _) _) _⟩
  |true=>
   have HZ:=ai (show z=jw v.f1 by rw[HV.o,e1];rfl);have HC:=ai (fun W=>nX v.f1 W);generalize jw v.f1=b at HZ HC;go_enter func156,ntmps156
   go_wp2_with fail
   refine(HC.o _).mono ?_;rintro e w1 ⟨rfl,hb⟩;go_wp2;go_ret;exact⟨by rw[HZ.o];rfl,aD (ae (ae (Below.refl _ _) _) _) (dX (ae (ae (Below.refl _ _) _) _)) hb⟩
def lT(S:List SA)(V:List SV):Nat->Nat->Option Nat
 |0,_=>none
 |k+1,i=>if iT (S.getD i z30) (V.getD i z37) then lT S V k (i+1) else some i
def dV(S:List SA)(V:List SV)(pay:ByteArray):Option Nat:=if V.length≠S.length∨200<pay.size then some 0 else lT S V S.length 0
def jR(w:World)(S:List SA)(V:List SV)(pay:ByteArray)(e:Ending)(w':World):Prop:=
 match dV S V pay with
 |none=>e=.returned .nilIface∧Below w.heap.size w w'
 |some i=>∃b,w.heap.size<=b∧e=.returned (.iface 178 (.pointer (some ⟨b,0,none⟩)))∧eU w' b ⟨#[118,97,108,117,101]⟩ (i:Int) 3∧Below w.heap.size w w'
theorem LX{w w':World}{S:List SA}{V:List SV}{pay:ByteArray}{e:Ending}{i:Nat}(h:dV S V pay=some i)(ho:∃b,w.heap.size<=b∧e=.returned (.iface 178 (.pointer (some ⟨b,0,none⟩)))∧eU w' b ⟨#[118,97,108,117,101]⟩ (i:Int) 3∧Below w.heap.size w w'):jR w S V pay e w':=by
 unfold jR;rw[h];exact ho
theorem XN{w w':World}{S:List SA}{V:List SV}{pay:ByteArray}{e:Ending}(h:dV S V pay=none)(ho:e=.returned .nilIface∧Below w.heap.size w w'):jR w S V pay e w':=by
 unfold jR;rw[h];exact ho
theorem jR.bad{w w':World}{S:List SA}{V:List SV}{pay:ByteArray}{e:Ending}{i:Nat}(h:jR w S V pay e w')(hb:dV S V pay=some i):∃b,w.heap.size<=b∧e=.returned (.iface 178 (.pointer (some ⟨b,0,none⟩)))∧eU w' b ⟨#[118,97,108,117,101]⟩ (i:Int) 3∧Below w.heap.size w w':=by
 unfold jR at h;rw[hb] at h;exact h
theorem jR.ok{w w':World}{S:List SA}{V:List SV}{pay:ByteArray}{e:Ending}(h:jR w S V pay e w')(hb:dV S V pay=none):e=.returned .nilIface∧Below w.heap.size w w':=by
 unfold jR at h;rw[hb] at h;exact h
theorem nE(A B:Option Addr)(n m c d:Nat)(S:List SA)(V:List SV)(pay:ByteArray)(w:World)(hn:S.length=n)(hm:V.length=m)(hr:Kd.C uM w A n S)(hr2:Kd.C Ci w B m V)(hl:n<=100000):
 Calls prog 94 #[.slice A n c,kR B m d pay] w (jR w S V pay):=by
 unfold kR;have nO:=ai hr;have jc:=ai hr2;have HN:=ai hn;have HM:=ai hm;clear hr hr2 hn hm;by_cases hlen:m≠n∨200<pay.size
 ·have HB:=ai (fun e w' ho=>LX (w:=w) (w':=w') (S:=S) (V:=V) (pay:=pay) (e:=e) (i:=0) (by unfold dV;rw[if_pos (by rw[HN.o,HM.o];exact hlen)]) ho);generalize jR w S V pay=Co at HB|-;by_cases h1:m=n
  ·have hp:200<pay.size:=by
    rcases hlen with h|h
    ·exact absurd h1 h
    ·exact h
   have q2:decide (200<(pay.size:Int))=true:=decide_eq_true (by omega);have V9:decide (200<pay.size)=true:=decide_eq_true hp;subst h1;clear hlen hp;go_enter func94,ntmps94
   go_wp2_with fail
   refine(bL _ _ _).mono ?_;rintro e w1 ⟨b,h1,rfl,hf,hb⟩;have hfin:=HB.o _ _ ⟨b,Nat.le_trans (dX (ae (Below.refl _ _) _)) h1,rfl,hf,aD (ae (Below.refl _ _) _) (dX (ae (Below.refl _ _) _)) hb⟩;go_wp2
   try go_ret
   exact hfin
  ·have q1:((m:Int) != (n:Int))=true:=by simp;omega
   have q1b:(m != n)=true:=by simpa using h1
   clear hlen h1;go_enter func94,ntmps94
   go_wp2_with fail
   refine(bL _ _ _).mono ?_;rintro e w1 ⟨b,h1,rfl,hf,hb⟩;have hfin:=HB.o _ _ ⟨b,Nat.le_trans (dX (ae (Below.refl _ _) _)) h1,rfl,hf,aD (ae (Below.refl _ _) _) (dX (ae (Below.refl _ _) _)) hb⟩;go_wp2
   try go_ret
   exact hfin
 ·have h1:m=n:=by omega
  have q2:decide (200<(pay.size:Int))=false:=decide_eq_false (by omega);have V9:decide (200<pay.size)=false:=decide_eq_false (by omega);have FE:=ai (show dV S V pay=lT S V n 0 by unfold dV;rw[if_neg (by rw[HN.o,HM.o];exact hlen),HN.o]);have rY:=ai (fun i e w' h ho=>LX (w:=w) (w':=w') (S:=S) (V:=V) (pay:=pay) (e:=e) (i:=i) h ho);have Nb:=ai (fun e w' h ho=>XN (w:=w) (w':=w') (S:=S) (V:=V) (pay:=pay) (e:=e) h ho);generalize jR w S V pay=Co at rY Nb|-;subst h1;clear hlen;go_enter func94,ntmps94
  go_wp2_with fail
  have HB:=ai (ae (Below.refl w.heap.size w) (.cells #[.slice B m d,.string pay] 40));have jC:=ai (show (w.alloc (.cells #[.slice B m d,.string pay] 40)).heap[w.heap.size]? =some (.cells #[.slice B m d,.string pay] 40 (0,0)) from heap_alloc_new w _);generalize w.alloc (.cells #[.slice B m d,.string pay] 40)=w0 at HB jC|-;obtain⟨ge,hge⟩:∃g,g=w.heap.size:=⟨_,rfl⟩
  rw[<-hge] at jC|-;clear hge;go_loopg [5,6,22] (m+1) (fun k v5 v6 v22 W=>∃i:Nat,ay (i<=m∧k+i=m+1∧dV S V pay=lT S V (m-i) i)∧v22=.int .i64 (i:Int)∧ay (Below w.heap.size w W)∧ay (W.heap[ge]? =some (.cells #[.slice B m d,.string pay] 40 (0,0))))
  case atStart=>exact⟨0,⟨by omega,by omega,FE.o⟩,rfl,HB,jC⟩
  case round=>
   clear HB jC;obtain⟨i,HI,rfl,HB,jC⟩:=hrel;by_cases hi:i<m
   ·have b1:decide ((i:Int)<(m:Int))=true:=decide_eq_true (by omega);have b2:decide (i<m)=true:=decide_eq_true (by omega);have p1:(0:Int)<=(i:Int):=by omega
    have p2:(i:Int)<(m:Int):=by omega
    have hstep:lT S V (m-i) i=if iT (S.getD i z30) (V.getD i z37) then lT S V (m-(i+1)) (i+1) else some i:=by
     rw[show m-i=(m-(i+1))+1 by omega];rfl
    obtain⟨ad,e,h0,h1,h2,h3⟩:=qB (Kd.aY nO.o HB.o) i p1 p2;cases e
    obtain⟨rR,e,k0,k1⟩:=C9 (Kd.aY jc.o HB.o) i p1 p2;cases e
    rw[Int.toNat_natCast] at h0 h1 h2 h3 k0 k1;have hrd:lS S (i:Int)=S.getD i z30:=rfl;have zx:uJ V (i:Int)=V.getD i z37:=rfl;rw[hrd] at h0 h1 h2 h3;rw[zx] at k0 k1;generalize S.getD i z30=a at h0 h1 h2 h3 hstep;generalize V.getD i z37=v at k0 k1 hstep;have HST:=ai hstep;clear hrd zx hstep;have xg:=ai (fun W=>Gd a v W);unfold jD xU at xg;have y0:=bK jC.o;cases lL:iT a v with
    |true=>
     rw[lL] at xg;rw[lL,if_pos rfl] at HST;clear lL;go_wp2_with fail
     generalize hW:wr.alloc (Obj.cells #[.string a.f0,.int .i64 a.f1,.int .i64 a.f2,.int .i64 a.f3] 30)=W2;have hb2:Below wr.heap.size wr W2:=by rw[<-hW];exact ae (Below.refl _ _) _
     have rQ:W2.heap[wr.heap.size]? =some (.cells #[.string a.f0,.int .i64 a.f1,.int .i64 a.f2,.int .i64 a.f3] 30 (0,0)):=by rw[<-hW];exact iX wr _
     have Me:=bZ hb2 jC;replace HB:=dW HB hb2;have r0:∀q:aW W2,q.w.cell? _=_:=fun q=>q.cell ((hb2.cell (World.block_lt_of_cell? wr _ k0)).trans k0)
     have r1:∀q:aW W2,q.w.cell? _=_:=fun q=>q.cell ((hb2.cell (World.block_lt_of_cell? wr _ k1)).trans k1)
     clear jC hW hb2 h0 h1 h2 h3 k0 k1 y0;generalize wr.heap.size=gp at rQ|-;have q0:∀q:aW W2,q.w.cell? ⟨gp,0,none⟩=some (.string a.f0):=fun q=>q.cell ((bK rQ))
     have q1:∀q:aW W2,q.w.cell? ⟨gp,1,none⟩=some (.int .i64 a.f1):=fun q=>q.cell ((bS rQ))
     have q2:∀q:aW W2,q.w.cell? ⟨gp,2,none⟩=some (.int .i64 a.f2):=fun q=>q.cell ((dh rQ))
     have q3:∀q:aW W2,q.w.cell? ⟨gp,3,none⟩=some (.int .i64 a.f3):=fun q=>q.cell ((dA rQ))
     have q5:∀q:aW W2,q.w.cell? ⟨ge,0,none⟩=some (.slice (some rR) m d):=fun q=>q.cell ((bK Me.o))
     clear rQ;refine wp_region_quiet_below (by kernel_rfl) (by kernel_rfl) ?_
     repeat(quiet_step ((go_at_call 156;(with_reducible refine Calls.dF (xg.o _)))))
     refine wpQuiet_nil ?_;rintro _ ⟨pq,rfl⟩;go_wp2_with fail
     go_roundg (gk-1)
     case measure=>have:=HI.o;omega
     case rel=>exact⟨i+1,⟨by omega,by have:=HI.o;omega,by rw[HI.o.2.2,HST.o]⟩,rfl,⟨aD HB.o HB.o.size pq.h⟩,⟨(pq.h.block _ (aI Me.o)).trans Me.o⟩⟩
    |false=>
     rw[lL] at xg;rw[lL,if_neg (by simp)] at HST;have HE:=ai (fun e w' ho=>rY.o i e w' (by rw[HI.o.2.2,HST.o]) ho);clear lL;go_wp2_with fail
     generalize hW:wr.alloc (Obj.cells #[.string a.f0,.int .i64 a.f1,.int .i64 a.f2,.int .i64 a.f3] 30)=W2;have hb2:Below wr.heap.size wr W2:=by rw[<-hW];exact ae (Below.refl _ _) _
     have rQ:W2.heap[wr.heap.size]? =some (.cells #[.string a.f0,.int .i64 a.f1,.int .i64 a.f2,.int .i64 a.f3] 30 (0,0)):=by rw[<-hW];exact iX wr _
     have Me:=bZ hb2 jC;replace HB:=dW HB hb2;have r0:∀q:aW W2,q.w.cell? _=_:=fun q=>q.cell ((hb2.cell (World.block_lt_of_cell? wr _ k0)).trans k0)
     have r1:∀q:aW W2,q.w.cell? _=_:=fun q=>q.cell ((hb2.cell (World.block_lt_of_cell? wr _ k1)).trans k1)
     clear jC hW hb2 h0 h1 h2 h3 k0 k1 y0;generalize wr.heap.size=gp at rQ|-;have q0:∀q:aW W2,q.w.cell? ⟨gp,0,none⟩=some (.string a.f0):=fun q=>q.cell ((bK rQ))
     have q1:∀q:aW W2,q.w.cell? ⟨gp,1,none⟩=some (.int .i64 a.f1):=fun q=>q.cell ((bS rQ))
     have q2:∀q:aW W2,q.w.cell? ⟨gp,2,none⟩=some (.int .i64 a.f2):=fun q=>q.cell ((dh rQ))
     have q3:∀q:aW W2,q.w.cell? ⟨gp,3,none⟩=some (.int .i64 a.f3):=fun q=>q.cell ((dA rQ))
     have q5:∀q:aW W2,q.w.cell? ⟨ge,0,none⟩=some (.slice (some rR) m d):=fun q=>q.cell ((bK Me.o))
     clear rQ;refine wp_region_quiet_below (by kernel_rfl) (by kernel_rfl) ?_
     repeat(quiet_step ((go_at_call 156;(with_reducible refine Calls.dF (xg.o _)))))
     refine wpQuiet_nil ?_;rintro _ ⟨pq,rfl⟩;go_wp2_with fail
     refine(bL _ _ _).mono ?_;rintro e w9 ⟨b,hbl,rfl,hf,hb⟩;have hb3:=aD HB.o HB.o.size pq.h;have hfin:=HE.o _ _ ⟨b,Nat.le_trans hb3.size hbl,rfl,hf,aD hb3 hb3.size hb⟩;clear hf hb hbl hb3;go_wp2
     try go_ret
     exact hfin
   ·have b1:decide ((i:Int)<(m:Int))=false:=decide_eq_false (by omega);have b2:decide (i<m)=false:=decide_eq_false (by omega);have hfin:=fun W=>Nb.o (.returned .nilIface) W (by rw[HI.o.2.2,show m-i=0 by omega];rfl)
    have Fx:=hfin _ ⟨rfl,HB.o⟩;clear hfin;go_wp2
    try go_ret
    exact Fx
theorem NL(s:ByteArray):∀(k i:Nat) (r:List UInt8),s.size-i=k->i<=s.size->ByteArray.toList.loop s i r=r.reverse++s.data.toList.drop i:=by
 intro k
 induction k with
 |zero=>
  intro i r h hi;rw[ByteArray.toList.loop.eq_1,if_neg (by omega)];have:s.data.toList.drop i= []:=List.drop_eq_nil_iff.2 (by rw[Array.length_toList];show s.size<=i;omega);rw[this,List.append_nil]
 |succ k ih=>
  intro i r h hi;rw[ByteArray.toList.loop.eq_1,if_pos (by omega),ih (i+1) _ (by omega) (by omega)];have hlt:i<s.data.toList.length:=by rw[Array.length_toList];show i<s.size;omega
  rw[List.drop_eq_getElem_cons hlt,List.reverse_cons,List.append_assoc]
  congr 1
  show [s.get! i]++_=_;have:s.get! i=s.data.toList[i]:=by
   have h2:i<s.data.size:=by rw[Array.length_toList] at hlt;exact hlt
   show s.data[i]! =_;rw[getElem!_pos s.data i h2,Array.getElem_toList]
  rw[this];rfl
theorem btl(s:ByteArray):s.toList=s.data.toList:=by
 have:=NL s s.size 0 [] (by omega) (Nat.zero_le _)
 simpa [ByteArray.toList] using this
theorem oD{S:List iZ}{F:List iI}:∀(k i:Nat),jq S F k i=none->∀j,i<=j->j<i+k->qj S F j=true
 |0,i,_,j,h1,h2=>by omega
 |k+1,i,h,j,h1,h2=>by
  unfold jq at h;split at h
  ·by_cases hj:j=i
   ·rw[hj];assumption
   ·exact oD k (i+1) h j (by omega) (by omega)
  ·cases h
theorem zu{α:Type}(p:α->Bool)(z:α):∀(l:List α) (i:Nat),0<=idxFrom p l i->∃k,idxFrom p l i=((i+k:Nat):Int)∧k<l.length∧p (l.getD k z)=true
 | [],i,h=>by simp only[idxFrom] at h;omega
 |x::r,i,h=>by
  unfold idxFrom at h|-;split
  ·exact⟨0,rfl,by simp,by simpa using ‹_›⟩
  ·rename_i hx
   rw[if_neg hx] at h;obtain⟨k,e,hk,hp⟩:=zu p z r (i+1) h;exact⟨k+1,by rw[e];congr 1;omega,by simpa using hk,by simpa using hp⟩
def fZ(S:List iZ)(s:ByteArray):List Pr ⊕ Int:=
 match fH s with
 | .inr z=>.inr z.2
 | .inl xs=>match cu S (xs.map toP) with
  |none=>.inl xs
  |some _=>.inr 3
def FP(w:World)(xs:List Pr)(e:Ending)(w':World):Prop:=∃v,e=.returned (.tuple #[v,.nilIface])∧Kd.R pG 168 w' w.heap.size (fun _=>True) v (xs.map toP)∧Below w.heap.size w w'
def Hr(w:World)(c:Int)(e:Ending)(w':World):Prop:=∃b n,e=.returned (.tuple #[.slice none 0 0,.iface 178 (.pointer (some ⟨b,0,none⟩))])∧eX w' c n (.iface 178 (.pointer (some ⟨b,0,none⟩)))∧Below w.heap.size w w'
def fC(w:World)(S:List iZ)(s:ByteArray)(e:Ending)(w':World):Prop:=
 match fZ S s with
 | .inl xs=>FP w xs e w'
 | .inr c=>Hr w c e w'
theorem fC.ok{w w':World}{S:List iZ}{s:ByteArray}{xs:List Pr}{e:Ending}(h:fC w S s e w')(hr:fZ S s=.inl xs):FP w xs e w':=by
 unfold fC at h;rw[hr] at h;exact h
theorem fC.no{w w':World}{S:List iZ}{s:ByteArray}{c:Int}{e:Ending}(h:fC w S s e w')(hr:fZ S s=.inr c):Hr w c e w':=by
 unfold fC at h;rw[hr] at h;exact h
theorem fC.V5{w w':World}{S:List iZ}{s:ByteArray}{xs:List Pr}{e:Ending}(hr:fZ S s=.inl xs)(h:FP w xs e w'):fC w S s e w':=by
 unfold fC;rw[hr];exact h
theorem fC.WS{w w':World}{S:List iZ}{s:ByteArray}{c:Int}{e:Ending}(hr:fZ S s=.inr c)(h:Hr w c e w'):fC w S s e w':=by
 unfold fC;rw[hr];exact h
theorem Eu{s:ByteArray}{z:Int×Int}(h:fH s=.inr z):(z.2==3)=false:=by
 unfold fH at h;split at h
 ·injection h with h;subst h;rfl
 ·split at h
  ·cases h
  ·injection h with h;subst h;rfl
theorem fu.bad{w w':World}{S:List iZ}{F:List iI}{e:Ending}{i:Nat}(h:fu w S F e w')(hb:cu S F=some i):∃b,w.heap.size<=b∧e=.returned (.iface 178 (.pointer (some ⟨b,0,none⟩)))∧eU w' b ⟨#[118,97,108,117,101]⟩ (i:Int) 3∧Below w.heap.size w w':=by
 unfold fu at h;rw[hb] at h;exact h
theorem fu.ok{w w':World}{S:List iZ}{F:List iI}{e:Ending}(h:fu w S F e w')(hb:cu S F=none):e=.returned .nilIface∧Below w.heap.size w w':=by
 unfold fu at h;rw[hb] at h;exact h
theorem sH(A:Option Addr)(n c:Nat)(S:List iZ)(s:ByteArray)(w:World)(hn:S.length=n)(hr:Kd.C uM w A n S)(hl:n<=100000)(hs:s.size<=1000):
 Calls prog 41 #[.slice A n c,.string s] w (fC w S s):=by
 have nO:=ai hr;have HN:=ai hn;clear hr hn;have gI:=ai (fun xs e w' h ho=>fC.V5 (w:=w) (w':=w') (S:=S) (s:=s) (xs:=xs) (e:=e) h ho);have FL:=ai (fun c e w' h ho=>fC.WS (w:=w) (w':=w') (S:=S) (s:=s) (c:=c) (e:=e) h ho);generalize fC w S s=Co at gI FL|-;go_enter func41,ntmps41
 go_wp2_with fail
 refine(Qo s _ hs).mono ?_;rintro e w1 hp;cases hpr:fH s with
 |inr z=>
  have h3:=Eu hpr;obtain⟨at_,cd⟩:=z;simp only at h3;obtain⟨b,hbl,rfl,hf,hb1⟩:=hp.no hpr;have HR:=ai (show fZ S s=.inr cd by unfold fZ;rw[hpr]);have HF:=ai hf;have HB:=ai hb1;clear hp hpr hf hb1 hbl;go_wp2_with fail
  refine(M0 cd 3 1 _ _ (eU.zH HF.o)).mono ?_;rintro e w2 ⟨rfl,rfl⟩;rw[h3];have hfin:=FL.o cd _ _ HR.o ⟨b,1,rfl,eU.zH HF.o,HB.o⟩;go_wp2
  first
   |exact hfin
   |(
    go_ret2
    exact hfin)
 |inl xs=>
  obtain⟨v1,rfl,ho,hb1⟩:=hp.ok hpr;obtain⟨A1,c1,rfl,hc1,VM⟩:=Kd.bB ho;have lx:(xs.map toP).length<=301:=by simpa using lG hpr
  have HB:=ai hb1;have HO:=ai ho;have o9:=ai VM;have BO:=ai hpr;clear hp hpr ho hb1 VM;obtain⟨n1,hn⟩:∃n,(xs.map toP).length=n:=⟨_,rfl⟩
  have QT:=ai hn;rw[hn] at o9 HO hc1 lx|-;clear hn;go_wp2_with fail
  refine(oV A A1 n n1 c c1 S (xs.map toP) _ HN.o QT.o (Kd.aY nO.o HB.o) o9.o hl (by omega) hc1).mono ?_;rintro e w2 hq;cases lL:cu S (xs.map toP) with
  |some i=>
   obtain⟨b,hbl,rfl,hf,hb2⟩:=hq.bad lL;have HR:=ai (show fZ S s=.inr 3 by unfold fZ;rw[BO.o];simp only[lL]);have HF:=ai hf;replace HB:=dW HB hb2;clear hq lL hf hb2 hbl HO o9;go_wp2_with fail
   refine(M0 3 3 1 _ _ (eU.zH HF.o)).mono ?_;rintro e w3 ⟨rfl,rfl⟩;have hnew:=heap_alloc_new w2 (.cells #[.string BJ,.int .i64 0,.iface 178 (.pointer (some ⟨b,0,none⟩))] 180 (0,0));have hfin:=FL.o 3 _ _ HR.o ⟨w2.heap.size,2,rfl,⟨w2.heap.size,BJ,0,_,rfl,hnew,eU.zH (eU.keep HF.o (ae (Below.refl _ _) _))⟩,ae HB.o _⟩;clear hnew;go_wp2
   first
    |exact hfin
    |(
     go_ret2
     exact hfin)
  |none=>
   obtain⟨rfl,hb2⟩:=hq.ok lL;have HR:=ai (show fZ S s=.inl xs by unfold fZ;rw[BO.o];simp only[lL]);replace HO:=lV HO hb2;replace HB:=dW HB hb2;clear hq lL hb2 o9;go_wp2_with fail
   refine(TP 3 _).mono ?_;rintro e w3 ⟨rfl,rfl⟩;have hfin:=gI.o xs _ _ HR.o ⟨_,rfl,HO.o,HB.o⟩;go_wp2
   first
    |exact hfin
    |(
     go_ret2
     exact hfin)
def preB(s p:ByteArray):Bool:=decide (p.size<=s.size)&&((s.extract 0 p.size).toList==p.toList)
theorem Gu(s p:ByteArray)(w:World):Calls prog 254 #[.string s,.string p] w fun e w'=>e=.returned (.bool (preB s p))∧w=w':=by
 by_cases h:p.size<=s.size
 ·have b1:decide ((p.size:Int)<=(s.size:Int))=true:=decide_eq_true (by omega);have b2:decide (p.size<=s.size)=true:=decide_eq_true h;have p1:(p.size:Int)<=(s.size:Int):=by omega
  have HV:=ai (show preB s p=((s.extract 0 p.size).toList==p.toList) by unfold preB;rw[b2];rfl);generalize preB s p=z at HV|-;clear h;go_enter func254,ntmps254
  go_wp2;go_ret;exact⟨by rw[HV.o];rfl,rfl⟩
 ·have b1:decide ((p.size:Int)<=(s.size:Int))=false:=decide_eq_false (by omega);have b2:decide (p.size<=s.size)=false:=decide_eq_false h;have HV:=ai (show preB s p=false by unfold preB;rw[b2];rfl);generalize preB s p=z at HV|-;clear h;go_enter func254,ntmps254
  go_wp2;go_ret;exact⟨by rw[HV.o];rfl,rfl⟩
theorem Cx(s p:ByteArray)(w:World):Calls prog 246 #[.string s,.string p] w fun e w'=>e=.returned (.bool (preB s p))∧w=w':=by
 have HC:=ai (fun W=>Gu s p W);generalize preB s p=z at HC|-;go_enter func246,ntmps246
 go_wp2_with fail
 refine(HC.o _).mono ?_;rintro e w1 ⟨rfl,rfl⟩;go_wp2;go_ret;exact⟨rfl,rfl⟩
def eP(p:SP)(v:SV):Bool:=
 if p.f1=1 then decide (p.f2<=v.f0)&&decide (v.f0<=p.f3)
 else if p.f1=2 then v.f1.toList==p.f4.toList
 else preB v.f1 p.f4
theorem EW(p:SP)(v:SV)(w:World):Calls prog 225 #[lK p,xU v] w fun e w'=>e=.returned (.bool (eP p v))∧Below w.heap.size w w':=by
 unfold lK xU;by_cases t1:p.f1=1
 ·have o1:(p.f1==1)=true:=by simpa using t1
  have HV:=ai (show eP p v=(decide (p.f2<=v.f0)&&decide (v.f0<=p.f3)) by unfold eP;rw[if_pos t1]);generalize eP p v=z at HV|-;clear t1;by_cases t2:p.f2<=v.f0
  ·have e2:=decide_eq_true t2;have HZ:=ai (show z=decide (v.f0<=p.f3) by rw[HV.o,e2];rfl);clear t2;cases e3:decide (v.f0<=p.f3) with
   |true=>
    rw[e3] at HZ;go_enter func225,ntmps225
    go_wp2;go_ret;exact⟨by rw[HZ.o];first|rfl|simp,ae (ae (Below.refl _ _) _) _⟩
   |false=>
    rw[e3] at HZ;go_enter func225,ntmps225
    go_wp2;go_ret;exact⟨by rw[HZ.o];first|rfl|simp,ae (ae (Below.refl _ _) _) _⟩
  ·have e2:=decide_eq_false t2;have HZ:=ai (show z=false by rw[HV.o,e2];rfl);clear t2;go_enter func225,ntmps225
   go_wp2;go_ret;exact⟨by rw[HZ.o];first|rfl|simp,ae (ae (Below.refl _ _) _) _⟩
 ·have o1:(p.f1==1)=false:=by simpa using t1
  by_cases t2:p.f1=2
  ·have o2:(p.f1==2)=true:=by simpa using t2
   have HZ:=ai (show eP p v=(v.f1.toList==p.f4.toList) by unfold eP;rw[if_neg t1,if_pos t2]);generalize eP p v=z at HZ|-;clear t1 t2;cases e1:(v.f1.toList==p.f4.toList) with
   |true=>
    rw[e1] at HZ;go_enter func225,ntmps225
    go_wp2;go_ret;exact⟨by rw[HZ.o];first|rfl|simp,ae (ae (Below.refl _ _) _) _⟩
   |false=>
    rw[e1] at HZ;go_enter func225,ntmps225
    go_wp2;go_ret;exact⟨by rw[HZ.o];first|rfl|simp,ae (ae (Below.refl _ _) _) _⟩
  ·have o2:(p.f1==2)=false:=by simpa using t2
   have HZ:=ai (show eP p v=preB v.f1 p.f4 by unfold eP;rw[if_neg t1,if_neg t2]);have HC:=ai (fun W=>Cx v.f1 p.f4 W);generalize eP p v=z at HZ|-;generalize preB v.f1 p.f4=z2 at HZ HC;clear t1 t2;go_enter func225,ntmps225
   go_wp2_with fail
   refine(HC.o _).mono ?_;rintro e w1 ⟨rfl,rfl⟩;go_wp2;go_ret;exact⟨by rw[HZ.o];rfl,ae (ae (Below.refl _ _) _) _⟩
theorem qH{S:List SA}{F:List SP}(h:cu S F=none):∀p∈F,0<=gN p.f0 S:=by
 unfold cu at h;split at h
 ·cases h
 ·intro p hp;obtain⟨i,hi,rfl⟩:=List.getElem_of_mem hp;have:=oD F.length 0 h i (Nat.zero_le _) (by omega);have e:F.getD i z168=F[i]:=by rw[List.getD_eq_getElem?_getD,List.getElem?_eq_getElem hi];rfl
  unfold qj at this;rw[e] at this;simp only[Bool.and_eq_true,decide_eq_true_eq] at this;exact this.1.1
theorem Ka(A B:Option Addr)(n m c d ge gs:Nat)(S:List SA)(V:List SV)(F:List SP)(pay:ByteArray)(w:World)(hn:S.length=n)(hm:V.length=n)(hmm:m=n)(hl:n<=100000)(hr:Kd.C uM w A n S)(hr2:Kd.C Ci w B n V)
 (hge:w.heap[ge]? =some (.cells #[.slice B m d,.string pay] 40 (0,0))) (hgs:w.heap[gs]? =some (.cells #[.slice A n c] 32 (0,0))) (hf:∀p∈F,0<=gN p.f0 S):
 Ap 224 #[.pointer (some ⟨ge,0,none⟩),.pointer (some ⟨gs,0,none⟩)] lK (fun p=> !eP p (V.getD (gN p.f0 S).toNat z37)) w F:=fun W p hp hb=>by
 subst hmm;have HS:=ai (Kd.aY hr hb);have HV:=ai (Kd.aY hr2 hb);have Pq:=ai ((hb.block _ (aI hge)).trans hge);have ZA:=ai ((hb.block _ (aI hgs)).trans hgs);obtain⟨k,hk⟩:=Int.eq_ofNat_of_zero_le (hf p hp);have hkn:k<m:=by have:=tJ p.f0 S;omega
 have HN:=ai hn;have HK:=ai hk;clear hr hr2 hge hgs hf hp hb hm hn hk;show Calls _ _ (#[lK p]++_) W fun e w'=>e=.returned (.bool (!eP p (V.getD (gN p.f0 S).toNat z37)))∧Below W.heap.size W w'
 rw[HK.o,Int.toNat_natCast];obtain⟨v,hv⟩:∃v,v=V.getD k z37:=⟨_,rfl⟩
 rw[<-hv];have Xa:=ai hv;clear hv;have Rq:=ai (fun W=>EW p v W);generalize eP p v=z at Rq|-;show Calls _ _ #[lK p,.pointer (some ⟨ge,0,none⟩),.pointer (some ⟨gs,0,none⟩)] W _;unfold lK xU at Rq;unfold lK;go_enter func224,ntmps224
 go_wp2_with fail
 generalize hW:W.alloc (Obj.cells #[.string p.f0,.int .i64 p.f1,.int .i64 p.f2,.int .i64 p.f3,.string p.f4] 168)=W2;have hb2:Below W.heap.size W W2:=by rw[<-hW];exact ae (Below.refl _ _) _
 have rQ:W2.heap[W.heap.size]? =some (.cells #[.string p.f0,.int .i64 p.f1,.int .i64 p.f2,.int .i64 p.f3,.string p.f4] 168 (0,0)):=by rw[<-hW];exact iX W _
 have Wu:=(hb2.block _ (aI Pq.o)).trans Pq.o;have Xp:=(hb2.block _ (aI ZA.o)).trans ZA.o;have HS2:=ai (Kd.aY HS.o hb2);have HB:=ai hb2;obtain⟨rR,e,k0,k1⟩:=C9 (Kd.aY HV.o hb2) (k:Int) (by omega) (by omega);rw[Int.toNat_natCast] at k0 k1;have hrd:uJ V (k:Int)=V.getD k z37:=rfl;rw[hrd,<-Xa.o] at k0 k1;cases e
 clear hW Pq ZA HS HV hb2 hrd;generalize W.heap.size=gp at rQ|-;have q0:∀q:aW W2,q.w.cell? ⟨gp,0,none⟩=some (.string p.f0):=fun q=>q.cell ((bK rQ))
 have q1:∀q:aW W2,q.w.cell? ⟨gp,1,none⟩=some (.int .i64 p.f1):=fun q=>q.cell ((bS rQ))
 have q2:∀q:aW W2,q.w.cell? ⟨gp,2,none⟩=some (.int .i64 p.f2):=fun q=>q.cell ((dh rQ))
 have q3:∀q:aW W2,q.w.cell? ⟨gp,3,none⟩=some (.int .i64 p.f3):=fun q=>q.cell ((dA rQ))
 have q4:∀q:aW W2,q.w.cell? ⟨gp,4,none⟩=some (.string p.f4):=fun q=>q.cell ((dI rQ))
 have q5:∀q:aW W2,q.w.cell? ⟨ge,0,none⟩=some (.slice (some rR) m d):=fun q=>q.cell ((bK Wu))
 have q6:∀q:aW W2,q.w.cell? ⟨gs,0,none⟩=some (.slice A m c):=fun q=>q.cell ((bK Xp))
 have r0:∀q:aW W2,q.w.cell? _=_:=fun q=>q.cell k0
 have r1:∀q:aW W2,q.w.cell? _=_:=fun q=>q.cell k1
 have xg:=ai (fun q:aW W2=>oJ A m c S p.f0 q.w HN.o (Kd.aY HS2.o q.h) hl);rw[HK.o] at xg;have p1:(0:Int)<=(k:Int):=by omega
 have p2:(k:Int)<(m:Int):=by omega
 clear rQ Wu Xp HS2 k0 k1 HK Xa;refine wp_region_quiet_below (by kernel_rfl) (by kernel_rfl) ?_
 repeat(quiet_step (first|(go_at_call 88;(with_reducible refine Calls.dF (xg.o _)))|(go_at_call 225;(with_reducible refine Calls.dF (Rq.o _)))))
 refine wpQuiet_nil ?_;rintro _ ⟨pq,rfl⟩;go_wp2;go_ret;exact⟨rfl,aD HB.o HB.o.size pq.h⟩
def gL(S:List SA)(F:List SP)(V:List SV)(pay:ByteArray):Bool:=
 (cu S F).isNone&&((dV S V pay).isNone&&F.all fun p=>eP p (V.getD (gN p.f0 S).toNat z37))
theorem nT{S:List SA}{V:List SV}{pay:ByteArray}(h:dV S V pay=none):V.length=S.length:=by
 unfold dV at h;split at h
 ·cases h
 ·omega
theorem QF{α:Type}(p:α->Bool)(l:List α):l.all p= !(l.any fun x=> !p x):=by
 induction l with
 |nil=>rfl
 |cons x r ih=>rw[List.all_cons,List.any_cons,ih];cases p x<;>simp
theorem DN(A B E:Option Addr)(n m c d k e0:Nat)(S:List SA)(F:List SP)(V:List SV)(pay:ByteArray)(w:World)(hn:S.length=n)(hm:F.length=m)(hk:V.length=k)(hr:Kd.C uM w A n S)(hr2:Kd.C pG w B m F)(hr3:Kd.C Ci w E k V)(hl:n<=100000)(hl2:m<=100000)(hcd:m<=d):
 Calls prog 168 #[.slice A n c,.slice B m d,kR E k e0 pay] w fun e w'=>e=.returned (.bool (gL S F V pay))∧Below w.heap.size w w':=by
 have HS:=ai hr;have HF:=ai hr2;have HV:=ai hr3;have HN:=ai hn;have HM:=ai hm;have HK:=ai hk;have HZ:=ai (show gL S F V pay=((cu S F).isNone&&((dV S V pay).isNone&&F.all fun p=>eP p (V.getD (gN p.f0 S).toNat z37))) from rfl);generalize gL S F V pay=z at HZ|-;clear hr hr2 hr3 hn hm hk;have F5:=ai (fun W (h1:Kd.C uM W A n S) (h2:Kd.C Ci W E k V)=>nE A E n k c e0 S V pay W HN.o HK.o h1 h2 hl);unfold kR at F5|-;go_enter func168,ntmps168
 go_wp2_with fail
 have hb0:=ae (ae (Below.refl w.heap.size w) (.cells #[.slice A n c] 32)) (.cells #[.slice E k e0,.string pay] 40);have hs1:(w.alloc (.cells #[.slice A n c] 32)).heap.size=w.heap.size+1:=by show (w.heap.push _).size=_;exact Array.size_push _
 have hgs:=(Below.heap_alloc (w.alloc (.cells #[.slice A n c] 32)) (.cells #[.slice E k e0,.string pay] 40) w.heap.size (by rw[hs1];omega)).trans (heap_alloc_new w _);have hge:=heap_alloc_new (w.alloc (.cells #[.slice A n c] 32)) (.cells #[.slice E k e0,.string pay] 40);rw[hs1] at hge;have HB:=ai hb0;have KS:=ai hgs;have KE:=ai hge;clear hs1 hgs hge hb0;generalize (w.alloc (.cells #[.slice A n c] 32)).alloc (.cells #[.slice E k e0,.string pay] 40)=w0 at HB KS KE|-;obtain⟨gs,hgs⟩:∃g,g=w.heap.size:=⟨_,rfl⟩
 obtain⟨ge,hge⟩:∃g,g=w.heap.size+1:=⟨_,rfl⟩
 rw[<-hgs] at KS;rw[<-hge] at KE;rw[<-hge,<-hgs];clear hgs hge;refine(oV A B n m c d S F _ HN.o HM.o (Kd.aY HS.o HB.o) (Kd.aY HF.o HB.o) hl hl2 hcd).mono ?_;rintro e w1 hq;cases lL:cu S F with
 |some i=>
  obtain⟨b,hbl,rfl,hf,hb⟩:=hq.bad lL;have HZ2:=ai (show z=false by rw[HZ.o,lL];rfl);replace HB:=dW HB hb;clear hb hq lL hf hbl;go_wp2;go_ret;exact⟨by rw[HZ2.o];rfl,HB.o⟩
 |none=>
  obtain⟨rfl,hb⟩:=hq.ok lL;have FE:=ai lL;replace HB:=dW HB hb;replace KS:=bZ hb KS;replace KE:=bZ hb KE;clear hb hq lL;have y0:=bK KS.o;have y1:=bK KE.o;have y2:=bS KE.o;go_wp2_with fail
  refine(F5.o _ (Kd.aY HS.o HB.o) (Kd.aY HV.o HB.o)).mono ?_;rintro e w2 hq;cases heb:dV S V pay with
  |some i=>
   obtain⟨b,hbl,rfl,hf,hb⟩:=hq.bad heb;have HZ2:=ai (show z=false by rw[HZ.o,FE.o,heb];rfl);replace HB:=dW HB hb;clear hb hq heb hf hbl y0 y1 y2;go_wp2;go_ret;exact⟨by rw[HZ2.o];rfl,HB.o⟩
  |none=>
   obtain⟨rfl,hb⟩:=hq.ok heb;have hlen:=nT heb;have hkn:k=n:=by have:=HK.o;have:=HN.o;omega
   have HZ2:=ai (show z= !(F.any fun p=> !eP p (V.getD (gN p.f0 S).toNat z37)) by rw[HZ.o,FE.o,heb,QF];rfl);replace HB:=dW HB hb;replace KS:=bZ hb KS;replace KE:=bZ hb KE;clear hb hq heb y0 y1 y2;have Xa:Kd.C Ci w E n V:=by rw[<-hkn];exact HV.o
   have HC:=ai (sK 224 #[.pointer (some ⟨ge,0,none⟩),.pointer (some ⟨gs,0,none⟩)] _ B m d F w2 (enters_of func224 (by kernel_rfl) rfl) HM.o (Kd.aY HF.o HB.o) hl2 (Ka A E n k c e0 ge gs S V F pay w2 HN.o (by rw[HK.o];exact hkn) hkn hl (Kd.aY HS.o HB.o) (Kd.aY Xa HB.o) KE.o KS.o (qH FE.o)));generalize (F.any fun p=> !eP p (V.getD (gN p.f0 S).toNat z37))=b at HC HZ2;clear Xa hkn hlen;go_wp2_with fail
   refine HC.o.mono ?_;rintro e w3 ⟨rfl,hb⟩;have n_:=dW HB hb;clear HB hb;go_wp2;go_ret;exact⟨by rw[HZ2.o];rfl,n_.o⟩
structure oN where
 id:Int
 F:List SP
structure z8 where
 seq:Int
 V:List SV
 pay:ByteArray
structure wS where
 sub:Int
 fG:Int
 seq:Int
 V:List SV
 pay:ByteArray
structure Nd where
 addr:Int
 subs:List oN
 last:Int
 inbox:List wS
 opn:List z8
 seq:Int
 lost:Int
def Nd.new(a:Int):Nd:=⟨a,[],0,[],[],0,0⟩
def Nd.sub(N:Nd)(F:List SP):Nd:={N with subs:=N.subs++ [⟨N.last+1,F⟩],last:=N.last+1}
def Nd.fG(N:Nd)(V:List SV)(pay:ByteArray):Nd:={N with opn:=N.opn++ [⟨N.seq+1,V,pay⟩],seq:=N.seq+1}
def jQ(S:List SA)(fG:Int)(e:z8):List oN->List wS×Int->List wS×Int
 | [],x=>x
 |s::r,(b,l)=>jQ S fG e r (if gL S s.F e.V e.pay=true then (if b.length<64 then (b++ [⟨s.id,fG,e.seq,e.V,e.pay⟩],l) else (b,l+1)) else (b,l))
def Nd.uV(S:List SA)(N:Nd)(e:z8):Nd:={N with inbox:=(jQ S N.addr e N.subs (N.inbox,N.lost)).1,lost:=(jQ S N.addr e N.subs (N.inbox,N.lost)).2}
def Nd.come(S:List SA)(N:Nd):List z8->Nd
 | []=>N
 |e::r=>(N.uV S e).come S r
def Nd.tick(S:List SA)(N:Nd):Nd:={N.come S N.opn with opn:= []}
def Nd.polled(N:Nd)(most:Int):Nat:=min most.toNat N.inbox.length
def Nd.poll(N:Nd)(most:Int):Nd:={N with inbox:=N.inbox.drop (N.polled most)}
def Nd.nS(N:Nd)(id:Int):Nd:={N with subs:=N.subs.filter (fun s=> !(s.id==id)),inbox:=N.inbox.filter (fun d=> !(d.sub==id))}
structure qh(N:Nd):Prop where
 ids:N.subs.Pairwise (fun a b=>a.id≠b.id)
 top:∀s∈N.subs,1<=s.id∧s.id<=N.last
 seqs:N.opn.Pairwise (fun a b=>a.seq<b.seq)
 high:∀e∈N.opn,1<=e.seq∧e.seq<=N.seq
 seq0:0<=N.seq
 last0:0<=N.last
 nSubs:N.subs.length<=16
 nOpn:N.opn.length<=8
 nBox:N.inbox.length<=64
theorem qh.new(a:Int):qh (Nd.new a):=⟨List.Pairwise.nil,fun s h=>(by cases h),List.Pairwise.nil,fun s h=>(by cases h),Int.le_refl _,Int.le_refl _,Nat.zero_le _,Nat.zero_le _,Nat.zero_le _⟩
theorem NG(S:List SA)(fG:Int)(e:z8):∀(r:List oN) (x:List wS×Int),x.1.length<=64->(jQ S fG e r x).1.length<=64:=by
 intro r
 induction r with
 |nil=>intro x h;exact h
 |cons s r ih=>
  rintro⟨b,l⟩ h;refine ih _ ?_;split
  ·split
   ·rename_i h2
    simp only[List.length_append,List.length_singleton];exact h2
   ·exact h
  ·exact h
theorem qh.sub{N:Nd}(h:qh N)(F:List SP)(h16:N.subs.length<16):qh (N.sub F):=by
 refine⟨?_, ?_,h.seqs,h.high,h.seq0,by have:=h.last0;show 0<=N.last+1;omega, ?_,h.nOpn,h.nBox⟩
 ·show (N.subs++ [_]).Pairwise _;rw[List.pairwise_append];refine⟨h.ids,List.pairwise_singleton _ _,fun a ha b hb=> ?_⟩;rw[List.mem_singleton.1 hb];have:=(h.top a ha).2;show a.id≠N.last+1;omega
 ·intro s hs;rcases List.mem_append.1 hs with hs|hs
  ·have:=h.top s hs;show 1<=s.id∧s.id<=N.last+1;omega
  ·rw[List.mem_singleton.1 hs];have:=h.last0;show 1<=N.last+1∧N.last+1<=N.last+1;omega
 ·show (N.subs++ [_]).length<=16;rw[List.length_append];exact h16
theorem qh.fG{N:Nd}(h:qh N)(V:List SV)(pay:ByteArray)(h8:N.opn.length<8):qh (N.fG V pay):=by
 refine⟨h.ids,h.top, ?_, ?_,by have:=h.seq0;show 0<=N.seq+1;omega,h.last0,h.nSubs, ?_,h.nBox⟩
 ·show (N.opn++ [_]).Pairwise _;rw[List.pairwise_append];refine⟨h.seqs,List.pairwise_singleton _ _,fun a ha b hb=> ?_⟩;rw[List.mem_singleton.1 hb];have:=(h.high a ha).2;show a.seq<N.seq+1;omega
 ·intro s hs;rcases List.mem_append.1 hs with hs|hs
  ·have:=h.high s hs;show 1<=s.seq∧s.seq<=N.seq+1;omega
  ·rw[List.mem_singleton.1 hs];have:=h.seq0;show 1<=N.seq+1∧N.seq+1<=N.seq+1;omega
 ·show (N.opn++ [_]).length<=8;rw[List.length_append];exact h8
theorem vO(S:List SA):∀(r:List z8) (N:Nd),(N.come S r).subs=N.subs∧(N.come S r).last=N.last∧(N.come S r).seq=N.seq∧(N.come S r).addr=N.addr∧(N.inbox.length<=64->(N.come S r).inbox.length<=64):=by
 intro r
 induction r with
 |nil=>intro N;exact⟨rfl,rfl,rfl,rfl,id⟩
 |cons e r ih=>
  intro N;obtain⟨h1,h2,h3,h4,h5⟩:=ih (N.uV S e);exact⟨h1,h2,h3,h4,fun h=>h5 (NG S N.addr e N.subs _ h)⟩
theorem qh.tick{N:Nd}(h:qh N)(S:List SA):qh (N.tick S):=by
 obtain⟨h1,h2,h3,h4,h5⟩:=vO S N.opn N;refine⟨?_, ?_,List.Pairwise.nil,fun s h=>(by cases h), ?_, ?_, ?_,Nat.zero_le _,h5 h.nBox⟩
 ·show (N.come S N.opn).subs.Pairwise _;rw[h1];exact h.ids
 ·show ∀s∈(N.come S N.opn).subs,1<=s.id∧s.id<=(N.come S N.opn).last;rw[h1,h2];exact h.top
 ·show 0<=(N.come S N.opn).seq;rw[h3];exact h.seq0
 ·show 0<=(N.come S N.opn).last;rw[h2];exact h.last0
 ·show (N.come S N.opn).subs.length<=16;rw[h1];exact h.nSubs
theorem qh.poll{N:Nd}(h:qh N)(most:Int):qh (N.poll most):=
 ⟨h.ids,h.top,h.seqs,h.high,h.seq0,h.last0,h.nSubs,h.nOpn,by
  show (N.inbox.drop _).length<=64;rw[List.length_drop];have:=h.nBox;omega⟩
theorem qh.nS{N:Nd}(h:qh N)(id:Int):qh (N.nS id):=
 ⟨h.ids.filter _,fun s hs=>h.top s (List.mem_filter.1 hs).1,h.seqs,h.high,h.seq0,h.last0,Nat.le_trans (List.length_filter_le _ _) h.nSubs,h.nOpn,Nat.le_trans (List.length_filter_le _ _) h.nBox⟩
open Go.Maps
theorem kU:Keyed prog 3:=int_keyed underlying3
theorem SE{x:Int}(h:(Lit.int .i64 x).wf=true):keyOf prog 3 (.int .i64 x)=some (.int .i64 x):=by
 unfold keyOf;rw[underlying3];show mapKey prog 3 (.int .i64 x)=_;unfold mapKey;simp[h,underlying3]
open Go.ChangeMaps Go.MapKept
def PT(v:Value):Option (DataW Value×List MemPlace):=some (.held v,[])
def Holds{α:Type}(P:Program)(k:TypeId)(kv:α->Value)(D:DataW Value)(f:α->Option Value):Prop:=
 ∀x l,keyOf P k (kv x)=some l->Maps.has D l=(f x).isSome∧∀v,f x=some v->∀zd,D.atKey l zd=.held v
def fP{α:Type}(P:Program)(k:TypeId)(kv:α->Value)(w:World)(b n:Nat)(f:α->Option Value):Prop:=
 ∃D:DataW Value,w.ownsMap P k PT b n D∧Holds P k kv D f
def upd{α β:Type}[DecidableEq α](f:α->Option β)(x:α)(v:Option β):α->Option β:=fun y=>if y=x then v else f y
section
variable{α:Type}{P:Program}{k:TypeId}{kv:α->Value}{w w':World}{b n:Nat}{f:α->Option Value}
theorem zZ{H:Type}{R:Value->Option (DataW H×List MemPlace)}{D:DataW H}(h:w.ownsMap P k R b n D)(hb:w'.heap[b]? =w.heap[b]?):w'.ownsMap P k R b n D:=by
 obtain⟨es,clock,h1,h2⟩:=h;exact⟨es,clock,hb.trans h1,h2⟩
theorem Gv{H:Type}{R:Value->Option (DataW H×List MemPlace)}{D:DataW H}(h:w.ownsMap P k R b n D):b<w.heap.size:=by
 obtain⟨es,clock,h1,_⟩:=h;exact(Array.getElem?_eq_some_iff.1 h1).1
theorem fP.lt(h:fP P k kv w b n f):b<w.heap.size:=by
 obtain⟨D,h1,_⟩:=h;exact Gv h1
theorem fP.block(h:fP P k kv w b n f)(hb:w'.heap[b]? =w.heap[b]?):fP P k kv w' b n f:=by
 obtain⟨D,h1,h2⟩:=h;exact⟨D,zZ h1 hb,h2⟩
theorem fP.below(h:fP P k kv w b n f)(hb:Below w.heap.size w w'):fP P k kv w' b n f:=h.block (hb.block b h.lt)
theorem fP.mono{m:Nat}(h:fP P k kv w b n f)(hm:n<=m):fP P k kv w b m f:=by
 obtain⟨D,⟨es,clock,h1,h3,h4,h5⟩,h2⟩:=h;exact⟨D,⟨es,clock,h1,h3,Nat.le_trans h4 hm,h5⟩,h2⟩
theorem fP.Rp(h:fP P k kv w b n f)(K:Keyed P k){t e:TypeId}(ht:P.underlying t=some (.map k e)){z:Value}(hz:(zeroValue e).run P w=.ok z w){x:α}{l:Lit}(hk:keyOf P k (kv x)=some l):
 (Instr.lookup t (.map (some b)) (kv x) false).run P w=.ok ((f x).getD z) w:=by
 obtain⟨D,⟨es,clock,hb,F,_,rfl⟩,h2⟩:=h;obtain⟨h3,h4⟩:=h2 x l hk;rcases Maps.fit_look false K ht hz hb F hk with⟨hrun,_,hat⟩|⟨e0,y,_,_,hrun,hRv,hat,_⟩
 ·have h5:=Maps.has_false_of_atKey hat;cases hf:f x with
  |none=>exact hrun
  |some v=>rw[h5,hf] at h3;cases h3
 ·have h5:=Maps.has_true_of_atKey hat;cases hf:f x with
  |none=>rw[h5,hf] at h3;cases h3
  |some v=>
   have h6:=h4 v hf (.held z);rw[hat (.held z)] at h6;have h7:y=(.held e0.val,[]):=(Option.some.inj hRv).symm;rw[h7] at h6;have h8:e0.val=v:=by injection h6
   rw[<-h8];exact hrun
theorem fP.store[DecidableEq α](h:fP P k kv w b n f)(K:Keyed P k)(hinj:∀x y,kv x=kv y->x=y){t e:TypeId}(ht:P.underlying t=some (.map k e))(hn:n<maxLen){x:α}{l:Lit}(hk:keyOf P k (kv x)=some l)(v:Value):
 ∃w',(Instr.mapUpdate t (.map (some b)) (kv x) v).run P w=.ok () w'∧fP P k kv w' b (n+1) (upd f x (some v))∧w.grownBy w' (some b):=by
 obtain⟨D,h1,h2⟩:=h;obtain⟨w',hrun,hown,hturn⟩:=h1.store K ht hn hk (d:=.held v) (ps:= []) rfl;refine⟨w',hrun,⟨_,hown,fun y l' hy=> ?_⟩,hturn.grown⟩;by_cases hxy:y=x
 ·subst hxy;obtain rfl:l'=l:=Option.some.inj (hy.symm.trans hk);unfold upd;rw[if_pos rfl];exact⟨Maps.has_put_same h1.isMap (K.key hk) _,fun v' hv' zd=>by rw[Maps.atKey_put_same h1.isMap (K.key hk)];injection hv' with hv';rw[hv']⟩
 ·have hne:l'≠l:=fun e=>hxy (hinj _ _ (K.inj hy (e▸hk)))
  unfold upd;rw[if_neg hxy,Maps.has_put_other hne];exact⟨(h2 y l' hy).1,fun v' hv' zd=>by rw[Maps.atKey_put_other hne];exact(h2 y l' hy).2 v' hv' zd⟩
theorem fP.drop[DecidableEq α](h:fP P k kv w b n f)(K:Keyed P k)(hinj:∀x y,kv x=kv y->x=y){t e:TypeId}(ht:P.underlying t=some (.map k e)){x:α}{l:Lit}(hk:keyOf P k (kv x)=some l)(ty:TypeId):
 ∃w',(Builtin.delete_ #[t,k] ty #[.map (some b),kv x]).run P w=.ok (.tuple #[]) w'∧fP P k kv w' b n (upd f x none)∧w.grownBy w' (some b):=by
 obtain⟨D,h1,h2⟩:=h;obtain⟨w',hrun,hown,hturn⟩:=h1.drop K ht hk ty;refine⟨w',hrun,⟨_,hown,fun y l' hy=> ?_⟩,hturn.grown⟩;by_cases hxy:y=x
 ·subst hxy;obtain rfl:l'=l:=Option.some.inj (hy.symm.trans hk);unfold upd;rw[if_pos rfl];exact⟨Maps.has_del_same,fun v' hv' zd=>by cases hv'⟩
 ·have hne:l'≠l:=fun e=>hxy (hinj _ _ (K.inj hy (e▸hk)))
  unfold upd;rw[if_neg hxy,Maps.has_del_other hne];exact⟨(h2 y l' hy).1,fun v' hv' zd=>by rw[Maps.atKey_del_other hne];exact(h2 y l' hy).2 v' hv' zd⟩
theorem fP.made(w:World):fP P k kv (w.alloc (.map #[] 0)) w.heap.size 0 (fun _=>none):=
 ⟨_,World.ownsMap_made _ _ _ _,fun x l hk=>⟨rfl,fun v hv=>by cases hv⟩⟩
end
end Go.Proofs.YtnmpijbcajclgaaGreatDoor.Mine
end
