/- Texts of one claim, one behind the other, made short by a program. -/
import Derived.Test.YtnmpijbcajclgaaGreatDoorMA16
set_option maxHeartbeats 8000000
set_option linter.unusedSimpArgs false
set_option linter.unusedVariables false
set_option maxRecDepth 100000
section
namespace Go.Proofs.YtnmpijbcajclgaaGreatDoor.Mine
open Tryz
open Go.RowKit YtnmpijbcajclgaaGreatDoorW.PrintWords YtnmpijbcajclgaaGreatDoorW.PrintLast YtnmpijbcajclgaaGreatDoorW.PrintMore
open PNodeAlone
open Value renaming slice->Vs
theorem zS(a:iZ)(p:iI)(w:World)(hs:p.f4.size<=1000000000):
 Calls prog 123 #[.agg #[.string a.f0,.int .i64 a.f1,.int .i64 a.f2,.int .i64 a.f3],.agg #[.string p.f0,.int .i64 p.f1,.int .i64 p.f2,.int .i64 p.f3,.string p.f4]] w fun e w'=>e=.returned (.bool (bQ a p))∧Below w.heap.size w w':=by
 by_cases hf1:p.f1=1
 ·have o1:(p.f1==1)=true:=by simpa using hf1
  have hpo:bQ a p=((a.f1==1)&&decide (a.f2<=p.f2)&&decide (p.f3<=a.f3)&&decide (p.f2<=p.f3)&&(p.f4.toList== [])):=by unfold bQ;rw[if_pos hf1]
  have jy:=ai hpo;clear hpo hf1;by_cases t1:a.f1=1
  ·have e1:(a.f1==1)=true:=by simpa using t1
   by_cases t2:a.f2<=p.f2
   ·have e2:decide (a.f2<=p.f2)=true:=decide_eq_true t2;by_cases t4:p.f2<=p.f3
    ·have e4:decide (p.f2<=p.f3)=true:=decide_eq_true t4;by_cases t3:p.f3<=a.f3
     ·have e3:decide (p.f3<=a.f3)=true:=decide_eq_true t3;by_cases t5:p.f4.toList= []
      ·have e5:(p.f4.toList== [])=true:=by simpa using t5
       have HV:=ai (show bQ a p=true by rw[jy.o,e1,e2,e3,e4,e5];rfl);generalize bQ a p=b at HV|-;clear t1 t2 t3 t4 jy;go_enter func123,ntmps123
       go_wp2;go_ret;exact⟨by rw[HV.o];rfl,ae (ae (Below.refl _ _) _) _⟩
      ·have e5:(p.f4.toList== [])=false:=by simpa using t5
       have HV:=ai (show bQ a p=false by rw[jy.o,e1,e2,e3,e4,e5];rfl);generalize bQ a p=b at HV|-;clear t1 t2 t3 t4 jy;go_enter func123,ntmps123
       go_wp2;go_ret;exact⟨by rw[HV.o];rfl,ae (ae (Below.refl _ _) _) _⟩
     ·have e3:decide (p.f3<=a.f3)=false:=decide_eq_false t3;have HV:=ai (show bQ a p=false by rw[jy.o,e1,e2,e3];rfl);generalize bQ a p=b at HV|-;clear t1 t2 t3 t4 jy;go_enter func123,ntmps123
      go_wp2;go_ret;exact⟨by rw[HV.o];rfl,ae (ae (Below.refl _ _) _) _⟩
    ·have e4:decide (p.f2<=p.f3)=false:=decide_eq_false t4;have HV:=ai (show bQ a p=false by rw[jy.o,e1,e2,e4];simp);generalize bQ a p=b at HV|-;clear t1 t2 t4 jy;go_enter func123,ntmps123
     go_wp2;go_ret;exact⟨by rw[HV.o];rfl,ae (ae (Below.refl _ _) _) _⟩
   ·have e2:decide (a.f2<=p.f2)=false:=decide_eq_false t2;have HV:=ai (show bQ a p=false by rw[jy.o,e1,e2];rfl);generalize bQ a p=b at HV|-;clear t1 t2 jy;go_enter func123,ntmps123
    go_wp2;go_ret;exact⟨by rw[HV.o];rfl,ae (ae (Below.refl _ _) _) _⟩
  ·have e1:(a.f1==1)=false:=by simpa using t1
   have HV:=ai (show bQ a p=false by rw[jy.o,e1];rfl);generalize bQ a p=b at HV|-;clear t1 jy;go_enter func123,ntmps123
   go_wp2;go_ret;exact⟨by rw[HV.o];rfl,ae (ae (Below.refl _ _) _) _⟩
 ·have o1:(p.f1==1)=false:=by simpa using hf1
  by_cases hf2:p.f1=2
  ·have o2:(p.f1==2)=true:=by simpa using hf2
   have jy:=ai (show bQ a p=((a.f1==2)&&(p.f2==0)&&(p.f3==0)&&jw p.f4) by unfold bQ;rw[if_neg hf1,if_pos (Or.inl hf2)]);clear hf1 hf2;by_cases t1:a.f1=2
   ·have e1:(a.f1==2)=true:=by simpa using t1
    by_cases t2:p.f2=0
    ·have e2:(p.f2==0)=true:=by simpa using t2
     by_cases t3:p.f3=0
     ·have e3:(p.f3==0)=true:=by simpa using t3
      have HV:=ai (show bQ a p=jw p.f4 by rw[jy.o,e1,e2,e3];rfl);generalize bQ a p=b at HV|-;clear t1 t2 t3 jy;go_enter func123,ntmps123
      go_wp2_with fail
      refine(oP p.f4 _ hs).mono ?_;rintro e w5 ⟨rfl,rfl⟩;go_wp2;go_ret;exact⟨by rw[HV.o];rfl,ae (ae (Below.refl _ _) _) _⟩
     ·have e3:(p.f3==0)=false:=by simpa using t3
      have HV:=ai (show bQ a p=false by rw[jy.o,e1,e2,e3];rfl);generalize bQ a p=b at HV|-;clear t1 t2 t3 jy;go_enter func123,ntmps123
      go_wp2;go_ret;exact⟨by rw[HV.o];rfl,ae (ae (Below.refl _ _) _) _⟩
    ·have e2:(p.f2==0)=false:=by simpa using t2
     have HV:=ai (show bQ a p=false by rw[jy.o,e1,e2];rfl);generalize bQ a p=b at HV|-;clear t1 t2 jy;go_enter func123,ntmps123
     go_wp2;go_ret;exact⟨by rw[HV.o];rfl,ae (ae (Below.refl _ _) _) _⟩
   ·have e1:(a.f1==2)=false:=by simpa using t1
    have HV:=ai (show bQ a p=false by rw[jy.o,e1];rfl);generalize bQ a p=b at HV|-;clear t1 jy;go_enter func123,ntmps123
    go_wp2;go_ret;exact⟨by rw[HV.o];rfl,ae (ae (Below.refl _ _) _) _⟩
  ·have o2:(p.f1==2)=false:=by simpa using hf2
   by_cases hf3:p.f1=3
   ·have o3:(p.f1==3)=true:=by simpa using hf3
    by_cases hs5:p.f4.toList= []
    ·have q5:(p.f4.toList== [])=true:=by simpa using hs5
     have HV:=ai (show bQ a p=false by unfold bQ;rw[if_neg hf1,if_neg (by rw[hf3,hs5];simp)]);generalize bQ a p=b at HV|-;clear hf1 hf3 hf2;go_enter func123,ntmps123
     go_wp2;go_ret;exact⟨by rw[HV.o];rfl,ae (ae (Below.refl _ _) _) _⟩
    ·have q5:(p.f4.toList== [])=false:=by simpa using hs5
     have jy:=ai (show bQ a p=((a.f1==2)&&(p.f2==0)&&(p.f3==0)&&jw p.f4) by unfold bQ;rw[if_neg hf1,if_pos (Or.inr ⟨hf3,hs5⟩)]);clear hf1 hf3 hf2;by_cases t1:a.f1=2
     ·have e1:(a.f1==2)=true:=by simpa using t1
      by_cases t2:p.f2=0
      ·have e2:(p.f2==0)=true:=by simpa using t2
       by_cases t3:p.f3=0
       ·have e3:(p.f3==0)=true:=by simpa using t3
        have HV:=ai (show bQ a p=jw p.f4 by rw[jy.o,e1,e2,e3];rfl);generalize bQ a p=b at HV|-;clear t1 t2 t3 jy;go_enter func123,ntmps123
        go_wp2_with fail
        refine(oP p.f4 _ hs).mono ?_;rintro e w5 ⟨rfl,rfl⟩;go_wp2;go_ret;exact⟨by rw[HV.o];rfl,ae (ae (Below.refl _ _) _) _⟩
       ·have e3:(p.f3==0)=false:=by simpa using t3
        have HV:=ai (show bQ a p=false by rw[jy.o,e1,e2,e3];rfl);generalize bQ a p=b at HV|-;clear t1 t2 t3 jy;go_enter func123,ntmps123
        go_wp2;go_ret;exact⟨by rw[HV.o];rfl,ae (ae (Below.refl _ _) _) _⟩
      ·have e2:(p.f2==0)=false:=by simpa using t2
       have HV:=ai (show bQ a p=false by rw[jy.o,e1,e2];rfl);generalize bQ a p=b at HV|-;clear t1 t2 jy;go_enter func123,ntmps123
       go_wp2;go_ret;exact⟨by rw[HV.o];rfl,ae (ae (Below.refl _ _) _) _⟩
     ·have e1:(a.f1==2)=false:=by simpa using t1
      have HV:=ai (show bQ a p=false by rw[jy.o,e1];rfl);generalize bQ a p=b at HV|-;clear t1 jy;go_enter func123,ntmps123
      go_wp2;go_ret;exact⟨by rw[HV.o];rfl,ae (ae (Below.refl _ _) _) _⟩
   ·have o3:(p.f1==3)=false:=by simpa using hf3
    have HV:=ai (show bQ a p=false by unfold bQ;rw[if_neg hf1,if_neg (by rintro (h|h);exact hf2 h;exact hf3 h.1)]);generalize bQ a p=b at HV|-;clear hf1 hf3 hf2;go_enter func123,ntmps123
    go_wp2;go_ret;exact⟨by rw[HV.o];rfl,ae (ae (Below.refl _ _) _) _⟩
theorem Bu{s:ByteArray}(h:s.size<=300):fH s=match PS (bytes s) [] with| .inl xs=>.inl xs| .inr n=>.inr (((s.size-n:Nat):Int),2):=by
 unfold fH PS;rw[if_neg (by omega),eD];cases jB (s.size+1) ⟨bytes s,none⟩ []<;>rfl
def toQ(x:iI):zJ:=⟨x.f0,x.f1,x.f2,x.f3,x.f4⟩
theorem sV{w w':World}(hb:Below w.heap.size w w'){a:Addr}{u:Value}(h:w.cell? a=some u):w'.cell? a=some u:=(hb.cell (World.block_lt_of_cell? w _ h)).trans h
theorem gQ{α:Type}(h:Array α)(a b:α):((h.push a).push b)[h.size]? =some a∧((h.push a).push b)[h.size+1]? =some b:=by
 refine⟨?_, ?_⟩
 ·simp only[Array.getElem?_push,Array.size_push];rw[if_neg (by omega),if_pos trivial]
 ·simp only[Array.getElem?_push,Array.size_push];rw[if_pos trivial]
def toA(x:iZ):qE:=⟨x.f0,x.f1,x.f2,x.f3⟩
theorem wQ{α β:Type}(p:β->Bool)(f:α->β):∀(l:List α) (i:Nat),idxFrom p (l.map f) i=idxFrom (fun x=>p (f x)) l i
 | [],_=>rfl
 |x::r,i=>by
  show (if p (f x) then _ else idxFrom p (r.map f) (i+1))=_;rw[wQ p f r (i+1)];rfl
theorem AJ(nm:ByteArray)(S:List iZ):I8 nm (S.map toA)=gN nm S:=wQ _ toA S 0
def lv:Option Nat->Int
 |none=> -1
 |some i=>(i:Int)
theorem yJ(F:List iI)(i:Nat):(F.map toQ).getD i SS=toQ (F.getD i z168):=by
 rw[List.getD_eq_getElem?_getD,List.getD_eq_getElem?_getD,List.getElem?_map];cases F[i]? <;>rfl
theorem sZ(S:List iZ)(i:Nat):(S.map toA).getD i JP=toA (S.getD i z30):=by
 rw[List.getD_eq_getElem?_getD,List.getD_eq_getElem?_getD,List.getElem?_map];cases S[i]? <;>rfl
theorem DJ{α:Type}(F:List α)(z:α)(p:α->Bool)(j:Nat)(h:j<F.length):(F.take (j+1)).any p=((F.take j).any p||p (F.getD j z)):=by
 rw[List.take_succ_eq_append_getElem h,List.any_append,List.getD_eq_getElem?_getD,List.getElem?_eq_getElem h];simp
theorem kX(A B:Option Addr)(n m c d:Nat)(S:List iZ)(F:List iI)(w:World)(hn:S.length=n)(hm:F.length=m)(hr:Kd.C ui w A n (S.map toA))(hr2:Kd.C vI w B m (F.map toQ))(hl:n<=100000)(hl2:m<=100000)(hcd:m<=d)(hst:∀p∈F,p.f4.size<=1000000000):
 Calls prog 68 #[.slice A n c,.slice B m d] w fun e w'=>e=.returned (.int .i64 (lv (cu S F)))∧Below w.heap.size w w':=by
 have nO:=ai hr;have DX:=ai hr2;have HN:=ai hn;have HM:=ai hm;have xe:=ai hst;clear hr hr2 hn hm hst;obtain⟨z,hz⟩:∃z,z=lv (cu S F):=⟨_,rfl⟩
 rw[<-hz];have HZ:=ai hz;clear hz;by_cases hlen:m<1∨4<m
 ·have HB:=ai (show z=0 by rw[HZ.o];unfold cu;rw[if_pos (by have:=HM.o;omega)];rfl);by_cases h1:m<1
  ·have q1:decide ((m:Int)<1)=true:=decide_eq_true (by omega);clear hlen;obtain rfl:m=0:=by omega
   go_enter func68,ntmps68
   go_wp2;go_ret;exact⟨by rw[HB.o];rfl,Below.refl _ _⟩
  ·have q1:decide ((m:Int)<1)=false:=decide_eq_false (by omega);have q2:decide (4<(m:Int))=true:=decide_eq_true (by omega);clear hlen;go_enter func68,ntmps68
   go_wp2;go_ret;exact⟨by rw[HB.o];rfl,Below.refl _ _⟩
 ·have q1:decide ((m:Int)<1)=false:=decide_eq_false (by omega);have q2:decide (4<(m:Int))=false:=decide_eq_false (by omega);have FE:=ai (show cu S F=jq S F m 0 by unfold cu;rw[if_neg (by have:=HM.o;omega),HM.o]);clear hlen;go_enter func68,ntmps68
  go_wp2_with fail
  go_loopg [5,6,7,8,10,21,36] (m+1) (fun k v5 v6 v7 v8 v10 v21 v36 W=>∃i:Nat,ay (i<=m∧k+i=m+1∧cu S F=jq S F (m-i) i)∧v21=.int .i64 (i:Int)∧ay (Below w.heap.size w W))
  case atStart=>exact⟨0,⟨by omega,by omega,FE.o⟩,rfl,⟨Below.refl _ _⟩⟩
  case round=>
   obtain⟨i,HI,rfl,HB⟩:=hrel;by_cases hi:i<m
   ·have b1:decide ((i:Int)<(m:Int))=true:=decide_eq_true (by omega);have b2:decide (i<m)=true:=decide_eq_true (by omega);have p1:(0:Int)<=(i:Int):=by omega
    have p2:(i:Int)<(m:Int):=by omega
    have hstep:jq S F (m-i) i=if qj S F i then jq S F (m-(i+1)) (i+1) else some i:=by
     rw[show m-i=(m-(i+1))+1 by omega];rfl
    have HST:=ai hstep;clear hstep;obtain⟨ad,e,h0,h1,h2,h3,h4⟩:=Cn DX.o i p1 p2;cases e
    rw[Int.toNat_natCast] at h0 h1 h2 h3 h4;replace h0:=(HB.o.cell (World.block_lt_of_cell? w _ h0)).trans h0;replace h1:=(HB.o.cell (World.block_lt_of_cell? w _ h1)).trans h1;replace h2:=(HB.o.cell (World.block_lt_of_cell? w _ h2)).trans h2;replace h3:=(HB.o.cell (World.block_lt_of_cell? w _ h3)).trans h3;replace h4:=(HB.o.cell (World.block_lt_of_cell? w _ h4)).trans h4;have hrd:nG (F.map toQ) (i:Int)=toQ (F.getD i z168):=yJ F i;rw[hrd] at h0 h1 h2 h3 h4;obtain⟨p,hp⟩:∃p,p=F.getD i z168:=⟨_,rfl⟩
    rw[<-hp] at h0 h1 h2 h3 h4;have HP:=ai hp;clear hrd hp;change wr.cell? _=some (.string p.f0) at h0;change wr.cell? _=some (.int .i64 p.f1) at h1;change wr.cell? _=some (.int .i64 p.f2) at h2;change wr.cell? _=some (.int .i64 p.f3) at h3;change wr.cell? _=some (.string p.f4) at h4;go_wp2_with fail
    refine(wH A n c (S.map toA) p.f0 _ (by rw[List.length_map];exact HN.o) (Kd.aY nO.o (ae HB.o _)) hl).mono ?_;rintro e w1 ⟨rfl,hb⟩;rw[AJ];have hnew:=heap_alloc_new wr (.cells #[.string p.f0,.int .i64 p.f1,.int .i64 p.f2,.int .i64 p.f3,.string p.f4] 231 (0,0));have fI:=ai ((hb.block _ (aI hnew)).trans hnew);replace HB:=ai (aD (ae HB.o (.cells #[.string p.f0,.int .i64 p.f1,.int .i64 p.f2,.int .i64 p.f3,.string p.f4] 231)) (dX (ae HB.o _)) hb);clear hb hnew h0 h1 h2 h3 h4;generalize wr.heap.size=g6 at fI|-;have xG:=ai (tJ p.f0 S);obtain⟨kk,hkk⟩:∃k,k=gN p.f0 S:=⟨_,rfl⟩
    rw[<-hkk] at xG|-;have HK:=ai hkk;clear hkk;have p3:(i:Int)<=(d:Int):=by omega
    obtain⟨b0,hb0⟩:∃b,b=decide (0<=kk):=⟨_,rfl⟩
    have q4:decide (0<=kk)=b0:=hb0.symm;have HB0:=ai hb0;clear hb0;go_wp2_with fail
    obtain⟨UN,rfl⟩:∃g,g=gk:=⟨gk,rfl⟩
    go_loopg [8,10,36] (i+1) (fun k v8 v10 v36 W=>∃(j:Nat) (bj:Bool),ay (j<=i∧k+j=i+1∧bj=(decide (0<=kk)&& !((F.take j).any fun x=>x.f0.toList==p.f0.toList)))∧v8=.bool bj∧v36=.int .i64 (j:Int)∧ay (W.heap[g6]? =some (.cells #[.string p.f0,.int .i64 p.f1,.int .i64 p.f2,.int .i64 p.f3,.string p.f4] 231 (0,0)))∧ay (Below w.heap.size w W))
    case atStart=>exact⟨0,b0,⟨by omega,by omega,by rw[HB0.o];simp⟩,rfl,rfl,fI,HB⟩
    case round=>
     clear fI HB;obtain⟨j,bj,HJ,rfl,rfl,fI,HB⟩:=hrel;have y0:=bK fI.o;have y1:=bS fI.o;have y2:=dh fI.o;have y3:=dA fI.o;have y4:=dI fI.o;by_cases hj:j<i
     ·have d1:decide ((j:Int)<(i:Int))=true:=decide_eq_true (by omega);have d2:decide (j<i)=true:=decide_eq_true (by omega);have s1:(0:Int)<=(j:Int):=by omega
      have s2:(j:Int)<(i:Int):=by omega
      obtain⟨Uv,e,h0,h1,h2,h3,h4⟩:=Cn DX.o j s1 (by omega);cases e
      rw[Int.toNat_natCast] at h0 h1 h2 h3 h4;replace h0:=(HB.o.cell (World.block_lt_of_cell? w _ h0)).trans h0;replace h1:=(HB.o.cell (World.block_lt_of_cell? w _ h1)).trans h1;replace h2:=(HB.o.cell (World.block_lt_of_cell? w _ h2)).trans h2;replace h3:=(HB.o.cell (World.block_lt_of_cell? w _ h3)).trans h3;replace h4:=(HB.o.cell (World.block_lt_of_cell? w _ h4)).trans h4;have hrd:nG (F.map toQ) (j:Int)=toQ (F.getD j z168):=yJ F j;rw[hrd] at h0 h1 h2 h3 h4;have hany:=DJ F z168 (fun x=>x.f0.toList==p.f0.toList) j (by have:=HM.o;omega);have Ch:=ai hany;clear hany hrd;generalize F.getD j z168=x at h0 h1 h2 h3 h4 Ch;change wr.cell? _=some (.string x.f0) at h0;change wr.cell? _=some (.int .i64 x.f1) at h1;change wr.cell? _=some (.int .i64 x.f2) at h2;change wr.cell? _=some (.int .i64 x.f3) at h3;change wr.cell? _=some (.string x.f4) at h4;have ln:=aI fI.o;have ln2:¬(g6=wr.heap.size):=by omega
      have pg:=ai ((Below.heap_alloc wr (.cells #[.string x.f0,.int .i64 x.f1,.int .i64 x.f2,.int .i64 x.f3,.string x.f4] 231) _ ln).trans fI.o);have Uj:=ai (ae HB.o (.cells #[.string x.f0,.int .i64 x.f1,.int .i64 x.f2,.int .i64 x.f3,.string x.f4] 231));cases bj with
      |false=>
       have HF:=ai (show false=(decide (0<=kk)&& !((F.take (j+1)).any fun x=>x.f0.toList==p.f0.toList)) by
        have h:=HJ.o.2.2;rw[Ch.o];cases hA:decide (0<=kk) with
        |false=>rfl
        |true=>
         rw[hA] at h;cases hC:((F.take j).any fun x=>x.f0.toList==p.f0.toList) with
         |true=>rfl
         |false=>rw[hC] at h;cases h)
       go_wp2_with fail
       go_roundg (gk-1)
       case measure=>have:=HJ.o;omega
       case rel=>exact⟨j+1,false,⟨by omega,by have:=HJ.o;omega,HF.o⟩,rfl,rfl,pg,Uj⟩
      |true=>
       cases hq:(p.f0.toList==x.f0.toList) with
       |true=>
        have HF:=ai (show false=(decide (0<=kk)&& !((F.take (j+1)).any fun x=>x.f0.toList==p.f0.toList)) by
         rw[Ch.o,show (x.f0.toList==p.f0.toList)=true by rw[beq_iff_eq] at hq|-;exact hq.symm];simp)
        go_wp2_with fail
        go_roundg (gk-1)
        case measure=>have:=HJ.o;omega
        case rel=>exact⟨j+1,false,⟨by omega,by have:=HJ.o;omega,HF.o⟩,rfl,rfl,pg,Uj⟩
       |false=>
        have HF:=ai (show true=(decide (0<=kk)&& !((F.take (j+1)).any fun x=>x.f0.toList==p.f0.toList)) by
         rw[Ch.o,show (x.f0.toList==p.f0.toList)=false by rw[beq_eq_false_iff_ne] at hq|-;exact fun h=>hq h.symm,Bool.or_false];exact HJ.o.2.2)
        go_wp2_with fail
        go_roundg (gk-1)
        case measure=>have:=HJ.o;omega
        case rel=>exact⟨j+1,true,⟨by omega,by have:=HJ.o;omega,HF.o⟩,rfl,rfl,pg,Uj⟩
     ·have d1:decide ((j:Int)<(i:Int))=false:=decide_eq_false (by omega);have d2:decide (j<i)=false:=decide_eq_false (by omega);have hji:j=i:=by have:=HJ.o;omega
      have hbj:=HJ.o.2.2;rw[hji] at hbj;cases bj with
      |false=>
       have hno:qj S F i=false:=by
        unfold qj;rw[<-HP.o,<-HK.o,<-hbj];rfl
       have HE:=ai (show z=(i:Int) by rw[HZ.o,HI.o.2.2,HST.o,hno];rfl);clear hji hbj hno;go_wp2_with fail
       go_quiet (fail)
       go_wp2;go_ret;exact⟨by rw[HE.o];rfl,ah HB.o _⟩
      |true=>
       have h0k:0<=kk:=by
        cases hA:decide (0<=kk) with
        |true=>exact of_decide_eq_true hA
        |false=>rw[hA] at hbj;cases hbj
       obtain⟨k2,rfl⟩:=Int.eq_ofNat_of_zero_le h0k;have hkn:k2<n:=by have:=xG.o;have:=HN.o;omega
       obtain⟨a,ha⟩:∃a,a=S.getD k2 z30:=⟨_,rfl⟩
       have hok:qj S F i=bQ a p:=by
        unfold qj;rw[<-HP.o,<-HK.o,<-hbj,Int.toNat_natCast,ha];rfl
       obtain⟨rR,e,s0,s1,s2,s3⟩:=sM (Kd.aY nO.o HB.o) (k2:Int) (by omega) (by omega);cases e
       rw[Int.toNat_natCast] at s0 s1 s2 s3;have hrd:lZ (S.map toA) (k2:Int)=toA (S.getD k2 z30):=sZ S k2;rw[hrd,<-ha] at s0 s1 s2 s3;change wr.cell? _=some (.string a.f0) at s0;change wr.cell? _=some (.int .i64 a.f1) at s1;change wr.cell? _=some (.int .i64 a.f2) at s2;change wr.cell? _=some (.int .i64 a.f3) at s3;have hp4:p.f4.size<=1000000000:=xe.o p (by rw[HP.o,List.getD_eq_getElem?_getD,List.getElem?_eq_getElem (by have:=HM.o;omega)];exact List.getElem_mem _);have BI:=ai (fun W=>zS a p W hp4);have pk0:(0:Int)<=(k2:Int):=by omega
       have pk1:(k2:Int)<(n:Int):=by omega
       have Le:=ai hok;clear hji hbj hok ha hrd h0k hp4;have t0:∀q:aW wr,q.w.cell? _=_:=fun q=>q.cell s0
       have t1:∀q:aW wr,q.w.cell? _=_:=fun q=>q.cell s1
       have t2:∀q:aW wr,q.w.cell? _=_:=fun q=>q.cell s2
       have t3:∀q:aW wr,q.w.cell? _=_:=fun q=>q.cell s3
       have r0:∀q:aW wr,q.w.cell? _=_:=fun q=>q.cell y0
       have r1:∀q:aW wr,q.w.cell? _=_:=fun q=>q.cell y1
       have r2:∀q:aW wr,q.w.cell? _=_:=fun q=>q.cell y2
       have r3:∀q:aW wr,q.w.cell? _=_:=fun q=>q.cell y3
       have r4:∀q:aW wr,q.w.cell? _=_:=fun q=>q.cell y4
       cases hbp:bQ a p with
       |true=>
        rw[hbp] at BI Le;have HE:=ai (show cu S F=jq S F (m-(i+1)) (i+1) by rw[HI.o.2.2,HST.o,Le.o];rfl);clear hbp Le;go_wp2_with fail
        refine wp_region_quiet_below (by kernel_rfl) (by kernel_rfl) ?_
        repeat(quiet_step ((go_at_call 123;(with_reducible refine Calls.dF (BI.o _)))))
        refine wpQuiet_nil ?_;rintro _ ⟨pq,rfl⟩;go_wp2_with fail
        go_roundg (UN-1)
        case measure=>have:=HI.o;omega
        case rel=>exact⟨i+1,⟨by omega,by have:=HI.o;omega,HE.o⟩,rfl,⟨aD HB.o HB.o.size pq.h⟩⟩
       |false=>
        rw[hbp] at BI Le;have HE:=ai (show z=(i:Int) by rw[HZ.o,HI.o.2.2,HST.o,Le.o];rfl);clear hbp Le;go_wp2_with fail
        refine wp_region_quiet_below (by kernel_rfl) (by kernel_rfl) ?_
        repeat(quiet_step ((go_at_call 123;(with_reducible refine Calls.dF (BI.o _)))))
        refine wpQuiet_nil ?_;rintro _ ⟨pq,rfl⟩;go_wp2;go_ret;exact⟨by rw[HE.o];rfl,aD HB.o HB.o.size pq.h⟩
   ·have b1:decide ((i:Int)<(m:Int))=false:=decide_eq_false (by omega);have b2:decide (i<m)=false:=decide_eq_false (by omega);have HE:=ai (show z= -1 by rw[HZ.o,HI.o.2.2,show m-i=0 by omega];rfl);go_wp2;go_ret;exact⟨by rw[HE.o];rfl,HB.o⟩
abbrev RV:=Ai
def uE(x:SV):RV:=⟨x.f0,x.f1⟩
def cutV(x:SV):SV:=⟨x.f0,rF x.f1 50⟩
def x9(V:List SV):List SV:=(V.take 6).map cutV
theorem Ri(L:List SV)(i:Nat)(h:i<L.length):(L.take (i+1)).map cutV=(L.take i).map cutV++ [cutV (L.getD i z37)]:=by
 rw[List.take_succ_eq_append_getElem h,List.map_append,List.getD_eq_getElem?_getD,List.getElem?_eq_getElem h];rfl
theorem CW(A:Option Addr)(n c:Nat)(L:List SV)(pay:ByteArray)(w:World)(hn:L.length=n)(hr:Kd.C Ci w A n L)(hc:n<=c)(hnm:∀p∈L,p.f1.size<=9223372036854775807)(hpay:pay.size<=9223372036854775807)(hn2:n<=9223372036854775807):
 Calls prog 28 #[kR A n c pay] w fun e w'=>∃v0 v1,e=.returned (.tuple #[.agg #[v0,.string (rF pay 210)],v1])∧Kd.R Ci 37 w' w.heap.size (fun _=>True) v0 (x9 L)∧Kd.R qC 163 w' w.heap.size (fun _=>True) v1 ((x9 L).map uE)∧Below w.heap.size w w':=by
 have HR:=ai hr;have HN:=ai hn;have qG:=ai hnm;have HP:=ai hpay;have Yw:=ai (fun W=>Jp pay 210 W HP.o (by omega));generalize rF pay 210=pay2 at Yw|-;clear hr hn hnm hpay;unfold kR;go_enter func28,ntmps28
 go_wp2_with fail
 refine(Yw.o _).mono ?_;rintro e w1 ⟨rfl,rfl⟩;go_wp2_with fail
 obtain⟨g1,hg1⟩:∃g,g=w.heap.size:=⟨_,rfl⟩
 have hs1:(w.alloc (.cells #[.slice A n c,.string pay] 40)).heap.size=w.heap.size+1:=by show (w.heap.push _).size=_;exact Array.size_push _
 generalize hW1:w.alloc (.cells #[.slice A n c,.string pay] 40)=W1 at hs1|-;have hs2:(W1.alloc (.cells #[.slice none 0 0,.string ⟨#[]⟩] 40)).heap.size=w.heap.size+2:=by show (W1.heap.push _).size=_;rw[Array.size_push,hs1]
 generalize hW2:W1.alloc (.cells #[.slice none 0 0,.string ⟨#[]⟩] 40)=W2 at hs2|-;have hs3:(W2.alloc (.cells #[] 163)).heap.size=w.heap.size+3:=by show (W2.heap.push _).size=_;rw[Array.size_push,hs2]
 have Ti:=World.ownsRow_lit (base:=w.heap.size) (e:=163) (size:=2) W2 #[] 0 (by rw[hs2];omega) (by decide) rfl;generalize hW3:W2.alloc (.cells #[] 163)=W3 at hs3 Ti|-;have k1:W1.heap[w.heap.size]? =some (.cells #[.slice A n c,.string pay] 40 (0,0)):=by rw[<-hW1];exact iX w _
 have k2:W2.heap[w.heap.size+1]? =some (.cells #[.slice none 0 0,.string ⟨#[]⟩] 40 (0,0)):=by rw[<-hW2,<-hs1];exact iX W1 _
 have k1':W2.heap[w.heap.size]? =some (.cells #[.slice A n c,.string pay] 40 (0,0)):=by rw[<-hW2];exact(Below.heap_alloc W1 _ _ (by omega)).trans k1
 have k2':W3.heap[w.heap.size+1]? =some (.cells #[.slice none 0 0,.string ⟨#[]⟩] 40 (0,0)):=by rw[<-hW3];exact(Below.heap_alloc W2 _ _ (by omega)).trans k2
 have Wo:W3.heap[w.heap.size]? =some (.cells #[.slice A n c,.string pay] 40 (0,0)):=by rw[<-hW3];exact(Below.heap_alloc W2 _ _ (by omega)).trans k1'
 have hb3:Below w.heap.size w W3:=by rw[<-hW3,<-hW2,<-hW1];exact ae (ae (ae (Below.refl _ _) _) _) _
 have K1:=ai ((Below.heap_alloc W3 (.cells #[.slice none 0 0,.string pay2] 40) _ (by omega)).trans Wo);have K2:=ai ((Below.heap_alloc W3 (.cells #[.slice none 0 0,.string pay2] 40) _ (by omega)).trans k2');have K4:=ai (show (W3.alloc (.cells #[.slice none 0 0,.string pay2] 40)).heap[w.heap.size+3]? =some (.cells #[.slice none 0 0,.string pay2] 40 (0,0)) by rw[<-hs3];exact iX W3 _);have HB:=ai (ae hb3 (.cells #[.slice none 0 0,.string pay2] 40));rw[hs2] at Ti;have hown5:Kd.R qC 163 W3 w.heap.size (fun k=>k≠w.heap.size∧k≠w.heap.size+1∧k≠w.heap.size+3) (.slice (some ⟨w.heap.size+2,0,none⟩) 0 0) ([]:List RV):=by
  refine⟨fun k hk=> ?_,[],Ti,dN.none _ _⟩;have hk2:w.heap.size+2=k:=by simpa [Value.ownBlock] using hk
  exact⟨by omega,by omega,by omega⟩
 have ng:=ai (Kd.dx hown5 (.cells #[.slice none 0 0,.string pay2] 40));rw[show w.heap.size+1+1=w.heap.size+2 by omega,show w.heap.size+2+1=w.heap.size+3 by omega];generalize W3.alloc (.cells #[.slice none 0 0,.string pay2] 40)=w0 at K1 K2 K4 HB ng|-;obtain⟨g2,hg2⟩:∃g,g=w.heap.size+1:=⟨_,rfl⟩
 obtain⟨g4,hg4⟩:∃g,g=w.heap.size+3:=⟨_,rfl⟩
 have Tj:=ai (show w.heap.size<=g2∧w.heap.size<=g4∧w.heap.size≠g4∧g2≠g4∧w.heap.size≠g2 by omega);rw[<-hg2,<-hg4] at ng;rw[<-hg2] at K2;rw[<-hg4] at K4;rw[<-hg2,<-hg4];generalize Vs (some {block:=w.heap.size+2,off:=0}) 0 0=v50 at ng|-;clear hW1 hW2 hW3 hs1 hs2 hs3 Ti k1 k2 k1' k2' Wo hb3 hown5 hg1 hg2 hg4;have nN:=ai (Kd.iF Ci 37 w0 w.heap.size (fun k=>k≠w.heap.size∧k≠g2∧k≠g4));go_loopg [5,6,7] 8 (fun k v5 v6 v7 W=>∃(i:Nat) (A4:Option Addr) (n4 c4:Nat),ay (i<=n∧i<=6∧k+i=8)∧v6=.int .i64 (i:Int)∧ay (Kd.R Ci 37 W w.heap.size (fun k=>k≠w.heap.size∧k≠g2∧k≠g4) (.slice A4 n4 c4) ((L.take i).map cutV))∧ay (Kd.R qC 163 W w.heap.size (fun k=>k≠w.heap.size∧k≠g2∧k≠g4) v5 (((L.take i).map cutV).map uE))∧ay (W.heap[w.heap.size]? =some (.cells #[.slice A n c,.string pay] 40 (0,0)))∧ay (W.heap[g2]? =some (.cells #[.slice none 0 0,.string ⟨#[]⟩] 40 (0,0)))∧ay (W.heap[g4]? =some (.cells #[.slice A4 n4 c4,.string pay2] 40 (0,0)))∧ay (Below w.heap.size w W))
 case atStart=>exact⟨0,none,0,0,⟨by omega,by omega,by omega⟩,rfl,nN,ng,K1,K2,K4,HB⟩
 case round=>
  clear nN ng HB K1 K2 K4;obtain⟨i,A4,n4,c4,HI,rfl,nN,ng,K1,K2,K4,HB⟩:=hrel;have Wm:=bK K1.o;have VX:=bK K4.o;have y41:=bS K4.o;have y20:=bK K2.o;have y21:=bS K2.o;have f20:=af K2.o 0;have f21:=af K2.o 1;have f40:=af K4.o 0;by_cases hi:i<n
  ·have b1:decide ((i:Int)<(n:Int))=true:=decide_eq_true (by omega);have b2:decide (i<n)=true:=decide_eq_true (by omega);have p1:(0:Int)<=(i:Int):=by omega
   have p2:(i:Int)<(n:Int):=by omega
   by_cases h6:i<6
   ·have b3:decide ((i:Int)<6)=true:=decide_eq_true (by omega);obtain⟨ad,e,h0,h1⟩:=C9 (Kd.aY HR.o HB.o) i p1 p2;cases e
    rw[Int.toNat_natCast] at h0 h1;have hrd:uJ L (i:Int)=L.getD i z37:=rfl;rw[hrd] at h0 h1;have hs:=Ri L i (by have:=HN.o;omega);have hz:(L.getD i z37).f1.size<=9223372036854775807:=qG.o _ (by rw[List.getD_eq_getElem?_getD,List.getElem?_eq_getElem (by have:=HN.o;omega)];exact List.getElem_mem _);have HS:=ai hs;clear hrd hs;generalize L.getD i z37=p at h0 h1 hz HS;go_wp2_with fail
    refine(Jp p.f1 50 _ hz (by omega)).mono ?_;rintro e w1 ⟨rfl,rfl⟩;generalize hcut:rF p.f1 50=st;have HC:=ai (show cutV p=⟨p.f0,st⟩ by unfold cutV;rw[hcut]);clear hcut;go_upto_region 7 with (fail)
    have uF:ay ((wr.alloc (.cells #[.int .i64 p.f0,.string st] 37)).heap[wr.heap.size]? =some (.cells #[.int .i64 p.f0,.string st] 37 (0,0))):=⟨heap_alloc_new wr _⟩
    have l1:=aI K1.o;have l2:=aI K2.o;have l4:=aI K4.o;have Wl:=ai (fun k (hk:(Vs A4 n4 c4).ownBlock=some k)=>(Kd.iL nN.o).1 k hk |>.2.2.1);have HLU:=ai (fun k (hk:u5.ownBlock=some k)=>(Kd.iL ng.o).1 k hk |>.2.2.1);replace K1:=ai ((Below.heap_alloc wr (.cells #[.int .i64 p.f0,.string st] 37) _ l1).trans K1.o);replace K2:=ai ((Below.heap_alloc wr (.cells #[.int .i64 p.f0,.string st] 37) _ l2).trans K2.o);replace K4:=ai ((Below.heap_alloc wr (.cells #[.int .i64 p.f0,.string st] 37) _ l4).trans K4.o);replace HB:=ai (ae HB.o (.cells #[.int .i64 p.f0,.string st] 37));replace nN:=ai (Kd.dx nN.o (.cells #[.int .i64 p.f0,.string st] 37));replace ng:=ai (Kd.dx ng.o (.cells #[.int .i64 p.f0,.string st] 37));have HL4:=ai (show g4≠wr.heap.size by omega);clear h0 h1 Wm VX y41 y20 y21 f20 f21 f40 l1 l2 l4;generalize wr.alloc (.cells #[.int .i64 p.f0,.string st] 37)=w2 at uF K1 K2 K4 HB nN ng|-;generalize wr.heap.size=g7 at uF Wl HLU HL4|-;have y0:=bK uF.o;have y1:=bS uF.o;have VX:=bK K4.o;have f40:=af K4.o 0;have hbd:((L.take i).map cutV).length<=6:=by simp;omega
    have LZ:(((L.take i).map cutV).map uE).length<=6:=by simp;omega
    have XH:=ai (And.intro hbd LZ);clear hbd LZ;go_upto_region 8 with ((with_reducible refine bn (b:=.append) (xs:= #[.tmp 34,.tmp 36]) rfl ?_);at_builtin;go_loud (refine Kd.di Ci (w0:=w) w.heap.size rfl (.tmp 34) (.tmp 36) 38 37 (.agg #[(.int .i64 0),(.string ⟨#[]⟩)]) 24 rfl underlying38 TJ rfl (by decide) (by omega) _ _ (⟨p.f0,st⟩:SV) [.int .i64 p.f0,.string st] (fun k=>k≠w.heap.size∧k≠g2∧k≠g4) (fun _=>False) rfl ?aX ?aP (fun _ hk=>hk.elim) ?aF nN.o HB.o HB.o.size ?aL ?_;(case aX=>first|rfl|(go_simp;done)|(go_simp;rfl));(case aP=>exact CO _ _ _ (⟨p.f0,st⟩:SV));(case aF=>exact(fun k hk=>by have l1:=aI K1.o;have l2:=aI K2.o;have l4:=aI K4.o;exact⟨by omega,by omega,by omega⟩));(case aL=>have:=XH.o;omega);intro v9 w9 ho hb hg hat;obtain⟨A9,c9,rfl,_,_⟩:=Kd.bB ho;generalize ((L.take i).map cutV++ [(⟨p.f0,st⟩:SV)]).length=n9 at ho hat|-;replace K1:=ai ((hg.block _ (aI K1.o) (fun e=>(nN.o.1 _ e.symm).1 rfl)).trans K1.o);replace K2:=ai ((hg.block _ (aI K2.o) (fun e=>(nN.o.1 _ e.symm).2.1 rfl)).trans K2.o);replace K4:=ai ((hg.block _ (aI K4.o) (fun e=>(nN.o.1 _ e.symm).2.2 rfl)).trans K4.o);replace HB:=ai hb;replace ng:=ai (Kd.dD (Kd.xB (Kd.gX ng.o nN.o (by decide)) hg (fun k hk=>hk.2)) (ok':=fun k=>k≠w.heap.size∧k≠g2∧k≠g4) (fun _ hk=>hk.1));replace nN:=ai ho;replace uF:=ai ((hg.block _ (aI uF.o) (fun e=>absurd (Wl.o _ e.symm) (Nat.lt_irrefl _))).trans uF.o);clear ho hb hg hat y0 y1 VX f40;have VX:=bK K4.o;have f40:=af K4.o 0))
    have k4:(w9.setCell ⟨g4,0,none⟩ (.slice A9 n9 c9)).heap[g4]? =some (.cells #[.slice A9 n9 c9,.string pay2] 40 (0,0)):=by simpa using bg K4.o 0 (.slice A9 n9 c9)
    replace K1:=ai ((Below.heap_setCell w9 ⟨g4,0,none⟩ (.slice A9 n9 c9) _ Tj.o.2.2.1).trans K1.o);replace K2:=ai ((Below.heap_setCell w9 ⟨g4,0,none⟩ (.slice A9 n9 c9) _ Tj.o.2.2.2.1).trans K2.o);replace K4:=ai k4;replace HB:=ai (au (j:=0) (v:=.slice A9 n9 c9) HB.o Tj.o.2.1);replace nN:=ai (Kd.gK (p:=⟨g4,0,none⟩) nN.o (fun k hk=>hk.2.2) (.slice A9 n9 c9));replace ng:=ai (Kd.gK (p:=⟨g4,0,none⟩) ng.o (fun k hk=>hk.2.2) (.slice A9 n9 c9));replace uF:=ai ((Below.heap_setCell w9 ⟨g4,0,none⟩ (.slice A9 n9 c9) _ (fun e=>HL4.o e.symm)).trans uF.o);clear k4 VX f40;generalize w9.setCell ⟨g4,0,none⟩ (.slice A9 n9 c9)=w3 at K1 K2 K4 HB nN ng uF|-;have y0:=bK uF.o;have y1:=bS uF.o;go_wp2_with ((with_reducible refine bn (b:=.append) (xs:= #[.tmp 39,.tmp 41]) rfl ?_);at_builtin;go_loud (refine Kd.di qC (w0:=w) w.heap.size rfl (.tmp 39) (.tmp 41) 81 163 (.agg #[(.int .i64 0),(.string ⟨#[]⟩)]) 24 rfl underlying81 QX rfl (by decide) (by omega) _ _ (⟨p.f0,st⟩:RV) [.int .i64 p.f0,.string st] (fun k=>k≠w.heap.size∧k≠g2∧k≠g4) (fun _=>False) rfl ?aX ?aP (fun _ hk=>hk.elim) ?aF ng.o HB.o HB.o.size ?aL ?_;(case aX=>first|rfl|(go_simp;done)|(go_simp;rfl));(case aP=>exact NC _ _ _ (⟨p.f0,st⟩:RV));(case aF=>exact(fun k hk=>by have l1:=aI K1.o;have l2:=aI K2.o;have l4:=aI K4.o;exact⟨by omega,by omega,by omega⟩));(case aL=>have:=XH.o;omega);intro v9 w9 ho hb hg hat;replace K1:=ai ((hg.block _ (aI K1.o) (fun e=>(ng.o.1 _ e.symm).1 rfl)).trans K1.o);replace K2:=ai ((hg.block _ (aI K2.o) (fun e=>(ng.o.1 _ e.symm).2.1 rfl)).trans K2.o);replace K4:=ai ((hg.block _ (aI K4.o) (fun e=>(ng.o.1 _ e.symm).2.2 rfl)).trans K4.o);replace HB:=ai hb;replace nN:=ai (Kd.dD (Kd.xB (Kd.gX nN.o ng.o (by decide)) hg (fun k hk=>hk.2)) (ok':=fun k=>k≠w.heap.size∧k≠g2∧k≠g4) (fun _ hk=>hk.1));replace ng:=ai ho;clear uF ho hb hg hat y0 y1))
    go_roundg (gk-1)
    case measure=>have:=HI.o;omega
    case rel=>exact⟨i+1,_,_,_,⟨by omega,by omega,by have:=HI.o;omega⟩,rfl,⟨by rw[HS.o,HC.o];exact nN.o⟩,⟨by rw[HS.o,HC.o,List.map_append];exact ng.o⟩,K1,K2,K4,HB⟩
   ·have b3:decide ((i:Int)<6)=false:=decide_eq_false (by omega);have hE:x9 L=(L.take i).map cutV:=by unfold x9;rw[show i=6 by have:=HI.o;omega]
    have HE:=ai hE;clear hE;rw[<-HE.o] at nN ng;go_wp2;have za:(wr.setCell ⟨g2,0,none⟩ (.slice A4 n4 c4)).heap[g2]? =some (.cells #[.slice A4 n4 c4,.string ⟨#[]⟩] 40 (0,0)):=by simpa using bg K2.o 0 (.slice A4 n4 c4)
    have z:((wr.setCell ⟨g2,0,none⟩ (.slice A4 n4 c4)).setCell ⟨g2,1,none⟩ (.string pay2)).heap[g2]? =some (.cells #[.slice A4 n4 c4,.string pay2] 40 (0,0)):=by simpa using bg za 1 (.string pay2)
    clear za;have hb:=au (j:=1) (v:=.string pay2) (au (j:=0) (v:=.slice A4 n4 c4) HB.o Tj.o.1) Tj.o.1;have h4:=Kd.dD (Kd.gK (p:=⟨g2,1,none⟩) (Kd.gK (p:=⟨g2,0,none⟩) nN.o (fun k hk=>hk.2.1) (.slice A4 n4 c4)) (fun k hk=>hk.2.1) (.string pay2)) (ok':=fun _=>True) (fun _ _=>trivial);have h5:=Kd.dD (Kd.gK (p:=⟨g2,1,none⟩) (Kd.gK (p:=⟨g2,0,none⟩) ng.o (fun k hk=>hk.2.1) (.slice A4 n4 c4)) (fun k hk=>hk.2.1) (.string pay2)) (ok':=fun _=>True) (fun _ _=>trivial);generalize (wr.setCell ⟨g2,0,none⟩ (.slice A4 n4 c4)).setCell ⟨g2,1,none⟩ (.string pay2)=w9 at z hb h4 h5|-;have z0:=bK z;have z1:=bS z;refine bodyPost_ret (v:=.tuple #[.agg #[.slice A4 n4 c4,.string pay2],u5]) (by simp[results,results28,go_sem,z0,z1]) rfl ⟨_,_,rfl,h4,h5,hb⟩
  ·have b1:decide ((i:Int)<(n:Int))=false:=decide_eq_false (by omega);have b2:decide (i<n)=false:=decide_eq_false (by omega);have hE:x9 L=(L.take i).map cutV:=by
    unfold x9;have h1:L.length<=i:=by have:=HN.o;omega
    rw[List.take_of_length_le h1,List.take_of_length_le (by have:=HI.o;omega)]
   have HE:=ai hE;clear hE;rw[<-HE.o] at nN ng;clear hi;go_wp2;have za:(wr.setCell ⟨g2,0,none⟩ (.slice A4 n4 c4)).heap[g2]? =some (.cells #[.slice A4 n4 c4,.string ⟨#[]⟩] 40 (0,0)):=by simpa using bg K2.o 0 (.slice A4 n4 c4)
   have z:((wr.setCell ⟨g2,0,none⟩ (.slice A4 n4 c4)).setCell ⟨g2,1,none⟩ (.string pay2)).heap[g2]? =some (.cells #[.slice A4 n4 c4,.string pay2] 40 (0,0)):=by simpa using bg za 1 (.string pay2)
   clear za;have hb:=au (j:=1) (v:=.string pay2) (au (j:=0) (v:=.slice A4 n4 c4) HB.o Tj.o.1) Tj.o.1;have h4:=Kd.dD (Kd.gK (p:=⟨g2,1,none⟩) (Kd.gK (p:=⟨g2,0,none⟩) nN.o (fun k hk=>hk.2.1) (.slice A4 n4 c4)) (fun k hk=>hk.2.1) (.string pay2)) (ok':=fun _=>True) (fun _ _=>trivial);have h5:=Kd.dD (Kd.gK (p:=⟨g2,1,none⟩) (Kd.gK (p:=⟨g2,0,none⟩) ng.o (fun k hk=>hk.2.1) (.slice A4 n4 c4)) (fun k hk=>hk.2.1) (.string pay2)) (ok':=fun _=>True) (fun _ _=>trivial);generalize (wr.setCell ⟨g2,0,none⟩ (.slice A4 n4 c4)).setCell ⟨g2,1,none⟩ (.string pay2)=w9 at z hb h4 h5|-;have z0:=bK z;have z1:=bS z;refine bodyPost_ret (v:=.tuple #[.agg #[.slice A4 n4 c4,.string pay2],u5]) (by simp[results,results28,go_sem,z0,z1]) rfl ⟨_,_,rfl,h4,h5,hb⟩
def Ox(x:iZ):qE:=⟨x.f0,x.f1,x.f2,x.f3⟩
def wX(x:iZ):iZ:=⟨rF x.f0 20,x.f1,x.f2,x.f3⟩
def kJ(L:List iZ):List iZ:=(L.take 6).map wX
theorem Ho(L:List iZ)(i:Nat)(h:i<L.length):(L.take (i+1)).map wX=(L.take i).map wX++ [wX (L.getD i z30)]:=by
 rw[List.take_succ_eq_append_getElem h,List.map_append,List.getD_eq_getElem?_getD,List.getElem?_eq_getElem h];rfl
theorem E5(A:Option Addr)(n c:Nat)(L:List iZ)(w:World)(hn:L.length=n)(hr:Kd.C uM w A n L)(hc:n<=c)(hnm:∀p∈L,p.f0.size<=9223372036854775807)(hn2:n<=9223372036854775807):
 Calls prog 24 #[.slice A n c] w fun e w'=>∃v0 v1,e=.returned (.tuple #[v0,v1])∧Kd.R uM 30 w' w.heap.size (fun _=>True) v0 (kJ L)∧Kd.R ui 155 w' w.heap.size (fun _=>True) v1 ((kJ L).map Ox)∧Below w.heap.size w w':=by
 have HR:=ai hr;have HN:=ai hn;have qG:=ai hnm;clear hr hn hnm;go_enter func24,ntmps24
 go_wp2_with fail
 have HB:=ai (ae (ae (Below.refl w.heap.size w) (.cells #[] 30)) (.cells #[] 155));have nN:ay (Kd.R uM 30 ((w.alloc (.cells #[] 30)).alloc (.cells #[] 155)) w.heap.size (fun _=>True) (.slice (some ⟨w.heap.size,0,none⟩) 0 0) (([]:List iZ))):=
  ⟨Kd.dx (show Kd.R uM 30 (w.alloc (.cells #[] 30)) w.heap.size (fun _=>True) (.slice (some ⟨w.heap.size,0,none⟩) 0 0) ([]:List iZ) from⟨fun _ _=>trivial,[],World.ownsRow_lit w #[] 0 (Nat.le_refl _) (by decide) rfl,dN.none _ _⟩) _⟩
 have ng:ay (Kd.R ui 155 ((w.alloc (.cells #[] 30)).alloc (.cells #[] 155)) w.heap.size (fun _=>True) (.slice (some ⟨w.heap.size+1,0,none⟩) 0 0) (([]:List qE))):=
  ⟨⟨fun _ _=>trivial,[],by
   have:=World.ownsRow_lit (base:=w.heap.size) (e:=155) (size:=4) (w.alloc (.cells #[] 30)) #[] 0 (by show _<=(w.heap.push _).size;rw[Array.size_push];omega) (by decide) rfl;have e:(w.alloc (.cells #[] 30)).heap.size=w.heap.size+1:=by show (w.heap.push _).size=_;exact Array.size_push _
   rw[e] at this;exact this,dN.none _ _⟩⟩
 generalize (w.alloc (.cells #[] 30)).alloc (.cells #[] 155)=w0 at HB nN ng|-;generalize Vs (some {block:=w.heap.size,off:=0}) 0 0=v40 at nN|-;generalize Vs (some {block:=w.heap.size+1,off:=0}) 0 0=v50 at ng|-;go_loopg [4,5,6,7] 8 (fun k v4 v5 v6 v7 W=>∃i:Nat,ay (i<=n∧i<=6∧k+i=8)∧v6=.int .i64 (i:Int)∧ay (Kd.R uM 30 W w.heap.size (fun _=>True) v4 ((L.take i).map wX))∧ay (Kd.R ui 155 W w.heap.size (fun _=>True) v5 (((L.take i).map wX).map Ox))∧ay (Below w.heap.size w W))
 case atStart=>exact⟨0,⟨by omega,by omega,by omega⟩,rfl,nN,ng,HB⟩
 case round=>
  clear nN ng HB;obtain⟨i,HI,rfl,nN,ng,HB⟩:=hrel;by_cases hi:i<n
  ·have b1:decide ((i:Int)<(n:Int))=true:=decide_eq_true (by omega);have b2:decide (i<n)=true:=decide_eq_true (by omega);have p1:(0:Int)<=(i:Int):=by omega
   have p2:(i:Int)<(n:Int):=by omega
   by_cases h6:i<6
   ·have b3:decide ((i:Int)<6)=true:=decide_eq_true (by omega);obtain⟨ad,e,h0,h1,h2,h3⟩:=qB HR.o i p1 p2;cases e
    rw[Int.toNat_natCast] at h0 h1 h2 h3;replace h0:=(HB.o.cell (World.block_lt_of_cell? w _ h0)).trans h0;replace h1:=(HB.o.cell (World.block_lt_of_cell? w _ h1)).trans h1;replace h2:=(HB.o.cell (World.block_lt_of_cell? w _ h2)).trans h2;replace h3:=(HB.o.cell (World.block_lt_of_cell? w _ h3)).trans h3;have hrd:lS L (i:Int)=L.getD i z30:=rfl;rw[hrd] at h0 h1 h2 h3;have hs:=Ho L i (by have:=HN.o;omega);have hz:(L.getD i z30).f0.size<=9223372036854775807:=qG.o _ (by rw[List.getD_eq_getElem?_getD,List.getElem?_eq_getElem (by have:=HN.o;omega)];exact List.getElem_mem _);have HS:=ai hs;clear hrd hs;generalize L.getD i z30=p at h0 h1 h2 h3 hz HS;go_wp2_with fail
    refine(Jp p.f0 20 _ hz (by omega)).mono ?_;rintro e w1 ⟨rfl,rfl⟩;generalize hcut:rF p.f0 20=nm;have HC:=ai (show wX p=⟨nm,p.f1,p.f2,p.f3⟩ by unfold wX;rw[hcut]);clear hcut;go_upto_region 7 with (fail)
    have uF:ay ((wr.alloc (.cells #[.string nm,.int .i64 p.f1,.int .i64 p.f2,.int .i64 p.f3] 30)).heap[wr.heap.size]? =some (.cells #[.string nm,.int .i64 p.f1,.int .i64 p.f2,.int .i64 p.f3] 30 (0,0))):=⟨heap_alloc_new wr _⟩
    have Wl:=ai (fun k (hk:u4.ownBlock=some k)=>(Kd.iL nN.o).1 k hk |>.2.2.1);replace HB:=ai (ae HB.o (.cells #[.string nm,.int .i64 p.f1,.int .i64 p.f2,.int .i64 p.f3] 30));replace nN:=ai (Kd.dx nN.o (.cells #[.string nm,.int .i64 p.f1,.int .i64 p.f2,.int .i64 p.f3] 30));replace ng:=ai (Kd.dx ng.o (.cells #[.string nm,.int .i64 p.f1,.int .i64 p.f2,.int .i64 p.f3] 30));clear h0 h1 h2 h3;generalize wr.alloc (.cells #[.string nm,.int .i64 p.f1,.int .i64 p.f2,.int .i64 p.f3] 30)=w2 at uF HB nN ng|-;generalize wr.heap.size=g7 at uF Wl|-;have y0:=bK uF.o;have y1:=bS uF.o;have y2:=dh uF.o;have y3:=dA uF.o;have hbd:((L.take i).map wX).length<=6:=by simp;omega
    have LZ:(((L.take i).map wX).map Ox).length<=6:=by simp;omega
    have XH:=ai (And.intro hbd LZ);clear hbd LZ;go_wp2_with (first
     |((with_reducible refine bn (b:=.append) (xs:= #[.tmp 28,.tmp 30]) rfl ?_);at_builtin;go_loud (refine Kd.di uM (w0:=w) w.heap.size rfl (.tmp 28) (.tmp 30) 32 30 (.agg #[(.string ⟨#[]⟩),(.int .i64 0),(.int .i64 0),(.int .i64 0)]) 40 rfl underlying32 Tc rfl (by decide) (by omega) _ _ (⟨nm,p.f1,p.f2,p.f3⟩:iZ) [.string nm,.int .i64 p.f1,.int .i64 p.f2,.int .i64 p.f3] (fun _=>True) (fun _=>False) rfl ?aX ?aP (fun _ hk=>hk.elim) ?aF nN.o HB.o HB.o.size ?aL ?_;(case aX=>first|rfl|(go_simp;done)|(go_simp;rfl));(case aP=>exact Di _ _ _ (⟨nm,p.f1,p.f2,p.f3⟩:iZ));(case aF=>exact(fun k hk=>trivial));(case aL=>have:=XH.o;omega);intro v9 w9 ho hb hg hat;replace HB:=ai hb;replace uF:=ai ((hg.block _ (aI uF.o) (fun e=>absurd (Wl.o _ e.symm) (Nat.lt_irrefl _))).trans uF.o);replace ng:=ai (Kd.dD (Kd.xB (Kd.gX ng.o nN.o (by decide)) hg (fun k hk=>hk.2)) (ok':=fun _=>True) (fun _ _=>trivial));replace nN:=ai ho;clear ho hb hg hat y0 y1 y2 y3;have y0:=bK uF.o;have y1:=bS uF.o;have y2:=dh uF.o;have y3:=(dA uF.o)))
     |((with_reducible refine bn (b:=.append) (xs:= #[.tmp 32,.tmp 34]) rfl ?_);at_builtin;go_loud (refine Kd.di ui (w0:=w) w.heap.size rfl (.tmp 32) (.tmp 34) 66 155 (.agg #[(.string ⟨#[]⟩),(.int .i64 0),(.int .i64 0),(.int .i64 0)]) 40 rfl underlying66 Qx rfl (by decide) (by omega) _ _ (⟨nm,p.f1,p.f2,p.f3⟩:qE) [.string nm,.int .i64 p.f1,.int .i64 p.f2,.int .i64 p.f3] (fun _=>True) (fun _=>False) rfl ?aX ?aP (fun _ hk=>hk.elim) ?aF ng.o HB.o HB.o.size ?aL ?_;(case aX=>first|rfl|(go_simp;done)|(go_simp;rfl));(case aP=>exact Nc _ _ _ (⟨nm,p.f1,p.f2,p.f3⟩:qE));(case aF=>exact(fun k hk=>trivial));(case aL=>have:=XH.o;omega);intro v9 w9 ho hb hg hat;replace HB:=ai hb;replace nN:=ai (Kd.dD (Kd.xB (Kd.gX nN.o ng.o (by decide)) hg (fun k hk=>hk.2)) (ok':=fun _=>True) (fun _ _=>trivial));replace ng:=ai ho;clear uF ho hb hg hat y0 y1 y2 y3)))
    go_roundg (gk-1)
    case measure=>have:=HI.o;omega
    case rel=>exact⟨i+1,⟨by omega,by omega,by have:=HI.o;omega⟩,rfl,⟨by rw[HS.o,HC.o];exact nN.o⟩,⟨by rw[HS.o,HC.o,List.map_append];exact ng.o⟩,HB⟩
   ·have b3:decide ((i:Int)<6)=false:=decide_eq_false (by omega);have hE:kJ L=(L.take i).map wX:=by unfold kJ;rw[show i=6 by have:=HI.o;omega]
    have HE:=ai hE;clear hE;rw[<-HE.o] at nN ng;have hfin:=And.intro nN.o (And.intro ng.o HB.o);go_wp2
    go_ret2
    exact⟨_,_,rfl,hfin⟩
  ·have b1:decide ((i:Int)<(n:Int))=false:=decide_eq_false (by omega);have b2:decide (i<n)=false:=decide_eq_false (by omega);have hE:kJ L=(L.take i).map wX:=by
    unfold kJ;have h1:L.length<=i:=by have:=HN.o;omega
    rw[List.take_of_length_le h1,List.take_of_length_le (by have:=HI.o;omega)]
   have HE:=ai hE;clear hE;rw[<-HE.o] at nN ng;have hfin:=And.intro nN.o (And.intro ng.o HB.o);clear hi;go_wp2
   go_ret2
   exact⟨_,_,rfl,hfin⟩
open Go.Maps
abbrev VO:=ui
abbrev OL:=Sl
abbrev Yc:=U4
abbrev wK:=Zh
abbrev SI:=qC
abbrev tqA:Nat:=155
abbrev oW:Nat:=162
abbrev Oo:Nat:=90
abbrev mQ:Nat:=92
abbrev UJ:Nat:=163
abbrev dY:Nat:=74
def rS(s:oN):yw:=⟨s.id,s.F.map toQ⟩
def rE(e:z8):NJ:=⟨e.seq,e.V.map uE,e.pay⟩
def rD(d:wS):NS:=⟨d.sub,⟨d.seq,d.V.map uE,d.pay⟩⟩
theorem DL(V:List SV)(i:Nat):(V.map uE).getD i TT=uE (V.getD i z37):=by
 rw[List.getD_eq_getElem?_getD,List.getD_eq_getElem?_getD,List.getElem?_map];cases V[i]? <;>rfl
structure Bc where
 v1:Value
 v2:Value
 v5:Value
 v6:Value
def AR(h:Bc)(P:Nd):Array Value:= #[h.v1,h.v2,.int .i64 P.last,.int .i64 P.seq,h.v5,h.v6,.int .i64 P.lost]
structure iU(b:Nat)(w:World)(S:List SA)(P:Nd)(h:Bc):Prop where
 sch:Kd.R VO tqA w b (fun _=>True) h.v1 (S.map Ox)
 sub:Kd.R OL oW w b (fun _=>True) h.v2 (P.subs.map rS)
 opn:Kd.R Yc Oo w b (fun _=>True) h.v5 (P.opn.map rE)
 box:Kd.R wK mQ w b (fun _=>True) h.v6 (P.inbox.map rD)
theorem mD(S:List SA):S.map Ox=S.map toA:=List.map_congr_left (fun _ _=>rfl)
section
variable{b:Nat}{w w':World}{S:List SA}{P:Nd}{h:Bc}
theorem iU.below(r:iU b w S P h)(hb:Below w.heap.size w w'):iU b w' S P h:=⟨Kd.bJ r.sch hb,Kd.bJ r.sub hb,Kd.bJ r.opn hb,Kd.bJ r.box hb⟩
theorem iU.kept(r:iU b w S P h)(hk:iW w w'):iU b w' S P h:=⟨hk.R r.sch (by decide+kernel),hk.R r.sub (by decide+kernel),hk.R r.opn (by decide+kernel),hk.R r.box (by decide+kernel)⟩
end
section
variable{α:Type}{d:Kd α}{e b n c:Nat}{w:World}{ok:Nat->Prop}{A:Option Addr}{xs:List α}
theorem yt(h:Kd.R d e w b ok (.slice A n c) xs)(k:Nat)(hk:k<=n):fB (d.M w b (fun k=>k<w.heap.size)) d.sz w (if c=k then A else A.map (·.add (k*d.sz))) (n-k) (xs.drop k):=by
 obtain⟨hn,hnc,hC⟩:=Kd.bN h;have hmax:=hC.2.1;obtain⟨h0,inner,hown,hr⟩:=h;refine⟨by rw[List.length_drop];omega,by omega,fun hp=> ?_⟩;rcases hown.2 with⟨hv,hx⟩|⟨g,cap,cur,hv,hg,hh,hnc',hcm,hcs,ht⟩
 ·injection hv with _ hv _;omega
 ·injection hv with h1 h2 h3;subst h1 h3;rw[if_neg (by omega)];refine⟨_,rfl,fun j p hj=> ?_⟩;rw[List.getElem?_drop] at hj;have hM:=hr.2 (k+j) p hj;have hjl:=(List.getElem?_eq_some_iff.1 hj).1;refine⟨(inner.drop ((k+j)*d.sz)).take d.sz, ?_,d.M_mono (fun q hq=>hq.2.2.1) (d.M_bound hM),fun i u hi=> ?_⟩
  ·rw[List.length_take,List.length_drop,hown.1,<-Nat.sub_mul];exact Nat.min_eq_left (Nat.le_mul_of_pos_left _ (by omega))
  ·rw[List.getElem?_take] at hi;split at hi
   ·rw[List.getElem?_drop] at hi;have hc:=hown.cells (g:=g) rfl _ u hi;rw[add_plain] at hc;show w.cell? (((⟨g,0,none⟩:Addr).add (k*d.sz)).add (j*d.sz+i))=some u;rw[add_plain,Addr.add_lit,show k*d.sz+(j*d.sz+i)=(k+j)*d.sz+i by rw[Nat.add_mul];omega];exact hc
   ·cases hi
theorem jH(h:Kd.R d e w b ok (.slice A n c) xs):fB (d.M w b (fun k=>k<w.heap.size)) d.sz w A n xs:=by
 have h1:=yt h 0 (Nat.zero_le _);rw[List.drop_zero,Nat.sub_zero,Nat.zero_mul] at h1;by_cases hc:c=0
 ·rw[if_pos hc] at h1;exact h1
 ·rw[if_neg hc] at h1;have e:A.map (·.add 0)=A:=by cases A<;>simp[Addr.add]
  rw[e] at h1;exact h1
theorem ji{Rr:α->List Value->Prop}{sz:Nat}{w w':World}{A:Option Addr}{n:Nat}{xs:List α}(h:fB Rr sz w A n xs)(hb:Below w.heap.size w w'):fB Rr sz w' A n xs:=fB.j6 h hb (fun _ _ hp=>hp)
theorem kL(d:Kd α)(e b:Nat)(w:World)(hb:b<=w.heap.size):Kd.R d e (w.alloc (.cells #[] e)) b (fun _=>True) (.slice (some ⟨w.heap.size,0,none⟩) 0 0) []:=
 ⟨fun _ _=>trivial,[],World.ownsRow_lit (base:=b) (e:=e) (size:=d.sz) w #[] 0 hb (by decide) (Nat.zero_mul _).symm,dN.none _ _⟩
end
theorem Cc:(prog.info? oW).map (fun i=>(i.zero,i.size,i.bytes))=some (some (.agg #[(.int .i64 0),(.slice none 0 0)]),2,32):=by kernel_rfl
theorem MM:(prog.info? Oo).map (fun i=>(i.zero,i.size,i.bytes))=some (some (.agg #[(.int .i64 0),(.slice none 0 0),(.string ⟨#[]⟩)]),3,48):=by kernel_rfl
theorem qD:(prog.info? mQ).map (fun i=>(i.zero,i.size,i.bytes))=some (some (.agg #[(.int .i64 0),(.int .i64 0),(.slice none 0 0),(.string ⟨#[]⟩)]),4,56):=by kernel_rfl
end Go.Proofs.YtnmpijbcajclgaaGreatDoor.Mine
end
