/- Texts of one claim, one behind the other, made short by a program. -/
import Derived.Test.YtnmpijbcajclgaaGreatDoorMA18
set_option maxHeartbeats 8000000
set_option linter.unusedSimpArgs false
set_option linter.unusedVariables false
set_option maxRecDepth 100000
section
namespace Go.Proofs.YtnmpijbcajclgaaGreatDoor.Mine
open Tryz
open Go.Maps Go.RowKit YtnmpijbcajclgaaGreatDoorW.PrintWords YtnmpijbcajclgaaGreatDoorW.PrintLast YtnmpijbcajclgaaGreatDoorW.PrintMore
open PNodeAlone
open Value renaming slice->Vs
theorem qV{v u:Value}{p q:Nat}(hat:v.ownBlock=u.ownBlock∨∃b,v.ownBlock=some b∧q<=b)(h1:∀k,u.ownBlock=some k->p<=k)(h2:p<=q):∀k,v.ownBlock=some k->p<=k:=by
 intro k hk;rcases hat with h|⟨b,h,hb⟩
 ·exact h1 k (h.symm.trans hk)
 ·rw[h] at hk;injection hk with hk;omega
def pK(id:Int)(L:List oN):List oN:=L.filter (fun s=> !(s.id==id))
def zA(id:Int)(L:List wS):List wS:=L.filter (fun d=> !(d.sub==id))
theorem yN(id:Int)(L:List oN)(i:Nat)(s:oN)(h:L[i]? =some s):pK id (L.take (i+1))=if s.id=id then pK id (L.take i) else pK id (L.take i)++ [s]:=by
 unfold pK;rw[List.take_add_one,h,List.filter_append];by_cases hs:s.id=id
 ·rw[if_pos hs];simp[hs]
 ·rw[if_neg hs];simp[hs]
theorem FQ(id:Int)(L:List wS)(i:Nat)(s:wS)(h:L[i]? =some s):zA id (L.take (i+1))=if s.sub=id then zA id (L.take i) else zA id (L.take i)++ [s]:=by
 unfold zA;rw[List.take_add_one,h,List.filter_append];by_cases hs:s.sub=id
 ·rw[if_pos hs];simp[hs]
 ·rw[if_neg hs];simp[hs]
theorem Q7(b:Nat)(S:List SA)(P:Nd)(h:Bc)(id:Int)(w:World)(hI:iU b w S P h)(hb:b<=w.heap.size)(hl:P.subs.length<=16)(hl6:P.inbox.length<=64)(hno:∀s∈P.subs,s.id≠id):
 Calls prog 27 #[nV h P,.int .i64 id] w fun e w'=>e=.returned (.tuple #[nV h P,.int .i64 9])∧Below w.heap.size w w':=by
 obtain⟨v1,v2,v5,v6⟩:=h;obtain⟨B1,n1,d1,rfl⟩:∃A n c,v1=Vs A n c:=bX hI.sch;obtain⟨A2,c2,e2⟩:=Kd.dE hI.sub;rw[List.length_map] at e2;obtain⟨n,hn⟩:∃n,n=P.subs.length:=⟨_,rfl⟩
 rw[<-hn] at e2;obtain rfl:v2=.slice A2 n c2:=e2;obtain⟨B5,n5,d5,rfl⟩:∃A n c,v5=Vs A n c:=bX hI.opn;obtain⟨A6,c6,e6⟩:=Kd.dE hI.box;rw[List.length_map] at e6;obtain⟨m,hm⟩:∃m,m=P.inbox.length:=⟨_,rfl⟩
 rw[<-hm] at e6;obtain rfl:v6=.slice A6 m c6:=e6;have HI:=ai hI;have l9:=ai hb;have HL:=ai (show n<=16∧m<=64 by omega);have HN:=ai (And.intro hn hm);unfold nV AR;show Calls _ _ #[.agg #[.slice B1 n1 d1,.slice A2 n c2,.int .i64 P.last,.int .i64 P.seq,.slice B5 n5 d5,.slice A6 m c6,.int .i64 P.lost],.int .i64 id] w _;generalize P.last=pl;generalize P.seq=pq;generalize P.lost=po;have FL:=ai hno;clear hI hb hl hl6 hn hm hno;go_enter func27,ntmps27
 go_upto_region 1 with (fail)
 have hb3:=ae (ae (Below.refl w.heap.size w) (.cells #[Vs B1 n1 d1,Vs A2 n c2,.int .i64 pl,.int .i64 pq,Vs B5 n5 d5,Vs A6 m c6,.int .i64 po] dY)) (.cells #[.slice none 0 0,.slice none 0 0,.int .i64 0,.int .i64 0,.slice none 0 0,.slice none 0 0,.int .i64 0] dY);obtain⟨kb,kr⟩:=gQ w.heap (.cells #[Vs B1 n1 d1,Vs A2 n c2,.int .i64 pl,.int .i64 pq,Vs B5 n5 d5,Vs A6 m c6,.int .i64 po] dY (0,0)) (.cells #[.slice none 0 0,.slice none 0 0,.int .i64 0,.int .i64 0,.slice none 0 0,.slice none 0 0,.int .i64 0] dY (0,0));have HB:=ai hb3;have bD:=ai (show ((w.alloc (.cells #[Vs B1 n1 d1,Vs A2 n c2,.int .i64 pl,.int .i64 pq,Vs B5 n5 d5,Vs A6 m c6,.int .i64 po] dY)).alloc (.cells #[.slice none 0 0,.slice none 0 0,.int .i64 0,.int .i64 0,.slice none 0 0,.slice none 0 0,.int .i64 0] dY)).heap[w.heap.size]? =_ from kb);have bA:=ai (show ((w.alloc (.cells #[Vs B1 n1 d1,Vs A2 n c2,.int .i64 pl,.int .i64 pq,Vs B5 n5 d5,Vs A6 m c6,.int .i64 po] dY)).alloc (.cells #[.slice none 0 0,.slice none 0 0,.int .i64 0,.int .i64 0,.slice none 0 0,.slice none 0 0,.int .i64 0] dY)).heap[w.heap.size+1]? =_ from kr);clear kb kr hb3;generalize (w.alloc (.cells #[Vs B1 n1 d1,Vs A2 n c2,.int .i64 pl,.int .i64 pq,Vs B5 n5 d5,Vs A6 m c6,.int .i64 po] dY)).alloc (.cells #[.slice none 0 0,.slice none 0 0,.int .i64 0,.int .i64 0,.slice none 0 0,.slice none 0 0,.int .i64 0] dY)=W0 at HB bD bA|-;obtain⟨gr,hgr⟩:∃g,g=w.heap.size+1:=⟨_,rfl⟩
 obtain⟨gb,hgb⟩:∃g,g=w.heap.size:=⟨_,rfl⟩
 rw[<-hgr] at bA;rw[<-hgb] at bD;rw[<-hgr,<-hgb];have HG:=ai (show w.heap.size<=gb∧w.heap.size<=gr∧gb≠gr by omega);clear hgr hgb;go_upto_region 2 with (fail)
 have hs0:=HB.o.size;have VT:=kL OL oW b W0 (Nat.le_trans l9.o hs0);have hD0:=kL wK mQ b (W0.alloc (.cells #[] oW)) (Nat.le_trans (Nat.le_trans l9.o hs0) (ae (Below.refl W0.heap.size W0) (.cells #[] oW)).size);have ha1:=ae (Below.refl W0.heap.size W0) (.cells #[] oW);have ha2:=ae ha1 (.cells #[] mQ);have hs1:(W0.alloc (.cells #[] oW)).heap.size=W0.heap.size+1:=by simp[World.alloc_eq]
 rw[hs1] at hD0;have HO:=ai (Kd.bJ VT (ae (Below.refl (W0.alloc (.cells #[] oW)).heap.size (W0.alloc (.cells #[] oW))) (.cells #[] mQ)));have iH:=ai hD0;replace bD:=bZ ha2 bD;replace bA:=bZ ha2 bA;replace HB:=dW HB ha2;have kC:=ai (show ∀k1,(Vs (some ⟨W0.heap.size,0,none⟩) 0 0).ownBlock=some k1->w.heap.size<=k1 from fun k1 hk1=>by have e1:W0.heap.size=k1:=Option.some.inj hk1;omega);have UB:=ai (show w.heap.size<=W0.heap.size+1 by omega);clear VT hD0 ha1 ha2 hs1 hs0;generalize (W0.alloc (.cells #[] oW)).alloc (.cells #[] mQ)=W1 at bD bA HB HO iH|-;generalize W0.heap.size+1=gD at iH UB|-;generalize W0.heap.size=gS at HO kC|-;have x1:=bS bD.o;go_wp2_with fail
 clear x1;go_loopg [6,9,17] (n+1) (fun kk v6 v9 v17 W=>∃(i:Nat) (acc:List yw),ay (i<=n∧kk+i=n+1∧acc=(pK id (P.subs.take i)).map rS)∧v17=.int .i64 (i:Int)∧ay (W.heap[gb]? =some (.cells #[.slice B1 n1 d1,.slice A2 n c2,.int .i64 pl,.int .i64 pq,.slice B5 n5 d5,.slice A6 m c6,.int .i64 po] dY (0,0)))∧ay (W.heap[gr]? =some (.cells #[.slice none 0 0,.slice none 0 0,.int .i64 0,.int .i64 0,.slice none 0 0,.slice none 0 0,.int .i64 0] dY (0,0)))∧ay (Below w.heap.size w W)∧ay (Kd.R OL oW W b (fun _=>True) v6 acc)∧ay (∀k1,v6.ownBlock=some k1->w.heap.size<=k1)∧ay (Kd.R wK mQ W b (fun _=>True) (.slice (some ⟨gD,0,none⟩) 0 0) []))
 case atStart=>exact⟨0,[],⟨by omega,by omega,rfl⟩,rfl,bD,bA,HB,HO,kC,iH⟩
 case round=>
  obtain⟨i,acc,HM,rfl,bD,bA,HB,HO,kC,iH⟩:=hrel;obtain⟨Ao,co,rfl,_,_⟩:=Kd.bB HO.o;by_cases hi:i<n
  ·have b1:decide ((i:Int)<(n:Int))=true:=decide_eq_true (by omega);have b2:decide (i<n)=true:=decide_eq_true (by omega);have p1:(0:Int)<=(i:Int):=by omega
   have p2:(i:Int)<(n:Int):=by omega
   obtain⟨_,_,hr⟩:=jH (Kd.bJ HI.o.sub HB.o);obtain⟨ad,hA,hc⟩:=hr (by omega);cases hA
   obtain⟨s,hsi⟩:∃s,P.subs[i]? =some s:=⟨_,List.getElem?_eq_getElem (by have:=HN.o.1;omega)⟩
   obtain⟨cs,hcl,FD,hcell⟩:=hc i (rS s) (by rw[List.getElem?_map,hsi];rfl);obtain⟨vf,rfl,hF⟩:=su FD;obtain⟨B,k,c,rfl⟩:∃A n c,vf=Vs A n c:=bX hF;have c0:wr.cell? (ad.add (i*2))=some (.int .i64 s.id):=hcell 0 _ rfl;have c1:wr.cell? ⟨(ad.add (i*2)).block,(ad.add (i*2)).off+1,none⟩=some (.slice B k c):=by rw[<-bC _ _ 1 (by omega)];exact hcell 1 _ rfl
   have hst:=yN id P.subs i s hsi;have qL:=ai (show acc.length<=i from by rw[HM.o.2.2,List.length_map];exact Nat.le_trans (List.length_filter_le _ _) (by rw[List.length_take];omega));clear hr hc hcell FD hcl;go_upto_region 5 with (fail)
   have gZ:=ae (Below.refl wr.heap.size wr) (.cells #[.int .i64 s.id,.slice B k c] oW);have lh:=heap_alloc_new wr (.cells #[.int .i64 s.id,.slice B k c] oW);clear c0 c1;have Pk:=ai (Kd.bJ (Kd.dD (ok':=fun k1=>k1<(wr.alloc (.cells #[.int .i64 s.id,.slice B k c] oW)).heap.size) hF (fun k1 hk1=>Nat.lt_of_lt_of_le hk1 gZ.size)) gZ);replace bD:=bZ gZ bD;replace bA:=bZ gZ bA;replace HB:=dW HB gZ;replace HO:=lV HO gZ;replace iH:=lV iH gZ;clear hF;generalize wr.alloc (.cells #[.int .i64 s.id,.slice B k c] oW)=W7 at bD bA HB HO iH Pk lh gZ|-;obtain⟨ge,hge⟩:∃q,q=wr.heap.size:=⟨_,rfl⟩
   rw[<-hge] at lh|-;have e0:=bK lh;have e1:=bS lh;clear gZ hge;by_cases hs:s.id=id
   ·rw[if_pos hs] at hst;have q1:decide (s.id=id)=true:=decide_eq_true hs;have q2:decide (s.id≠id)=false:=decide_eq_false (fun h0=>h0 hs);go_wp2_with fail
    go_roundg (gk-1)
    case measure=>have:=HM.o;omega
    case rel=>exact⟨i+1,acc,⟨by omega,by have:=HM.o;omega,by rw[hst];exact HM.o.2.2⟩,by first|rfl|(rw[jK (by omega) (by have:=HL.o;omega)];rfl),bD,bA,HB,HO,kC,iH⟩
   ·rw[if_neg hs] at hst;have q1:decide (s.id=id)=false:=decide_eq_false hs;have q2:decide (s.id≠id)=true:=decide_eq_true hs;go_wp2_with ((with_reducible refine bn (b:=.append) (xs:= #[.tmp 25,.tmp 27]) rfl ?_);at_builtin;go_loud (refine Kd.di OL (w0:=w) b rfl (.tmp 25) (.tmp 27) 70 oW (.agg #[(.int .i64 0),(.slice none 0 0)]) 32 rfl underlying70 Cc rfl (by decide) (by decide) _ acc (rS s) [.int .i64 s.id,.slice B k c] (fun _=>True) (fun k1=>k1<W7.heap.size∧some k1≠(Vs Ao acc.length co).ownBlock) rfl ?aX ?aP (fun _ hk=>⟨trivial,hk.2⟩) ?aF HO.o (HB.o.mono l9.o) (Nat.le_trans l9.o HB.o.size) ?aL ?_;(case aX=>first|rfl|(go_simp;done)|(go_simp;rfl));(case aP=>exact yg _ _ _ (rS s) (Kd.gX Pk.o HO.o (by decide+kernel)));(case aF=>exact(fun _ _=>trivial));(case aL=>have:=qL.o;have:=HM.o;have:=HL.o;omega);intro v9 w9 ho hb hg hat;have qP:=ai (dB bD.o hg (Kd.kM HO.o bD.o (by decide)));have pJ:=ai (dB bA.o hg (Kd.kM HO.o bA.o (by decide)));have rX:=ai (HB.o.grown hg HB.o.size (fun k1 hk1=>kC.o k1 hk1));have rV:=ai ho;have Fh:=ai (Kd.gq iH.o HO.o (by decide+kernel) hg);have ET:=ai (qV hat kC.o HB.o.size);clear bD bA HB HO kC iH ho hb hg hat;have bD:=qP;have bA:=pJ;have HB:=rX;have HO:=rV;have iH:=Fh;have kC:=ET;clear qP pJ rX rV Fh ET))
    go_roundg (gk-1)
    case measure=>have:=HM.o;omega
    case rel=>exact⟨i+1,acc++ [rS s],⟨by omega,by have:=HM.o;omega,by rw[hst,List.map_append,<-HM.o.2.2];rfl⟩,by first|rfl|(rw[jK (by omega) (by have:=HL.o;omega)];rfl),bD,bA,HB,HO,kC,iH⟩
  ·have hin:n=i:=by have:=HM.o;omega
   subst hin;have b1:decide ((n:Int)<(n:Int))=false:=decide_eq_false (by omega);have b2:decide (n<n)=false:=decide_eq_false (by omega);have hacc:acc=(pK id P.subs).map rS:=by rw[HM.o.2.2,HN.o.1,List.take_length]
   obtain⟨la,hla⟩:∃l,l=acc.length:=⟨_,rfl⟩
   rw[<-hla] at HO|-;rw[hacc,List.length_map] at hla;have Rw:=ai (And.intro hacc hla);have x1:=bS bD.o;clear hacc hla hi;have hln:la=n:=by
    rw[Rw.o.2,HN.o.1];unfold pK;rw[List.filter_eq_self.2 (fun x hx=>by simp[FL.o x hx])]
   have r1:decide ((la:Int)=(n:Int))=true:=decide_eq_true (by omega);have r2:((la:Int)==(n:Int))=true:=by rw[beq_iff_eq];omega
   clear hln;go_upto_region 9 with (fail)
   have x0:=bK bD.o;have x1:=bS bD.o;have x2:=dh bD.o;have x3:=dA bD.o;have x4:=dI bD.o;have x5:=eH bD.o;have x6:=fF bD.o;have y0:=bK bA.o;have y1:=bS bA.o;have y2:=dh bA.o;have y3:=dA bA.o;have y4:=dI bA.o;have y5:=eH bA.o;have y6:=fF bA.o;have f0:=af bA.o 0;have f1:=af bA.o 1;have f2:=af bA.o 2;have f3:=af bA.o 3;have f4:=af bA.o 4;have f5:=af bA.o 5;have f6:=af bA.o 6;go_wp2;have k6:=qd bA.o (Vs B1 n1 d1) (Vs A2 n c2) (Value.int .i64 pl) (Value.int .i64 pq) (Vs B5 n5 d5) (Vs A6 m c6) (Value.int .i64 po);have hoth:=fun k hk=>ek (wr) gr (Vs B1 n1 d1) (Vs A2 n c2) (Value.int .i64 pl) (Value.int .i64 pq) (Vs B5 n5 d5) (Vs A6 m c6) (Value.int .i64 po) k hk
   have hbf:=au (j:=6) (v:=(Value.int .i64 po)) (au (j:=5) (v:=(Vs A6 m c6)) (au (j:=4) (v:=(Vs B5 n5 d5)) (au (j:=3) (v:=(Value.int .i64 pq)) (au (j:=2) (v:=(Value.int .i64 pl)) (au (j:=1) (v:=(Vs A2 n c2)) (au (j:=0) (v:=(Vs B1 n1 d1)) HB.o HG.o.2.1) HG.o.2.1) HG.o.2.1) HG.o.2.1) HG.o.2.1) HG.o.2.1) HG.o.2.1;generalize hwq:((((((((wr).setCell ⟨gr,0,none⟩ (Vs B1 n1 d1)).setCell ⟨gr,1,none⟩ (Vs A2 n c2)).setCell ⟨gr,2,none⟩ (Value.int .i64 pl)).setCell ⟨gr,3,none⟩ (Value.int .i64 pq)).setCell ⟨gr,4,none⟩ (Vs B5 n5 d5)).setCell ⟨gr,5,none⟩ (Vs A6 m c6)).setCell ⟨gr,6,none⟩ (Value.int .i64 po))=w8 at k6 hbf hoth|-;clear hwq;have z0:=bK k6;have z1:=bS k6;have z2:=dh k6;have z3:=dA k6;have z4:=dI k6;have z5:=eH k6;have z6:=fF k6;have gT:=ai (And.intro hbf hoth);clear hbf hoth;refine bodyPost_ret (v:=.tuple #[.agg #[.slice B1 n1 d1,.slice A2 n c2,.int .i64 pl,.int .i64 pq,.slice B5 n5 d5,.slice A6 m c6,.int .i64 po],.int .i64 9]) (by simp[results,results27,go_sem,z0,z1,z2,z3,z4,z5,z6]) rfl ?_;exact⟨rfl,gT.o.1⟩
theorem Nn(b:Nat)(S:List SA)(P:Nd)(h:Bc)(id:Int)(w:World)(hI:iU b w S P h)(hb:b<=w.heap.size)(hl:P.subs.length<=16)(hl6:P.inbox.length<=64)(hyes:∃s∈P.subs,s.id=id):
 Calls prog 27 #[nV h P,.int .i64 id] w fun e w'=>∃h',e=.returned (.tuple #[nV h' (P.nS id),.int .i64 0])∧iU b w' S (P.nS id) h'∧Below w.heap.size w w':=by
 obtain⟨v1,v2,v5,v6⟩:=h;obtain⟨B1,n1,d1,rfl⟩:∃A n c,v1=Vs A n c:=bX hI.sch;obtain⟨A2,c2,e2⟩:=Kd.dE hI.sub;rw[List.length_map] at e2;obtain⟨n,hn⟩:∃n,n=P.subs.length:=⟨_,rfl⟩
 rw[<-hn] at e2;obtain rfl:v2=.slice A2 n c2:=e2;obtain⟨B5,n5,d5,rfl⟩:∃A n c,v5=Vs A n c:=bX hI.opn;obtain⟨A6,c6,e6⟩:=Kd.dE hI.box;rw[List.length_map] at e6;obtain⟨m,hm⟩:∃m,m=P.inbox.length:=⟨_,rfl⟩
 rw[<-hm] at e6;obtain rfl:v6=.slice A6 m c6:=e6;have HI:=ai hI;have l9:=ai hb;have HL:=ai (show n<=16∧m<=64 by omega);have HN:=ai (And.intro hn hm);unfold nV AR;show Calls _ _ #[.agg #[.slice B1 n1 d1,.slice A2 n c2,.int .i64 P.last,.int .i64 P.seq,.slice B5 n5 d5,.slice A6 m c6,.int .i64 P.lost],.int .i64 id] w _;have sD:ay ((P.nS id).last=P.last∧(P.nS id).seq=P.seq∧(P.nS id).lost=P.lost∧(P.nS id).opn=P.opn∧(P.nS id).subs=pK id P.subs∧(P.nS id).inbox=zA id P.inbox):=⟨rfl,rfl,rfl,rfl,rfl,rfl⟩
 rw[sD.o.1,sD.o.2.1,sD.o.2.2.1];have hlt:(pK id P.subs).length<P.subs.length:=by
  obtain⟨s,hs,he⟩:=hyes;exact List.length_filter_lt_length_iff_exists.2 ⟨s,hs,by simp[he]⟩
 have xG:=ai hlt;generalize P.last=pl;generalize P.seq=pq;generalize P.lost=po;clear hI hb hl hl6 hn hm hyes hlt;go_enter func27,ntmps27
 go_upto_region 1 with (fail)
 have hb3:=ae (ae (Below.refl w.heap.size w) (.cells #[Vs B1 n1 d1,Vs A2 n c2,.int .i64 pl,.int .i64 pq,Vs B5 n5 d5,Vs A6 m c6,.int .i64 po] dY)) (.cells #[.slice none 0 0,.slice none 0 0,.int .i64 0,.int .i64 0,.slice none 0 0,.slice none 0 0,.int .i64 0] dY);obtain⟨kb,kr⟩:=gQ w.heap (.cells #[Vs B1 n1 d1,Vs A2 n c2,.int .i64 pl,.int .i64 pq,Vs B5 n5 d5,Vs A6 m c6,.int .i64 po] dY (0,0)) (.cells #[.slice none 0 0,.slice none 0 0,.int .i64 0,.int .i64 0,.slice none 0 0,.slice none 0 0,.int .i64 0] dY (0,0));have HB:=ai hb3;have bD:=ai (show ((w.alloc (.cells #[Vs B1 n1 d1,Vs A2 n c2,.int .i64 pl,.int .i64 pq,Vs B5 n5 d5,Vs A6 m c6,.int .i64 po] dY)).alloc (.cells #[.slice none 0 0,.slice none 0 0,.int .i64 0,.int .i64 0,.slice none 0 0,.slice none 0 0,.int .i64 0] dY)).heap[w.heap.size]? =_ from kb);have bA:=ai (show ((w.alloc (.cells #[Vs B1 n1 d1,Vs A2 n c2,.int .i64 pl,.int .i64 pq,Vs B5 n5 d5,Vs A6 m c6,.int .i64 po] dY)).alloc (.cells #[.slice none 0 0,.slice none 0 0,.int .i64 0,.int .i64 0,.slice none 0 0,.slice none 0 0,.int .i64 0] dY)).heap[w.heap.size+1]? =_ from kr);clear kb kr hb3;generalize (w.alloc (.cells #[Vs B1 n1 d1,Vs A2 n c2,.int .i64 pl,.int .i64 pq,Vs B5 n5 d5,Vs A6 m c6,.int .i64 po] dY)).alloc (.cells #[.slice none 0 0,.slice none 0 0,.int .i64 0,.int .i64 0,.slice none 0 0,.slice none 0 0,.int .i64 0] dY)=W0 at HB bD bA|-;obtain⟨gr,hgr⟩:∃g,g=w.heap.size+1:=⟨_,rfl⟩
 obtain⟨gb,hgb⟩:∃g,g=w.heap.size:=⟨_,rfl⟩
 rw[<-hgr] at bA;rw[<-hgb] at bD;rw[<-hgr,<-hgb];have HG:=ai (show w.heap.size<=gb∧w.heap.size<=gr∧gb≠gr by omega);clear hgr hgb;go_upto_region 2 with (fail)
 have hs0:=HB.o.size;have VT:=kL OL oW b W0 (Nat.le_trans l9.o hs0);have hD0:=kL wK mQ b (W0.alloc (.cells #[] oW)) (Nat.le_trans (Nat.le_trans l9.o hs0) (ae (Below.refl W0.heap.size W0) (.cells #[] oW)).size);have ha1:=ae (Below.refl W0.heap.size W0) (.cells #[] oW);have ha2:=ae ha1 (.cells #[] mQ);have hs1:(W0.alloc (.cells #[] oW)).heap.size=W0.heap.size+1:=by simp[World.alloc_eq]
 rw[hs1] at hD0;have HO:=ai (Kd.bJ VT (ae (Below.refl (W0.alloc (.cells #[] oW)).heap.size (W0.alloc (.cells #[] oW))) (.cells #[] mQ)));have iH:=ai hD0;replace bD:=bZ ha2 bD;replace bA:=bZ ha2 bA;replace HB:=dW HB ha2;have kC:=ai (show ∀k1,(Vs (some ⟨W0.heap.size,0,none⟩) 0 0).ownBlock=some k1->w.heap.size<=k1 from fun k1 hk1=>by have e1:W0.heap.size=k1:=Option.some.inj hk1;omega);have UB:=ai (show w.heap.size<=W0.heap.size+1 by omega);clear VT hD0 ha1 ha2 hs1 hs0;generalize (W0.alloc (.cells #[] oW)).alloc (.cells #[] mQ)=W1 at bD bA HB HO iH|-;generalize W0.heap.size+1=gD at iH UB|-;generalize W0.heap.size=gS at HO kC|-;have x1:=bS bD.o;go_wp2_with fail
 clear x1;go_loopg [6,9,17] (n+1) (fun kk v6 v9 v17 W=>∃(i:Nat) (acc:List yw),ay (i<=n∧kk+i=n+1∧acc=(pK id (P.subs.take i)).map rS)∧v17=.int .i64 (i:Int)∧ay (W.heap[gb]? =some (.cells #[.slice B1 n1 d1,.slice A2 n c2,.int .i64 pl,.int .i64 pq,.slice B5 n5 d5,.slice A6 m c6,.int .i64 po] dY (0,0)))∧ay (W.heap[gr]? =some (.cells #[.slice none 0 0,.slice none 0 0,.int .i64 0,.int .i64 0,.slice none 0 0,.slice none 0 0,.int .i64 0] dY (0,0)))∧ay (Below w.heap.size w W)∧ay (Kd.R OL oW W b (fun _=>True) v6 acc)∧ay (∀k1,v6.ownBlock=some k1->w.heap.size<=k1)∧ay (Kd.R wK mQ W b (fun _=>True) (.slice (some ⟨gD,0,none⟩) 0 0) []))
 case atStart=>exact⟨0,[],⟨by omega,by omega,rfl⟩,rfl,bD,bA,HB,HO,kC,iH⟩
 case round=>
  obtain⟨i,acc,HM,rfl,bD,bA,HB,HO,kC,iH⟩:=hrel;obtain⟨Ao,co,rfl,_,_⟩:=Kd.bB HO.o;by_cases hi:i<n
  ·have b1:decide ((i:Int)<(n:Int))=true:=decide_eq_true (by omega);have b2:decide (i<n)=true:=decide_eq_true (by omega);have p1:(0:Int)<=(i:Int):=by omega
   have p2:(i:Int)<(n:Int):=by omega
   obtain⟨_,_,hr⟩:=jH (Kd.bJ HI.o.sub HB.o);obtain⟨ad,hA,hc⟩:=hr (by omega);cases hA
   obtain⟨s,hsi⟩:∃s,P.subs[i]? =some s:=⟨_,List.getElem?_eq_getElem (by have:=HN.o.1;omega)⟩
   obtain⟨cs,hcl,FD,hcell⟩:=hc i (rS s) (by rw[List.getElem?_map,hsi];rfl);obtain⟨vf,rfl,hF⟩:=su FD;obtain⟨B,k,c,rfl⟩:∃A n c,vf=Vs A n c:=bX hF;have c0:wr.cell? (ad.add (i*2))=some (.int .i64 s.id):=hcell 0 _ rfl;have c1:wr.cell? ⟨(ad.add (i*2)).block,(ad.add (i*2)).off+1,none⟩=some (.slice B k c):=by rw[<-bC _ _ 1 (by omega)];exact hcell 1 _ rfl
   have hst:=yN id P.subs i s hsi;have qL:=ai (show acc.length<=i from by rw[HM.o.2.2,List.length_map];exact Nat.le_trans (List.length_filter_le _ _) (by rw[List.length_take];omega));clear hr hc hcell FD hcl;go_upto_region 5 with (fail)
   have gZ:=ae (Below.refl wr.heap.size wr) (.cells #[.int .i64 s.id,.slice B k c] oW);have lh:=heap_alloc_new wr (.cells #[.int .i64 s.id,.slice B k c] oW);clear c0 c1;have Pk:=ai (Kd.bJ (Kd.dD (ok':=fun k1=>k1<(wr.alloc (.cells #[.int .i64 s.id,.slice B k c] oW)).heap.size) hF (fun k1 hk1=>Nat.lt_of_lt_of_le hk1 gZ.size)) gZ);replace bD:=bZ gZ bD;replace bA:=bZ gZ bA;replace HB:=dW HB gZ;replace HO:=lV HO gZ;replace iH:=lV iH gZ;clear hF;generalize wr.alloc (.cells #[.int .i64 s.id,.slice B k c] oW)=W7 at bD bA HB HO iH Pk lh gZ|-;obtain⟨ge,hge⟩:∃q,q=wr.heap.size:=⟨_,rfl⟩
   rw[<-hge] at lh|-;have e0:=bK lh;have e1:=bS lh;clear gZ hge;by_cases hs:s.id=id
   ·rw[if_pos hs] at hst;have q1:decide (s.id=id)=true:=decide_eq_true hs;have q2:decide (s.id≠id)=false:=decide_eq_false (fun h0=>h0 hs);go_wp2_with fail
    go_roundg (gk-1)
    case measure=>have:=HM.o;omega
    case rel=>exact⟨i+1,acc,⟨by omega,by have:=HM.o;omega,by rw[hst];exact HM.o.2.2⟩,by first|rfl|(rw[jK (by omega) (by have:=HL.o;omega)];rfl),bD,bA,HB,HO,kC,iH⟩
   ·rw[if_neg hs] at hst;have q1:decide (s.id=id)=false:=decide_eq_false hs;have q2:decide (s.id≠id)=true:=decide_eq_true hs;go_wp2_with ((with_reducible refine bn (b:=.append) (xs:= #[.tmp 25,.tmp 27]) rfl ?_);at_builtin;go_loud (refine Kd.di OL (w0:=w) b rfl (.tmp 25) (.tmp 27) 70 oW (.agg #[(.int .i64 0),(.slice none 0 0)]) 32 rfl underlying70 Cc rfl (by decide) (by decide) _ acc (rS s) [.int .i64 s.id,.slice B k c] (fun _=>True) (fun k1=>k1<W7.heap.size∧some k1≠(Vs Ao acc.length co).ownBlock) rfl ?aX ?aP (fun _ hk=>⟨trivial,hk.2⟩) ?aF HO.o (HB.o.mono l9.o) (Nat.le_trans l9.o HB.o.size) ?aL ?_;(case aX=>first|rfl|(go_simp;done)|(go_simp;rfl));(case aP=>exact yg _ _ _ (rS s) (Kd.gX Pk.o HO.o (by decide+kernel)));(case aF=>exact(fun _ _=>trivial));(case aL=>have:=qL.o;have:=HM.o;have:=HL.o;omega);intro v9 w9 ho hb hg hat;have qP:=ai (dB bD.o hg (Kd.kM HO.o bD.o (by decide)));have pJ:=ai (dB bA.o hg (Kd.kM HO.o bA.o (by decide)));have rX:=ai (HB.o.grown hg HB.o.size (fun k1 hk1=>kC.o k1 hk1));have rV:=ai ho;have Fh:=ai (Kd.gq iH.o HO.o (by decide+kernel) hg);have ET:=ai (qV hat kC.o HB.o.size);clear bD bA HB HO kC iH ho hb hg hat;have bD:=qP;have bA:=pJ;have HB:=rX;have HO:=rV;have iH:=Fh;have kC:=ET;clear qP pJ rX rV Fh ET))
    go_roundg (gk-1)
    case measure=>have:=HM.o;omega
    case rel=>exact⟨i+1,acc++ [rS s],⟨by omega,by have:=HM.o;omega,by rw[hst,List.map_append,<-HM.o.2.2];rfl⟩,by first|rfl|(rw[jK (by omega) (by have:=HL.o;omega)];rfl),bD,bA,HB,HO,kC,iH⟩
  ·have hin:n=i:=by have:=HM.o;omega
   subst hin;have b1:decide ((n:Int)<(n:Int))=false:=decide_eq_false (by omega);have b2:decide (n<n)=false:=decide_eq_false (by omega);have hacc:acc=(pK id P.subs).map rS:=by rw[HM.o.2.2,HN.o.1,List.take_length]
   obtain⟨la,hla⟩:∃l,l=acc.length:=⟨_,rfl⟩
   rw[<-hla] at HO|-;rw[hacc,List.length_map] at hla;have Rw:=ai (And.intro hacc hla);have x1:=bS bD.o;clear hacc hla hi;have r1:decide ((la:Int)=(n:Int))=false:=decide_eq_false (by have:=xG.o;have:=Rw.o.2;have:=HN.o.1;omega);have r2:((la:Int)==(n:Int))=false:=by rw[beq_eq_false_iff_ne];have:=xG.o;have:=Rw.o.2;have:=HN.o.1;omega
   have x5:=eH bD.o;obtain⟨aav,haS⟩:∃a,a=acc:=⟨_,rfl⟩
   rw[<-haS] at HO Rw;clear HM haS kC b1 b2;go_wp2_with fail
   clear x1 x5 r1 r2;have kC:=ai (show ∀k1,(Vs (some ⟨gD,0,none⟩) 0 0).ownBlock=some k1->w.heap.size<=k1 from fun k1 hk1=>by have e1:gD=k1:=Option.some.inj hk1;have:=UB.o;omega);go_loopg [7,11,40] (m+1) (fun kk v7 v11 v40 W=>∃(i:Nat) (acc:List NS),ay (i<=m∧kk+i=m+1∧acc=(zA id (P.inbox.take i)).map rD)∧v40=.int .i64 (i:Int)∧ay (W.heap[gb]? =some (.cells #[.slice B1 n1 d1,.slice A2 n c2,.int .i64 pl,.int .i64 pq,.slice B5 n5 d5,.slice A6 m c6,.int .i64 po] dY (0,0)))∧ay (W.heap[gr]? =some (.cells #[.slice none 0 0,.slice none 0 0,.int .i64 0,.int .i64 0,.slice none 0 0,.slice none 0 0,.int .i64 0] dY (0,0)))∧ay (Below w.heap.size w W)∧ay (Kd.R wK mQ W b (fun _=>True) v7 acc)∧ay (∀k1,v7.ownBlock=some k1->w.heap.size<=k1)∧ay (Kd.R OL oW W b (fun _=>True) (.slice Ao la co) aav))
   case atStart=>exact⟨0,[],⟨by omega,by omega,rfl⟩,rfl,bD,bA,HB,iH,kC,HO⟩
   case round=>
    obtain⟨i,acc,HM,rfl,bD,bA,HB,iH,kC,HO⟩:=hrel;obtain⟨Ad,cd,rfl,_,_⟩:=Kd.bB iH.o;by_cases hi:i<m
    ·have b1:decide ((i:Int)<(m:Int))=true:=decide_eq_true (by omega);have b2:decide (i<m)=true:=decide_eq_true (by omega);have p1:(0:Int)<=(i:Int):=by omega
     have p2:(i:Int)<(m:Int):=by omega
     obtain⟨_,_,hr⟩:=jH (Kd.bJ HI.o.box HB.o);obtain⟨ad,hA,hc⟩:=hr (by omega);cases hA
     obtain⟨s,hsi⟩:∃s,P.inbox[i]? =some s:=⟨_,List.getElem?_eq_getElem (by have:=HN.o.2;omega)⟩
     obtain⟨cs,hcl,FD,hcell⟩:=hc i (rD s) (by rw[List.getElem?_map,hsi];rfl);obtain⟨vf,rfl,hF⟩:=KO FD;obtain⟨B,k,c,rfl⟩:∃A n c,vf=Vs A n c:=bX hF;have c0:wr.cell? (ad.add (i*4))=some (.int .i64 s.sub):=hcell 0 _ rfl;have c1:wr.cell? ⟨(ad.add (i*4)).block,(ad.add (i*4)).off+1,none⟩=some (.int .i64 s.seq):=by rw[<-bC _ _ 1 (by omega)];exact hcell 1 _ rfl
     have c2':wr.cell? ⟨(ad.add (i*4)).block,(ad.add (i*4)).off+2,none⟩=some (.slice B k c):=by rw[<-bC _ _ 2 (by omega)];exact hcell 2 _ rfl
     have c3':wr.cell? ⟨(ad.add (i*4)).block,(ad.add (i*4)).off+3,none⟩=some (.string s.pay):=by rw[<-bC _ _ 3 (by omega)];exact hcell 3 _ rfl
     have hst:=FQ id P.inbox i s hsi;have qL:=ai (show acc.length<=i from by rw[HM.o.2.2,List.length_map];exact Nat.le_trans (List.length_filter_le _ _) (by rw[List.length_take];omega));clear hr hc hcell FD hcl;go_upto_region 13 with (fail)
     have gZ:=ae (Below.refl wr.heap.size wr) (.cells #[.int .i64 s.sub,.int .i64 s.seq,.slice B k c,.string s.pay] mQ);have lh:=heap_alloc_new wr (.cells #[.int .i64 s.sub,.int .i64 s.seq,.slice B k c,.string s.pay] mQ);clear c0 c1 c2' c3';have Pk:=ai (Kd.bJ (Kd.dD (ok':=fun k1=>k1<(wr.alloc (.cells #[.int .i64 s.sub,.int .i64 s.seq,.slice B k c,.string s.pay] mQ)).heap.size) hF (fun k1 hk1=>Nat.lt_of_lt_of_le hk1 gZ.size)) gZ);replace bD:=bZ gZ bD;replace bA:=bZ gZ bA;replace HB:=dW HB gZ;replace HO:=lV HO gZ;replace iH:=lV iH gZ;clear hF;generalize wr.alloc (.cells #[.int .i64 s.sub,.int .i64 s.seq,.slice B k c,.string s.pay] mQ)=W7 at bD bA HB HO iH Pk lh gZ|-;obtain⟨ge,hge⟩:∃q,q=wr.heap.size:=⟨_,rfl⟩
     rw[<-hge] at lh|-;have e0:=bK lh;have e1:=bS lh;have e2:=dh lh;have e3:=dA lh;clear gZ hge;by_cases hs:s.sub=id
     ·rw[if_pos hs] at hst;have q1:decide (s.sub=id)=true:=decide_eq_true hs;have q2:decide (s.sub≠id)=false:=decide_eq_false (fun h0=>h0 hs);go_wp2_with fail
      go_roundg (gk-1)
      case measure=>have:=HM.o;omega
      case rel=>exact⟨i+1,acc,⟨by omega,by have:=HM.o;omega,by rw[hst];exact HM.o.2.2⟩,by first|rfl|(rw[jK (by omega) (by have:=HL.o;omega)];rfl),bD,bA,HB,iH,kC,HO⟩
     ·rw[if_neg hs] at hst;have q1:decide (s.sub=id)=false:=decide_eq_false hs;have q2:decide (s.sub≠id)=true:=decide_eq_true hs;go_wp2_with ((with_reducible refine bn (b:=.append) (xs:= #[.tmp 48,.tmp 50]) rfl ?_);at_builtin;go_loud (refine Kd.di wK (w0:=w) b rfl (.tmp 48) (.tmp 50) 72 mQ (.agg #[(.int .i64 0),(.int .i64 0),(.slice none 0 0),(.string ⟨#[]⟩)]) 56 rfl underlying72 qD rfl (by decide) (by decide) _ acc (rD s) [.int .i64 s.sub,.int .i64 s.seq,.slice B k c,.string s.pay] (fun _=>True) (fun k1=>k1<W7.heap.size∧some k1≠(Vs Ad acc.length cd).ownBlock) rfl ?aX ?aP (fun _ hk=>⟨trivial,hk.2⟩) ?aF iH.o (HB.o.mono l9.o) (Nat.le_trans l9.o HB.o.size) ?aL ?_;(case aX=>first|rfl|(go_simp;done)|(go_simp;rfl));(case aP=>exact JF _ _ _ (rD s) (Kd.gX Pk.o iH.o (by decide+kernel)));(case aF=>exact(fun _ _=>trivial));(case aL=>have:=qL.o;have:=HM.o;have:=HL.o;omega);intro v9 w9 ho hb hg hat;have qP:=ai (dB bD.o hg (Kd.kM iH.o bD.o (by decide)));have pJ:=ai (dB bA.o hg (Kd.kM iH.o bA.o (by decide)));have rX:=ai (HB.o.grown hg HB.o.size (fun k1 hk1=>kC.o k1 hk1));have rV:=ai ho;have Fh:=ai (Kd.gq HO.o iH.o (by decide+kernel) hg);have ET:=ai (qV hat kC.o HB.o.size);clear bD bA HB HO kC iH ho hb hg hat;have bD:=qP;have bA:=pJ;have HB:=rX;have iH:=rV;have HO:=Fh;have kC:=ET;clear qP pJ rX rV Fh ET))
      go_roundg (gk-1)
      case measure=>have:=HM.o;omega
      case rel=>exact⟨i+1,acc++ [rD s],⟨by omega,by have:=HM.o;omega,by rw[hst,List.map_append,<-HM.o.2.2];rfl⟩,by first|rfl|(rw[jK (by omega) (by have:=HL.o;omega)];rfl),bD,bA,HB,iH,kC,HO⟩
    ·have hin:m=i:=by have:=HM.o;omega
     subst hin;have b1:decide ((m:Int)<(m:Int))=false:=decide_eq_false (by omega);have b2:decide (m<m)=false:=decide_eq_false (by omega);have hacc:acc=(zA id P.inbox).map rD:=by rw[HM.o.2.2,HN.o.2,List.take_length]
     obtain⟨ld,hld⟩:∃l,l=acc.length:=⟨_,rfl⟩
     rw[<-hld] at iH|-;have HAD:=ai (And.intro hacc hld);clear hacc hld hi;have x1:=bS bD.o;have x5:=eH bD.o;have f1:=af bD.o 1;have f5:=af bD.o 5;go_upto_region 18 with (fail)
     have Bp:(wr.setCell ⟨gb,1,none⟩ (.slice Ao la co)).heap[gb]? =some (.cells #[.slice B1 n1 d1,.slice Ao la co,.int .i64 pl,.int .i64 pq,.slice B5 n5 d5,.slice A6 m c6,.int .i64 po] dY (0,0)):=by simpa using bg bD.o 1 (.slice Ao la co)
     have hsk:∀k,k≠gb->((wr.setCell ⟨gb,1,none⟩ (.slice Ao la co)).setCell ⟨gb,5,none⟩ (.slice Ad ld cd)).heap[k]? =wr.heap[k]? :=fun k hk=>(Below.heap_setCell _ ⟨gb,5,none⟩ _ k hk).trans (Below.heap_setCell wr ⟨gb,1,none⟩ _ k hk)
     replace bA:=ai ((hsk gr (fun e0=>HG.o.2.2 e0.symm)).trans bA.o);have yX:=ai (bW HO.o bD.o (by decide+kernel) hsk);have uy:=ai (bW iH.o bD.o (by decide+kernel) hsk);have Bj:=ai (bW (Kd.bJ HI.o.sch HB.o) bD.o (by decide+kernel) hsk);have Hu:=ai (bW (Kd.bJ HI.o.opn HB.o) bD.o (by decide+kernel) hsk);replace bD:=ai (show ((wr.setCell ⟨gb,1,none⟩ (.slice Ao la co)).setCell ⟨gb,5,none⟩ (.slice Ad ld cd)).heap[gb]? =some (.cells #[.slice B1 n1 d1,.slice Ao la co,.int .i64 pl,.int .i64 pq,.slice B5 n5 d5,.slice Ad ld cd,.int .i64 po] dY (0,0)) from by simpa using bg Bp 5 (.slice Ad ld cd));replace HB:=ai (au (j:=5) (v:=.slice Ad ld cd) (au (j:=1) (v:=.slice Ao la co) HB.o HG.o.1) HG.o.1);clear HO iH x1 x5 f1 f5 hsk Bp;generalize (wr.setCell ⟨gb,1,none⟩ (.slice Ao la co)).setCell ⟨gb,5,none⟩ (.slice Ad ld cd)=wz at bD bA HB yX uy Bj Hu|-;rw[Rw.o.1,<-sD.o.2.2.2.2.1] at yX;rw[HAD.o.1,<-sD.o.2.2.2.2.2] at uy;rw[<-sD.o.2.2.2.1] at Hu;have x0:=bK bD.o;have x1:=bS bD.o;have x2:=dh bD.o;have x3:=dA bD.o;have x4:=dI bD.o;have x5:=eH bD.o;have x6:=fF bD.o;have y0:=bK bA.o;have y1:=bS bA.o;have y2:=dh bA.o;have y3:=dA bA.o;have y4:=dI bA.o;have y5:=eH bA.o;have y6:=fF bA.o;have f0:=af bA.o 0;have f1:=af bA.o 1;have f2:=af bA.o 2;have f3:=af bA.o 3;have f4:=af bA.o 4;have f5:=af bA.o 5;have f6:=af bA.o 6;go_wp2;have k6:=qd bA.o (Vs B1 n1 d1) (Vs Ao la co) (Value.int .i64 pl) (Value.int .i64 pq) (Vs B5 n5 d5) (Vs Ad ld cd) (Value.int .i64 po);have hoth:=fun k hk=>ek (wz) gr (Vs B1 n1 d1) (Vs Ao la co) (Value.int .i64 pl) (Value.int .i64 pq) (Vs B5 n5 d5) (Vs Ad ld cd) (Value.int .i64 po) k hk
     have hbf:=au (j:=6) (v:=(Value.int .i64 po)) (au (j:=5) (v:=(Vs Ad ld cd)) (au (j:=4) (v:=(Vs B5 n5 d5)) (au (j:=3) (v:=(Value.int .i64 pq)) (au (j:=2) (v:=(Value.int .i64 pl)) (au (j:=1) (v:=(Vs Ao la co)) (au (j:=0) (v:=(Vs B1 n1 d1)) HB.o HG.o.2.1) HG.o.2.1) HG.o.2.1) HG.o.2.1) HG.o.2.1) HG.o.2.1) HG.o.2.1;generalize hwq:((((((((wz).setCell ⟨gr,0,none⟩ (Vs B1 n1 d1)).setCell ⟨gr,1,none⟩ (Vs Ao la co)).setCell ⟨gr,2,none⟩ (Value.int .i64 pl)).setCell ⟨gr,3,none⟩ (Value.int .i64 pq)).setCell ⟨gr,4,none⟩ (Vs B5 n5 d5)).setCell ⟨gr,5,none⟩ (Vs Ad ld cd)).setCell ⟨gr,6,none⟩ (Value.int .i64 po))=w8 at k6 hbf hoth|-;clear hwq;have z0:=bK k6;have z1:=bS k6;have z2:=dh k6;have z3:=dA k6;have z4:=dI k6;have z5:=eH k6;have z6:=fF k6;have gT:=ai (And.intro hbf hoth);clear hbf hoth;refine bodyPost_ret (v:=.tuple #[.agg #[.slice B1 n1 d1,.slice Ao la co,.int .i64 pl,.int .i64 pq,.slice B5 n5 d5,.slice Ad ld cd,.int .i64 po],.int .i64 0]) (by simp[results,results27,go_sem,z0,z1,z2,z3,z4,z5,z6]) rfl ?_;exact⟨⟨.slice B1 n1 d1,.slice Ao la co,.slice B5 n5 d5,.slice Ad ld cd⟩,rfl,⟨bW Bj.o bA.o (by decide+kernel) gT.o.2,bW yX.o bA.o (by decide+kernel) gT.o.2,bW Hu.o bA.o (by decide+kernel) gT.o.2,bW uy.o bA.o (by decide+kernel) gT.o.2⟩,gT.o.1⟩
theorem Dk(A B:Option Addr)(k c d:Nat)(sub fG seq:Int)(pay:ByteArray)(V:List SV)(w:World)(hk:V.length=k)(hA:Kd.C pI w A k V)(hB:Kd.C SI w B k (V.map uE))(hl:k<=100000):
 Calls prog 32 #[.agg #[.int .i64 sub,.int .i64 fG,.int .i64 seq,.slice A k c,.string pay],.agg #[.int .i64 sub,.int .i64 seq,.slice B k d,.string pay],.int .i64 fG] w fun e w'=>e=.returned (.int .i64 0)∧Below w.heap.size w w':=by
 have HA:=ai hA;have HC:=ai hB;have HK:=ai (And.intro hk hl);clear hA hB hk hl;go_enter func32,ntmps32
 go_upto_region 1 with (fail)
 have hb3:=ae (ae (Below.refl w.heap.size w) (.cells #[.int .i64 sub,.int .i64 fG,.int .i64 seq,.slice A k c,.string pay] 46)) (.cells #[.int .i64 sub,.int .i64 seq,.slice B k d,.string pay] 92);obtain⟨k1,k2⟩:=gQ w.heap (.cells #[.int .i64 sub,.int .i64 fG,.int .i64 seq,.slice A k c,.string pay] 46 (0,0)) (.cells #[.int .i64 sub,.int .i64 seq,.slice B k d,.string pay] 92 (0,0));have HB:=ai hb3;have rW:=ai (show ((w.alloc (.cells #[.int .i64 sub,.int .i64 fG,.int .i64 seq,.slice A k c,.string pay] 46)).alloc (.cells #[.int .i64 sub,.int .i64 seq,.slice B k d,.string pay] 92)).heap[w.heap.size]? =_ from k1);have xy:=ai (show ((w.alloc (.cells #[.int .i64 sub,.int .i64 fG,.int .i64 seq,.slice A k c,.string pay] 46)).alloc (.cells #[.int .i64 sub,.int .i64 seq,.slice B k d,.string pay] 92)).heap[w.heap.size+1]? =_ from k2);clear k1 k2 hb3;generalize (w.alloc (.cells #[.int .i64 sub,.int .i64 fG,.int .i64 seq,.slice A k c,.string pay] 46)).alloc (.cells #[.int .i64 sub,.int .i64 seq,.slice B k d,.string pay] 92)=W0 at HB rW xy|-;obtain⟨g2,hg2⟩:∃g,g=w.heap.size+1:=⟨_,rfl⟩
 obtain⟨g1,hg1⟩:∃g,g=w.heap.size:=⟨_,rfl⟩
 rw[<-hg2] at xy;rw[<-hg1] at rW;rw[<-hg2,<-hg1];have HG:=ai (show w.heap.size<=g1∧w.heap.size<=g2 by omega);clear hg1 hg2;have x0:=bK rW.o;have x1:=bS rW.o;have x2:=dh rW.o;have x3:=dA rW.o;have x4:=dI rW.o;have y0:=bK xy.o;have y1:=bS xy.o;have y2:=dh xy.o;have y3:=dA xy.o;go_wp2_with fail
 have HBX:=ai (Below.refl W0.heap.size W0);go_loopg [7,8,52] (k+1) (fun kk v7 v8 v52 W=>∃i:Nat,ay (i<=k∧kk+i=k+1)∧v52=.int .i64 (i:Int)∧ay (Below W0.heap.size W0 W))
 case atStart=>exact⟨0,⟨by omega,by omega⟩,rfl,HBX⟩
 case round=>
  clear x0 x1 x2 x3 x4 y0 y1 y2 y3;obtain⟨i,HM,rfl,kP⟩:=hrel;by_cases hi:i<k
  ·have b1:decide ((i:Int)<(k:Int))=true:=decide_eq_true (by omega);have b2:decide (i<k)=true:=decide_eq_true (by omega);have p1:(0:Int)<=(i:Int):=by omega
   have p2:(i:Int)<(k:Int):=by omega
   obtain⟨x,hx⟩:∃x,V[i]? =some x:=⟨_,List.getElem?_eq_getElem (by have:=HK.o.1;omega)⟩
   have hbt:=aD HB.o HB.o.size kP.o;obtain⟨_,_,hra⟩:=Kd.aY HA.o hbt;obtain⟨aa,KT,hca⟩:=hra (by omega);cases KT
   obtain⟨ca,hla,hMa,Ij⟩:=hca i x hx;obtain rfl:=Dw hMa;obtain⟨_,_,hrb⟩:=Kd.aY HC.o hbt;obtain⟨ab,hAB,hcb⟩:=hrb (by omega);cases hAB
   obtain⟨cb,hlb,hMb,Gx⟩:=hcb i (uE x) (by rw[List.getElem?_map,hx];rfl);obtain rfl:=BA hMb;have a0:wr.cell? (aa.add (i*2))=some (.int .i64 x.f0):=Ij 0 _ rfl;have a1:wr.cell? ⟨(aa.add (i*2)).block,(aa.add (i*2)).off+1,none⟩=some (.string x.f1):=by rw[<-bC _ _ 1 (by omega)];exact Ij 1 _ rfl
   have c0:wr.cell? (ab.add (i*2))=some (.int .i64 x.f0):=Gx 0 _ rfl;have c1:wr.cell? ⟨(ab.add (i*2)).block,(ab.add (i*2)).off+1,none⟩=some (.string x.f1):=by rw[<-bC _ _ 1 (by omega)];exact Gx 1 _ rfl
   clear hra hca hMa hla Ij hrb hcb hMb hlb Gx hbt hx;go_upto_region 6 with (fail)
   have gZ:=ae (Below.refl wr.heap.size wr) (.cells #[.int .i64 x.f0,.string x.f1] UJ);have lh:=heap_alloc_new wr (.cells #[.int .i64 x.f0,.string x.f1] UJ);have m0_:=av gZ a0;have qP:=av gZ a1;have pJ:=dW kP gZ;clear a0 a1 c0 c1 kP;generalize wr.alloc (.cells #[.int .i64 x.f0,.string x.f1] UJ)=W7 at lh m0_ qP pJ|-;generalize wr.heap.size=g8 at lh|-;have z0:=bK lh;have z1:=bS lh;have x3:=(aN ((pJ.o.block _ (aI rW.o)).trans rW.o) 3).trans (show _=some (Vs (some aa) k c) from rfl);clear lh gZ;go_region
   go_wp2_with fail
   go_roundg (gk-1)
   case measure=>have:=HM.o;omega
   case rel=>exact⟨i+1,⟨by omega,by have:=HM.o;omega⟩,by first|rfl|(rw[jK (by omega) (by have:=HK.o;omega)];rfl),⟨by(with_reducible repeat(first|exact pJ.o|apply ah|apply ak|apply aK))⟩⟩
  ·have hin:k=i:=by have:=HM.o;omega
   subst hin;have b1:decide ((k:Int)<(k:Int))=false:=decide_eq_false (by omega);have b2:decide (k<k)=false:=decide_eq_false (by omega);have hfin:=aD HB.o HB.o.size kP.o;clear hi;go_wp2;go_ret;exact⟨rfl,hfin⟩
theorem NW{α:Type}(p:α->Bool)(l:List α)(i:Nat)(x:α)(h:l[i]? =some x):(l.drop i).all p=(p x&&(l.drop (i+1)).all p):=by
 have hl:i<l.length:=(List.getElem?_eq_some_iff.1 h).1;rw[List.drop_eq_getElem_cons hl,(List.getElem?_eq_some_iff.1 h).2,List.all_cons]
theorem CB(A B E:Option Addr)(n m k c d e0:Nat)(S:List SA)(F:List SP)(V:List SV)(pay:ByteArray)(w:World)(hn:S.length=n)(hm:F.length=m)(hk:V.length=k)(hr:Kd.C ui w A n (S.map toA))(hr2:Kd.C vI w B m (F.map toQ))(hr3:Kd.C qC w E k (V.map uE))(hl:n<=100000)(hl2:m<=100000)(hcd:m<=d)(hst:∀p∈F,p.f4.size<=1000000000)(hsz:∀x∈V,x.f1.size<=1000000000):
 Calls prog 70 #[.slice A n c,.slice B m d,.slice E k e0,.int .i64 (pay.size:Int)] w fun e w'=>e=.returned (.bool (gL S F V pay))∧Below w.heap.size w w':=by
 have nO:=ai hr;have DX:=ai hr2;have jc:=ai hr3;have HN:=ai hn;have HM:=ai hm;have HK:=ai hk;have HST:=ai hst;have JK:=ai hsz;have HZ:=ai (show gL S F V pay=((cu S F).isNone&&((dV S V pay).isNone&&F.all fun p=>eP p (V.getD (gN p.f0 S).toNat z37))) from rfl);generalize gL S F V pay=z at HZ|-;clear hr hr2 hr3 hn hm hk hst hsz;have xg:=ai (kX A B n m c d S F w HN.o HM.o nO.o DX.o hl hl2 hcd HST.o);have Dl:=ai (fun W (hb:Below w.heap.size w W)=>l7 A E n k c e0 S V pay W HN.o HK.o (Kd.aY nO.o hb) (Kd.aY jc.o hb) hl JK.o);cases lL:cu S F with
 |some i=>
  have HR:=ai (show z=false by rw[HZ.o,lL];rfl);rw[lL] at xg;have q1:decide (0<=lv (some i))=true:=decide_eq_true (by show (0:Int)<=(i:Int);omega);clear lL;go_enter func70,ntmps70
  go_wp2_with fail
  refine xg.o.mono ?_;rintro e w1 ⟨rfl,hb⟩;clear xg Dl;go_wp2
  try go_ret
  exact⟨by rw[HR.o];rfl,hb⟩
 |none=>
  rw[lL] at xg;have hfx:=qH lL;have Pk:=ai hfx;have q1:decide (0<=lv none)=false:=by decide
  cases heb:dV S V pay with
  |some i=>
   have HR:=ai (show z=false by rw[HZ.o,lL,heb];rfl);rw[heb] at Dl;have q2:decide (0<=lv (some i))=true:=decide_eq_true (by show (0:Int)<=(i:Int);omega);clear lL heb hfx;go_enter func70,ntmps70
   go_wp2_with fail
   refine xg.o.mono ?_;rintro e w1 ⟨rfl,hb⟩;have HB:=ai hb;clear xg hb;go_wp2_with fail
   refine(Dl.o _ HB.o).mono ?_;rintro e w2 ⟨rfl,hb⟩;have hfin:=aD HB.o HB.o.size hb;clear Dl hb;go_wp2
   try go_ret
   exact⟨by rw[HR.o];rfl,hfin⟩
  |none=>
   have hlen:=nT heb;have HP:=ai (show z=(F.drop 0).all fun p=>eP p (V.getD (gN p.f0 S).toNat z37) by rw[HZ.o,lL,heb];rfl);rw[heb] at Dl;have HKN:=ai (show k=n by have:=HK.o;have:=HN.o;omega);clear lL heb hfx hlen;go_enter func70,ntmps70
   go_wp2_with fail
   refine xg.o.mono ?_;rintro e w1 ⟨rfl,hb⟩;have HB:=ai hb;clear xg hb;go_wp2_with fail
   refine(Dl.o _ HB.o).mono ?_;rintro e w2 ⟨rfl,hb⟩;replace HB:=dW HB hb;clear Dl hb;go_upto_region 4 with (fail)
   go_loopg [10,24] (m+1) (fun kq v10 v24 W=>∃i:Nat,ay (i<=m∧kq+i=m+1∧z=(F.drop i).all fun p=>eP p (V.getD (gN p.f0 S).toNat z37))∧v24=.int .i64 (i:Int)∧ay (Below w.heap.size w W))
   case atStart=>exact⟨0,⟨by omega,by omega,HP.o⟩,rfl,HB⟩
   case round=>
    clear HB HP;obtain⟨i,HI,rfl,HB⟩:=hrel;by_cases hi:i<m
    ·have b1:decide ((i:Int)<(m:Int))=true:=decide_eq_true (by omega);have b2:decide (i<m)=true:=decide_eq_true (by omega);have p1:(0:Int)<=(i:Int):=by omega
     have p2:(i:Int)<(m:Int):=by omega
     obtain⟨ad,e,h0,h1,h2,h3,h4⟩:=Cn (Kd.aY DX.o HB.o) i p1 p2;cases e
     obtain⟨p,hp⟩:∃p,F[i]? =some p:=⟨_,List.getElem?_eq_getElem (by have:=HM.o;omega)⟩
     have hgd:F.getD i z168=p:=by rw[List.getD_eq_getElem?_getD,hp];rfl
     have hrd:nG (F.map toQ) (i:Int)=toQ p:=by rw[<-hgd];exact yJ F i
     rw[hrd,Int.toNat_natCast] at h0 h1 h2 h3 h4;have hpm:p∈F:=List.mem_of_getElem? hp;have HAD:=ai (NW (fun p=>eP p (V.getD (gN p.f0 S).toNat z37)) F i p hp);have hkk:=Pk.o p hpm;have hps:=HST.o p hpm;clear hrd hgd hp hpm;change wr.cell? _=some (.string p.f0) at h0;change wr.cell? _=some (.int .i64 p.f1) at h1;change wr.cell? _=some (.int .i64 p.f2) at h2;change wr.cell? _=some (.int .i64 p.f3) at h3;change wr.cell? _=some (.string p.f4) at h4;have hlt:=tJ p.f0 S;obtain⟨kk,Sv⟩:∃x,x=gN p.f0 S:=⟨_,rfl⟩
     rw[<-Sv] at hkk hlt HAD;have jC:=ai Sv;obtain⟨j,rfl⟩:∃j:Nat,kk=(j:Int):=⟨kk.toNat,by omega⟩
     clear Sv hkk;have p3:(0:Int)<=(j:Int):=by omega
     have p4:(j:Int)<(k:Int):=by have:=HN.o;have:=HKN.o;omega
     obtain⟨Uv,e,k0,k1⟩:=IP (Kd.aY jc.o HB.o) (j:Int) p3 p4;cases e
     have zx:xK (V.map uE) (j:Int)=uE (V.getD j z37):=DL V j;rw[zx,Int.toNat_natCast] at k0 k1;rw[Int.toNat_natCast] at HAD;have UH:(V.getD j z37).f1.size<=1000000000:=JK.o _ (by rw[List.getD_eq_getElem?_getD,List.getElem?_eq_getElem (by have:=HK.o;omega)];exact List.getElem_mem _);generalize V.getD j z37=v at k0 k1 HAD UH;change wr.cell? _=some (.int .i64 v.f0) at k0;change wr.cell? _=some (.string v.f1) at k1;have Rq:=ai (fun W=>D7 p v W UH hps);clear zx hlt UH hps;go_upto_region 6 with (fail)
     have hb2:=ae (Below.refl wr.heap.size wr) (.cells #[.string p.f0,.int .i64 p.f1,.int .i64 p.f2,.int .i64 p.f3,.string p.f4] 231);have kx:=heap_alloc_new wr (.cells #[.string p.f0,.int .i64 p.f1,.int .i64 p.f2,.int .i64 p.f3,.string p.f4] 231);replace k0:=sV hb2 k0;replace k1:=sV hb2 k1;replace HB:=dW HB hb2;clear hb2 h0 h1 h2 h3 h4;generalize wr.alloc (.cells #[.string p.f0,.int .i64 p.f1,.int .i64 p.f2,.int .i64 p.f3,.string p.f4] 231)=w2 at kx k0 k1 HB|-;generalize wr.heap.size=gx at kx|-;have q0:∀q:aW w2,q.w.cell? ⟨gx,0,none⟩=some (.string p.f0):=fun q=>q.cell ((bK kx))
     have q1':∀q:aW w2,q.w.cell? ⟨gx,1,none⟩=some (.int .i64 p.f1):=fun q=>q.cell ((bS kx))
     have q2':∀q:aW w2,q.w.cell? ⟨gx,2,none⟩=some (.int .i64 p.f2):=fun q=>q.cell ((dh kx))
     have q3:∀q:aW w2,q.w.cell? ⟨gx,3,none⟩=some (.int .i64 p.f3):=fun q=>q.cell ((dA kx))
     have q4:∀q:aW w2,q.w.cell? ⟨gx,4,none⟩=some (.string p.f4):=fun q=>q.cell ((dI kx))
     have q5:∀q:aW w2,q.w.cell? (Uv.add (j*2))=some (.int .i64 v.f0):=fun q=>q.cell k0
     have q6:∀q:aW w2,q.w.cell? ⟨(Uv.add (j*2)).block,(Uv.add (j*2)).off+1,none⟩=some (.string v.f1):=fun q=>q.cell k1
     have HFF:=ai (fun q:aW w2=>(wH A n c (S.map toA) p.f0 q.w (by rw[List.length_map];exact HN.o) (Kd.aY nO.o (aD HB.o HB.o.size q.h)) hl).mono (fun e w' hq=>show e=.returned (.int .i64 (j:Int))∧Below q.w.heap.size q.w w' from by rw[AJ,<-jC.o] at hq;exact hq));clear kx k0 k1;cases htb:eP p v with
     |false=>
      rw[htb] at Rq;have HR:=ai (show z=false by rw[HI.o.2.2,HAD.o,htb,Bool.false_and]);clear htb;refine wp_region_quiet_below (by kernel_rfl) (by kernel_rfl) ?_
      repeat((with_reducible refine wpQuiet_step (fun K hK=> ?_));go_simp;first|((with_reducible refine hK _ ?_);clear hK K)|((with_reducible apply Exists.intro);(with_reducible refine⟨fun _=> ?_,hK _ ?_⟩);(first|(go_at_call 122;(with_reducible refine Calls.dF (HFF.o _)))|(go_at_call 125;(with_reducible refine Calls.dF (Rq.o _))));clear hK K))
      with_reducible refine wpQuiet_nil ?_
      rintro _ ⟨pq,rfl⟩;have hfin:=aD HB.o HB.o.size pq.h;go_wp2
      try go_ret
      exact⟨by rw[HR.o];rfl,hfin⟩
     |true=>
      rw[htb] at Rq;have aax:=ai (show z=(F.drop (i+1)).all fun p=>eP p (V.getD (gN p.f0 S).toNat z37) by rw[HI.o.2.2,HAD.o,htb,Bool.true_and]);clear htb;refine wp_region_quiet_below (by kernel_rfl) (by kernel_rfl) ?_
      repeat((with_reducible refine wpQuiet_step (fun K hK=> ?_));go_simp;first|((with_reducible refine hK _ ?_);clear hK K)|((with_reducible apply Exists.intro);(with_reducible refine⟨fun _=> ?_,hK _ ?_⟩);(first|(go_at_call 122;(with_reducible refine Calls.dF (HFF.o _)))|(go_at_call 125;(with_reducible refine Calls.dF (Rq.o _))));clear hK K))
      with_reducible refine wpQuiet_nil ?_
      rintro _ ⟨pq,rfl⟩;have n1:=dW HB pq.h;go_wp2_with fail
      go_roundg (gk-1)
      case measure=>have:=HI.o;omega
      case rel=>exact⟨i+1,⟨by omega,by have:=HI.o;omega,aax.o⟩,(by first|rfl|(rw[iy (by omega) (by omega),show (i:Int)+1=((i+1:Nat):Int) by omega])),n1⟩
    ·have b1:decide ((i:Int)<(m:Int))=false:=decide_eq_false (by omega);have b2:decide (i<m)=false:=decide_eq_false (by omega);have HR:=ai (show z=true by rw[HI.o.2.2,List.drop_of_length_le (by have:=HM.o;omega)];rfl);go_wp2
     try go_ret
     exact⟨by rw[HR.o];rfl,HB.o⟩
end Go.Proofs.YtnmpijbcajclgaaGreatDoor.Mine
end
