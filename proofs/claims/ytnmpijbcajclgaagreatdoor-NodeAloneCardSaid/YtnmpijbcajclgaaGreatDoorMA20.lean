/- Texts of one claim, one behind the other, made short by a program. -/
import Derived.Test.YtnmpijbcajclgaaGreatDoorMA19
set_option maxHeartbeats 8000000
set_option linter.unusedSimpArgs false
set_option linter.unusedVariables false
set_option maxRecDepth 100000
section
namespace Go.Proofs.YtnmpijbcajclgaaGreatDoor.Mine
open Tryz
open Go.Maps Go.RowKit YtnmpijbcajclgaaGreatDoorW.PrintWords YtnmpijbcajclgaaGreatDoorW.PrintLast YtnmpijbcajclgaaGreatDoorW.PrintMore
open PNodeAlone
open Value renaming slice->Vs
def mX(S:List SA)(a:Int)(subs:List oN):List z8->List wS×Int->List wS×Int
 | [],x=>x
 |e::r,x=>mX S a subs r (jQ S a e subs x)
theorem CU(S:List SA)(es:List z8)(N:Nd):N.come S es={N with inbox:=(mX S N.addr N.subs es (N.inbox,N.lost)).1,lost:=(mX S N.addr N.subs es (N.inbox,N.lost)).2}:=by
 induction es generalizing N with
 |nil=>rfl
 |cons e r ih=>
  show (N.uV S e).come S r=_;rw[ih];rfl
theorem F7(S:List SA)(a:Int)(subs:List oN)(es:List z8)(i:Nat)(e:z8)(x:List wS×Int)(h:es[i]? =some e):mX S a subs (es.drop i) x=mX S a subs (es.drop (i+1)) (jQ S a e subs x):=by
 obtain⟨hi,rfl⟩:=List.getElem?_eq_some_iff.1 h;rw[List.drop_eq_getElem_cons hi];rfl
theorem Kj(S:List SA)(a:Int)(e:z8)(subs:List oN)(j:Nat)(s:oN)(b:List wS)(l:Int)(h:subs[j]? =some s):jQ S a e (subs.drop j) (b,l)=jQ S a e (subs.drop (j+1)) (if gL S s.F e.V e.pay=true then (if b.length<64 then (b++ [⟨s.id,a,e.seq,e.V,e.pay⟩],l) else (b,l+1)) else (b,l)):=by
 obtain⟨hi,rfl⟩:=List.getElem?_eq_some_iff.1 h;rw[List.drop_eq_getElem_cons hi];rfl
def TkO(S:List SA)(P:Nd)(ne i:Nat)(acc:List wS)(L:Int):Prop:=i<=ne∧acc.length<=64∧P.lost<=L∧L<=P.lost+16*(i:Int)∧mX S P.addr P.subs (P.opn.drop i) (acc,L)=mX S P.addr P.subs P.opn (P.inbox,P.lost)
def TkI(S:List SA)(P:Nd)(e:z8)(i j:Nat)(X:List wS×Int)(acc:List wS)(L:Int):Prop:=acc.length<=64∧P.lost<=L∧L<=P.lost+16*(i:Int)+(j:Int)∧jQ S P.addr e (P.subs.drop j) (acc,L)=X
structure Xm(S:List SA)(P:Nd):Prop where
 sch:S.length<=1000
 wu:P.subs.length<=16
 zn:P.opn.length<=8
 pV:P.inbox.length<=64
 lost:0<=P.lost∧P.lost<=1000000000
 flt:∀s∈P.subs,s.F.length<=1000∧∀p∈s.F,p.f4.size<=1000000000
 val:∀e∈P.opn,e.V.length<=1000∧∀x∈e.V,x.f1.size<=1000000000
theorem Fu(b:Nat)(S:List SA)(P:Nd)(h:Bc)(w:World)(hI:iU b w S P h)(hb:b<=w.heap.size)(hF:Xm S P):
 Calls prog 30 #[nV h P] w fun e w'=>∃h',e=.returned (nV h' (P.tick S))∧iU b w' S (P.tick S) h'∧Below w.heap.size w w':=by
 obtain⟨v1,v2,v5,v6⟩:=h;obtain⟨B1,d1,e1⟩:=Kd.dE hI.sch;rw[List.length_map] at e1;obtain⟨n1,hn1⟩:∃n1,n1=S.length:=⟨_,rfl⟩
 rw[<-hn1] at e1;obtain rfl:v1=.slice B1 n1 d1:=e1;obtain⟨A2,c2,e2⟩:=Kd.dE hI.sub;rw[List.length_map] at e2;obtain⟨n,hn⟩:∃n,n=P.subs.length:=⟨_,rfl⟩
 rw[<-hn] at e2;obtain rfl:v2=.slice A2 n c2:=e2;obtain⟨A5,c5,e5⟩:=Kd.dE hI.opn;rw[List.length_map] at e5;obtain⟨ne,hne⟩:∃n,n=P.opn.length:=⟨_,rfl⟩
 rw[<-hne] at e5;obtain rfl:v5=.slice A5 ne c5:=e5;obtain⟨A6,c6,e6⟩:=Kd.dE hI.box;rw[List.length_map] at e6;obtain⟨m,hm⟩:∃m,m=P.inbox.length:=⟨_,rfl⟩
 rw[<-hm] at e6;obtain rfl:v6=.slice A6 m c6:=e6;have HI:=ai hI;have HF:=ai hF;have l9:=ai hb;have Es:=ai (show m<=64 from by rw[hm];exact hF.pV);have HL:=ai (show n<=16∧ne<=8 from⟨by rw[hn];exact hF.wu,by rw[hne];exact hF.zn⟩);have HN:=ai (show n=P.subs.length∧ne=P.opn.length∧m=P.inbox.length∧n1=S.length from⟨hn,hne,hm,hn1⟩);have hlt:(P.inbox.map rD).length=m:=by rw[List.length_map];exact hm.symm
 have Lh:=ai (show Kd.C VO w B1 n1 (S.map toA) from by have h1:=(Kd.bN hI.sch).2.2;rw[List.length_map,<-hn1,mD] at h1;exact h1);obtain⟨po,hpo⟩:∃p,p=P.lost:=⟨_,rfl⟩
 have HP0:=ai hpo;unfold nV AR;show Calls _ _ #[.agg #[.slice B1 n1 d1,.slice A2 n c2,.int .i64 P.last,.int .i64 P.seq,.slice A5 ne c5,.slice A6 m c6,.int .i64 P.lost]] w _;have sD:ay ((P.tick S).last=P.last∧(P.tick S).seq=P.seq∧(P.tick S).lost=(mX S P.addr P.subs P.opn (P.inbox,P.lost)).2∧(P.tick S).subs=P.subs∧(P.tick S).opn= []∧(P.tick S).inbox=(mX S P.addr P.subs P.opn (P.inbox,P.lost)).1):=⟨by unfold Nd.tick;rw[CU];exact⟨rfl,rfl,rfl,rfl,rfl,rfl⟩⟩
 rw[sD.o.1,sD.o.2.1];rw[<-hpo];generalize P.last=pl;generalize P.seq=pq;clear hI hb hF hn hne hm hn1 hpo;go_enter func30,ntmps30
 go_upto_region 1 with (fail)
 have hb3:=ae (ae (Below.refl w.heap.size w) (.cells #[Vs B1 n1 d1,Vs A2 n c2,.int .i64 pl,.int .i64 pq,Vs A5 ne c5,Vs A6 m c6,.int .i64 po] dY)) (.cells #[.slice none 0 0,.slice none 0 0,.int .i64 0,.int .i64 0,.slice none 0 0,.slice none 0 0,.int .i64 0] dY);obtain⟨kb,kr⟩:=gQ w.heap (.cells #[Vs B1 n1 d1,Vs A2 n c2,.int .i64 pl,.int .i64 pq,Vs A5 ne c5,Vs A6 m c6,.int .i64 po] dY (0,0)) (.cells #[.slice none 0 0,.slice none 0 0,.int .i64 0,.int .i64 0,.slice none 0 0,.slice none 0 0,.int .i64 0] dY (0,0));have HB:=ai hb3;have bD:=ai (show ((w.alloc (.cells #[Vs B1 n1 d1,Vs A2 n c2,.int .i64 pl,.int .i64 pq,Vs A5 ne c5,Vs A6 m c6,.int .i64 po] dY)).alloc (.cells #[.slice none 0 0,.slice none 0 0,.int .i64 0,.int .i64 0,.slice none 0 0,.slice none 0 0,.int .i64 0] dY)).heap[w.heap.size]? =_ from kb);have bA:=ai (show ((w.alloc (.cells #[Vs B1 n1 d1,Vs A2 n c2,.int .i64 pl,.int .i64 pq,Vs A5 ne c5,Vs A6 m c6,.int .i64 po] dY)).alloc (.cells #[.slice none 0 0,.slice none 0 0,.int .i64 0,.int .i64 0,.slice none 0 0,.slice none 0 0,.int .i64 0] dY)).heap[w.heap.size+1]? =_ from kr);clear kb kr hb3;generalize (w.alloc (.cells #[Vs B1 n1 d1,Vs A2 n c2,.int .i64 pl,.int .i64 pq,Vs A5 ne c5,Vs A6 m c6,.int .i64 po] dY)).alloc (.cells #[.slice none 0 0,.slice none 0 0,.int .i64 0,.int .i64 0,.slice none 0 0,.slice none 0 0,.int .i64 0] dY)=W0 at HB bD bA|-;obtain⟨gr,hgr⟩:∃g,g=w.heap.size+1:=⟨_,rfl⟩
 obtain⟨gb,hgb⟩:∃g,g=w.heap.size:=⟨_,rfl⟩
 rw[<-hgr] at bA;rw[<-hgb] at bD;rw[<-hgr,<-hgb];have HG:=ai (show w.heap.size<=gb∧w.heap.size<=gr∧gb≠gr by omega);clear hgr hgb;have Br:=ai (jH (Kd.bJ HI.o.box HB.o));have fM:=ai (ae (Below.refl (W0).heap.size (W0)) (.cells #[] mQ));have HE:=ai (kL wK mQ b (W0) (Nat.le_trans l9.o HB.o.size));have sI:=ai (show gb≠(W0).heap.size∧gr≠(W0).heap.size from⟨Nat.ne_of_lt (aI bD.o),Nat.ne_of_lt (aI bA.o)⟩);have x5:=(aN (show (W0.alloc (.cells #[] mQ)).heap[gb]? =_ from(fM.o.block _ (aI bD.o)).trans bD.o) 5).trans (show _=some (Vs A6 m c6) from rfl);go_upto_region 2 with ((with_reducible refine bn (b:=.append) (xs:= #[.tmp 8,.tmp 10]) rfl ?_);at_builtin;go_loud (refine Kd.iq wK (w0:=w) b rfl (.tmp 8) (.tmp 10) 72 mQ (.agg #[(.int .i64 0),(.int .i64 0),(.slice none 0 0),(.string ⟨#[]⟩)]) 56 rfl underlying72 qD rfl (by decide) (by decide) (.slice (some ⟨(W0).heap.size,0,none⟩) 0 0) [] (P.inbox.map rD) A6 m c6 (fun _=>True) (fun q=>q<(W0).heap.size) ?hs ?hx HE.o (ji Br.o fM.o) (fun x cs hx=>Kd.kG hx fM.o) (fun q hq=>⟨trivial,fun e0=>by have e1:q=(W0).heap.size:=Option.some.inj e0;omega⟩) (fun _ _=>trivial) ((aD HB.o HB.o.size fM.o).mono l9.o) (Nat.le_trans l9.o (Nat.le_trans HB.o.size fM.o.size)) ?aL ?_;(case hs=>first|rfl|(go_simp;done)|(go_simp;rfl));(case hx=>first|rfl|(go_simp;done)|(go_simp;rfl));(case aL=>have:=Es.o;simp;omega);intro v9 w9 ho oo hg hat;rw[List.nil_append] at ho;obtain⟨A9,c9,rfl,_,_⟩:=Kd.bB ho;rw[show ((P.inbox.map rD)).length=m from hlt] at ho hat|-;have qP:=ai ((hg.block _ (Nat.lt_of_lt_of_le (aI bD.o) fM.o.size) (fun e0=>sI.o.1 (Option.some.inj e0))).trans ((fM.o.block _ (aI bD.o)).trans bD.o));have pJ:=ai ((hg.block _ (Nat.lt_of_lt_of_le (aI bA.o) fM.o.size) (fun e0=>sI.o.2 (Option.some.inj e0))).trans ((fM.o.block _ (aI bA.o)).trans bA.o));have rX:=ai ((aD HB.o HB.o.size fM.o).grown hg (aD HB.o HB.o.size fM.o).size (fun q hq=>by have e1:(W0).heap.size=q:=Option.some.inj hq;rw[<-e1];exact HB.o.size));have rV:=ai ho;(have kC:=ai (yL hat HB.o.size fM.o.size));clear bD bA HB Br fM HE sI ho oo hg hat;have bD:=qP;have bA:=pJ;have HB:=rX;have Bt:=rV;clear qP pJ rX rV;skip))
 clear x5 hlt;have x4:=dI bD.o;go_wp2_with fail
 clear x4;have iH:=Bt;clear Bt;go_loopg [3,5,15] (ne+1) (fun kk v3 v5 v15 W=>∃(i:Nat) (acc:List wS) (L:Int),ay (kk+i=ne+1∧TkO S P ne i acc L)∧v15=.int .i64 (i:Int)∧ay (W.heap[gb]? =some (.cells #[.slice B1 n1 d1,.slice A2 n c2,.int .i64 pl,.int .i64 pq,.slice A5 ne c5,.slice A6 m c6,.int .i64 L] dY (0,0)))∧ay (W.heap[gr]? =some (.cells #[.slice none 0 0,.slice none 0 0,.int .i64 0,.int .i64 0,.slice none 0 0,.slice none 0 0,.int .i64 0] dY (0,0)))∧ay (Below w.heap.size w W)∧ay (Kd.R wK mQ W b (fun _=>True) v3 (acc.map rD))∧ay (∀k1,v3.ownBlock=some k1->w.heap.size<=k1))
 case atStart=>exact⟨0,P.inbox,po,⟨by omega,by omega,HF.o.pV,by rw[HP0.o];omega,by rw[HP0.o];omega,by rw[HP0.o];rfl⟩,rfl,bD,bA,HB,iH,kC⟩
 case round=>
  obtain⟨i,acc,L,HM,rfl,bD,bA,HB,iH,kC⟩:=hrel;have hile:i<=ne:=HM.o.2.1;obtain⟨Ad,cd,ed⟩:=Kd.dE iH.o;subst ed;by_cases hi:i<ne
  ·have b1:decide ((i:Int)<(ne:Int))=true:=decide_eq_true (by omega);have b2:decide (i<ne)=true:=decide_eq_true (by omega);have p1:(0:Int)<=(i:Int):=by omega
   have p2:(i:Int)<(ne:Int):=by omega
   obtain⟨_,_,hr⟩:=jH HI.o.opn;obtain⟨ad,hA,hc⟩:=hr (by omega);cases hA
   obtain⟨e,ZC⟩:∃e,P.opn[i]? =some e:=⟨_,List.getElem?_eq_getElem (by have:=HN.o.2.1;omega)⟩
   obtain⟨cs,hcl,FD,hcell⟩:=hc i (rE e) (by rw[List.getElem?_map,ZC];rfl);obtain⟨vf,rfl,hV⟩:=AB FD;obtain⟨E,e0,PH⟩:=Kd.dE hV;obtain⟨k,hk⟩:∃k,k=e.V.length:=⟨_,rfl⟩
   replace PH:vf=.slice E (e.V.map uE).length e0:=PH;rw[List.length_map,<-hk] at PH;subst PH;have c0:=av HB.o (show w.cell? (ad.add (i*3))=some (.int .i64 e.seq) from hcell 0 _ rfl);have c1:=av HB.o (show w.cell? ⟨(ad.add (i*3)).block,(ad.add (i*3)).off+1,none⟩=some (.slice E k e0) from by rw[<-bC _ _ 1 (by omega)];exact hcell 1 _ rfl);have c2':=av HB.o (show w.cell? ⟨(ad.add (i*3)).block,(ad.add (i*3)).off+2,none⟩=some (.string e.pay) from by rw[<-bC _ _ 2 (by omega)];exact hcell 2 _ rfl);have HVX:=ai hV;have X7:=ai (And.intro ZC hk);clear hr hc hcell FD hcl hV ZC hk;have x1:=bS bD.o;go_upto_region 5 with (fail)
   have gZ:=ae (Below.refl wr.heap.size wr) (.cells #[.int .i64 e.seq,.slice E k e0,.string e.pay] Oo);have lh:=heap_alloc_new wr (.cells #[.int .i64 e.seq,.slice E k e0,.string e.pay] Oo);clear c0 c1 c2' x1;replace bD:=bZ gZ bD;replace bA:=bZ gZ bA;replace iH:=lV iH gZ;have Pq:=ai HB.o.size;replace HB:=dW HB gZ;generalize wr.alloc (.cells #[.int .i64 e.seq,.slice E k e0,.string e.pay] Oo)=W7 at bD bA HB iH lh gZ|-;obtain⟨ge,hge⟩:∃q,q=wr.heap.size:=⟨_,rfl⟩
   rw[<-hge] at lh Pq|-;have jC:=ai lh;have x1:=bS bD.o;clear gZ hge lh;obtain⟨ko,hko⟩:∃ko,ko+1=gk:=⟨gk-1,by have:=HM.o.1;omega⟩
   have MN:=ai hko;have zU:=HM;clear hko HM;go_wp2_with fail
   clear x1 b1 b2 p1 p2;obtain⟨X,hX⟩:∃X,X=jQ S P.addr e P.subs (acc,L):=⟨_,rfl⟩
   have HX:=ai hX;go_loopg [3,7,22] (n+1) (fun kk v3 v7 v22 W=>∃(j:Nat) (acc:List wS) (L:Int),ay (j<=n∧kk+j=n+1∧TkI S P e i j X acc L)∧v22=.int .i64 (j:Int)∧ay (W.heap[gb]? =some (.cells #[.slice B1 n1 d1,.slice A2 n c2,.int .i64 pl,.int .i64 pq,.slice (some ad) ne c5,.slice A6 m c6,.int .i64 L] dY (0,0)))∧ay (W.heap[gr]? =some (.cells #[.slice none 0 0,.slice none 0 0,.int .i64 0,.int .i64 0,.slice none 0 0,.slice none 0 0,.int .i64 0] dY (0,0)))∧ay (Below w.heap.size w W)∧ay (Kd.R wK mQ W b (fun _=>True) v3 (acc.map rD))∧ay (∀k1,v3.ownBlock=some k1->w.heap.size<=k1)∧ay (W.heap[ge]? =some (.cells #[.int .i64 e.seq,.slice E k e0,.string e.pay] Oo (0,0))))
   case atStart=>exact⟨0,acc,L,⟨by omega,by omega,zU.o.2.2.1,zU.o.2.2.2.1,by have:=zU.o.2.2.2.2.1;omega,by rw[hX];rfl⟩,rfl,bD,bA,HB,iH,kC,jC⟩
   case round=>
    clear bD bA HB iH kC jC hX;obtain⟨j,acc,L,HM,rfl,bD,bA,HB,iH,kC,jC⟩:=hrel;have hjle:j<=n:=HM.o.1;obtain⟨Ad,cd,ed⟩:=Kd.dE iH.o;subst ed;obtain⟨ld,hld⟩:∃l,l=(acc.map rD).length:=⟨_,rfl⟩
    rw[<-hld] at iH kC|-;rw[List.length_map] at hld;have FB:=ai (show ld=acc.length∧acc.length<=64 from⟨hld,HM.o.2.2.1⟩);clear hld;by_cases hj:j<n
    ·have b1:decide ((j:Int)<(n:Int))=true:=decide_eq_true (by omega);have b2:decide (j<n)=true:=decide_eq_true (by omega);have p1:(0:Int)<=(j:Int):=by omega
     have p2:(j:Int)<(n:Int):=by omega
     obtain⟨_,_,hr⟩:=jH HI.o.sub;obtain⟨XZ,hA,hc⟩:=hr (by omega);cases hA
     obtain⟨s,hsi⟩:∃s,P.subs[j]? =some s:=⟨_,List.getElem?_eq_getElem (by have:=HN.o.1;omega)⟩
     obtain⟨cs,hcl,FD,hcell⟩:=hc j (rS s) (by rw[List.getElem?_map,hsi];rfl);obtain⟨vf,rfl,hV⟩:=su FD;obtain⟨A3,c3,PH⟩:=Kd.dE hV;obtain⟨k3,hk3⟩:∃k,k=s.F.length:=⟨_,rfl⟩
     replace PH:vf=.slice A3 (s.F.map toQ).length c3:=PH;rw[List.length_map,<-hk3] at PH;subst PH;have c0:=av HB.o (show w.cell? (XZ.add (j*2))=some (.int .i64 s.id) from hcell 0 _ rfl);have c1:=av HB.o (show w.cell? ⟨(XZ.add (j*2)).block,(XZ.add (j*2)).off+1,none⟩=some (.slice A3 k3 c3) from by rw[<-bC _ _ 1 (by omega)];exact hcell 1 _ rfl);have HSI:=ai (And.intro hsi hk3);have hc3:=(Kd.bN hV).2.1;have Gp:=(Kd.bN hV).2.2;have hCE:=(Kd.bN HVX.o).2.2;have hfl:=HF.o.flt s (List.mem_of_getElem? hsi);have hvl:=HF.o.val e (List.mem_of_getElem? X7.o.1);have Ph:=ai (fun (W:World) (hW:Below w.heap.size w W)=>CB B1 A3 E n1 k3 k d1 c3 e0 S s.F e.V e.pay W HN.o.2.2.2.symm hk3.symm X7.o.2.symm (Kd.aY Lh.o hW) (Kd.aY (by have h1:=Gp;rw[show (rS s).f1=s.F.map toQ from rfl,List.length_map,<-hk3] at h1;exact h1) hW) (Kd.aY (by have h1:=hCE;rw[show (rE e).f1=e.V.map uE from rfl,List.length_map,<-X7.o.2] at h1;exact h1) hW) (by have:=HF.o.sch;have:=HN.o.2.2.2;omega) (by have:=hfl.1;omega) hc3 hfl.2 hvl.2);clear hr hc hcell FD hcl hV hsi hk3 hc3 Gp hCE hfl hvl;go_upto_region 8 with (fail)
     have gZ:=ae (Below.refl wr.heap.size wr) (.cells #[.int .i64 s.id,.slice A3 k3 c3] oW);have lh:=heap_alloc_new wr (.cells #[.int .i64 s.id,.slice A3 k3 c3] oW);clear c0 c1;replace bD:=bZ gZ bD;replace bA:=bZ gZ bA;replace HB:=dW HB gZ;replace jC:=bZ gZ jC;replace iH:=lV iH gZ;generalize wr.alloc (.cells #[.int .i64 s.id,.slice A3 k3 c3] oW)=W7 at bD bA HB iH jC lh gZ|-;obtain⟨gs,hgs⟩:∃q,q=wr.heap.size:=⟨_,rfl⟩
     rw[<-hgs] at lh|-;have x0:=bK bD.o;have y1:=bS lh;have z1:=bS jC.o;have z2:=dh jC.o;clear gZ hgs;have Qz:=ai lh;clear lh;go_wp2_with fail
     refine(Ph.o _ HB.o).mono ?_;rintro ee wq ⟨rfl,hb⟩;clear Ph x0 y1 z1 z2;replace jC:=bZ hb jC;replace Qz:=bZ hb Qz;replace iH:=lV iH hb;replace bD:=bZ hb bD;replace bA:=bZ hb bA;replace HB:=dW HB hb;clear hb;have hnx:=Kj S P.addr e P.subs j s acc L HSI.o.1;by_cases hmt:gL S s.F e.V e.pay=true
     ·rw[if_pos hmt] at hnx;by_cases hl:acc.length<64
      ·rw[if_pos hl] at hnx;have r1:decide ((ld:Int)<64)=true:=decide_eq_true (by have:=FB.o.1;omega);have r2:decide (ld<64)=true:=decide_eq_true (by have:=FB.o.1;omega);have y0:=bK Qz.o;have z0:=bK jC.o;have z1:=bS jC.o;have z2:=dh jC.o;have nP:=ai hnx;clear hnx;go_wp2_with ((with_reducible refine bn (b:=.append) (xs:= #[.tmp 40,.tmp 45]) rfl ?_);at_builtin;go_loud (refine Kd.di wK (w0:=w) b rfl (.tmp 40) (.tmp 45) 72 mQ (.agg #[(.int .i64 0),(.int .i64 0),(.slice none 0 0),(.string ⟨#[]⟩)]) 56 rfl underlying72 qD rfl (by decide) (by decide) _ (acc.map rD) (rD ⟨s.id,P.addr,e.seq,e.V,e.pay⟩) [.int .i64 s.id,.int .i64 e.seq,.slice E k e0,.string e.pay] (fun _=>True) (fun k1=>k1<w.heap.size∧some k1≠(Vs Ad ld cd).ownBlock) rfl ?aX ?aP (fun _ hk=>⟨trivial,hk.2⟩) ?aF iH.o (HB.o.mono l9.o) (Nat.le_trans l9.o HB.o.size) ?aL ?_;(case aX=>first|rfl|(go_simp;done)|(go_simp;rfl));(case aP=>exact JF _ _ _ (rD ⟨s.id,P.addr,e.seq,e.V,e.pay⟩) (Kd.gX (Kd.bJ HVX.o HB.o) iH.o (by decide+kernel)));(case aF=>exact(fun _ _=>trivial));(case aL=>have:=FB.o;rw[List.length_map];omega);intro v9 w9 ho hb hg hat;have qP:=ai (dB bD.o hg (Kd.kM iH.o bD.o (by decide)));have pJ:=ai (dB bA.o hg (Kd.kM iH.o bA.o (by decide)));have rX:=ai (HB.o.grown hg HB.o.size (fun k1 hk1=>kC.o k1 hk1));have rV:=ai ho;have Fh:=ai (dB jC.o hg (Kd.kM iH.o jC.o (by decide)));have ET:=ai (qV hat kC.o HB.o.size);clear bD bA HB kC iH jC ho hb hg hat;have bD:=qP;have bA:=pJ;have HB:=rX;have iH:=rV;have jC:=Fh;have kC:=ET;clear qP pJ rX rV Fh ET))
       go_roundg (gk-1)
       case measure=>have:=HM.o.2.1;omega
       case rel=>exact⟨j+1,acc++ [⟨s.id,P.addr,e.seq,e.V,e.pay⟩],L,⟨by omega,by have:=HM.o.2.1;omega,by rw[List.length_append];simp;omega,HM.o.2.2.2.1,by have:=HM.o.2.2.2.2.1;omega,by rw[<-nP.o];exact HM.o.2.2.2.2.2⟩,by first|rfl|(rw[jK (by omega) (by have:=HL.o.1;omega)];rfl),bD,bA,HB,⟨by rw[List.map_append];exact iH.o⟩,kC,jC⟩
      ·rw[if_neg hl] at hnx;have r1:decide ((ld:Int)<64)=false:=decide_eq_false (by have:=FB.o.1;omega);have r2:decide (ld<64)=false:=decide_eq_false (by have:=FB.o.1;omega);have nP:=ai hnx;clear hnx;have hw1:wrap64 (L+1)=L+1:=jK (by have:=HM.o.2.2.2.1;have:=HF.o.lost;omega) (by have:=HM.o.2.2.2.2.1;have:=HF.o.lost;have:=HL.o;omega);have x6:=fF bD.o;have f6:=af bD.o 6;go_wp2_with fail
       have dU:=ai (show (wq.setCell ⟨gb,6,none⟩ (.int .i64 (L+1))).heap[gb]? =some (.cells #[.slice B1 n1 d1,.slice (some XZ) n c2,.int .i64 pl,.int .i64 pq,.slice (some ad) ne c5,.slice A6 m c6,.int .i64 (L+1)] dY (0,0)) from by simpa using bg bD.o 6 (.int .i64 (L+1)));have hsk:∀k,k≠gb->(wq.setCell ⟨gb,6,none⟩ (.int .i64 (L+1))).heap[k]? =wq.heap[k]? :=fun k hk=>Below.heap_setCell wq ⟨gb,6,none⟩ _ k hk
       have dS:=ai ((hsk gr (fun e0=>HG.o.2.2 e0.symm)).trans bA.o);have Gq:=ai (au (j:=6) (v:=.int .i64 (L+1)) HB.o HG.o.1);have yX:=ai (bW iH.o bD.o (by decide+kernel) hsk);have Wz:ge≠gb:=fun e0=>by have h1:=jC.o;rw[e0,bD.o] at h1;injection h1 with h1;injection h1 with _ h1 _;exact absurd h1 (by decide)
       have uy:=ai ((hsk ge Wz).trans jC.o);clear bD bA HB iH jC x6 f6 hsk Wz;generalize wq.setCell ⟨gb,6,none⟩ (.int .i64 (L+1))=wz at dU dS Gq yX uy|-;go_roundg (gk-1)
       case measure=>have:=HM.o.2.1;omega
       case rel=>exact⟨j+1,acc,L+1,⟨by omega,by have:=HM.o.2.1;omega,HM.o.2.2.1,by have:=HM.o.2.2.2.1;omega,by have:=HM.o.2.2.2.2.1;omega,by rw[<-nP.o];exact HM.o.2.2.2.2.2⟩,by first|rfl|(rw[jK (by omega) (by have:=HL.o.1;omega)];rfl),dU,dS,Gq,yX,kC,uy⟩
     ·rw[if_neg hmt] at hnx;have hmf:gL S s.F e.V e.pay=false:=by simpa using hmt
      have nP:=ai hnx;clear hnx hmt;go_wp2_with fail
      go_roundg (gk-1)
      case measure=>have:=HM.o.2.1;omega
      case rel=>exact⟨j+1,acc,L,⟨by omega,by have:=HM.o.2.1;omega,HM.o.2.2.1,HM.o.2.2.2.1,by have:=HM.o.2.2.2.2.1;omega,by rw[<-nP.o];exact HM.o.2.2.2.2.2⟩,by first|rfl|(rw[jK (by omega) (by have:=HL.o.1;omega)];rfl),bD,bA,HB,iH,kC,jC⟩
    ·have hjn:n=j:=by omega
     subst hjn;have b1:decide ((n:Int)<(n:Int))=false:=decide_eq_false (by omega);have b2:decide (n<n)=false:=decide_eq_false (by omega);have hfin:X=(acc,L):=by
      have h1:=HM.o.2.2.2.2.2;rw[List.drop_of_length_le (by have:=HN.o.1;omega)] at h1;exact h1.symm
     have htk:TkO S P ne (i+1) acc L:=by
      refine⟨by omega,HM.o.2.2.1,HM.o.2.2.2.1,by have:=HM.o.2.2.2.2.1;have:=HL.o.1;omega, ?_⟩;rw[<-hfin,HX.o,<-F7 S P.addr P.subs P.opn i e _ X7.o.1];exact zU.o.2.2.2.2.2
     have X0:=ai htk;have hko:=MN.o;clear htk hfin hj;go_wp2_with fail
     go_roundg ko
     case measure=>omega
     case rel=>exact⟨i+1,acc,L,⟨by have:=zU.o.1;omega,X0.o⟩,by first|rfl|(rw[jK (by omega) (by have:=HL.o.2;omega)];rfl),bD,bA,HB,iH,kC⟩
  ·have hin:ne=i:=by omega
   subst hin;have b1:decide ((ne:Int)<(ne:Int))=false:=decide_eq_false (by omega);have b2:decide (ne<ne)=false:=decide_eq_false (by omega);have hfin:(acc,L)=mX S P.addr P.subs P.opn (P.inbox,P.lost):=by
    have h1:=HM.o.2.2.2.2.2;rw[List.drop_of_length_le (by have:=HN.o.2.1;omega)] at h1;exact h1
   have fQ:=ai hfin;obtain⟨ld,hld⟩:∃l,l=(acc.map rD).length:=⟨_,rfl⟩
   rw[<-hld] at iH kC|-;have FB:=ai hld;have x4:=dI bD.o;have x5:=eH bD.o;have f4:=af bD.o 4;have f5:=af bD.o 5;clear hfin hi hld;go_upto_region 16 with (fail)
   have Bp:(wr.setCell ⟨gb,5,none⟩ (.slice Ad ld cd)).heap[gb]? =some (.cells #[.slice B1 n1 d1,.slice A2 n c2,.int .i64 pl,.int .i64 pq,.slice A5 ne c5,.slice Ad ld cd,.int .i64 L] dY (0,0)):=by simpa using bg bD.o 5 (.slice Ad ld cd)
   have hsk:∀k,k≠gb->((wr.setCell ⟨gb,5,none⟩ (.slice Ad ld cd)).setCell ⟨gb,4,none⟩ (.slice none 0 0)).heap[k]? =wr.heap[k]? :=fun k hk=>(Below.heap_setCell _ ⟨gb,4,none⟩ _ k hk).trans (Below.heap_setCell wr ⟨gb,5,none⟩ _ k hk)
   replace bA:=ai ((hsk gr (fun e0=>HG.o.2.2 e0.symm)).trans bA.o);have uy:=ai (bW iH.o bD.o (by decide+kernel) hsk);have Bj:=ai (bW (Kd.bJ HI.o.sch HB.o) bD.o (by decide+kernel) hsk);have Hu:=ai (bW (Kd.bJ HI.o.sub HB.o) bD.o (by decide+kernel) hsk);replace bD:=ai (show ((wr.setCell ⟨gb,5,none⟩ (.slice Ad ld cd)).setCell ⟨gb,4,none⟩ (.slice none 0 0)).heap[gb]? =some (.cells #[.slice B1 n1 d1,.slice A2 n c2,.int .i64 pl,.int .i64 pq,.slice none 0 0,.slice Ad ld cd,.int .i64 L] dY (0,0)) from by simpa using bg Bp 4 (.slice none 0 0));replace HB:=ai (au (j:=4) (v:=.slice none 0 0) (au (j:=5) (v:=.slice Ad ld cd) HB.o HG.o.1) HG.o.1);clear iH x4 x5 f4 f5 hsk Bp;generalize (wr.setCell ⟨gb,5,none⟩ (.slice Ad ld cd)).setCell ⟨gb,4,none⟩ (.slice none 0 0)=wz at bD bA HB uy Bj Hu|-;rw[show acc=(P.tick S).inbox from by rw[sD.o.2.2.2.2.2,<-fQ.o]] at uy;rw[<-sD.o.2.2.2.1] at Hu;have Vj:=ai (show (P.tick S).lost=L from by rw[sD.o.2.2.1,<-fQ.o]);have x0:=bK bD.o;have x1:=bS bD.o;have x2:=dh bD.o;have x3:=dA bD.o;have x4:=dI bD.o;have x5:=eH bD.o;have x6:=fF bD.o;have y0:=bK bA.o;have y1:=bS bA.o;have y2:=dh bA.o;have y3:=dA bA.o;have y4:=dI bA.o;have y5:=eH bA.o;have y6:=fF bA.o;have f0:=af bA.o 0;have f1:=af bA.o 1;have f2:=af bA.o 2;have f3:=af bA.o 3;have f4:=af bA.o 4;have f5:=af bA.o 5;have f6:=af bA.o 6;go_wp2;have k6:=qd bA.o (Vs B1 n1 d1) (Vs A2 n c2) (Value.int .i64 pl) (Value.int .i64 pq) (Vs none 0 0) (Vs Ad ld cd) (Value.int .i64 L);have hoth:=fun k hk=>ek (wz) gr (Vs B1 n1 d1) (Vs A2 n c2) (Value.int .i64 pl) (Value.int .i64 pq) (Vs none 0 0) (Vs Ad ld cd) (Value.int .i64 L) k hk
   have hbf:=au (j:=6) (v:=(Value.int .i64 L)) (au (j:=5) (v:=(Vs Ad ld cd)) (au (j:=4) (v:=(Vs none 0 0)) (au (j:=3) (v:=(Value.int .i64 pq)) (au (j:=2) (v:=(Value.int .i64 pl)) (au (j:=1) (v:=(Vs A2 n c2)) (au (j:=0) (v:=(Vs B1 n1 d1)) HB.o HG.o.2.1) HG.o.2.1) HG.o.2.1) HG.o.2.1) HG.o.2.1) HG.o.2.1) HG.o.2.1;generalize hwq:((((((((wz).setCell ⟨gr,0,none⟩ (Vs B1 n1 d1)).setCell ⟨gr,1,none⟩ (Vs A2 n c2)).setCell ⟨gr,2,none⟩ (Value.int .i64 pl)).setCell ⟨gr,3,none⟩ (Value.int .i64 pq)).setCell ⟨gr,4,none⟩ (Vs none 0 0)).setCell ⟨gr,5,none⟩ (Vs Ad ld cd)).setCell ⟨gr,6,none⟩ (Value.int .i64 L))=w8 at k6 hbf hoth|-;clear hwq;have z0:=bK k6;have z1:=bS k6;have z2:=dh k6;have z3:=dA k6;have z4:=dI k6;have z5:=eH k6;have z6:=fF k6;have gT:=ai (And.intro hbf hoth);clear hbf hoth;refine bodyPost_ret (v:=.agg #[.slice B1 n1 d1,.slice A2 n c2,.int .i64 pl,.int .i64 pq,.slice none 0 0,.slice Ad ld cd,.int .i64 L]) (by simp[results,results30,go_sem,z0,z1,z2,z3,z4,z5,z6]) rfl ?_;exact⟨⟨.slice B1 n1 d1,.slice A2 n c2,.slice none 0 0,.slice Ad ld cd⟩,by rw[Vj.o],⟨bW Bj.o bA.o (by decide+kernel) gT.o.2,bW Hu.o bA.o (by decide+kernel) gT.o.2,by rw[sD.o.2.2.2.2.1];exact Kd.iF _ _ _ _ _,bW uy.o bA.o (by decide+kernel) gT.o.2⟩,gT.o.1⟩
def dZ(s:ByteArray)(i:Int)(b:Bool):Value:=.agg #[.string s,.int .i64 i,.bool b]
def ik(s:ByteArray)(i:Int)(b:Bool):Obj:=.cells #[.string s,.int .i64 i,.bool b] 230 (0,0)
theorem bR(s:ByteArray)(i j:Int)(b:Bool)(w:World):
 Calls prog 178 #[dZ s i b,.int .i64 j] w fun e w'=>e=.returned (dZ s (if b then i else j) true)∧Below w.heap.size w w':=by
 unfold dZ;cases b with
 |false=>
  go_enter func178,ntmps178
  go_wp2;refine bodyPost_ret (v:=.agg #[.string s,.int .i64 j,.bool true]) (by simp[results,results178,go_sem]) rfl ⟨rfl,ae (ae (Below.refl _ _) _) _⟩
 |true=>
  go_enter func178,ntmps178
  go_wp2;refine bodyPost_ret (v:=.agg #[.string s,.int .i64 i,.bool true]) (by simp[results,results178,go_sem]) rfl ⟨rfl,ae (ae (Below.refl _ _) _) _⟩
theorem ll(c:UInt8)(w:World):Calls prog 180 #[.int .u8 (c.toNat:Int)] w fun e w'=>e=.returned (.bool (wO c))∧w=w':=by
 rw[<-BZ];generalize (c.toNat:Int)=n;unfold isLet;by_cases h1:97<=n
 ·by_cases h2:n<=122
  ·go_enter func180,ntmps180
   go_wp2;go_ret;exact⟨by simp[h1,h2],rfl⟩
  ·go_enter func180,ntmps180
   go_wp2;go_ret;exact⟨by simp[h1,h2],rfl⟩
 ·go_enter func180,ntmps180
  go_wp2;go_ret;exact⟨by rw[show (decide (97<=n)&&decide (n<=122))=false by rw[decide_eq_false (by omega:¬_)];rfl];rfl,rfl⟩
theorem bU(c:UInt8)(w:World):Calls prog 181 #[.int .u8 (c.toNat:Int)] w fun e w'=>e=.returned (.bool (jF c))∧w=w':=by
 rw[<-uo];generalize (c.toNat:Int)=n;unfold pE;by_cases h1:48<=n
 ·by_cases h2:n<=57
  ·go_enter func181,ntmps181
   go_wp2;go_ret;exact⟨by simp[h1,h2],rfl⟩
  ·go_enter func181,ntmps181
   go_wp2;go_ret;exact⟨by simp[h1,h2],rfl⟩
 ·go_enter func181,ntmps181
  go_wp2;go_ret;exact⟨by rw[show (decide (48<=n)&&decide (n<=57))=false by rw[decide_eq_false (by omega:¬_)];rfl];rfl,rfl⟩
def Db(s:ByteArray)(st:St):Int:=((s.size-(st.bad.getD st.l.length):Nat):Int)
def mZ(s:ByteArray)(st:St):Value:=dZ s (Db s st) st.bad.isSome
theorem jI(s:ByteArray)(st:St)(w:World)(hs:s.size<=1000)(hok:st.ok (bytes s)):
 Calls prog 120 #[mZ s st] w fun e w'=>e=.returned (mZ s (bY st))∧Below w.heap.size w w':=by
 obtain⟨l,bad⟩:=st;cases bad with
 |some n=>
  show Calls _ _ #[dZ s ((s.size-n:Nat):Int) true] w fun e w'=>e=.returned (dZ s ((s.size-n:Nat):Int) true)∧_
  generalize ((s.size-n:Nat):Int)=i;unfold dZ;go_enter func120,ntmps120
  go_wp2;go_loopg [] 1 (fun k wr=>wr=(w.alloc (.cells #[.string s,.int .i64 i,.bool true] 230)).alloc (.cells #[.string ⟨#[]⟩,.int .i64 0,.bool false] 230))
  case atStart=>rfl
  case round=>
   subst hrel;go_wp2;refine bodyPost_ret (v:=.agg #[.string s,.int .i64 i,.bool true]) (by simp[results,results120,go_sem]) rfl ⟨rfl,ae (ae (Below.refl _ _) _) _⟩
 |none=>
  have ku:l<:+bytes s:=hok.1;have hle:l.length<=s.size:=tT hok;show Calls _ _ #[dZ s ((s.size-l.length:Nat):Int) false] w fun e w'=>e=.returned (dZ s ((s.size-(skip l).length:Nat):Int) false)∧_
  have hi0:s.size-l.length<=s.size:=Nat.sub_le _ _;have hd0:bu s (s.size-l.length)=l:=(jb ku).symm;have HG:=ai (show ((s.size-(skip l).length:Nat):Int)=((s.size-(skip (bu s (s.size-l.length))).length:Nat):Int) by rw[hd0]);generalize ((s.size-(skip l).length:Nat):Int)=z at HG|-;generalize s.size-l.length=i0 at hi0 HG|-;clear ku hle hok hd0;unfold dZ;go_enter func120,ntmps120
  go_wp2;go_loopg [] (s.size-i0+1) (fun k wr=>∃i:Nat,ay (i<=s.size∧skip (bu s i)=skip (bu s i0)∧s.size-i<k)∧wr=(w.alloc (.cells #[.string s,.int .i64 (i:Int),.bool false] 230)).alloc (.cells #[.string ⟨#[]⟩,.int .i64 0,.bool false] 230))
  case atStart=>exact⟨i0,⟨hi0,rfl,by omega⟩,rfl⟩
  case round=>
   obtain⟨i,HM,rfl⟩:=hrel;by_cases hi:i<s.size
   ·obtain⟨c,hc⟩:∃c,s[i]'hi=c:=⟨_,rfl⟩
    have Bo:=dP hi;rw[hc] at Bo;have HD:=ai Bo;clear Bo;have hx:∀h:i<s.size,s[i]'h=c:=fun _=>hc
    clear hc;have p1:(0:Int)<=(i:Int):=by omega
    have p2:(i:Int)<(s.size:Int):=by omega
    by_cases h32:c=32
    ·subst h32;go_wp2;go_roundg (gk-1)
     case measure=>have:=HM.o;omega
     case rel=>exact⟨i+1,⟨by omega,by have:=HM.o;rw[<-this.2.1,HD.o];simp[skip],by have:=HM.o;omega⟩,rfl⟩
    ·have e1:((c.toNat:Int)==(32:Int))=decide (c=32):=nR (n:=32) (by decide);rw[decide_eq_false h32] at e1;go_wp2;refine bodyPost_ret (v:=.agg #[.string s,.int .i64 z,.bool false]) (by simp[results,results120,go_sem];rw[HG.o,<-HM.o.2.1,HD.o];simp[skip,h32];have h9:=congrArg List.length HD.o;rw[gu] at h9;simp at h9;omega) rfl ⟨rfl,ae (ae (Below.refl _ _) _) _⟩
   ·have p2:decide ((i:Int)<(s.size:Int))=false:=decide_eq_false (by omega);have hiz:i=s.size:=by have:=HM.o;omega
    go_wp2;refine bodyPost_ret (v:=.agg #[.string s,.int .i64 z,.bool false]) (by simp[results,results120,go_sem];rw[HG.o,<-HM.o.2.1,gP (by omega)];simp[skip,hiz]) rfl ⟨rfl,ae (ae (Below.refl _ _) _) _⟩
theorem aj{w:World}{g:Nat}{s:ByteArray}{i:Int}{b:Bool}(h:w.heap[g]? =some (ik s i b)):
 w.cell? ⟨g,0,none⟩=some (.string s)∧w.cell? ⟨g,1,none⟩=some (.int .i64 i)∧w.cell? ⟨g,2,none⟩=some (.bool b)∧w.frozen? ⟨g,0,none⟩=false∧w.frozen? ⟨g,1,none⟩=false∧w.frozen? ⟨g,2,none⟩=false:=
 ⟨(bK h),(bS h),(dh h),af h 0,af h 1,af h 2⟩
theorem mV(w:World)(s s':ByteArray)(i i':Int)(b b':Bool):
 ((w.alloc (.cells #[.string s,.int .i64 i,.bool b] 230)).alloc (.cells #[.string s',.int .i64 i',.bool b'] 230)).heap[w.heap.size]? =some (ik s i b)∧
 ((w.alloc (.cells #[.string s,.int .i64 i,.bool b] 230)).alloc (.cells #[.string s',.int .i64 i',.bool b'] 230)).heap[w.heap.size+1]? =some (ik s' i' b'):=by
 constructor
 ·show ((w.heap.push _).push _)[_]? =_;simp only[Array.getElem?_push,Array.size_push];rw[if_neg (by omega),if_pos trivial];rfl
 ·show ((w.heap.push _).push _)[_]? =_;simp only[Array.getElem?_push,Array.size_push];rw[if_pos trivial];rfl
theorem nu(s:ByteArray)(l:List UInt8)(n:Nat):mZ s ⟨l,some n⟩=.agg #[.string s,.int .i64 ((s.size-n:Nat):Int),.bool true]:=rfl
theorem gW(s:ByteArray)(l:List UInt8):mZ s ⟨l,none⟩=.agg #[.string s,.int .i64 ((s.size-l.length:Nat):Int),.bool false]:=rfl
theorem fD{w:World}{g:Nat}{s0:ByteArray}{i0:Int}{b0:Bool}(h:w.heap[g]? =some (ik s0 i0 b0))(s:ByteArray)(i:Int)(b:Bool):
 (((w.setCell ⟨g,0,none⟩ (.string s)).setCell ⟨g,1,none⟩ (.int .i64 i)).setCell ⟨g,2,none⟩ (.bool b)).heap[g]? =some (ik s i b):=by
 have:=bg (bg (bg h 0 (.string s)) 1 (.int .i64 i)) 2 (.bool b)
 simpa [ik] using this
theorem eO{w:World}{g g2:Nat}{o:Obj}(h:w.heap[g]? =some o)(hne:g≠g2)(s:ByteArray)(i:Int)(b:Bool):
 (((w.setCell ⟨g2,0,none⟩ (.string s)).setCell ⟨g2,1,none⟩ (.int .i64 i)).setCell ⟨g2,2,none⟩ (.bool b)).heap[g]? =some o:=by
 rw[Below.heap_setCell _ _ _ _ hne,Below.heap_setCell _ _ _ _ hne,Below.heap_setCell _ _ _ _ hne];exact h
theorem aQ{B:Nat}{w W:World}{g:Nat}(h:Below B w W)(hg:B<=g)(s:ByteArray)(i:Int)(b:Bool):
 Below B w (((W.setCell ⟨g,0,none⟩ (.string s)).setCell ⟨g,1,none⟩ (.int .i64 i)).setCell ⟨g,2,none⟩ (.bool b)):=
 ((h.setCell hg _).setCell hg _).setCell hg _
theorem jV(s m:ByteArray)(st:St)(w:World)(hs:s.size<=1000)(hm:m.size<=1000)(hok:st.ok (bytes s)):
 Calls prog 177 #[mZ s st,.string m] w fun e w'=>e=.returned (mZ s (dO (bytes m) st))∧Below w.heap.size w w':=by
 have hok1:=iP hok;have hbl:=fun w=>jI s st w hs hok
 obtain⟨l,bad⟩:=st;cases bad with
 |some n=>
  rw[kQ rfl];rw[nz rfl] at hbl;rw[nu] at hbl|-;generalize ((s.size-n:Nat):Int)=i at hbl|-;obtain⟨hn1,hn2⟩:=mV w s ⟨#[]⟩ i 0 true false;have aZ:=ai hn1;have bf:=ai hn2;have HB:=ai (ae (ae (Below.refl w.heap.size w) (.cells #[.string s,.int .i64 i,.bool true] 230)) (.cells #[.string ⟨#[]⟩,.int .i64 0,.bool false] 230));clear hn1 hn2;go_enter func177,ntmps177
  go_wp2_with fail
  refine(hbl _).mono ?_;rintro e w1 ⟨rfl,hb⟩;replace aZ:=bZ hb aZ;replace bf:=bZ hb bf;replace HB:=dW HB hb;clear hb;obtain⟨c0,c1,c2,f0,f1,f2⟩:=aj aZ.o;obtain⟨d0,d1,d2,g0,g1,g2⟩:=aj bf.o;go_wp2_with fail
  refine(bR s i i true _).mono ?_;rintro e w2 ⟨rfl,hb⟩;clear c0 c1 c2 f0 f1 f2 d0 d1 d2 g0 g1 g2;have Bp:=ai (fD aZ.o s i true);have Ot:=ai (eO bf.o (show w.heap.size+1≠w.heap.size by omega) s i true);have n_:=ai (aQ HB.o (Nat.le_refl w.heap.size) s i true);clear aZ bf HB;have aZ:=Bp;have bf:=Ot;have HB:=n_;clear Bp Ot n_;replace aZ:=bZ hb aZ;replace bf:=bZ hb bf;replace HB:=dW HB hb;clear hb;obtain⟨c0,c1,c2,f0,f1,f2⟩:=aj aZ.o;obtain⟨d0,d1,d2,g0,g1,g2⟩:=aj bf.o;unfold dZ;go_wp2;refine bodyPost_ret (v:=.agg #[.string s,.int .i64 i,.bool true]) (by simp[results,results177,go_sem,d0,d1,d2]) rfl ⟨rfl,aQ HB.o (Nat.le_succ w.heap.size) s i true⟩
 |none=>
  rw[gW] at hbl|-;have e1:bY ⟨l,none⟩=⟨skip l,none⟩:=rfl;have e2:dO (bytes m) ⟨l,none⟩=lC (bytes m) (skip l):=rfl;rw[e1] at hbl hok1;rw[gW] at hbl;rw[e2];have hle:=tT hok1;have ku:skip l<:+bytes s:=hok1.1;have hd:=jb ku;simp only at hle;generalize skip l=L at hbl hle hd|-;generalize ((s.size-l.length:Nat):Int)=i0 at hbl|-;have Kn:(bytes m).length=m.size:=eD m;obtain⟨i,hi⟩:∃i,s.size-L.length=i:=⟨_,rfl⟩
  rw[hi] at hbl hd;have hiz:i<=s.size:=by omega
  have FN:L.length=s.size-i:=by omega
  clear hok hok1 ku hi;obtain⟨hn1,hn2⟩:=mV w s ⟨#[]⟩ i0 0 false false;have aZ:=ai hn1;have bf:=ai hn2;have HB:=ai (ae (ae (Below.refl w.heap.size w) (.cells #[.string s,.int .i64 i0,.bool false] 230)) (.cells #[.string ⟨#[]⟩,.int .i64 0,.bool false] 230));clear hn1 hn2;by_cases h1:s.size-i<m.size
  ·have hp:(bytes m).isPrefixOf L=false:=by
    rw[Bool.eq_false_iff];intro hp;have:=(List.isPrefixOf_iff_prefix.mp hp).length_le;omega
   have hr:mZ s (lC (bytes m) L)=.agg #[.string s,.int .i64 (i:Int),.bool true]:=by
    unfold lC;rw[hp,if_neg (by simp),nu,show s.size-L.length=i by omega]
   rw[hr];have q1:decide ((s.size:Int)-(i:Int)<(m.size:Int))=true:=decide_eq_true (by omega);clear hp hr Kn hd;go_enter func177,ntmps177
   go_wp2_with fail
   refine(hbl _).mono ?_;rintro e w1 ⟨rfl,hb⟩;replace aZ:=bZ hb aZ;replace bf:=bZ hb bf;replace HB:=dW HB hb;clear hb;obtain⟨c0,c1,c2,f0,f1,f2⟩:=aj aZ.o;obtain⟨d0,d1,d2,g0,g1,g2⟩:=aj bf.o;go_wp2_with fail
   refine(bR s (i:Int) (i:Int) false _).mono ?_;rintro e w2 ⟨rfl,hb⟩;clear c0 c1 c2 f0 f1 f2 d0 d1 d2 g0 g1 g2;have Bp:=ai (fD aZ.o s (i:Int) false);have Ot:=ai (eO bf.o (show w.heap.size+1≠w.heap.size by omega) s (i:Int) false);have n_:=ai (aQ HB.o (Nat.le_refl w.heap.size) s (i:Int) false);clear aZ bf HB;have aZ:=Bp;have bf:=Ot;have HB:=n_;clear Bp Ot n_;replace aZ:=bZ hb aZ;replace bf:=bZ hb bf;replace HB:=dW HB hb;clear hb;obtain⟨c0,c1,c2,f0,f1,f2⟩:=aj aZ.o;obtain⟨d0,d1,d2,g0,g1,g2⟩:=aj bf.o;unfold dZ;go_wp2;refine bodyPost_ret (v:=.agg #[.string s,.int .i64 (i:Int),.bool true]) (by simp[results,results177,go_sem,d0,d1,d2]) rfl ⟨rfl,aQ HB.o (Nat.le_succ w.heap.size) s (i:Int) true⟩
  ·have he:(s.extract i (i+m.size)).toList=L.take m.size:=by
    rw[Lib.extract_toList,show i+m.size-i=m.size by omega];exact congrArg _ hd.symm
   have q1:decide ((s.size:Int)-(i:Int)<(m.size:Int))=false:=decide_eq_false (by omega);have hp0:(bytes m).isPrefixOf L=true↔L.take m.size=m.data.toList:=by
    rw[List.isPrefixOf_iff_prefix,List.prefix_iff_eq_take,Kn];exact⟨fun h=>h.symm,fun h=>h.symm⟩
   have z1:(0:Int)<=(i:Int):=by omega
   have z2:(i:Int)<=(i:Int)+(m.size:Int):=by omega
   have z3:(i:Int)+(m.size:Int)<=(s.size:Int):=by omega
   have z4:((i:Int)+(m.size:Int)).toNat=i+m.size:=by omega
   have z5:(i:Int).toNat=i:=by omega
   rw[<-Lib.toList_data] at hp0;by_cases h2:L.take m.size=m.toList
   ·have hp:(bytes m).isPrefixOf L=true:=hp0.mpr h2;have hr:mZ s (lC (bytes m) L)=.agg #[.string s,.int .i64 ((i:Int)+(m.size:Int)),.bool false]:=by
     unfold lC;rw[hp,if_pos rfl,gW,show ((s.size-(L.drop (bytes m).length).length:Nat):Int)=(i:Int)+(m.size:Int) by rw[List.length_drop,Kn];omega]
    rw[hr];rw[h2] at he;clear hp hp0 hr Kn hd h2;go_enter func177,ntmps177
    go_wp2_with fail
    refine(hbl _).mono ?_;rintro e w1 ⟨rfl,hb⟩;replace aZ:=bZ hb aZ;replace bf:=bZ hb bf;replace HB:=dW HB hb;clear hb;obtain⟨c0,c1,c2,f0,f1,f2⟩:=aj aZ.o;obtain⟨d0,d1,d2,g0,g1,g2⟩:=aj bf.o;go_upto_region 2 with (fail)
    clear c0 c1 c2 f0 f1 f2 d0 d1 d2 g0 g1 g2;replace aZ:=ai (fD aZ.o s (i:Int) false);replace bf:=ai (eO bf.o (show w.heap.size+1≠w.heap.size by omega) s (i:Int) false);replace HB:=ai (aQ HB.o (Nat.le_refl w.heap.size) s (i:Int) false);generalize (((w1.setCell ⟨w.heap.size,0,none⟩ (.string s)).setCell ⟨w.heap.size,1,none⟩ (.int .i64 (i:Int))).setCell ⟨w.heap.size,2,none⟩ (.bool false))=w2 at aZ bf HB|-;obtain⟨c0,c1,c2,f0,f1,f2⟩:=aj aZ.o;obtain⟨d0,d1,d2,g0,g1,g2⟩:=aj bf.o;go_wp2_with fail
    refine bodyPost_ret (v:=.agg #[.string s,.int .i64 ((i:Int)+(m.size:Int)),.bool false]) (by simp[results,results177,go_sem,d0,d1,d2]) rfl ⟨rfl,aQ (HB.o.setCell (p:=⟨w.heap.size,1,none⟩) (Nat.le_refl w.heap.size) _) (Nat.le_succ w.heap.size) s ((i:Int)+(m.size:Int)) false⟩
   ·have hp:(bytes m).isPrefixOf L=false:=by
     rw[Bool.eq_false_iff];exact fun h=>h2 (hp0.mp h)
    have hr:mZ s (lC (bytes m) L)=.agg #[.string s,.int .i64 (i:Int),.bool true]:=by
     unfold lC;rw[hp,if_neg (by simp),nu,show s.size-L.length=i by omega]
    rw[hr];have q2:(L.take m.size==m.toList)=false:=by simpa using h2
    generalize L.take m.size=L2 at he q2;clear hp hp0 hr Kn hd h2;go_enter func177,ntmps177
    go_wp2_with fail
    refine(hbl _).mono ?_;rintro e w1 ⟨rfl,hb⟩;replace aZ:=bZ hb aZ;replace bf:=bZ hb bf;replace HB:=dW HB hb;clear hb;obtain⟨c0,c1,c2,f0,f1,f2⟩:=aj aZ.o;obtain⟨d0,d1,d2,g0,g1,g2⟩:=aj bf.o;go_upto_region 2 with (fail)
    clear c0 c1 c2 f0 f1 f2 d0 d1 d2 g0 g1 g2;replace aZ:=ai (fD aZ.o s (i:Int) false);replace bf:=ai (eO bf.o (show w.heap.size+1≠w.heap.size by omega) s (i:Int) false);replace HB:=ai (aQ HB.o (Nat.le_refl w.heap.size) s (i:Int) false);generalize (((w1.setCell ⟨w.heap.size,0,none⟩ (.string s)).setCell ⟨w.heap.size,1,none⟩ (.int .i64 (i:Int))).setCell ⟨w.heap.size,2,none⟩ (.bool false))=w2 at aZ bf HB|-;obtain⟨c0,c1,c2,f0,f1,f2⟩:=aj aZ.o;obtain⟨d0,d1,d2,g0,g1,g2⟩:=aj bf.o;go_wp2_with fail
    refine(bR s (i:Int) (i:Int) false _).mono ?_;rintro e w3 ⟨rfl,hb⟩;clear c0 c1 c2 f0 f1 f2 d0 d1 d2 g0 g1 g2;replace aZ:=bZ hb aZ;replace bf:=bZ hb bf;replace HB:=dW HB hb;clear hb;obtain⟨c0,c1,c2,f0,f1,f2⟩:=aj aZ.o;obtain⟨d0,d1,d2,g0,g1,g2⟩:=aj bf.o;unfold dZ;go_wp2;refine bodyPost_ret (v:=.agg #[.string s,.int .i64 (i:Int),.bool true]) (by simp[results,results177,go_sem,d0,d1,d2]) rfl ⟨rfl,aQ HB.o (Nat.le_succ w.heap.size) s (i:Int) true⟩
theorem nJ(s:ByteArray)(st:St)(w:World)(hs:s.size<=1000)(hok:st.ok (bytes s)):
 Calls prog 121 #[mZ s st] w fun e w'=>e=.returned (.tuple #[mZ s (dC st).2,.string ⟨(dC st).1.toArray⟩])∧Below w.heap.size w w':=by
 have hok1:=iP hok;have hbl:=fun w=>jI s st w hs hok
 obtain⟨l,bad⟩:=st;cases bad with
 |some n=>
  rw[qN rfl];rw[nz rfl] at hbl;show Calls _ _ _ w fun e w'=>e=.returned (.tuple #[mZ s ⟨l,some n⟩,.string ⟨#[]⟩])∧_
  rw[nu] at hbl|-;generalize ((s.size-n:Nat):Int)=i at hbl|-;obtain⟨hn1,hn2⟩:=mV w s ⟨#[]⟩ i 0 true false;have aZ:=ai hn1;have bf:=ai hn2;have HB:=ai (ae (ae (Below.refl w.heap.size w) (.cells #[.string s,.int .i64 i,.bool true] 230)) (.cells #[.string ⟨#[]⟩,.int .i64 0,.bool false] 230));clear hn1 hn2;go_enter func121,ntmps121
  go_wp2_with fail
  refine(hbl _).mono ?_;rintro e w1 ⟨rfl,hb⟩;replace aZ:=bZ hb aZ;replace bf:=bZ hb bf;replace HB:=dW HB hb;clear hb;obtain⟨c0,c1,c2,f0,f1,f2⟩:=aj aZ.o;obtain⟨d0,d1,d2,g0,g1,g2⟩:=aj bf.o;go_upto_region 2 with (fail)
  clear c0 c1 c2 f0 f1 f2 d0 d1 d2 g0 g1 g2;replace aZ:=ai (fD aZ.o s i true);replace bf:=ai (eO bf.o (show w.heap.size+1≠w.heap.size by omega) s i true);replace HB:=ai (aQ HB.o (Nat.le_refl w.heap.size) s i true);generalize (((w1.setCell ⟨w.heap.size,0,none⟩ (.string s)).setCell ⟨w.heap.size,1,none⟩ (.int .i64 i)).setCell ⟨w.heap.size,2,none⟩ (.bool true))=w2 at aZ bf HB|-;obtain⟨c0,c1,c2,f0,f1,f2⟩:=aj aZ.o;obtain⟨d0,d1,d2,g0,g1,g2⟩:=aj bf.o;go_wp2_with fail
  refine(bR s i i true _).mono ?_;rintro e w3 ⟨rfl,hb⟩;clear c0 c1 c2 f0 f1 f2 d0 d1 d2 g0 g1 g2;replace aZ:=bZ hb aZ;replace bf:=bZ hb bf;replace HB:=dW HB hb;clear hb;obtain⟨c0,c1,c2,f0,f1,f2⟩:=aj aZ.o;obtain⟨d0,d1,d2,g0,g1,g2⟩:=aj bf.o;unfold dZ;go_wp2;refine bodyPost_ret (v:=.tuple #[.agg #[.string s,.int .i64 i,.bool true],.string ⟨#[]⟩]) (by simp[results,results121,go_sem,d0,d1,d2]) rfl ⟨rfl,aQ HB.o (Nat.le_succ w.heap.size) s i true⟩
 |none=>
  rw[gW] at hbl|-;have e1:bY ⟨l,none⟩=⟨skip l,none⟩:=rfl;have e2:dC ⟨l,none⟩=fq (skip l):=rfl;rw[e1] at hbl hok1;rw[gW] at hbl;rw[e2];have hle:=tT hok1;have ku:skip l<:+bytes s:=hok1.1;have hd:=jb ku;simp only at hle;have hws:=Fq s (skip l) ku hle;generalize skip l=L at hbl hle hd hws|-;generalize ((s.size-l.length:Nat):Int)=i0 at hbl|-;obtain⟨i,hi⟩:∃i,s.size-L.length=i:=⟨_,rfl⟩
  rw[hi] at hbl hd hws;have hiz:i<=s.size:=by omega
  have FN:L.length=s.size-i:=by omega
  clear hok hok1 ku hi e1 e2;obtain⟨hn1,hn2⟩:=mV w s ⟨#[]⟩ i0 0 false false;have aZ:=ai hn1;have bf:=ai hn2;have HB:=ai (ae (ae (Below.refl w.heap.size w) (.cells #[.string s,.int .i64 i0,.bool false] 230)) (.cells #[.string ⟨#[]⟩,.int .i64 0,.bool false] 230));clear hn1 hn2;cases L with
  |nil=>
   have hr:(fq []).2=⟨[],some 0⟩:=rfl;have hr2:(fq []).1= []:=rfl;rw[hr,hr2,nu];have hii:s.size-0=i:=by simp at FN;omega
   rw[hii];have q1:decide ((s.size:Int)<=(i:Int))=true:=decide_eq_true (by simp at FN;omega);show Calls _ _ _ w fun e w'=>e=.returned (.tuple #[.agg #[.string s,.int .i64 (i:Int),.bool true],.string ⟨#[]⟩])∧_
   clear hws hr hr2 hd FN;go_enter func121,ntmps121
   go_wp2_with fail
   refine(hbl _).mono ?_;rintro e w1 ⟨rfl,hb⟩;replace aZ:=bZ hb aZ;replace bf:=bZ hb bf;replace HB:=dW HB hb;clear hb;obtain⟨c0,c1,c2,f0,f1,f2⟩:=aj aZ.o;obtain⟨d0,d1,d2,g0,g1,g2⟩:=aj bf.o;go_upto_region 2 with (fail)
   clear c0 c1 c2 f0 f1 f2 d0 d1 d2 g0 g1 g2;replace aZ:=ai (fD aZ.o s (i:Int) false);replace bf:=ai (eO bf.o (show w.heap.size+1≠w.heap.size by omega) s (i:Int) false);replace HB:=ai (aQ HB.o (Nat.le_refl w.heap.size) s (i:Int) false);generalize (((w1.setCell ⟨w.heap.size,0,none⟩ (.string s)).setCell ⟨w.heap.size,1,none⟩ (.int .i64 (i:Int))).setCell ⟨w.heap.size,2,none⟩ (.bool false))=w2 at aZ bf HB|-;obtain⟨c0,c1,c2,f0,f1,f2⟩:=aj aZ.o;obtain⟨d0,d1,d2,g0,g1,g2⟩:=aj bf.o;go_wp2_with fail
   refine(bR s (i:Int) (i:Int) false _).mono ?_;rintro e w3 ⟨rfl,hb⟩;clear c0 c1 c2 f0 f1 f2 d0 d1 d2 g0 g1 g2;replace aZ:=bZ hb aZ;replace bf:=bZ hb bf;replace HB:=dW HB hb;clear hb;obtain⟨c0,c1,c2,f0,f1,f2⟩:=aj aZ.o;obtain⟨d0,d1,d2,g0,g1,g2⟩:=aj bf.o;unfold dZ;go_wp2;refine bodyPost_ret (v:=.tuple #[.agg #[.string s,.int .i64 (i:Int),.bool true],.string ⟨#[]⟩]) (by simp[results,results121,go_sem,d0,d1,d2]) rfl ⟨rfl,aQ HB.o (Nat.le_succ w.heap.size) s (i:Int) true⟩
  |cons c r=>
   obtain⟨hlt,_,h3⟩:=lq hd.symm;have q1:decide ((s.size:Int)<=(i:Int))=false:=decide_eq_false (by omega);have q0:decide (s.size<=i)=false:=decide_eq_false (by omega);have hx:∀h:i<s.size,s[i]'h=c:=fun h=>by
    rw[dP h] at hd;injection hd with hd1 _;exact hd1.symm
   have p1:(0:Int)<=(i:Int):=by omega
   have p2:(i:Int)<(s.size:Int):=by omega
   cases hc:wO c with
   |false=>
    have hr:fq (c::r)=([],⟨c::r,some (r.length+1)⟩):=by simp[fq,hc]
    rw[hr,nu];have hii:s.size-(r.length+1)=i:=by simp at FN;omega
    rw[hii];show Calls _ _ _ w fun e w'=>e=.returned (.tuple #[.agg #[.string s,.int .i64 (i:Int),.bool true],.string ⟨#[]⟩])∧_
    have HC:=ai hc;clear hws hr hd FN h3 hc;go_enter func121,ntmps121
    go_wp2_with fail
    refine(hbl _).mono ?_;rintro e w1 ⟨rfl,hb⟩;replace aZ:=bZ hb aZ;replace bf:=bZ hb bf;replace HB:=dW HB hb;clear hb;obtain⟨c0,c1,c2,f0,f1,f2⟩:=aj aZ.o;obtain⟨d0,d1,d2,g0,g1,g2⟩:=aj bf.o;go_upto_region 2 with (fail)
    clear c0 c1 c2 f0 f1 f2 d0 d1 d2 g0 g1 g2;replace aZ:=ai (fD aZ.o s (i:Int) false);replace bf:=ai (eO bf.o (show w.heap.size+1≠w.heap.size by omega) s (i:Int) false);replace HB:=ai (aQ HB.o (Nat.le_refl w.heap.size) s (i:Int) false);generalize (((w1.setCell ⟨w.heap.size,0,none⟩ (.string s)).setCell ⟨w.heap.size,1,none⟩ (.int .i64 (i:Int))).setCell ⟨w.heap.size,2,none⟩ (.bool false))=w2 at aZ bf HB|-;obtain⟨c0,c1,c2,f0,f1,f2⟩:=aj aZ.o;obtain⟨d0,d1,d2,g0,g1,g2⟩:=aj bf.o;go_wp2_with fail
    refine(ll c _).mono ?_;rintro e w3 ⟨rfl,rfl⟩;rw[HC.o];go_wp2_with fail
    refine(bR s (i:Int) (i:Int) false _).mono ?_;rintro e w3 ⟨rfl,hb⟩;clear c0 c1 c2 f0 f1 f2 d0 d1 d2 g0 g1 g2;replace aZ:=bZ hb aZ;replace bf:=bZ hb bf;replace HB:=dW HB hb;clear hb;obtain⟨c0,c1,c2,f0,f1,f2⟩:=aj aZ.o;obtain⟨d0,d1,d2,g0,g1,g2⟩:=aj bf.o;unfold dZ;go_wp2;refine bodyPost_ret (v:=.tuple #[.agg #[.string s,.int .i64 (i:Int),.bool true],.string ⟨#[]⟩]) (by simp[results,results121,go_sem,d0,d1,d2]) rfl ⟨rfl,aQ HB.o (Nat.le_succ w.heap.size) s (i:Int) true⟩
   |true=>
    have hr:fq (c::r)=(c::r.takeWhile pX,⟨r.dropWhile pX,none⟩):=by simp[fq,hc]
    rw[hr] at hws|-;rw[gW];simp only at hws;obtain⟨z,hz⟩:∃z:Nat,s.size-(r.dropWhile pX).length=z:=⟨_,rfl⟩
    rw[hz] at hws|-;rw[<-hws];have HC:=ai hc;have HZ:=ai hz;have H3:=ai h3;clear hws hr hd FN h3 hc hz;go_enter func121,ntmps121
    go_wp2_with fail
    refine(hbl _).mono ?_;rintro e w1 ⟨rfl,hb⟩;replace aZ:=bZ hb aZ;replace bf:=bZ hb bf;replace HB:=dW HB hb;clear hb;obtain⟨c0,c1,c2,f0,f1,f2⟩:=aj aZ.o;obtain⟨d0,d1,d2,g0,g1,g2⟩:=aj bf.o;go_upto_region 2 with (fail)
    clear c0 c1 c2 f0 f1 f2 d0 d1 d2 g0 g1 g2;replace aZ:=ai (fD aZ.o s (i:Int) false);replace bf:=ai (eO bf.o (show w.heap.size+1≠w.heap.size by omega) s (i:Int) false);replace HB:=ai (aQ HB.o (Nat.le_refl w.heap.size) s (i:Int) false);generalize (((w1.setCell ⟨w.heap.size,0,none⟩ (.string s)).setCell ⟨w.heap.size,1,none⟩ (.int .i64 (i:Int))).setCell ⟨w.heap.size,2,none⟩ (.bool false))=w2 at aZ bf HB|-;obtain⟨c0,c1,c2,f0,f1,f2⟩:=aj aZ.o;obtain⟨d0,d1,d2,g0,g1,g2⟩:=aj bf.o;go_wp2_with fail
    refine(ll c _).mono ?_;rintro e w3 ⟨rfl,rfl⟩;rw[HC.o];go_wp2_with fail
    go_loopg [4] (s.size+1) (fun k t wr=>∃j:Nat,ay (j<=s.size∧i<j∧(bu s j).dropWhile pX=(bu s (i+1)).dropWhile pX∧s.size-j<k)∧t=.int .i64 (j:Int)∧wr=w2)
    case atStart=>exact⟨i+1,⟨by omega,by omega,rfl,by omega⟩,rfl,rfl⟩
    case round=>
     obtain⟨j,HM,rfl,rfl⟩:=hrel;by_cases hj:j<s.size
     ·obtain⟨c2,hc2⟩:∃c,s[j]'hj=c:=⟨_,rfl⟩
      have Bo:=dP hj;rw[hc2] at Bo;have HD:=ai Bo;clear Bo;have hx2:∀h:j<s.size,s[j]'h=c2:=fun _=>hc2
      clear hc2;have p3:(0:Int)<=(j:Int):=by omega
      have p4:(j:Int)<(s.size:Int):=by omega
      clear hx p1 p2;cases hl:wO c2 with
      |true=>
       go_wp2_with fail
       refine(ll c2 _).mono ?_;rintro e w3 ⟨rfl,rfl⟩;rw[hl];go_wp2_with fail
       go_roundg (gk-1)
       case measure=>have:=HM.o;omega
       case rel=>exact⟨j+1,⟨by omega,by have:=HM.o;omega,by have:=HM.o;rw[<-this.2.2.1,HD.o,List.dropWhile_cons,if_pos (by simp[pX,hl])],by have:=HM.o;omega⟩,rfl,rfl⟩
      |false=>
       go_wp2_with fail
       refine(ll c2 _).mono ?_;rintro e w3 ⟨rfl,rfl⟩;rw[hl];go_wp2_with fail
       refine(bU c2 _).mono ?_;rintro e w3 ⟨rfl,rfl⟩;cases hdg:jF c2 with
       |true=>
        go_wp2_with fail
        go_roundg (gk-1)
        case measure=>have:=HM.o;omega
        case rel=>exact⟨j+1,⟨by omega,by have:=HM.o;omega,by have:=HM.o;rw[<-this.2.2.1,HD.o,List.dropWhile_cons,if_pos (by simp[pX,hdg])],by have:=HM.o;omega⟩,rfl,rfl⟩
       |false=>
        have hjz:j=z:=by
         have h1:=HM.o.2.2.1;rw[HD.o,List.dropWhile_cons,if_neg (by simp[pX,hl,hdg]),H3.o] at h1;have h2:=HZ.o;rw[<-h1,<-HD.o,gu] at h2;omega
        subst hjz;have p5:(i:Int)<=(j:Int):=by have:=HM.o;omega
        have p6:(0:Int)<=(i:Int):=by omega
        have p7:(j:Int)<=(s.size:Int):=by omega
        go_wp2;refine bodyPost_ret (v:=.tuple #[.agg #[.string s,.int .i64 (j:Int),.bool false],.string (s.extract i j)]) (by simp[results,results121,go_sem,d0,d1,d2]) rfl ⟨rfl,aQ (HB.o.setCell (p:=⟨w.heap.size,1,none⟩) (Nat.le_refl w.heap.size) _) (Nat.le_succ w.heap.size) s (j:Int) false⟩
     ·have ZE:j=s.size:=by have:=HM.o;omega
      have hjz:j=z:=by
       have h1:=HM.o.2.2.1;rw[gP (by omega),H3.o] at h1;have h2:=HZ.o;rw[<-h1] at h2;simp at h2;omega
      subst hjz;have p3:decide ((j:Int)<(s.size:Int))=false:=decide_eq_false (by omega);have p5:(i:Int)<=(j:Int):=by have:=HM.o;omega
      have p6:(0:Int)<=(i:Int):=by omega
      have p7:(j:Int)<=(s.size:Int):=by omega
      clear ZE;go_wp2;refine bodyPost_ret (v:=.tuple #[.agg #[.string s,.int .i64 (j:Int),.bool false],.string (s.extract i j)]) (by simp[results,results121,go_sem,d0,d1,d2]) rfl ⟨rfl,aQ (HB.o.setCell (p:=⟨w.heap.size,1,none⟩) (Nat.le_refl w.heap.size) _) (Nat.le_succ w.heap.size) s (j:Int) false⟩
end Go.Proofs.YtnmpijbcajclgaaGreatDoor.Mine
end
