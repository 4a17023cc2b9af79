/- Texts of one claim, one behind the other, made short by a program. -/
import Derived.Test.YtnmpijbcajclgaaGreatDoorMA14
set_option maxHeartbeats 8000000
set_option linter.unusedSimpArgs false
set_option linter.unusedVariables false
set_option maxRecDepth 100000
section
namespace Go.Proofs.YtnmpijbcajclgaaGreatDoor.Mine
open Tryz
open Go.Maps Go.RowKit YtnmpijbcajclgaaGreatDoorW.PrintWords YtnmpijbcajclgaaGreatDoorW.PrintLast YtnmpijbcajclgaaGreatDoorW.PrintMore
open PNodeAlone
open Value renaming slice->Vs
theorem NF:(prog.info? 272).map (fun i=>(i.zero,i.size,i.bytes))=some (some (.agg #[(.string ⟨#[]⟩),(.int .i64 0),(.int .i64 0)]),3,32):=by kernel_rfl
def CG(l:List rz)(s:rz):List rz:=if 512<l.length+1 then (l++ [s]).drop 1 else l++ [s]
def eG.Dm(N:eG)(s:rz):eG:={N with sent:=CG N.sent s}
def XQ(kind:Int)(cz:ByteArray)(fG q hops:Int)(E:Option Addr)(k c:Nat)(pay:ByteArray):Array Value:= #[.int .i64 kind,.string cz,.bool false,.slice none 0 0,.int .i64 fG,.int .i64 q,.int .i64 hops,.slice E k c,.string pay]
structure Yi(base g gb gm sz:Nat)(w:World)(h:Hd)(M:Array Value)(vE:Value)(V:List SV)(N:eG)(wx:World)(h1:Hd):Prop where
 nd:cK base wx g h1 N
 fr:Fr base g w h wx h1
 row:Kd.R pI tV wx base (fun _=>True) vE V
 box:wx.heap[gb]? =some (.cells #[.pointer (some ⟨g,0,none⟩)] 24 (0,0))∧Off wx h1 g gb
 msg:wx.heap[gm]? =some (.cells M tM (0,0))∧Off wx h1 g gm
 size:sz<=wx.heap.size
theorem FR{base g gb gm sz:Nat}{w wc wx:World}{h h1:Hd}{M:Array Value}{vE:Value}{V:List SV}{N:eG}{s:rz}{A':Option Addr}{m c':Nat}(D:Yi base g gb gm sz w h M vE V {N with sent:=N.sent++ [s]} wc h1)(hb:Below wc.heap.size wc wx)(hs:base<=wc.heap.size)(h5:N.sent.length+1>512)
 (hR:Kd.R Lv vD wx base (fun _=>True) (.slice A' m c') ((N.sent++ [s]).drop 1)) (hge:∀k',(Vs A' m c').ownBlock=some k'->wc.heap.size<=k'):
 Yi base g gb gm sz w h M vE V (N.Dm s) (wx.setCell ⟨g,11,none⟩ (.slice A' m c')) {h1 with vsent:=.slice A' m c'}:=by
 have hz:N.Dm s={N with sent:=(N.sent++ [s]).drop 1}:=by unfold eG.Dm CG;rw[if_pos (by omega)]
 rw[hz];have rx:=D.nd.below hb;have r2:eZ base wx {h1 with vsent:=.slice A' m c'} {N with sent:=(N.sent++ [s]).drop 1}:=⟨rx.rows.sch,rx.rows.sub,rx.rows.seen,rx.rows.box,rx.rows.opn,rx.rows.lnk,hR⟩
 have jW:=r2.set rx.blk (by decide) 11 (.slice A' m c');have fy:=((Fr.of_below (g:=g) (h:=h1) hb hs).RD (v1:=.slice A' m c') (.inr hge)).trans (Fr.set rx.gb 11 (.slice A' m c'));exact⟨cK.of (bg rx.blk 11 (.slice A' m c')) rfl rx.gb jW,D.fr.trans fy,fy.R D.nd D.row (by decide+kernel),⟨D.box.2.blk fy D.box.1,D.box.2.keep fy⟩,⟨D.msg.2.blk fy D.msg.1,D.msg.2.keep fy⟩,Nat.le_trans D.size fy.below.size⟩
def WC(base g:Nat)(M:Array Value)(E:Option Addr)(k c:Nat)(V:List SV)(N:eG)(P:eG->Prop)(s:Nat):Prop:=
 ∀(W:World) (h1:Hd),s<=W.heap.size->cK base W g h1 N->Kd.R pI tV W base (fun _=>True) (.slice E k c) V->Calls prog 165 #[.pointer (some ⟨g,0,none⟩),.agg M] W fun e w'=>e=.returned (.tuple #[])∧∃h' N',P N'∧cK base w' g h' N'∧Fr base g W h1 w' h'
theorem down_calls(base g k c:Nat)(h:Hd)(N:eG)(kind q hops:Int)(cz pay:ByteArray)(E:Option Addr)(V:List SV)(env:Value)(w:World)(P:eG->Prop)(hI:cK base w g h N)(hbase:base<=w.heap.size)(hS:N.S.length<=100000)(heb:dV N.S V pay=none)(hV:Kd.R pI tV w base (fun _=>True) (.slice E k c) V)
 (hno:∀s∈N.sent,¬(cz=s.cz∧N.addr=s.fG∧q=s.seq)) (hl:N.sent.length<=512) (hA:WC base g (fT kind cz N.addr q hops E k c pay) E k c V (N.Dm ⟨cz,N.addr,q⟩) P w.heap.size):
 Calls prog 108 #[.pointer (some ⟨g,0,none⟩),.agg (fT kind cz N.addr q hops E k c pay),env] w fun e w'=>e=.returned (.tuple #[])∧∃h' N',P N'∧cK base w' g h' N'∧Fr base g w h w' h':=by
 have kD:=ai hbase;have HS:=ai hS;have II:=ai heb;have FL:=ai (And.intro hno hl);have HA:=ai hA;have HI:=ai hI;have HV:=ai hV;clear hI hbase hS heb hV hno hl hA;unfold fT;go_enter func108,ntmps108
 go_upto_region 2 with (fail)
 have ha1:=ae (Below.refl w.heap.size w) (.cells #[.pointer (some ⟨g,0,none⟩)] 24);have hk1:=heap_alloc_new w (.cells #[.pointer (some ⟨g,0,none⟩)] 24);have hz1:(w.alloc (.cells #[.pointer (some ⟨g,0,none⟩)] 24)).heap.size=w.heap.size+1:=by show (w.heap.push _).size=_;exact Array.size_push _
 generalize w.alloc (.cells #[.pointer (some ⟨g,0,none⟩)] 24)=Wa at ha1 hk1 hz1|-;have ha2:=ae (Below.refl Wa.heap.size Wa) (.cells (fT kind cz N.addr q hops E k c pay) tM);have hk2:=heap_alloc_new Wa (.cells (fT kind cz N.addr q hops E k c pay) tM);have hz2:(Wa.alloc (.cells (fT kind cz N.addr q hops E k c pay) tM)).heap.size=Wa.heap.size+1:=by show (Wa.heap.push _).size=_;exact Array.size_push _
 unfold fT at ha2 hk2 hz2;generalize Wa.alloc (.cells #[.int .i64 kind,.string cz,.bool false,.slice none 0 0,.int .i64 N.addr,.int .i64 q,.int .i64 hops,.slice E k c,.string pay] tM)=Wb at ha2 hk2 hz2|-;have OZ:=ae (Below.refl Wb.heap.size Wb) (.cells #[.string cz,.int .i64 N.addr,.int .i64 q] vD);have hk3:=heap_alloc_new Wb (.cells #[.string cz,.int .i64 N.addr,.int .i64 q] vD);generalize Wb.alloc (.cells #[.string cz,.int .i64 N.addr,.int .i64 q] vD)=W1 at OZ hk3|-;have hb1:Below w.heap.size w W1:=aD (aD ha1 ha1.size ha2) (Nat.le_trans ha1.size ha2.size) OZ;have hl3:=aI hk3;have bD:=ai ((OZ.block _ (by have:=ha2.size;have:=aI hk1;omega)).trans ((ha2.block _ (aI hk1)).trans hk1));have SY:=(OZ.block _ (aI hk2)).trans hk2;rw[hz2,hz1] at hk3;rw[hz1] at SY;rw[hz2,hz1] at hl3;have HG:ay (w.heap.size+1+1<W1.heap.size):=⟨hl3⟩
 have QL:=ai SY;have NY:=ai hk3;clear ha1 hk1 hz1 ha2 hk2 hz2 OZ hk3 SY hl3;have Qj:=ai (Fr.of_below (g:=g) (h:=h) hb1 kD.o);have HI1:=ai (HI.o.below hb1);have IV:=lV HV hb1;have ob:Off W1 h g w.heap.size:=Off.new HI.o (Nat.le_refl _) (by have:=HG.o;omega);have om:Off W1 h g (w.heap.size+1):=Off.new HI.o (by omega) (by have:=HG.o;omega);have ox:Off W1 h g (w.heap.size+1+1):=Off.new HI.o (by omega) HG.o;have xE:=ai (And.intro ob (And.intro om ox));have JK:=ai hb1.size;clear ob om ox hb1;generalize w.heap.size+1+1=gx at NY xE|-;generalize w.heap.size+1=gm at QL xE|-;generalize hgb:w.heap.size=gb at bD xE|-;have U1:=ai hgb;clear hgb;have b0:=bK bD.o;have m7:=CX QL.o;have m8:=Ew QL.o;have x0:=bK NY.o;have x1:=bS NY.o;have x2:=dh NY.o;obtain⟨A2,c2,hv2,_,hC2⟩:=Kd.bB HI1.o.rows.sch;obtain⟨Pv,c11,GK,MU,LY⟩:=Kd.bB HI1.o.rows.sent;have y2:=(HI1.o.cell 2).trans (show _=some (Vs A2 N.S.length c2) from by rw[<-hv2];rfl);have OC:=(HI1.o.cell 11).trans (show _=some (Vs Pv N.sent.length c11) from by rw[<-GK];rfl);have LP:=ai GK;obtain⟨UA,_,IK⟩:=Kd.bN IV.o;have F5:=ai (fun (W:World) (hb:Below W1.heap.size W1 W)=>nE A2 E N.S.length k c2 c N.S V pay W rfl UA.symm (Kd.aY hC2 hb) (Kd.aY (UA▸IK) hb) HS.o);unfold kR at F5;have VG:=ai (fun (W:World) (hb:Below W1.heap.size W1 W)=>Lp Pv c11 N.sent cz N.addr q W (Kd.aY LY hb) MU (by have:=FL.o.2;omega) FL.o.1);have HB:=ai (Below.refl W1.heap.size W1);clear hv2 hC2 GK MU LY UA IK;go_region_held3 (fun X=>X.cell? ⟨gb,0,none⟩=some (.pointer (some ⟨g,0,none⟩))∧X.cell? ⟨g,2,none⟩=some (.slice A2 N.S.length c2)∧X.cell? ⟨g,11,none⟩=some (.slice Pv N.sent.length c11)∧X.cell? ⟨gm,7,none⟩=some (.slice E k c)∧X.cell? ⟨gm,8,none⟩=some (.string pay)∧X.cell? ⟨gx,0,none⟩=some (.string cz)∧X.cell? ⟨gx,1,none⟩=some (.int .i64 N.addr)∧X.cell? ⟨gx,2,none⟩=some (.int .i64 q)) (go_keep) (first
  |(go_at_call 94;(with_reducible refine(F5.o _ ?tb).mono ?_);(case tb=>(with_reducible repeat(first|exact HB.o|apply ah|apply ak|apply aK|apply ae)));rintro e wx hq;obtain⟨rfl,hbx⟩:=jR.ok hq II.o;have dH:=ai (aD (by(with_reducible repeat(first|exact HB.o|apply ah|apply ak|apply aK|apply ae))) (Below.size (by(with_reducible repeat(first|exact HB.o|apply ah|apply ak|apply aK|apply ae)))) hbx);(have z0:=av hbx b0;have z1:=av hbx y2;have z2:=av hbx OC;have z3:=av hbx m7;have z4:=av hbx m8;have z5:=av hbx x0;have z6:=av hbx x1;have z7:=av hbx x2;clear HB hbx;have HB:=dH;clear dH))
  |(go_at_call 163;(with_reducible refine(VG.o _ ?tb).mono ?_);(case tb=>(with_reducible repeat(first|exact HB.o|apply ah|apply ak|apply aK|apply ae)));rintro e wy ⟨rfl,hbx⟩;have dH:=ai (aD (by(with_reducible repeat(first|exact HB.o|apply ah|apply ak|apply aK|apply ae))) (Below.size (by(with_reducible repeat(first|exact HB.o|apply ah|apply ak|apply aK|apply ae)))) hbx);(have u0:=av hbx z0;have u1:=av hbx z1;have u2:=av hbx z2;have u3:=av hbx z3;have u4:=av hbx z4;have u5:=av hbx z5;have u6:=av hbx z6;have u7:=av hbx z7;clear HB hbx;have HB:=dH;clear dH)))
 go_wp2_with fail
 have HI2:=ai (HI1.o.below HB.o);have XF:=ai (Qj.o.then HB.o kD.o);have Pn:=lV IV HB.o;have MR:=bZ HB.o bD;have Vv:=bZ HB.o QL;have P8:=bZ HB.o NY;have OM:=ai (And.intro (xE.o.1.below HB.o) (And.intro (xE.o.2.1.below HB.o) (xE.o.2.2.below HB.o)));have P9:=ai (Nat.le_trans JK.o HB.o.size);clear HB HI1 Qj IV bD QL NY xE JK F5 VG b0 m7 m8 x0 x1 x2 y2 OC z0 z1 z2 z3 z4 z5 z6 z7 u0 u1 u2 u3 u4 u5 u6 u7 HG;have b0:=bK MR.o;have x0:=bK P8.o;have x1:=bS P8.o;have x2:=dh P8.o;have OC:=(HI2.o.cell 11).trans (show _=some (Vs Pv N.sent.length c11) from by rw[<-LP.o];rfl);have WH:(wy.alloc (Obj.cells #[.string cz,.int .i64 N.addr,.int .i64 q] 272)).cell? ⟨g,11,none⟩=some (.slice Pv N.sent.length c11):=av (ae (Below.refl _ _) _) OC;have b0a:(wy.alloc (Obj.cells #[.string cz,.int .i64 N.addr,.int .i64 q] 272)).cell? ⟨gb,0,none⟩=some (.pointer (some ⟨g,0,none⟩)):=av (ae (Below.refl _ _) _) b0;have R4:=ai (Qn (w:=wy.drew) (base:=base) (ok:=fun k=>True∧some k≠h.vsent.ownBlock) ⟨cz,N.addr,q⟩);go_cut [] (fun wx=>∃h1:Hd,ay (Yi base g gb gm w.heap.size w h (XQ kind cz N.addr q hops E k c pay) (.slice E k c) V {N with sent:=N.sent++ [⟨cz,N.addr,q⟩]} wx h1))
 case first=>
  go_region_law (refine Kd.jE Lv (w0:=wy) (W:=wy.drew) base ?hw (.tmp 36) (.tmp 38) 112 vD (.agg #[(.string ⟨#[]⟩),(.int .i64 0),(.int .i64 0)]) 32 ?ho underlying112 NF rfl (by decide) (by omega) h.vsent N.sent ⟨cz,N.addr,q⟩ [.string cz,.int .i64 N.addr,.int .i64 q] (fun _=>True) (fun k=>True∧some k≠h.vsent.ownBlock) ?aV ?aX R4.o (fun _ hk=>hk) ?aF (Kd.dm HI2.o.rows.sent) (aK (Below.refl base wy)) (Nat.le_trans kD.o P9.o) ?aL ?_;(case ho=>rfl);(case hw=>first|rfl|(simp[Region.wanted]));(case aV=>exact LP.o.symm);(case aX=>first|rfl|(go_simp;done)|(go_simp;rfl));(case aF=>exact(fun _ _=>trivial));(case aL=>have:=FL.o.2;omega);intro v9 w9 ho hb hg hat;have k9:=dB (w:=wy.drew) HI2.o.blk hg (Kd.kM (w:=wy.drew) (Kd.dm HI2.o.rows.sent) HI2.o.blk (by decide));obtain⟨A9,c9,rfl,Sq,Pw⟩:=Kd.bB ho;have aaE:=(aN k9 11).trans (show _=some (Vs Pv N.sent.length c11) from by rw[<-LP.o];rfl);have f11':=af k9 11;have kb9:=dB (w:=wy.drew) MR.o hg (Kd.kM (w:=wy.drew) (Kd.dm HI2.o.rows.sent) MR.o (by decide));have b0':=(bK kb9))
  all_goals
   have k10:=bg k9 11 (.slice A9 (N.sent++ [(⟨cz,N.addr,q⟩:rz)]).length c9);have rd:=HI2.o.rows.below (aK (Below.refl wy.heap.size wy));have jW:=(rd.Ml hg ho).set k9 (by decide) 11 (.slice A9 (N.sent++ [(⟨cz,N.addr,q⟩:rz)]).length c9);have hbw:=Nat.le_trans kD.o P9.o;have fy:=(((Fr.of_below (g:=g) (h:=h) (aK (Below.refl wy.heap.size wy)) hbw).trans (Fr.Ml rd hg hbw)).RD (NewAt.from (Nat.le_refl _) hat)).trans (Fr.set HI2.o.gb 11 (.slice A9 (N.sent++ [(⟨cz,N.addr,q⟩:rz)]).length c9));have hlen:(N.sent++ [(⟨cz,N.addr,q⟩:rz)]).length=N.sent.length+1:=by simp
   rw[hlen] at k10 jW fy;have hi9:=cK.of (base:=base) (g:=g) (h:={h with vsent:=.slice A9 (N.sent.length+1) c9}) (N:={N with sent:=N.sent++ [⟨cz,N.addr,q⟩]}) k10 rfl HI2.o.gb ⟨jW.sch,jW.sub,jW.seen,jW.box,jW.opn,jW.lnk,jW.sent⟩;have hfin:=And.intro (And.intro hi9 (XF.o.trans fy)) (And.intro (fy.R HI2.o Pn.o (by decide+kernel)) (And.intro (And.intro (OM.o.1.blk fy MR.o) (OM.o.1.keep fy)) (And.intro (And.intro (OM.o.2.1.blk fy Vv.o) (OM.o.2.1.keep fy)) (Nat.le_trans P9.o fy.below.size))));clear k9 ho hb hg hat Sq Pw aaE f11' kb9 b0' rd jW k10 hlen WH b0a fy hi9 hbw;go_wp2_with fail
   go_meet;exact⟨_,⟨hfin.1.1,hfin.1.2,hfin.2.1,hfin.2.2.1,hfin.2.2.2.1,hfin.2.2.2.2⟩⟩
 case rest=>
  clear HI2 XF Pn MR Vv P8 OM P9 b0 x0 x1 x2 OC WH b0a R4 LP;obtain⟨h1,HD3⟩:=hcut;obtain⟨A3,c3,hv3,hc3,_⟩:=Kd.bB HD3.o.nd.rows.sent;have hlen:(N.sent++ [(⟨cz,N.addr,q⟩:rz)]).length=N.sent.length+1:=by simp
  have hv3:h1.vsent=.slice A3 (N.sent.length+1) c3:=by rw[hv3];exact congrArg (fun z=>Vs A3 z c3) hlen
  have Ej:=ai hv3;have b0:=bK HD3.o.box.1;have OC:=(HD3.o.nd.cell 11).trans (show _=some (Vs A3 (N.sent.length+1) c3) from by rw[<-hv3];rfl);clear hv3 hlen hc3
  go_upto_if 47 with (fail)
  go_cut [] (fun wx=>∃h2:Hd,ay (Yi base g gb gm w.heap.size w h (XQ kind cz N.addr q hops E k c pay) (.slice E k c) V (N.Dm ⟨cz,N.addr,q⟩) wx h2))
  case first=>
   by_cases h5:N.sent.length+1>512
   ·have d1:decide ((512:Int)<((N.sent.length+1:Nat):Int))=true:=decide_eq_true (by omega);have d2:decide (512<N.sent.length+1)=true:=decide_eq_true (by omega);obtain⟨tI,uH,hts,htz⟩:=kS NF;obtain⟨AA,KT⟩:∃AA,AA=(if c3=1 then A3 else A3.map (·.add (1*Lv.sz))):=⟨_,rfl⟩
    have hRS:Kd.R Lv vD wc base (fun _=>True) (.slice A3 (N.sent.length+1) c3) (N.sent++ [⟨cz,N.addr,q⟩]):=by have h:=HD3.o.nd.rows.sent;rw[Ej.o] at h;exact h
    have hS1:∀W:World,(Instr.slice 112 (.slice A3 (N.sent.length+1) c3) (some (.int .i64 1)) none none).run prog W=.ok (.slice AA N.sent.length (c3-1)) W:=by
     intro W;rw[KT];exact mJ (P:=prog) 112 vD .i64 underlying112 uH 3 hts A3 (N.sent.length+1) c3 1 (by decide) (by omega) W
    have vQ:=ai (fun (W:World) (hb:Below wc.heap.size wc W)=>(show Calls prog 164 #[.slice AA N.sent.length (c3-1)] W fun e' w'=>∃A' c',e'=.returned (.slice A' N.sent.length c')∧Kd.R Lv vD w' base (fun _=>True) (.slice A' N.sent.length c') ((N.sent++ [(⟨cz,N.addr,q⟩:rz)]).drop 1)∧(∀k',(Vs A' N.sent.length c').ownBlock=some k'->W.heap.size<=k')∧Below W.heap.size W w' from by
     rw[KT];exact aaS.drop (Nat.le_trans kD.o (Nat.le_trans HD3.o.size hb.size)) (Kd.bJ hRS hb) (k:=1) (by omega) (by have:=FL.o.2;omega) (by decide)))
    clear KT hRS uH hts htz;go_wp2_with fail
    go_region_law (first
     |(go_simp;go_at_call 164;(with_reducible refine(vQ.o _ (aK (Below.refl _ _))).mono ?_);rintro e' wx ⟨A',c',rfl,WZ,hge,hbx⟩;have n_:=aD (aK (Below.refl wc.heap.size wc)) (Nat.le_refl _) hbx;have b0x:=av n_ b0;have aaq:=av n_ OC;have HFN:=ai (FR HD3.o n_ (Nat.le_trans kD.o HD3.o.size) h5 WZ hge);have aaP:=af (HD3.o.nd.below n_).blk 11;clear WZ hge hbx n_))
    all_goals
     have hfin:=HFN.o;clear HFN b0x aaq aaP vQ hS1;go_wp2_with fail
     go_meet;exact⟨_,⟨hfin⟩⟩
   ·have d1:decide ((512:Int)<((N.sent.length+1:Nat):Int))=false:=decide_eq_false (by omega);have d2:decide (512<N.sent.length+1)=false:=decide_eq_false (by omega);go_wp2_with fail
    go_meet;refine⟨h1,⟨?_⟩⟩;have hz:N.Dm ⟨cz,N.addr,q⟩={N with sent:=N.sent++ [⟨cz,N.addr,q⟩]}:=by unfold eG.Dm CG;rw[if_neg (by omega)]
    rw[hz];exact HD3.o
  case rest=>
   clear HD3 Ej b0 OC;obtain⟨h2,HD4⟩:=hcut;have b0:=bK HD4.o.box.1;have m0:=bK HD4.o.msg.1;have m1:=bS HD4.o.msg.1;have m2:=dh HD4.o.msg.1;have m3:=dA HD4.o.msg.1;have m4:=dI HD4.o.msg.1;have m5:=eH HD4.o.msg.1;have m6:=fF HD4.o.msg.1;have m7:=CX HD4.o.msg.1;have m8:=Ew HD4.o.msg.1;go_wp2_with fail
   refine(HA.o _ h2 HD4.o.size HD4.o.nd HD4.o.row).mono ?_;rintro r w5 ⟨rfl,h3,N',hP,UE,RI⟩;have VY:=HD4.o.box.2.blk RI HD4.o.box.1;have XK:=HD4.o.msg.2.blk RI HD4.o.msg.1;have fQ:=ai (And.intro hP (And.intro UE (HD4.o.fr.trans RI)));have ad6:=ai (Nat.le_trans HD4.o.size RI.below.size);have TL:=ai (fun (W:World) (hb:Below w5.heap.size w5 W)=>EH g cz W (((UE.below hb).cell 5).trans (show _=some (Vs none 0 0) from rfl)));clear hP UE RI b0 m0 m1 m2 m3 m4 m5 m6 m7 m8 HD4 HA;have b0:=bK VY;have m1:=bS XK;clear VY XK;go_wp2_with fail
   go_cut [65,66,67] (fun s65 s66 s67 wx=>s66=.int .i64 0∧s67=.int .i64 0∧ay (Below w5.heap.size w5 wx))
   case first=>
    go_region_law (first
     |(go_simp;go_at_call 48;(with_reducible refine(TL.o _ (aK (Below.refl _ _))).mono ?_);rintro e' wx ⟨rfl,rfl⟩))
    all_goals
     go_wp2_with fail
     go_meet;exact⟨rfl,rfl,⟨aK (Below.refl _ _)⟩⟩
   case rest=>
    obtain⟨rfl,rfl,RN⟩:=hcut;go_wp2_with fail
    go_loopg [8,67] 1 (fun kk v8 v67 W=>v67=.int .i64 0∧ay (Below w5.heap.size w5 W))
    case atStart=>exact⟨rfl,RN⟩
    case round=>
     clear RN;obtain⟨rfl,HBR⟩:=hrel;go_wp2
     first|go_end0|((try simp only[Exit.inBlock,Exit.then]);refine bodyPost_ret (results_none rfl _ _ _) rfl ?_)
     exact⟨rfl,h3,N',fQ.o.1,fQ.o.2.1.below HBR.o,fQ.o.2.2.then HBR.o kD.o⟩
theorem Qh{q y:ByteArray}:zM q y=true↔y=q:=by
 unfold zM;rw[beq_iff_eq,Go.Lib.toList_data,Go.Lib.toList_data];exact⟨fun h=>ByteArray.ext (Array.toList_inj.1 h),fun h=>by rw[h]⟩
theorem Mf{q:Int}{g:ByteArray}{r:List iJ}(h:∀x∈r,x.seq≠q∧0<x.want.length):lW q g r=r:=by
 unfold lW;have hm:r.map (iJ.cf q g)=r:=by
  conv=>rhs;rw[<-List.map_id r]
  exact List.map_congr_left (fun x hx=>by rw[iJ.cf,if_neg (h x hx).1];rfl)
 rw[hm];unfold dK;rw[List.filter_eq_self];intro x hx;have:=(h x hx).2;have h2:gY x=false:=decide_eq_false (by omega);simp[h2]
theorem Jw{l:List rz}{s x:rz}(h:x∈CG l s):x∈l∨x=s:=by
 unfold CG at h;have h2:x∈l++ [s]:=by
  split at h
  ·exact List.mem_of_mem_drop h
  ·exact h
 simpa using h2
theorem Q4{l:List rz}{s:rz}(h:l.length<=512):(CG l s).length<=512:=by
 unfold CG;split
 ·rw[List.length_drop,List.length_append];simp;omega
 ·rw[List.length_append];simp;omega
def uw(done:List ByteArray)(x:ByteArray):Bool:=done.any (fun g=>zM g x)
def tY(e:iJ)(done:List ByteArray):List iJ:=
 if e.want.filter (fun g=> !uw done g)= [] then [] else [{e with want:=e.want.filter (fun g=> !uw done g)}]
theorem JQ(e:List ByteArray)(done:List ByteArray)(g:ByteArray):dK (zM g) (e.filter (fun x=> !uw done x))=e.filter (fun x=> !uw (done++ [g]) x):=by
 unfold dK;rw[List.filter_filter];refine List.filter_congr (fun x _=> ?_);unfold uw;rw[List.any_append];simp[Bool.not_or,Bool.and_comm]
theorem AO{e:iJ}{done:List ByteArray}{g:ByteArray}{r:List iJ}(hr:∀x∈r,x.seq≠e.seq∧0<x.want.length):
 lW e.seq g (tY e done++r)=tY e (done++ [g])++r:=by
 have h1:=Mf (g:=g) hr;have hk:=JQ e.want done g;unfold tY;by_cases h:e.want.filter (fun g=> !uw done g)= []
 ·rw[if_pos h];rw[h] at hk;rw[<-hk,if_pos (show dK (zM g) []= [] from rfl)];exact h1
 ·rw[if_neg h];have hc:iJ.cf e.seq g {e with want:=e.want.filter (fun g=> !uw done g)}={e with want:=e.want.filter (fun x=> !uw (done++ [g]) x)}:=by rw[iJ.cf,if_pos rfl,<-hk]
  unfold lW dK at h1|-;rw[List.singleton_append,List.map_cons,hc,List.filter_cons];by_cases h2:e.want.filter (fun x=> !uw (done++ [g]) x)= []
  ·rw[if_pos h2];have h3:gY {e with want:=e.want.filter (fun x=> !uw (done++ [g]) x)}=true:=decide_eq_true (by rw[h2];rfl);rw[if_neg (by rw[h3];decide),h1];rfl
  ·rw[if_neg h2];have h3:gY {e with want:=e.want.filter (fun x=> !uw (done++ [g]) x)}=false:=decide_eq_false (by
    have:=List.length_pos_iff.2 h2;show ¬((((e.want.filter (fun x=> !uw (done++ [g]) x)).length:Nat):Int)=0);omega)
   rw[if_pos (by rw[h3];rfl),h1];rfl
theorem Kk(e:iJ)(h:0<e.want.length):tY e []= [e]:=by
 unfold tY;have h1:e.want.filter (fun g=> !uw [] g)=e.want:=by
  rw[List.filter_eq_self];intro x _;rfl
 rw[h1,if_neg (fun e1=>by rw[e1] at h;exact absurd h (Nat.lt_irrefl 0))]
theorem Mv(e:iJ):tY e e.want= []:=by
 unfold tY;rw[if_pos];rw[List.filter_eq_nil_iff];intro x hx;have:uw e.want x=true:=List.any_eq_true.2 ⟨x,hx,Qh.2 rfl⟩;rw[this];decide
def EU(base g:Nat)(h:Hd)(N:eG)(q:Int)(cz:ByteArray)(w:World)(e:Ending)(w':World):Prop:=
 e=.returned (.tuple #[])∧∃h',cK base w' g h' {N with opn:=lW q cz N.opn}∧Fr base g w h w' h'
theorem Dy(base g k c:Nat)(h:Hd)(N:eG)(from_ q hops:Int)(cz pay:ByteArray)(E:Option Addr)(env:Value)(w:World)(hI:cK base w g h N)(hs:base<=w.heap.size)(hl:N.opn.length<=8)(hw:∀e∈N.opn,e.want.length<=36):
 Calls prog 78 #[.pointer (some ⟨g,0,none⟩),.int .i64 from_,.agg (fT 5 cz N.addr q hops E k c pay),env] w (EU base g h N q cz w):=by
 have hb1:=ae (Below.refl w.heap.size w) (.cells (fT 5 cz N.addr q hops E k c pay) tM);have hk1:=heap_alloc_new w (.cells (fT 5 cz N.addr q hops E k c pay) tM);have HS:=ai hs;have HB:=ai hb1;have HC:=ai (fun (W:World) (hb:Below w.heap.size w W)=>zY base g k c h N 5 q hops cz pay E W (hI.below hb) (Nat.le_trans hs hb.size) hl hw);clear hI hl hw hb1 hs;unfold fT at hk1 HB HC;unfold fT;go_enter func78,ntmps78
 go_upto_region 1 with (fail)
 generalize w.alloc (.cells #[.int .i64 5,.string cz,.bool false,.slice none 0 0,.int .i64 N.addr,.int .i64 q,.int .i64 hops,.slice E k c,.string pay] tM)=W1 at hk1 HB|-;generalize hgm:w.heap.size=gm at hk1|-;have UZ:=ai hgm;clear hgm;have m0:=bK hk1;have m1:=bS hk1;have m2:=dh hk1;have m3:=dA hk1;have m4:=dI hk1;have m5:=eH hk1;have m6:=fF hk1;have m7:=CX hk1;have m8:=Ew hk1;clear hk1;go_wp2_with fail
 refine(HC.o _ HB.o).mono ?_;rintro r w2 ⟨rfl,h',hI2,hF2⟩;have hfin:=And.intro hI2 ((Fr.of_below (g:=g) (h:=h) HB.o HS.o).trans hF2);clear hI2 hF2 m0 m1 m2 m3 m4 m5 m6 m7 m8;go_wp2
 first|go_end0|((try simp only[Exit.inBlock,Exit.then]);refine bodyPost_ret (results_none rfl _ _ _) rfl ?_)
 exact⟨rfl,h',hfin⟩
theorem JO(base g k c:Nat)(h:Hd)(N:eG)(q hops:Int)(cz pay:ByteArray)(E:Option Addr)(env:Value)(w:World)(hI:cK base w g h N)(hs:base<=w.heap.size)(hl:N.opn.length<=8)(hw:∀e∈N.opn,e.want.length<=36):
 Calls prog 53 #[.pointer (some ⟨g,0,none⟩),.int .i64 N.addr,.agg (fT 5 cz N.addr q hops E k c pay),env] w (EU base g h N q cz w):=by
 have hb1:=ae (Below.refl w.heap.size w) (.cells (fT 5 cz N.addr q hops E k c pay) tM);have hk1:=heap_alloc_new w (.cells (fT 5 cz N.addr q hops E k c pay) tM);have HS:=ai hs;have HB:=ai hb1;have HC:=ai (fun (W:World) (hb:Below w.heap.size w W)=>Dy base g k c h N N.addr q hops cz pay E env W (hI.below hb) (Nat.le_trans hs hb.size) hl hw);have hI1:=(hI.below hb1).cell 0;clear hI hl hw hs;unfold fT at hk1 HB HC hI1;have y0:=hI1.trans (show _=some (Value.int .i64 N.addr) from rfl);clear hI1 hb1;unfold fT;go_enter func53,ntmps53
 go_upto_region 1 with (fail)
 generalize w.alloc (.cells #[.int .i64 5,.string cz,.bool false,.slice none 0 0,.int .i64 N.addr,.int .i64 q,.int .i64 hops,.slice E k c,.string pay] tM)=W1 at hk1 HB y0|-;generalize hgm:w.heap.size=gm at hk1|-;have UZ:=ai hgm;clear hgm;have m0:=bK hk1;have m1:=bS hk1;have m2:=dh hk1;have m3:=dA hk1;have m4:=dI hk1;have m5:=eH hk1;have m6:=fF hk1;have m7:=CX hk1;have m8:=Ew hk1;clear hk1;go_wp2_with fail
 refine(HC.o _ HB.o).mono ?_;rintro r w2 ⟨rfl,h',hI2,hF2⟩;have hfin:=And.intro hI2 ((Fr.of_below (g:=g) (h:=h) HB.o HS.o).trans hF2);clear hI2 hF2 m0 m1 m2 m3 m4 m5 m6 m7 m8;go_wp2
 first|go_end0|((try simp only[Exit.inBlock,Exit.then]);refine bodyPost_ret (results_none rfl _ _ _) rfl ?_)
 exact⟨rfl,h',hfin⟩
theorem FW(s:ByteArray)(w:World)(hs:s.size<=1000000):Calls prog 103 #[.string s] w fun e w'=>(∃n,e=.returned (.int .u64 n))∧Below w.heap.size w w':=by
 have hcv:=fun W:World=>Lib.run_convert_string_bytes (P:=prog) W 9 263 5 s underlying9 underlying263 underlying5
 go_enter func103,ntmps103
 go_wp2_with fail
 have HB:=ai (qz (Below.refl w.heap.size w) (Nat.le_refl _) 5 s);have HC:ay (∀j,j<s.size->(Lib.bytesWorld w 5 s).cell? ⟨w.heap.size,j,none⟩=some (.int .u8 (s.data.toList.getD j 0).toNat)):=⟨fun j hj=>Lib.bytesWorld_cell w 5 s j hj⟩
 generalize grownCap w s.size 0 5=cp;generalize Lib.bytesWorld w 5 s=w1 at HB HC|-;generalize hgB:w.heap.size=gB at HC|-;clear hgB;go_loopg [3,5,13] (s.size+1) (fun k v3 v5 v13 W=>∃(i:Nat) (n:Int),ay (i<=s.size∧k+i=s.size+1)∧v3=.int .u64 n∧v13=.int .i64 i∧ay (Below w.heap.size w W)∧ay (∀j,j<s.size->W.cell? ⟨gB,j,none⟩=some (.int .u8 (s.data.toList.getD j 0).toNat)))
 case atStart=>exact⟨0,_,⟨by omega,by omega⟩,rfl,rfl,HB,HC⟩
 case round=>
  clear HB HC;obtain⟨i,n,HN,rfl,rfl,HB,HC⟩:=hrel;by_cases hi:i<s.size
  ·have b1:decide ((i:Int)<(s.size:Int))=true:=decide_eq_true (by omega);have b2:decide (i<s.size)=true:=decide_eq_true (by omega);have hc:=HC.o i hi;generalize (s.data.toList.getD i 0).toNat=x at hc;go_wp2;go_roundg (gk-1)
   case measure=>have:=HN.o;omega
   case rel=>exact⟨i+1,_,⟨by omega,by have:=HN.o;omega⟩,rfl,rfl,HB,HC⟩
  ·have b1:decide ((i:Int)<(s.size:Int))=false:=decide_eq_false (by omega);have b2:decide (i<s.size)=false:=decide_eq_false (by omega);go_wp2;go_ret;exact⟨⟨_,rfl⟩,HB.o⟩
theorem BF(s:ByteArray)(w:World)(hs:s.size<=2000):Calls prog 51 #[.string s] w fun e w'=>(∃n,e=.returned (.int .u64 n))∧Below w.heap.size w w':=by
 have z1:(9223372036854775807<6+s.size)=False:=eq_false (by omega);have HC:=ai (fun W=>FW (⟨#[103,114,111,117,112,32]⟩++s) W (by rw[ByteArray.size_append];show 6+s.size<=_;omega));clear hs;go_enter func51,ntmps51
 go_wp2_with fail
 refine(HC.o _).mono ?_;rintro e w1 ⟨⟨n,rfl⟩,hb⟩;go_wp2;go_ret;exact⟨⟨n,rfl⟩,hb⟩
abbrev rG:Nat:=42
theorem DT(a n x:Int)(w:World):Calls prog 275 #[.int .i64 a,.int .i64 n,.int .u64 x] w fun e w'=>e=.returned (.tuple #[.int .i64 n,.nilIface])∧w=w':=by
 go_enter func275,ntmps275
 go_wp2
 go_ret2
 exact⟨rfl,rfl⟩
theorem AZ(a:Int)(w:World):(nilAhead 489 rG (.int .i64 a) "Next").run prog w=.ok (some false) w:=by kernel_rfl
theorem Ff(a:Int)(w:World):(Go.method 489 rG (.int .i64 a) "Next").run prog w=.ok (275,.int .i64 a) w:=by kernel_rfl
theorem cK.WA{base g gm:Nat}{w:World}{h:Hd}{N:eG}{cs:Array Value}(r:cK base w g h N)(hc:w.heap[gm]? =some (.cells cs tM (0,0)))(j:Nat)(u:Value):cK base (w.setCell ⟨gm,j,none⟩ u) g h N:=
 ⟨(Below.heap_setCell w ⟨gm,j,none⟩ u g (fun e=>by
  have hz:=r.blk;rw[e,hc] at hz;injection hz with hz;injection hz with _ hz;revert hz;decide+kernel)).trans r.blk,r.gb,r.rows.set hc (by decide) j u⟩
def eG.conf(N:eG)(q:Int)(cz:ByteArray):eG:={N with opn:=lW q cz N.opn}
def Mq(base g:Nat)(M:Array Value)(env:Value)(E:Option Addr)(k c:Nat)(V:List SV)(N:eG)(P:eG->Prop)(s:Nat):Prop:=
 ∀(W:World) (h1:Hd),cK base W g h1 N->s<=W.heap.size->Kd.R pI tV W base (fun _=>True) (.slice E k c) V->Calls prog 108 #[.pointer (some ⟨g,0,none⟩),.agg M,env] W fun e w'=>e=.returned (.tuple #[])∧∃h' N',P N'∧cK base w' g h' N'∧Fr base g W h1 w' h'
theorem Ba(base g k c:Nat)(h:Hd)(N:eG)(a q:Int)(cz pay:ByteArray)(E:Option Addr)(V:List SV)(w:World)(P:eG->Prop)(hI:cK base w g h N)(hbase:base<=w.heap.size)(hV:Kd.R pI tV w base (fun _=>True) (.slice E k c) V)(hg:cz.size<=2000)
 (hl8:N.opn.length<=8) (hw:∀e∈N.opn,e.want.length<=36) (hD:Mq base g (fT 4 cz N.addr q 0 E k c pay) (.iface rG (.int .i64 a)) E k c V (N.conf q cz) P w.heap.size):
 Calls prog 55 #[.pointer (some ⟨g,0,none⟩),.agg (fT 3 cz N.addr q 0 E k c pay),.iface rG (.int .i64 a)] w fun e w'=>e=.returned (.tuple #[])∧∃h' N',P N'∧cK base w' g h' N'∧Fr base g w h w' h':=by
 have hb1:=ae (Below.refl w.heap.size w) (.cells (fT 3 cz N.addr q 0 E k c pay) tM);have hk1:=heap_alloc_new w (.cells (fT 3 cz N.addr q 0 E k c pay) tM);have hz1:(w.alloc (.cells (fT 3 cz N.addr q 0 E k c pay) tM)).heap.size=w.heap.size+1:=by show (w.heap.push _).size=_;exact Array.size_push _
 have HS:=ai hbase;have HB:=ai hb1;have HI:=ai hI;have HV:=ai hV;have HD:=ai (show Mq base g (fT 4 cz N.addr q 0 E k c pay) (.iface rG (.int .i64 a)) E k c V (N.conf q cz) P w.heap.size from hD);unfold Mq at HD;have Lh:=ai (fun (W:World) (hb:Below w.heap.size w W)=>JO base g 0 0 h N q 0 cz ⟨#[]⟩ none (.iface rG (.int .i64 a)) W (hI.below hb) (Nat.le_trans hbase hb.size) hl8 hw);have Y9:=ai (fun (W:World)=>BF cz W hg);have hI1:=(hI.below hb1).cell 0;clear hI hw hbase hV hl8 hD hg;unfold fT at hk1 HB HD Lh hI1 hz1;have y0:=hI1.trans (show _=some (Value.int .i64 N.addr) from rfl);clear hI1 hb1;unfold fT;go_enter func55,ntmps55
 go_upto_region 1 with (fail)
 generalize w.alloc (.cells #[.int .i64 3,.string cz,.bool false,.slice none 0 0,.int .i64 N.addr,.int .i64 q,.int .i64 0,.slice E k c,.string pay] tM)=W1 at hk1 HB y0 hz1|-;generalize hgm:w.heap.size=gm at hk1 hz1|-;have UZ:=ai (And.intro hgm hz1);clear hgm hz1;have HK:=ai hk1;have m1:=bS hk1;clear hk1;have na:=AZ a;have nm:=Ff a;go_cut [6,7] (fun s6 s7 wx=>s6=.int .i64 N.addr∧s7=.nilIface∧ay (Below w.heap.size w wx)∧ay (wx.heap[gm]? =some (.cells #[.int .i64 3,.string cz,.bool false,.slice none 0 0,.int .i64 N.addr,.int .i64 q,.int .i64 0,.slice E k c,.string pay] tM (0,0))))
 case first=>
  go_region_law (first
   |(go_simp;go_at_call 51;(with_reducible refine(Y9.o _).mono ?_);rintro e wx ⟨⟨kk,rfl⟩,hbx⟩;replace HB:=ai (aD (aK HB.o) (aK HB.o).size hbx);have z0:=av hbx y0;have z1:=av hbx m1;have HKx:=bZ hbx HK;clear hbx)
   |(go_simp;go_at_call 275;(with_reducible refine(DT _ _ _ _).mono ?_);rintro e wy ⟨rfl,rfl⟩))
  all_goals
   go_wp2_with fail
   go_meet;exact⟨rfl,rfl,HB,HKx⟩
 case rest=>
  obtain⟨rfl,rfl,HB,HK⟩:=hcut;clear y0 m1 na nm Y9;have y0:=((HI.o.below HB.o).cell 0).trans (show _=some (Value.int .i64 N.addr) from rfl);have m1:=bS HK.o;have m4:=dI HK.o;have m5:=eH HK.o;go_wp2_with fail
  have om:Off wc h g gm:=Off.new HI.o (Nat.le_of_eq UZ.o.1) (aI HK.o);refine(Lh.o _ HB.o).mono ?_;rintro r w2 ⟨rfl,h2,hI2,hF2⟩;have k2:=om.blk hF2 HK.o;have V2:=hF2.R (HI.o.below HB.o) (Kd.bJ HV.o HB.o) (by decide+kernel);have i3:=hI2.WA k2 0 (.int .i64 4);have k3:=bg k2 0 (.int .i64 4);have V3:=Kd.jX V2 k2 (by decide+kernel) 0 (.int .i64 4);have i4:=i3.WA k3 6 (.int .i64 0);have k4:=bg k3 6 (.int .i64 0);have V4:=Kd.jX V3 k3 (by decide+kernel) 6 (.int .i64 0);have fr:=(((Fr.of_below (g:=g) (h:=h) HB.o HS.o).trans hF2).BV HS.o (p:=⟨gm,0,none⟩) (Nat.le_of_eq UZ.o.1) (.int .i64 4)).BV HS.o (p:=⟨gm,6,none⟩) (Nat.le_of_eq UZ.o.1) (.int .i64 0);have m0:=bK k2;have z0:=af k2 0;have m6:=fF k3;have z6:=af k3 6;have JE:=ai (And.intro i4 (And.intro V4 (And.intro fr (Nat.le_trans HB.o.size (Nat.le_trans hF2.below.size (show w2.heap.size<=((w2.setCell ⟨gm,0,none⟩ (.int .i64 4)).setCell ⟨gm,6,none⟩ (.int .i64 0)).heap.size from by simp[World.setCell]))))));have M3:=ai k4;clear k2 V2 i3 k3 V3 i4 k4 V4 fr hI2 hF2 om HB HK m1 m4 m5 y0 Lh HV;go_upto_region 9 with (fail)
  generalize (w2.setCell ⟨gm,0,none⟩ (.int .i64 4)).setCell ⟨gm,6,none⟩ (.int .i64 0)=W4 at JE M3|-;clear m0 z0 m6 z6;have m0:=bK M3.o;have m1:=bS M3.o;have m2:=dh M3.o;have m3:=dA M3.o;have m4:=dI M3.o;have m5:=eH M3.o;have m6:=fF M3.o;have m7:=CX M3.o;have m8:=Ew M3.o;go_wp2_with fail
  refine(HD.o W4 h2 JE.o.1 JE.o.2.2.2 JE.o.2.1).mono ?_;rintro r w5 ⟨rfl,h',N',hP,UE,RI⟩;have hfin:=And.intro hP (And.intro UE (JE.o.2.2.1.trans RI));clear hP UE RI m0 m1 m2 m3 m4 m5 m6 m7 m8 JE M3 HD;go_wp2
  first|go_end0|((try simp only[Exit.inBlock,Exit.then]);refine bodyPost_ret (results_none rfl _ _ _) rfl ?_)
  exact⟨rfl,h',N',hfin⟩
theorem Au(base g k c:Nat)(h:Hd)(N:eG)(a q:Int)(cz pay:ByteArray)(E:Option Addr)(V:List SV)(w:World)(P:eG->Prop)(hI:cK base w g h N)(hbase:base<=w.heap.size)(hS:N.S.length<=100000)(heb:dV N.S V pay=none)(hV:Kd.R pI tV w base (fun _=>True) (.slice E k c) V)(hg:cz.size<=2000)
 (hl8:N.opn.length<=8) (hw:∀e∈N.opn,e.want.length<=36)
 (hno:∀s∈N.sent,¬(cz=s.cz∧N.addr=s.fG∧q=s.seq)) (hl:N.sent.length<=512) (hA:WC base g (fT 4 cz N.addr q 0 E k c pay) E k c V ((N.conf q cz).Dm ⟨cz,N.addr,q⟩) P w.heap.size):
 Calls prog 55 #[.pointer (some ⟨g,0,none⟩),.agg (fT 3 cz N.addr q 0 E k c pay),.iface rG (.int .i64 a)] w fun e w'=>e=.returned (.tuple #[])∧∃h' N',P N'∧cK base w' g h' N'∧Fr base g w h w' h':=
 Ba base g k c h N a q cz pay E V w P hI hbase hV hg hl8 hw (fun W h1 hI1 hsz hV1=>down_calls base g k c h1 (N.conf q cz) 4 q 0 cz pay E V (.iface rG (.int .i64 a)) W P hI1 (Nat.le_trans hbase hsz) hS heb hV1 hno hl (fun W2 h2 hs2=>hA W2 h2 (Nat.le_trans hsz hs2)))
theorem Km(base g k c:Nat)(h:Hd)(N:eG)(kind q hops:Int)(cz pay:ByteArray)(E:Option Addr)(V:List SV)(env:Value)(w:World)(hI:cK base w g h N)(hbase:base<=w.heap.size)(hS:N.S.length<=100000)(heb:dV N.S V pay=none)(hV:Kd.R pI tV w base (fun _=>True) (.slice E k c) V)
 (hno:∃s∈N.sent,cz=s.cz∧N.addr=s.fG∧q=s.seq) (hl:N.sent.length<=512):
 Calls prog 108 #[.pointer (some ⟨g,0,none⟩),.agg (fT kind cz N.addr q hops E k c pay),env] w fun e w'=>e=.returned (.tuple #[])∧Below w.heap.size w w':=by
 have kD:=ai hbase;have HS:=ai hS;have II:=ai heb;have FL:=ai (And.intro hno hl);have HI:=ai hI;have HV:=ai hV;clear hI hbase hS heb hV hno hl;unfold fT;go_enter func108,ntmps108
 go_upto_region 2 with (fail)
 have ha1:=ae (Below.refl w.heap.size w) (.cells #[.pointer (some ⟨g,0,none⟩)] 24);have hk1:=heap_alloc_new w (.cells #[.pointer (some ⟨g,0,none⟩)] 24);have hz1:(w.alloc (.cells #[.pointer (some ⟨g,0,none⟩)] 24)).heap.size=w.heap.size+1:=by show (w.heap.push _).size=_;exact Array.size_push _
 generalize w.alloc (.cells #[.pointer (some ⟨g,0,none⟩)] 24)=Wa at ha1 hk1 hz1|-;have ha2:=ae (Below.refl Wa.heap.size Wa) (.cells (fT kind cz N.addr q hops E k c pay) tM);have hk2:=heap_alloc_new Wa (.cells (fT kind cz N.addr q hops E k c pay) tM);have hz2:(Wa.alloc (.cells (fT kind cz N.addr q hops E k c pay) tM)).heap.size=Wa.heap.size+1:=by show (Wa.heap.push _).size=_;exact Array.size_push _
 unfold fT at ha2 hk2 hz2;generalize Wa.alloc (.cells #[.int .i64 kind,.string cz,.bool false,.slice none 0 0,.int .i64 N.addr,.int .i64 q,.int .i64 hops,.slice E k c,.string pay] tM)=Wb at ha2 hk2 hz2|-;have OZ:=ae (Below.refl Wb.heap.size Wb) (.cells #[.string cz,.int .i64 N.addr,.int .i64 q] vD);have hk3:=heap_alloc_new Wb (.cells #[.string cz,.int .i64 N.addr,.int .i64 q] vD);generalize Wb.alloc (.cells #[.string cz,.int .i64 N.addr,.int .i64 q] vD)=W1 at OZ hk3|-;have hb1:Below w.heap.size w W1:=aD (aD ha1 ha1.size ha2) (Nat.le_trans ha1.size ha2.size) OZ;have hl3:=aI hk3;have bD:=ai ((OZ.block _ (by have:=ha2.size;have:=aI hk1;omega)).trans ((ha2.block _ (aI hk1)).trans hk1));have SY:=(OZ.block _ (aI hk2)).trans hk2;rw[hz2,hz1] at hk3;rw[hz1] at SY;rw[hz2,hz1] at hl3;have HG:ay (w.heap.size+1+1<W1.heap.size):=⟨hl3⟩
 have QL:=ai SY;have NY:=ai hk3;clear ha1 hk1 hz1 ha2 hk2 hz2 OZ hk3 SY hl3;have HI1:=ai (HI.o.below hb1);have IV:=lV HV hb1;have ob:Off W1 h g w.heap.size:=Off.new HI.o (Nat.le_refl _) (by have:=HG.o;omega);have om:Off W1 h g (w.heap.size+1):=Off.new HI.o (by omega) (by have:=HG.o;omega);have ox:Off W1 h g (w.heap.size+1+1):=Off.new HI.o (by omega) HG.o;have xE:=ai (And.intro ob (And.intro om ox));have JK:=ai hb1.size;have HB1:=ai hb1;clear ob om ox hb1;generalize w.heap.size+1+1=gx at NY xE|-;generalize w.heap.size+1=gm at QL xE|-;generalize hgb:w.heap.size=gb at bD xE|-;have U1:=ai hgb;clear hgb;have b0:=bK bD.o;have m7:=CX QL.o;have m8:=Ew QL.o;have x0:=bK NY.o;have x1:=bS NY.o;have x2:=dh NY.o;obtain⟨A2,c2,hv2,_,hC2⟩:=Kd.bB HI1.o.rows.sch;obtain⟨Pv,c11,GK,MU,LY⟩:=Kd.bB HI1.o.rows.sent;have y2:=(HI1.o.cell 2).trans (show _=some (Vs A2 N.S.length c2) from by rw[<-hv2];rfl);have OC:=(HI1.o.cell 11).trans (show _=some (Vs Pv N.sent.length c11) from by rw[<-GK];rfl);have LP:=ai GK;obtain⟨UA,_,IK⟩:=Kd.bN IV.o;have F5:=ai (fun (W:World) (hb:Below W1.heap.size W1 W)=>nE A2 E N.S.length k c2 c N.S V pay W rfl UA.symm (Kd.aY hC2 hb) (Kd.aY (UA▸IK) hb) HS.o);unfold kR at F5;have VG:=ai (fun (W:World) (hb:Below W1.heap.size W1 W)=>Gf Pv c11 N.sent cz N.addr q W (Kd.aY LY hb) MU (by have:=FL.o.2;omega) FL.o.1);have HB:=ai (Below.refl W1.heap.size W1);clear hv2 hC2 GK MU LY UA IK;go_region_held3 (fun X=>X.cell? ⟨gb,0,none⟩=some (.pointer (some ⟨g,0,none⟩))∧X.cell? ⟨g,2,none⟩=some (.slice A2 N.S.length c2)∧X.cell? ⟨g,11,none⟩=some (.slice Pv N.sent.length c11)∧X.cell? ⟨gm,7,none⟩=some (.slice E k c)∧X.cell? ⟨gm,8,none⟩=some (.string pay)∧X.cell? ⟨gx,0,none⟩=some (.string cz)∧X.cell? ⟨gx,1,none⟩=some (.int .i64 N.addr)∧X.cell? ⟨gx,2,none⟩=some (.int .i64 q)) (go_keep) (first
  |(go_at_call 94;(with_reducible refine(F5.o _ ?tb).mono ?_);(case tb=>(with_reducible repeat(first|exact HB.o|apply ah|apply ak|apply aK|apply ae)));rintro e wx hq;obtain⟨rfl,hbx⟩:=jR.ok hq II.o;have dH:=ai (aD (by(with_reducible repeat(first|exact HB.o|apply ah|apply ak|apply aK|apply ae))) (Below.size (by(with_reducible repeat(first|exact HB.o|apply ah|apply ak|apply aK|apply ae)))) hbx);(have z0:=av hbx b0;have z1:=av hbx y2;have z2:=av hbx OC;have z3:=av hbx m7;have z4:=av hbx m8;have z5:=av hbx x0;have z6:=av hbx x1;have z7:=av hbx x2;clear HB hbx;have HB:=dH;clear dH))
  |(go_at_call 163;(with_reducible refine(VG.o _ ?tb).mono ?_);(case tb=>(with_reducible repeat(first|exact HB.o|apply ah|apply ak|apply aK|apply ae)));rintro e wy ⟨rfl,hbx⟩;have dH:=ai (aD (by(with_reducible repeat(first|exact HB.o|apply ah|apply ak|apply aK|apply ae))) (Below.size (by(with_reducible repeat(first|exact HB.o|apply ah|apply ak|apply aK|apply ae)))) hbx);(have u0:=av hbx z0;have u1:=av hbx z1;have u2:=av hbx z2;have u3:=av hbx z3;have u4:=av hbx z4;have u5:=av hbx z5;have u6:=av hbx z6;have u7:=av hbx z7;clear HB hbx;have HB:=dH;clear dH)))
 have hfin:=aD HB1.o HB1.o.size HB.o;clear HB F5 VG b0 m7 m8 x0 x1 x2 y2 OC z0 z1 z2 z3 z4 z5 z6 z7 u0 u1 u2 u3 u4 u5 u6 u7;go_wp2
 first|go_end0|((try simp only[Exit.inBlock,Exit.then]);refine bodyPost_ret (results_none rfl _ _ _) rfl ?_)
 exact⟨rfl,hfin⟩
theorem Ll{q:Int}{g:ByteArray}{L:List iJ}{x:iJ}(h:x∈lW q g L):0<x.want.length∧∃y∈L,x=y∨x={y with want:=dK (zM g) y.want}:=by
 unfold lW dK at h;obtain⟨h1,h2⟩:=List.mem_filter.1 h;obtain⟨y,hy,rfl⟩:=List.mem_map.1 h1;refine⟨?_,y,hy, ?_⟩
 ·simp only[gY,Bool.not_eq_true',decide_eq_false_iff_not] at h2;omega
 ·unfold iJ.cf;split
  ·exact .inr rfl
  ·exact .inl rfl
theorem J9(q:Int)(g:ByteArray)(L:List iJ):(lW q g L).length<=L.length:=by
 unfold lW dK;exact Nat.le_trans (List.length_filter_le _ _) (by simp)
theorem fV.conf{N:eG}(h:fV N)(q:Int)(g:ByteArray):fV (N.conf q g):=
 {h with
  nOpn:=Nat.le_trans (J9 q g N.opn) h.nOpn
  evs:=fun e he=>by
   obtain⟨h1,y,hy,rfl|rfl⟩:=Ll he
   ·exact h.evs _ hy
   ·have h2:=h.evs y hy;exact⟨h2.1,h1,Nat.le_trans (List.length_filter_le _ _) h2.2.2.1,fun x hx=>h2.2.2.2 x (List.mem_filter.1 hx).1⟩}
theorem fV.Dm{N:eG}(h:fV N)(s:rz):fV (N.Dm s):={h with nSent:=Q4 h.nSent}
theorem fV.arr{N:eG}(h:fV N)(q:Int)(B:List kY)(L:Int)(hB:B.length<=64):fV (N.arr q B L):={h with nBox:=hB}
theorem Ec(base g k c:Nat)(h:Hd)(N:eG)(a q:Int)(cz pay:ByteArray)(E:Option Addr)(V:List SV)(w:World)(hI:cK base w g h N)(hbase:base<=w.heap.size)(hF:fV N)(ha:0<=N.addr∧N.addr<32)(hq:1<=q∧q<=1073741824)(hs:∀l,N.seen=some l->0<=l∧l<q)(heb:dV N.S V pay=none)(hV:Kd.R pI tV w base (fun _=>True) (.slice E k c) V)(hg:cz.size<=2000)(hno:∀s∈N.sent,s.seq<q)(hlo:0<=N.lost∧N.lost<=1000000):
 Calls prog 55 #[.pointer (some ⟨g,0,none⟩),.agg (fT 3 cz N.addr q 0 E k c pay),.iface rG (.int .i64 a)] w fun e w'=>e=.returned (.tuple #[])∧∃h' N',(∃B L,N'=((N.conf q cz).Dm ⟨cz,N.addr,q⟩).arr q B L∧qA N q V pay [] B L∧B.length<=64)∧cK base w' g h' N'∧Fr base g w h w' h':=
 Au base g k c h N a q cz pay E V w _ hI hbase (by have:=(dn hF.chk).2.1;omega) heb hV hg hF.nOpn (fun e he=>(hF.evs e he).2.2.1) (fun s hs2 hc=>by have:=hno s hs2;omega) hF.nSent
  (fun W h1 hsz hI1 hV1=>(Gt base g k c h1 ((N.conf q cz).Dm ⟨cz,N.addr,q⟩) 4 q 0 cz pay E V W hI1 (Nat.le_trans hbase hsz) ((hF.conf q cz).Dm _) ha hq hs hV1 heb hlo).mono (fun e w' hx=>by
   obtain⟨h1,h',B,L,h2,h3,h4,h5⟩:=hx;exact⟨h1,h',_,⟨B,L,rfl,h4,h5⟩,h2,h3⟩))
theorem G9(base g k c:Nat)(h:Hd)(N:eG)(a q:Int)(cz pay:ByteArray)(E:Option Addr)(V:List SV)(w:World)(hI:cK base w g h N)(hbase:base<=w.heap.size)(hF:fV N)(ha:0<=N.addr∧N.addr<32)(hq:1<=q∧q<=1073741824)(hs:N.seen=some q)(heb:dV N.S V pay=none)(hV:Kd.R pI tV w base (fun _=>True) (.slice E k c) V)(hg:cz.size<=2000):
 Calls prog 55 #[.pointer (some ⟨g,0,none⟩),.agg (fT 3 cz N.addr q 0 E k c pay),.iface rG (.int .i64 a)] w fun e w'=>e=.returned (.tuple #[])∧∃h' N',(N'=N.conf q cz∨N'=(N.conf q cz).Dm ⟨cz,N.addr,q⟩)∧cK base w' g h' N'∧Fr base g w h w' h':=by
 by_cases hy:∃s∈N.sent,cz=s.cz∧N.addr=s.fG∧q=s.seq
 ·exact Ba base g k c h N a q cz pay E V w _ hI hbase hV hg hF.nOpn (fun e he=>(hF.evs e he).2.2.1) (fun W h1 hI1 hsz hV1=>(Km base g k c h1 (N.conf q cz) 4 q 0 cz pay E V (.iface rG (.int .i64 a)) W hI1 (Nat.le_trans hbase hsz) (by have:=(dn hF.chk).2.1;show N.S.length<=100000;omega) heb hV1 hy hF.nSent).mono (fun e w' hx=>⟨hx.1,h1,_,.inl rfl,hI1.below hx.2,Fr.of_below hx.2 (Nat.le_trans hbase hsz)⟩))
 ·exact Au base g k c h N a q cz pay E V w _ hI hbase (by have:=(dn hF.chk).2.1;omega) heb hV hg hF.nOpn (fun e he=>(hF.evs e he).2.2.1) (fun s hs2 hc=>hy ⟨s,hs2,hc⟩) hF.nSent
   (fun W h1 hsz hI1 hV1=>(Cf base g k c h1 ((N.conf q cz).Dm ⟨cz,N.addr,q⟩) 4 q 0 cz pay E W hI1 ha hq hs).mono (fun e w' hx=>⟨hx.1,h1,_,.inr rfl,hI1.below hx.2,Fr.of_below hx.2 (Nat.le_trans hbase hsz)⟩))
theorem O9(S:List SA):∀(r s:List z8) (N:Nd),N.come S (r++s)=(N.come S r).come S s:=by
 intro r
 induction r with
 |nil=>intro s N;rfl
 |cons e r ih=>intro s N;exact ih s (N.uV S e)
theorem Kr(S:List SA)(fG:Int)(e:z8):∀(r:List oN) (b:List wS) (l:Int),l<=(jQ S fG e r (b,l)).2∧(jQ S fG e r (b,l)).2<=l+r.length:=by
 intro r
 induction r with
 |nil=>intro b l;show l<=l∧l<=l+((0:Nat):Int);omega
 |cons s r ih=>
  intro b l;have e1:jQ S fG e (s::r) (b,l)=jQ S fG e r (if gL S s.F e.V e.pay=true then (if b.length<64 then (b++ [⟨s.id,fG,e.seq,e.V,e.pay⟩],l) else (b,l+1)) else (b,l)):=rfl;rw[e1,List.length_cons];split
  ·split
   ·have:=ih (b++ [⟨s.id,fG,e.seq,e.V,e.pay⟩]) l;omega
   ·have:=ih b (l+1);omega
  ·have:=ih b l;omega
structure oI(N:eG):Prop where
 seqs:N.opn.Pairwise (fun a b=>a.seq<b.seq)
 high:∀e∈N.opn,1<=e.seq∧e.seq<=N.seq
 seenO:∀l,N.seen=some l->(0<=l∧l<=N.seq)∧∀e∈N.opn,l<e.seq
 sentO:∀s∈N.sent,s.seq<=N.seq∧∀e∈N.opn,s.seq<e.seq
 addr:0<=N.addr∧N.addr<32
 lost:0<=N.lost
structure yS(N0:eG)(i:Nat)(N:eG):Prop where
 same:N.addr=N0.addr∧N.levels=N0.levels∧N.S=N0.S∧N.subs=N0.subs∧N.last=N0.last∧N.seq=N0.seq∧N.tick=N0.tick
 opn:N.opn=N0.opn.drop i
 box:N.inbox.map kY.pl=(N0.pl.come N0.S ((N0.opn.take i).map iJ.pl)).inbox∧N.lost=(N0.pl.come N0.S ((N0.opn.take i).map iJ.pl)).lost
 seenO:∀l,N.seen=some l->(0<=l∧l<=N.seq)∧∀e∈N0.opn.drop i,l<e.seq
 sentO:∀s∈N.sent,s.seq<=N.seq∧∀e∈N0.opn.drop i,s.seq<e.seq
 lost:0<=N.lost∧N.lost<=N0.lost+16*(i:Int)
 fit:fV N
structure Mid(N0:eG)(i j:Nat)(e:iJ)(N:eG):Prop where
 same:N.addr=N0.addr∧N.levels=N0.levels∧N.S=N0.S∧N.subs=N0.subs∧N.last=N0.last∧N.seq=N0.seq∧N.tick=N0.tick
 opn:N.opn=tY e (e.want.take j)++N0.opn.drop (i+1)
 box:N.inbox.map kY.pl=(N0.pl.come N0.S ((N0.opn.take (i+1)).map iJ.pl)).inbox∧N.lost=(N0.pl.come N0.S ((N0.opn.take (i+1)).map iJ.pl)).lost
 seen:N.seen=some e.seq
 sentO:∀s∈N.sent,s.seq<=e.seq
 lost:0<=N.lost∧N.lost<=N0.lost+16*((i+1:Nat):Int)
 fit:fV N
theorem yS.start{N0:eG}(h:oI N0)(hF:fV N0):yS N0 0 N0:=
 ⟨⟨rfl,rfl,rfl,rfl,rfl,rfl,rfl⟩,rfl,⟨rfl,rfl⟩,h.seenO,h.sentO,⟨h.lost,by omega⟩,hF⟩
section
variable{N0 N N':eG}{i j:Nat}{e:iJ}
theorem drop_at(he:N0.opn[i]? =some e):N0.opn.drop i=e::N0.opn.drop (i+1):=by
 have hl:i<N0.opn.length:=(List.getElem?_eq_some_iff.1 he).1;rw[List.drop_eq_getElem_cons hl];rw[List.getElem?_eq_getElem hl] at he;injection he with he;rw[he]
theorem take_at(he:N0.opn[i]? =some e):N0.opn.take (i+1)=N0.opn.take i++ [e]:=by
 rw[List.take_add_one,he];rfl
theorem Jk(h:oI N0)(he:N0.opn[i]? =some e):∀x∈N0.opn.drop (i+1),e.seq<x.seq:=by
 have hp:(N0.opn.drop i).Pairwise (fun a b=>a.seq<b.seq):=h.seqs.sublist (List.drop_sublist _ _);rw[drop_at he] at hp;exact(List.pairwise_cons.1 hp).1
theorem Jb(h:oI N0)(hF:fV N0)(he:N0.opn[i]? =some e):∀x∈N0.opn.drop (i+1),x.seq≠e.seq∧0<x.want.length:=fun x hx=>by
 have h1:=Jk h he x hx;have h2:=(hF.evs x (List.mem_of_mem_drop hx)).2.1;exact⟨by omega,h2⟩
theorem yS.first(h0:oI N0)(hF:fV N0)(h:yS N0 i N)(he:N0.opn[i]? =some e){cz:ByteArray}(hg:e.want[0]? =some cz){B:List kY}{L:Int}(hN:N'=((N.conf e.seq cz).Dm ⟨cz,N.addr,e.seq⟩).arr e.seq B L)(hA:qA N e.seq e.V e.pay [] B L)(hB:B.length<=64):Mid N0 i 1 e N':=by
 have hin:e∈N0.opn:=List.mem_of_getElem? he;have hA':(B.map kY.pl,L)=jQ N.S N.addr ⟨e.seq,e.V,e.pay⟩ (N.subs.map iY.pl) (N.inbox.map kY.pl,N.lost):=hA;obtain⟨s1,s2,s3,s4,s5,s6,s7⟩:=h.same;have hk:=vO N0.S ((N0.opn.take i).map iJ.pl) N0.pl;have hc:N0.pl.come N0.S ((N0.opn.take (i+1)).map iJ.pl)=(N0.pl.come N0.S ((N0.opn.take i).map iJ.pl)).uV N0.S e.pl:=by
  rw[take_at he,List.map_append,O9];rfl
 have vB:(B.map kY.pl,L)=((N0.pl.come N0.S ((N0.opn.take (i+1)).map iJ.pl)).inbox,(N0.pl.come N0.S ((N0.opn.take (i+1)).map iJ.pl)).lost):=by
  rw[hA',hc,h.box.1,h.box.2,s1,s3,s4];show _=((jQ N0.S _ e.pl _ _).1,(jQ N0.S _ e.pl _ _).2);rw[hk.1,hk.2.2.2.1];rfl
 have hb2:=Prod.mk.inj vB;have hl:=Kr N.S N.addr ⟨e.seq,e.V,e.pay⟩ (N.subs.map iY.pl) (N.inbox.map kY.pl) N.lost;rw[<-hA',List.length_map] at hl;have hn:=h.fit.nSub;have hlo:=h.lost;subst hN;have hd:=drop_at he;have hone:e.want.take 1= [cz]:=by
  cases hw:e.want with
  |nil=>rw[hw] at hg;cases hg
  |cons a l=>rw[hw] at hg;injection hg with hg;rw[hg];rfl
 refine⟨⟨s1,s2,s3,s4,s5,s6,s7⟩, ?_,hb2,rfl, ?_,⟨by show 0<=L;have:N.lost<=L:=hl.1;omega,by show L<=_;have:L<=N.lost+(N.subs.length:Int):=hl.2;omega⟩,(((h.fit.conf e.seq cz).Dm _).arr e.seq B L hB)⟩
 ·show lW e.seq cz N.opn=_;have h1:=Kk e (hF.evs e hin).2.1;have h2:=AO (e:=e) (done:= []) (g:=cz) (Jb h0 hF he);rw[h1] at h2;rw[h.opn,hd,hone];exact h2
 ·intro s hs;have hs:s∈CG N.sent ⟨cz,N.addr,e.seq⟩:=hs;rcases Jw hs with hs|rfl
  ·have:=(h.sentO s hs).2 e (by rw[hd];exact List.mem_cons_self);omega
  ·exact Int.le_refl _
theorem Mid.more(h0:oI N0)(hF:fV N0)(h:Mid N0 i j e N)(he:N0.opn[i]? =some e){cz:ByteArray}(hg:e.want[j]? =some cz)(hN:N'=N.conf e.seq cz∨N'=(N.conf e.seq cz).Dm ⟨cz,N.addr,e.seq⟩):Mid N0 i (j+1) e N':=by
 have hin:e∈N0.opn:=List.mem_of_getElem? he;have hj:e.want.take (j+1)=e.want.take j++ [cz]:=by rw[List.take_add_one,hg];rfl
 have ho:lW e.seq cz N.opn=tY e (e.want.take (j+1))++N0.opn.drop (i+1):=by
  rw[h.opn,hj];exact AO (Jb h0 hF he)
 rcases hN with rfl|rfl
 ·exact⟨h.same,ho,h.box,h.seen,h.sentO,h.lost,h.fit.conf _ _⟩
 ·refine⟨h.same,ho,h.box,h.seen, ?_,h.lost,(h.fit.conf _ _).Dm _⟩;intro s hs;have hs:s∈CG N.sent ⟨cz,N.addr,e.seq⟩:=hs;rcases Jw hs with hs|rfl
  ·exact h.sentO s hs
  ·exact Int.le_refl _
theorem Mid.done(h0:oI N0)(h:Mid N0 i e.want.length e N)(he:N0.opn[i]? =some e):yS N0 (i+1) N:=by
 have hup:=Jk h0 he;have hin:e∈N0.opn:=List.mem_of_getElem? he;have hh:=h0.high e hin;have hs:=h.same.2.2.2.2.2.1;refine⟨h.same, ?_,h.box, ?_, ?_,h.lost,h.fit⟩
 ·rw[h.opn,List.take_length,Mv];rfl
 ·intro l hl;rw[h.seen] at hl;injection hl with hl;subst hl;exact⟨by omega,hup⟩
 ·intro s hs2;have:=h.sentO s hs2;exact⟨by omega,fun x hx=>by have:=hup x hx;omega⟩
structure G6(N N':eG):Prop where
 pl:N'.pl=N.pl.tick N.S
 S:N'.S=N.S
 lev:N'.levels=N.levels
 fit:fV N'
 go:oI N'
 lost:N'.lost<=N.lost+128
theorem yS.end_(h0:oI N0)(hF:fV N0)(h:yS N0 N0.opn.length N):G6 N0 N:=by
 have hk:=vO N0.S (N0.opn.map iJ.pl) N0.pl;obtain⟨s1,s2,s3,s4,s5,s6,s7⟩:=h.same;have hb:=h.box;have hl:=h.lost;have ho:=h.opn;have hs:=h.seenO;have ht:=h.sentO;rw[List.take_length] at hb;rw[List.drop_length] at ho hs ht;have hn:=hF.nOpn;refine⟨?_,s3,s2,h.fit,⟨by rw[ho];exact List.Pairwise.nil,by rw[ho];exact fun _ hx=>(by cases hx),by rw[ho];exact hs,by rw[ho];exact ht,by rw[s1];exact h0.addr,hl.1⟩,by omega⟩;have e1:N.pl=⟨N.addr,N.subs.map iY.pl,N.last,N.inbox.map kY.pl,N.opn.map iJ.pl,N.seq,N.lost⟩:=rfl;rw[e1,s1,s4,s5,s6,ho,hb.1,hb.2];show _=(⟨(N0.pl.come N0.S (N0.opn.map iJ.pl)).addr,(N0.pl.come N0.S (N0.opn.map iJ.pl)).subs,(N0.pl.come N0.S (N0.opn.map iJ.pl)).last,(N0.pl.come N0.S (N0.opn.map iJ.pl)).inbox,[],(N0.pl.come N0.S (N0.opn.map iJ.pl)).seq,(N0.pl.come N0.S (N0.opn.map iJ.pl)).lost⟩:Nd);rw[hk.1,hk.2.1,hk.2.2.1,hk.2.2.2.1];rfl
end
def QZ(N0:eG)(i j:Nat)(x:iJ)(M:eG):Prop:=(j=0∧yS N0 i M)∨(0<j∧Mid N0 i j x M)
theorem Iq(base g k c:Nat)(hh:Hd)(N0 M:eG)(a:Int)(i j:Nat)(x:iJ)(cz:ByteArray)(E:Option Addr)(w:World)(h0:oI N0)(Lx:fV N0)(hlo:N0.lost<=900000)(hI:cK base w g hh M)(hbase:base<=w.heap.size)(hx:N0.opn[i]? =some x)(hgx:x.want[j]? =some cz)(hV:Kd.R pI tV w base (fun _=>True) (.slice E k c) x.V)(hS:QZ N0 i j x M):
 Calls prog 55 #[.pointer (some ⟨g,0,none⟩),.agg (fT 3 cz M.addr x.seq 0 E k c x.pay),.iface rG (.int .i64 a)] w fun e w'=>e=.returned (.tuple #[])∧∃h' N',Mid N0 i (j+1) x N'∧cK base w' g h' N'∧Fr base g w hh w' h':=by
 have hin:x∈N0.opn:=List.mem_of_getElem? hx;have hi:=(List.getElem?_eq_some_iff.1 hx).1;have hq:=h0.high x hin;have Oq:=Lx.seq;have hev:=Lx.evs x hin;have hgs:cz.size<=2000:=hev.2.2.2 cz (List.mem_of_getElem? hgx);have Sd:=Lx.nOpn;rcases hS with⟨rfl,hT⟩|⟨hj,hM⟩
 ·obtain⟨s1,s2,s3,s4,s5,s6,s7⟩:=hT.same;have hd:=drop_at hx;have hl:=hT.lost;refine(Ec base g k c hh M a x.seq cz x.pay E x.V w hI hbase hT.fit (by rw[s1];exact h0.addr) (by omega) (fun l hl=> ?_) (by rw[s3];exact hev.1) hV hgs (fun s hs=>(hT.sentO s hs).2 x (by rw[hd];exact List.mem_cons_self)) (by omega)).mono ?_
  ·have h1:=hT.seenO l hl;exact⟨h1.1.1,h1.2 x (by rw[hd];exact List.mem_cons_self)⟩
  ·rintro e w' ⟨h1,h',N',⟨B,L,hN,hA,hB⟩,h2,h3⟩;exact⟨h1,h',N',hT.first h0 Lx hx hgx hN hA hB,h2,h3⟩
 ·obtain⟨s1,s2,s3,s4,s5,s6,s7⟩:=hM.same;refine(G9 base g k c hh M a x.seq cz x.pay E x.V w hI hbase hM.fit (by rw[s1];exact h0.addr) (by omega) hM.seen (by rw[s3];exact hev.1) hV hgs).mono ?_;rintro e w' ⟨h1,h',N',hN,h2,h3⟩;exact⟨h1,h',N',hM.more h0 Lx hx hgx hN,h2,h3⟩
theorem Fr.ZY{α:Type}{d:Kd α}{base g:Nat}{w:World}{h:Hd}{N:eG}{e b:Nat}{ok:Nat->Prop}{v:Value}{xs:List α}(r:cK base w g h N)(hr:Kd.R d e w b ok v xs)(ho:∀k,v.ownBlock=some k->¬h.own g k∧k<w.heap.size)(ht:∀q,q∈d.E->q≠tN∧q≠iw∧q≠ny∧q≠nM∧q≠vD):Kd.R d e w b (fun k=>¬h.own g k∧k<w.heap.size) v xs:=
 ⟨ho,hr.2.j6 (fun _ _ hp=>d.M_mono (fun k hk=>by
  obtain⟨⟨_,hne⟩,_,hlt,q,hq,cells,hc⟩:=hk;exact⟨⟨r.other hc (ht q hq),hlt⟩,hne⟩) (d.M_bound hp))⟩
theorem Tx{w:World}{base:Nat}{ok:Nat->Prop}{A:Option Addr}{n c:Nat}{xs:List iJ}(h:Kd.R zO nM w base ok (.slice A n c) xs)(i:Nat)(hi:i<n):∃ad x B k b D l e,A=some ad∧xs[i]? =some x∧w.cell? (ad.add (i*4))=some (.int .i64 x.seq)∧w.cell? ⟨(ad.add (i*4)).block,(ad.add (i*4)).off+1,none⟩=some (.slice B k b)∧w.cell? ⟨(ad.add (i*4)).block,(ad.add (i*4)).off+2,none⟩=some (.string x.pay)∧w.cell? ⟨(ad.add (i*4)).block,(ad.add (i*4)).off+3,none⟩=some (.slice D l e)∧Kd.R pI tV w base ok (.slice B k b) x.V∧Kd.R Kd.string tS w base ok (.slice D l e) x.want:=by
 obtain⟨h0,inner,hown,hr⟩:=h;rcases hown.2 with⟨hv,hx⟩|⟨g,cap,cur,hv,hg,hh,hnc,hcm,hcs,ht⟩
 ·injection hv with _ hv _;omega
 ·injection hv with h1 h2 h3;subst h1 h2 h3;have hxi:xs[i]? =some xs[i]:=List.getElem?_eq_getElem hi;have hM:=hr.2 i xs[i] hxi;obtain⟨v,u,Tn,hV,hW⟩:=qW hM;obtain⟨B,b,rfl⟩:=Kd.dE hV;obtain⟨D,e,rfl⟩:=Kd.dE hW;have hcell:∀j y,[Value.int .i64 xs[i].seq,.slice B xs[i].V.length b,.string xs[i].pay,.slice D xs[i].want.length e][j]? =some y->w.cell? ((⟨g,0,none⟩:Addr).add (i*4+j))=some y:=fun j y hj=>by
   rw[<-Tn,List.getElem?_take] at hj;split at hj
   ·rw[List.getElem?_drop] at hj;exact hown.cells (g:=g) rfl _ y hj
   ·cases hj
  refine⟨⟨g,0,none⟩,xs[i],B,_,b,D,_,e,rfl,hxi,hcell 0 _ rfl, ?_, ?_, ?_,Kd.dD hV (fun _ hk=>hk.1),Kd.dD hW (fun _ hk=>hk.1)⟩
  ·rw[<-bC _ _ 1 (by omega)];exact hcell 1 _ rfl
  ·rw[<-bC _ _ 2 (by omega)];exact hcell 2 _ rfl
  ·rw[<-bC _ _ 3 (by omega)];exact hcell 3 _ rfl
end Go.Proofs.YtnmpijbcajclgaaGreatDoor.Mine
end
