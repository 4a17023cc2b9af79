/- Texts of one claim, one behind the other, made short by a program. -/
import Derived.Test.YtnmpijbcajclgaaGreatDoorMA13
import Derived.Deep.RegionLaw
set_option maxHeartbeats 8000000
set_option linter.unusedSimpArgs false
set_option linter.unusedVariables false
set_option maxRecDepth 100000
section
namespace Go.Proofs.YtnmpijbcajclgaaGreatDoor.Mine
open Tryz
open Go.Maps Go.RowKit YtnmpijbcajclgaaGreatDoorW.PrintWords YtnmpijbcajclgaaGreatDoorW.PrintLast YtnmpijbcajclgaaGreatDoorW.PrintMore
open PNodeAlone
open Value renaming slice->Vs
def fT(kind:Int)(cz:ByteArray)(fG q hops:Int)(E:Option Addr)(k c:Nat)(pay:ByteArray):Array Value:= #[.int .i64 kind,.string cz,.bool false,.slice none 0 0,.int .i64 fG,.int .i64 q,.int .i64 hops,.slice E k c,.string pay]
abbrev tM:Nat:=141
theorem Tk:(prog.info? 46).map (fun i=>(i.zero,i.size,i.bytes))=some (some (.agg #[(.int .i64 0),(.int .i64 0),(.int .i64 0),(.slice none 0 0),(.string ⟨#[]⟩)]),5,64):=by kernel_rfl
theorem Cf(base g k c:Nat)(h:Hd)(N:eG)(kind q hops:Int)(cz pay:ByteArray)(E:Option Addr)(w:World)(hI:cK base w g h N)(ha:0<=N.addr∧N.addr<32)(hq:1<=q∧q<=1073741824)(hs:N.seen=some q):
 Calls prog 165 #[.pointer (some ⟨g,0,none⟩),.agg (fT kind cz N.addr q hops E k c pay)] w fun e w'=>e=.returned (.tuple #[])∧Below w.heap.size w w':=by
 have HI:=ai hI;have HCM:=ai (fun W (hb:Below w.heap.size w W)=>Gr base g h N q W (hI.below hb) ha hq hs);clear hI hs;unfold fT;go_enter func165,ntmps165
 go_upto_region 1 with (fail)
 have HB:=ai (ae (Below.refl w.heap.size w) (.cells (fT kind cz N.addr q hops E k c pay) tM));have HK:=ai (heap_alloc_new w (.cells (fT kind cz N.addr q hops E k c pay) tM));unfold fT at HB HK;generalize w.alloc (.cells #[.int .i64 kind,.string cz,.bool false,.slice none 0 0,.int .i64 N.addr,.int .i64 q,.int .i64 hops,.slice E k c,.string pay] tM)=W1 at HB HK|-;generalize w.heap.size=gm at HK|-;have m4:=dI HK.o;have m5:=eH HK.o;go_region_held3 (fun X=>X.cell? ⟨gm,4,none⟩=some (.int .i64 N.addr)∧X.cell? ⟨gm,5,none⟩=some (.int .i64 q)) (go_keep) (first
  |(go_at_call 222;(with_reducible refine(HCM.o _ ?tb).mono ?_);(case tb=>(with_reducible repeat(first|exact HB.o|apply ah|apply ak|apply aK)));rintro e wx ⟨rfl,hbx⟩;replace HB:=ai (aD (aK HB.o) (aK HB.o).size hbx);have z0:=av hbx m4;have z1:=av hbx m5;clear hbx))
 go_wp2
 first|go_end0|((try simp only[Exit.inBlock,Exit.then]);refine bodyPost_ret (results_none rfl _ _ _) rfl ?_)
 exact⟨rfl,HB.o⟩
def eG.arr(N:eG)(q:Int)(B:List kY)(L:Int):eG:={N with seen:=some q,inbox:=B,lost:=L}
def qA(N:eG)(q:Int)(V:List SV)(pay:ByteArray)(r:List iY)(B:List kY)(L:Int):Prop:=
 jQ N.S N.addr ⟨q,V,pay⟩ (r.map iY.pl) (B.map kY.pl,L)=jQ N.S N.addr ⟨q,V,pay⟩ (N.subs.map iY.pl) (N.inbox.map kY.pl,N.lost)
theorem Ng{N:eG}{q:Int}{V:List SV}{pay:ByteArray}{i:Nat}{x:iY}{B:List kY}{L:Int}(hx:N.subs[i]? =some x)(h:qA N q V pay (N.subs.drop i) B L):
 qA N q V pay (N.subs.drop (i+1)) (if gL N.S x.F V pay=true then (if B.length<64 then B++ [⟨x.id,N.addr,q,V,pay⟩] else B) else B) (if gL N.S x.F V pay=true then (if B.length<64 then L else L+1) else L):=by
 unfold qA at h|-;rw[<-h];have hl:i<N.subs.length:=(List.getElem?_eq_some_iff.1 hx).1;have he:N.subs.drop i=x::N.subs.drop (i+1):=by
  rw[List.drop_eq_getElem_cons hl];rw[List.getElem?_eq_getElem hl] at hx;injection hx with hx;rw[hx]
 rw[he,List.map_cons];show _=jQ N.S N.addr ⟨q,V,pay⟩ ((N.subs.drop (i+1)).map iY.pl) (if gL N.S x.F V pay=true then (if (B.map kY.pl).length<64 then (B.map kY.pl++ [⟨x.id,N.addr,q,V,pay⟩],L) else (B.map kY.pl,L+1)) else (B.map kY.pl,L));rw[List.length_map];by_cases h1:gL N.S x.F V pay=true
 ·rw[if_pos h1,if_pos h1,if_pos h1];by_cases h2:B.length<64
  ·rw[if_pos h2,if_pos h2,if_pos h2,List.map_append];rfl
  ·rw[if_neg h2,if_neg h2,if_neg h2]
 ·rw[if_neg h1,if_neg h1,if_neg h1]
theorem Gt(base g k c:Nat)(h:Hd)(N:eG)(kind q hops:Int)(cz pay:ByteArray)(E:Option Addr)(V:List SV)(w:World)(hI:cK base w g h N)(hbase:base<=w.heap.size)(hF:fV N)(ha:0<=N.addr∧N.addr<32)(hq:1<=q∧q<=1073741824)(hs:∀l,N.seen=some l->0<=l∧l<q)(hV:Kd.R pI tV w base (fun _=>True) (.slice E k c) V)(heb:dV N.S V pay=none)(hlo:0<=N.lost∧N.lost<=1000000):
 Calls prog 165 #[.pointer (some ⟨g,0,none⟩),.agg (fT kind cz N.addr q hops E k c pay)] w fun e w'=>e=.returned (.tuple #[])∧∃h' B L,cK base w' g h' (N.arr q B L)∧Fr base g w h w' h'∧qA N q V pay [] B L∧B.length<=64:=by
 have HI:=ai hI;have kD:=ai hbase;have HF:=ai hF;have HV:=ai hV;have II:=ai heb;have Vj:=ai hlo;have HCM:=ai (fun W (hb:Below w.heap.size w W)=>(show Calls prog 222 #[.pointer (some ⟨g,6,none⟩),.int .i64 N.addr,.int .i64 q] W fun e w'=>e=.returned (.tuple #[.int .i64 1,.nilIface])∧∃h',cK base w' g h' (N.UL q)∧Fr base g W h w' h' from by
  cases hsn:N.seen with
  |none=>exact H7 base g h N q W (hI.below hb) (Nat.le_trans hbase hb.size) ha hq hsn
  |some l=>exact Kl base g h N q l W (hI.below hb) (Nat.le_trans hbase hb.size) ha hq hsn (hs l hsn)))
 clear hI hs hbase hF hV heb hlo ha;unfold fT;go_enter func165,ntmps165
 go_upto_region 1 with (fail)
 have HB:=ai (ae (Below.refl w.heap.size w) (.cells (fT kind cz N.addr q hops E k c pay) tM));have HK:=ai (heap_alloc_new w (.cells (fT kind cz N.addr q hops E k c pay) tM));have hs1:(w.alloc (.cells (fT kind cz N.addr q hops E k c pay) tM)).heap.size=w.heap.size+1:=by show (w.heap.push _).size=_;exact Array.size_push _
 unfold fT at HB HK hs1;generalize w.alloc (.cells #[.int .i64 kind,.string cz,.bool false,.slice none 0 0,.int .i64 N.addr,.int .i64 q,.int .i64 hops,.slice E k c,.string pay] tM)=W1 at HB HK hs1|-;obtain⟨gm,hgm⟩:∃x,x=w.heap.size:=⟨_,rfl⟩
 rw[<-hgm] at HK hs1|-;have xE:=ai (Off.new (w1:=W1) HI.o (Nat.le_of_eq hgm.symm) (by omega));have UZ:=ai hgm;clear hgm hs1;have m4:=dI HK.o;have m5:=eH HK.o;go_region_held3 (fun X=>X.cell? ⟨gm,4,none⟩=some (.int .i64 N.addr)∧X.cell? ⟨gm,5,none⟩=some (.int .i64 q)) (go_keep) (first
  |(go_at_call 222;(with_reducible refine(HCM.o _ ?tb).mono ?_);(case tb=>(with_reducible repeat(first|exact HB.o|apply ah|apply ak|apply aK)));rintro e wx ⟨rfl,h1,hI1,hF1⟩;have hof:=Off.keep (w:=W1.drew) xE.o hF1;have hk:=Off.blk (w:=W1.drew) xE.o hF1 HK.o;have z0:=dI hk;have z1:=eH hk;have lX:=ai ((Fr.of_below (aK HB.o) kD.o).trans hF1);have IV:=ai (hF1.R (HI.o.below (aK HB.o)) (Kd.bJ HV.o (aK HB.o)) (by decide+kernel));clear HB HK xE hF1;have xE:=ai hof;have HK:=ai hk;have HI1:=ai hI1;clear hof hk hI1))
 obtain⟨A3,c3,hv3,hc3,_⟩:=Kd.bB HI1.o.rows.sub;have Ej:=ai hv3;have y3:=(HI1.o.cell 3).trans (show _=some (Vs A3 N.subs.length c3) from by rw[show N.subs.length=(N.UL q).subs.length from rfl,<-hv3];rfl);obtain⟨n,hn⟩:∃n,n=N.subs.length:=⟨_,rfl⟩
 rw[<-hn] at y3;have HN:=ai hn;clear hv3 hc3 HCM HV z0 z1 m4 m5 hn;go_wp2_with fail
 clear y3;go_loopg [7,8,40] (n+1) (fun kk v7 v8 v40 W=>∃(i:Nat) (hh:Hd) (B:List kY) (L:Int),ay (i<=n∧kk+i=n+1∧B.length<=64∧0<=L∧L<=N.lost+i)∧v40=.int .i64 (i:Int)∧ay (cK base W g hh (N.arr q B L)∧hh.vsub=h1.vsub)∧ay (Fr base g w h W hh)∧ay (qA N q V pay (N.subs.drop i) B L)∧ay (Off W hh g gm∧W.heap[gm]? =some (.cells #[.int .i64 kind,.string cz,.bool false,.slice none 0 0,.int .i64 N.addr,.int .i64 q,.int .i64 hops,.slice E k c,.string pay] tM (0,0)))∧ay (Kd.R pI tV W base (fun _=>True) (.slice E k c) V))
 case atStart=>exact⟨0,h1,N.inbox,N.lost,⟨by omega,by omega,HF.o.nBox,Vj.o.1,by omega⟩,rfl,⟨HI1.o,rfl⟩,lX,⟨rfl⟩,⟨xE.o,HK.o⟩,IV⟩
 case round=>
  clear HI1 lX xE HK IV;obtain⟨i,hh,B,L,qG,rfl,lN,lX,HAT,gI,wZ⟩:=hrel;by_cases hi:i<n
  ·have b1:decide ((i:Int)<(n:Int))=true:=decide_eq_true (by omega);have b2:decide (i<n)=true:=decide_eq_true (by omega);have p1:(0:Int)<=(i:Int):=by omega
   have p2:(i:Int)<(n:Int):=by omega
   have hsub:Kd.R qJ iw wr base (fun _=>True) (.slice A3 n c3) N.subs:=by
    have h9:=lN.o.1.rows.sub;rw[lN.o.2,Ej.o,show (N.UL q).subs.length=n from HN.o.symm] at h9;exact h9
   have hC:=(Kd.bN hsub).2.2;rw[<-HN.o] at hC;obtain⟨ad,x,Bf,b,D,e,hA,hx,k0,k1,k2,k3,UC,WX⟩:=GI hC i hi;cases hA
   have HX:=ai (And.intro hx (And.intro UC (HF.o.flt x (List.mem_of_getElem? hx))));clear hx UC WX hC hsub;go_upto_region 8 with (fail)
   have Dn:=ae (Below.refl wr.heap.size wr) (.cells #[.int .i64 x.id,.string x.text,.slice Bf x.F.length b,.slice D x.G.length e] iw);have Zk:=heap_alloc_new wr (.cells #[.int .i64 x.id,.string x.text,.slice Bf x.F.length b,.slice D x.G.length e] iw);have hs2:(wr.alloc (.cells #[.int .i64 x.id,.string x.text,.slice Bf x.F.length b,.slice D x.G.length e] iw)).heap.size=wr.heap.size+1:=by show (wr.heap.push _).size=_;exact Array.size_push _
   have FI:=ai (Kd.aY HX.o.2.1.2 Dn);have F3:∀W,wr.heap.size+1<=W.heap.size->Off W hh g wr.heap.size:=fun W hW=>Off.new lN.o.1 (Nat.le_refl _) (by omega)
   replace lN:=ai (And.intro (lN.o.1.below Dn) lN.o.2);replace lX:=ai (lX.o.then Dn kD.o);replace gI:=ai (And.intro (gI.o.1.below Dn) ((Dn.block _ (aI gI.o.2)).trans gI.o.2));replace wZ:=lV wZ Dn;clear k0 k1 k2 k3;generalize wr.alloc (.cells #[.int .i64 x.id,.string x.text,.slice Bf x.F.length b,.slice D x.G.length e] iw)=W4 at Dn Zk hs2 FI lN lX gI wZ|-;generalize wr.heap.size=gs at Dn Zk hs2 F3|-;have Qz:=ai Zk;have Z5:=ai (F3 W4 (Nat.le_of_eq hs2.symm));clear Dn Zk hs2 F3;obtain⟨A0,c0,Af,Dq,hCS⟩:=Kd.bB lN.o.1.rows.sch;have y2:=(lN.o.1.cell 2).trans (show _=some (Vs A0 N.S.length c0) from by rw[show N.S.length=(N.arr q B L).S.length from rfl,<-Af];rfl);have s2:=dh Qz.o;have m7:=CX gI.o.2;have m8:=Ew gI.o.2;obtain⟨hk0,hkc,IK⟩:=Kd.bN wZ.o;have Ph:=ai (fun qq:aW W4=>DN A0 Bf E N.S.length x.F.length c0 b k c N.S x.F V pay qq.w rfl rfl hk0.symm (Kd.aY hCS qq.h) (Kd.aY FI.o qq.h) (by have h9:=IK;rw[<-hk0] at h9;exact Kd.aY h9 qq.h) (by have:=(dn HF.o.chk).2.1;omega) (by have:=(VD HF.o.chk HX.o.2.2).1;omega) HX.o.2.1.1);unfold kR at Ph;have q2:∀qq:aW W4,qq.w.cell? _=_:=fun qq=>qq.cell y2
   have q3:∀qq:aW W4,qq.w.cell? _=_:=fun qq=>qq.cell s2
   have q4:∀qq:aW W4,qq.w.cell? _=_:=fun qq=>qq.cell m7
   have q5:∀qq:aW W4,qq.w.cell? _=_:=fun qq=>qq.cell m8
   have HST:ay (qA N q V pay (N.subs.drop (i+1)) (if gL N.S x.F V pay=true then (if B.length<64 then B++ [⟨x.id,N.addr,q,V,pay⟩] else B) else B) (if gL N.S x.F V pay=true then (if B.length<64 then L else L+1) else L)):=⟨Ng HX.o.1 HAT.o⟩
   clear Af Dq hCS hk0 hkc IK y2 s2 m7 m8 HAT;cases hmt:gL N.S x.F V pay with
   |false=>
    rw[hmt] at Ph;have HAT:ay (qA N q V pay (N.subs.drop (i+1)) B L):=⟨by have h9:=HST.o;rw[hmt] at h9;exact h9⟩
    clear hmt HST;refine wp_region_quiet_below (by kernel_rfl) (by kernel_rfl) ?_
    repeat(quiet_step ((go_at_call 168;(with_reducible refine Calls.dF (Ph.o _)))))
    refine wpQuiet_nil ?_;rintro _ ⟨pq,rfl⟩;obtain⟨W5,WE,hb5⟩:∃W,W=pq.w∧Below W4.heap.size W4 W:=⟨_,rfl,pq.h⟩
    rw[<-WE];clear WE Ph;replace lN:=ai (And.intro (lN.o.1.below hb5) lN.o.2);replace lX:=ai (lX.o.then hb5 kD.o);replace gI:=ai (And.intro (gI.o.1.below hb5) ((hb5.block _ (aI gI.o.2)).trans gI.o.2));replace wZ:=lV wZ hb5;clear hb5 q2 q3 q4 q5 pq;go_wp2_with fail
    go_roundg (gk-1)
    case measure=>have:=qG.o;omega
    case rel=>exact⟨i+1,_,B,L,⟨by omega,by have:=qG.o;omega,qG.o.2.2.1,by have:=qG.o;omega,by have:=qG.o;omega⟩,by rw[jK (by omega) (by have:=HF.o.nSub;have:=HN.o;omega)];rfl,lN,lX,HAT,gI,wZ⟩
   |true=>
    rw[hmt] at Ph;refine wp_region_quiet_below (by kernel_rfl) (by kernel_rfl) ?_
    repeat(quiet_step ((go_at_call 168;(with_reducible refine Calls.dF (Ph.o _)))))
    refine wpQuiet_nil ?_;rintro _ ⟨pq,rfl⟩;obtain⟨W5,WE,hb5⟩:∃W,W=pq.w∧Below W4.heap.size W4 W:=⟨_,rfl,pq.h⟩
    rw[<-WE];clear WE Ph;have dH:=ai (And.intro (lN.o.1.below hb5) lN.o.2);have dU:=ai (lX.o.then hb5 kD.o);have dS:=ai (And.intro (gI.o.1.below hb5) ((hb5.block _ (aI gI.o.2)).trans gI.o.2));have Gq:=lV wZ hb5;clear lN lX gI wZ;have lN:=dH;have lX:=dU;have gI:=dS;have wZ:=Gq;clear dH dU dS Gq;replace Qz:=bZ hb5 Qz;replace Z5:=ai (Z5.o.below hb5);clear hb5 q2 q3 q4 q5 pq FI;obtain⟨A7,c7,hv7,SX,_⟩:=Kd.bB lN.o.1.rows.box;have KH:=ai (show hh.vbox=.slice A7 B.length c7 from hv7);have y7:=(lN.o.1.cell 7).trans (show _=some (Vs A7 B.length c7) from by rw[<-KH.o];rfl);clear hv7 SX;by_cases hB:B.length<64
    ·have d1:decide (64<=B.length)=false:=decide_eq_false (by omega);have d2:decide ((64:Int)<=(B.length:Int))=false:=decide_eq_false (by omega);have HAT:ay (qA N q V pay (N.subs.drop (i+1)) (B++ [⟨x.id,N.addr,q,V,pay⟩]) L):=⟨by have h9:=HST.o;rw[hmt,if_pos rfl,if_pos rfl,if_pos hB,if_pos hB] at h9;exact h9⟩
     have We:=ai hB;clear hmt HST hB;have s0:=bK Qz.o;have m4:=dI gI.o.2;have m5:=eH gI.o.2;have m7:=CX gI.o.2;have m8:=Ew gI.o.2;go_upto_region 12 with (fail)
     have Dn:=ae (Below.refl W5.heap.size W5) (.cells #[.int .i64 x.id,.int .i64 N.addr,.int .i64 q,.slice E k c,.string pay] ny);have Y5:=heap_alloc_new W5 (.cells #[.int .i64 x.id,.int .i64 N.addr,.int .i64 q,.slice E k c,.string pay] ny);have hs2:(W5.alloc (.cells #[.int .i64 x.id,.int .i64 N.addr,.int .i64 q,.slice E k c,.string pay] ny)).heap.size=W5.heap.size+1:=by show (W5.heap.push _).size=_;exact Array.size_push _
     have hgd:w.heap.size<=W5.heap.size∧gm<W5.heap.size:=⟨lX.o.below.size,gI.o.1.2⟩
     have F3:∀W,W5.heap.size+1<=W.heap.size->Off W hh g W5.heap.size:=fun W hW=>Off.new lN.o.1 (Nat.le_refl _) (by omega)
     replace lN:=ai (And.intro (lN.o.1.below Dn) lN.o.2);replace lX:=ai (lX.o.then Dn kD.o);replace gI:=ai (And.intro (gI.o.1.below Dn) ((Dn.block _ (aI gI.o.2)).trans gI.o.2));replace wZ:=lV wZ Dn;clear s0 m4 m5 m7 m8 y7 d1 d2;generalize W5.alloc (.cells #[.int .i64 x.id,.int .i64 N.addr,.int .i64 q,.slice E k c,.string pay] ny)=W6 at Dn Y5 hs2 lN lX gI wZ|-;generalize W5.heap.size=gd at Dn Y5 hs2 F3 hgd|-;have iH:=ai (F3 W6 (Nat.le_of_eq hs2.symm));have QU:=ai Y5;have UB:=ai hgd;have m7:=CX gI.o.2;clear Dn Y5 hs2 F3 hgd Qz Z5;have hk4:k<=1000000:=by have:=nT II.o;have:=(dn HF.o.chk).2.1;have:=(Kd.bN wZ.o).1;omega
     go_wp2_with fail
     refine(clV.row (base:=base) (Nat.le_trans kD.o lX.o.below.size) wZ.o hk4 (by decide)).mono ?_;rintro e w7 ⟨A4,c4,rfl,Pf,Qg,gZ⟩;have dH:=ai (And.intro (lN.o.1.below gZ) lN.o.2);have dU:=ai (lX.o.then gZ kD.o);have dS:=ai (And.intro (gI.o.1.below gZ) ((gZ.block _ (aI gI.o.2)).trans gI.o.2));have Gq:=lV wZ gZ;clear lN lX gI wZ;have lN:=dH;have lX:=dU;have gI:=dS;have wZ:=Gq;clear dH dU dS Gq;replace QU:=bZ gZ QU;replace iH:=ai (iH.o.below gZ);have WT:=ai Pf;clear gZ Pf Qg m7 hk4;have d3:=dA QU.o;have f3:=af QU.o 3;go_upto_region 13 with (fail)
     have Um:(w7.setCell ⟨gd,3,none⟩ (.slice A4 k c4)).heap[gd]? =some (.cells #[.int .i64 x.id,.int .i64 N.addr,.int .i64 q,.slice A4 k c4,.string pay] ny (0,0)):=by simpa using bg QU.o 3 (.slice A4 k c4)
     have vH:=ai (And.intro (lN.o.1.offset iH.o QU.o (by decide) 3 (.slice A4 k c4)) lN.o.2);have tX:=ai (lX.o.BV kD.o (p:=⟨gd,3,none⟩) UB.o.1 (.slice A4 k c4));have OP:=ai (And.intro (show Off (w7.setCell ⟨gd,3,none⟩ (.slice A4 k c4)) hh g gm from⟨gI.o.1.1,by have h9:=gI.o.1.2;simpa [World.setCell] using h9⟩) ((Below.heap_setCell w7 ⟨gd,3,none⟩ (.slice A4 k c4) gm (Nat.ne_of_lt UB.o.2)).trans gI.o.2));have Ue:=ai (Kd.jX wZ.o QU.o (by decide+kernel) 3 (.slice A4 k c4));have Fw:=ai (Kd.gX (Kd.jX WT.o QU.o (by decide+kernel) 3 (.slice A4 k c4)) vH.o.1.rows.box (by decide+kernel));clear lN lX gI wZ WT QU iH d3 f3;generalize w7.setCell ⟨gd,3,none⟩ (.slice A4 k c4)=W8 at Um vH tX OP Ue Fw|-;have t0:=bK Um;have t1:=bS Um;have t2:=dh Um;have t3:=dA Um;have t4:=dI Um;have y7:=(vH.o.1.cell 7).trans (show _=some (Vs A7 B.length c7) from by rw[<-KH.o];rfl);have y7a:(W8.alloc (Obj.cells #[.int .i64 x.id,.int .i64 N.addr,.int .i64 q,.slice A4 k c4,.string pay] 46)).cell? ⟨g,7,none⟩=some (.slice A7 B.length c7):=av (ae (Below.refl _ _) _) y7;have R4:=ai (Qq (x:=⟨x.id,N.addr,q,V,pay⟩) (Kd.dm Fw.o));clear Um;go_region_law (refine Kd.jE zL (w0:=W8) (W:=W8.drew) base ?hw (.tmp 86) (.tmp 88) 43 ny (.agg #[(.int .i64 0),(.int .i64 0),(.int .i64 0),(.slice none 0 0),(.string ⟨#[]⟩)]) 64 ?ho underlying43 Tk rfl (by decide) (by omega) hh.vbox B ⟨x.id,N.addr,q,V,pay⟩ [.int .i64 x.id,.int .i64 N.addr,.int .i64 q,.slice A4 k c4,.string pay] (fun _=>True) (fun k=>True∧some k≠hh.vbox.ownBlock) ?aV ?aX R4.o (fun _ hk=>hk) ?aF (Kd.dm vH.o.1.rows.box) (aK (Below.refl base W8)) (Nat.le_trans kD.o tX.o.below.size) ?aL ?_;(case ho=>rfl);(case hw=>first|rfl|(simp[Region.wanted]));(case aV=>exact KH.o.symm);(case aX=>first|rfl|(go_simp;done)|(go_simp;rfl));(case aF=>exact(fun _ _=>trivial));(case aL=>have:=We.o;omega);intro v9 w9 ho hb hg hat;have k9:=dB (w:=W8.drew) vH.o.1.blk hg (Kd.kM (w:=W8.drew) (Kd.dm vH.o.1.rows.box) vH.o.1.blk (by decide));obtain⟨A9,c9,rfl,Sq,Pw⟩:=Kd.bB ho;have Zd:=(aN k9 7).trans (show _=some (Vs A7 B.length c7) from by rw[<-KH.o];rfl);have f7':=af k9 7)
     all_goals
      have k10:=bg k9 7 (.slice A9 (B++ [(⟨x.id,N.addr,q,V,pay⟩:kY)]).length c9);have rd:=vH.o.1.rows.below (aK (Below.refl W8.heap.size W8));have jW:=(rd.MG hg ho).set k9 (by decide) 7 (.slice A9 (B++ [(⟨x.id,N.addr,q,V,pay⟩:kY)]).length c9);have fA:=(Fr.of_below (g:=g) (h:=hh) (aK (Below.refl W8.heap.size W8)) (Nat.le_trans kD.o tX.o.below.size)).trans (Fr.MG rd hg (Nat.le_trans kD.o tX.o.below.size));have f10:=(fA.pV (v1:=.slice A9 (B++ [(⟨x.id,N.addr,q,V,pay⟩:kY)]).length c9) (NewAt.from (Nat.le_refl _) hat)).trans (Fr.set (h:={hh with vbox:=.slice A9 (B++ [(⟨x.id,N.addr,q,V,pay⟩:kY)]).length c9}) vH.o.1.gb 7 (.slice A9 (B++ [(⟨x.id,N.addr,q,V,pay⟩:kY)]).length c9));have hlen:(B++ [(⟨x.id,N.addr,q,V,pay⟩:kY)]).length=B.length+1:=by simp
      rw[hlen] at k10 jW f10;have lN:=ai (And.intro (cK.of (N:=N.arr q (B++ [⟨x.id,N.addr,q,V,pay⟩]) L) (h:={hh with vbox:=.slice A9 (B.length+1) c9}) k10 rfl vH.o.1.gb ⟨jW.sch,jW.sub,jW.seen,jW.box,jW.opn,jW.lnk,jW.sent⟩) (show ({hh with vbox:=.slice A9 (B.length+1) c9}:Hd).vsub=h1.vsub from vH.o.2));have lX:=ai (tX.o.trans f10);have gI:=ai (And.intro (OP.o.1.keep f10) (OP.o.1.blk f10 OP.o.2));have wZ:=ai (f10.R vH.o.1 Ue.o (by decide+kernel));have Rk:=ai (show (B++ [(⟨x.id,N.addr,q,V,pay⟩:kY)]).length<=64 by rw[hlen];have:=We.o;omega);clear k9 ho hb hg hat Sq Pw Zd f7' rd jW fA f10 k10 hlen y7a y7 t0 t1 t2 t3 t4 vH tX OP Ue Fw R4;go_wp2_with fail
      go_roundg (gk-1)
      case measure=>have:=qG.o;omega
      case rel=>exact⟨i+1,_,(B++ [⟨x.id,N.addr,q,V,pay⟩]),L,⟨by omega,by have:=qG.o;omega,Rk.o,by have:=qG.o;omega,by have:=qG.o;omega⟩,by rw[jK (by omega) (by have:=HF.o.nSub;have:=HN.o;omega)];rfl,lN,lX,HAT,gI,wZ⟩
    ·have d1:decide (64<=B.length)=true:=decide_eq_true (by omega);have d2:decide ((64:Int)<=(B.length:Int))=true:=decide_eq_true (by omega);have HAT:ay (qA N q V pay (N.subs.drop (i+1)) B (wrap64 (L+1))):=⟨by have h9:=HST.o;rw[hmt,if_pos rfl,if_pos rfl,if_neg hB,if_neg hB] at h9;rw[jK (by have:=qG.o;omega) (by have:=qG.o;have:=Vj.o;have:=HF.o.nSub;have:=HN.o;omega)];exact h9⟩
     have Qy:=ai (show wrap64 (L+1)=L+1 from jK (by have:=qG.o;omega) (by have:=qG.o;have:=Vj.o;have:=HF.o.nSub;have:=HN.o;omega));clear hmt HST hB;have y12:=(lN.o.1.cell 12).trans (show _=some (Value.int .i64 L) from rfl);have f12:=af lN.o.1.blk 12;go_wp2_with fail
     have f10:=Fr.set (base:=base) (g:=g) (h:=hh) (w:=W5) lN.o.1.gb 12 (.int .i64 (wrap64 (L+1)));have jW:=lN.o.1.rows.set lN.o.1.blk (by decide) 12 (.int .i64 (wrap64 (L+1)));replace lX:=ai (lX.o.trans f10);replace gI:=ai (And.intro (gI.o.1.keep f10) (gI.o.1.blk f10 gI.o.2));replace wZ:=ai (f10.R lN.o.1 wZ.o (by decide+kernel));replace lN:=ai (And.intro (cK.of (N:=N.arr q B (wrap64 (L+1))) (h:=hh) (bg lN.o.1.blk 12 (.int .i64 (wrap64 (L+1)))) rfl lN.o.1.gb ⟨jW.sch,jW.sub,jW.seen,jW.box,jW.opn,jW.lnk,jW.sent⟩) lN.o.2);clear f10 jW y12 f12 y7;go_roundg (gk-1)
     case measure=>have:=qG.o;omega
     case rel=>exact⟨i+1,_,B,(wrap64 (L+1)),⟨by omega,by have:=qG.o;omega,qG.o.2.2.1,by have:=qG.o;have:=Qy.o;omega,by have:=qG.o;have:=Qy.o;omega⟩,by rw[jK (by omega) (by have:=HF.o.nSub;have:=HN.o;omega)];rfl,lN,lX,HAT,gI,wZ⟩
  ·have b1:decide ((i:Int)<(n:Int))=false:=decide_eq_false (by omega);have b2:decide (i<n)=false:=decide_eq_false (by omega);have hat:=HAT.o;rw[List.drop_eq_nil_of_le (by have:=HN.o;omega)] at hat;have hfin:=And.intro lN.o.1 (And.intro lX.o (And.intro hat qG.o.2.2.1));clear hat;go_wp2
   first|go_end0|((try simp only[Exit.inBlock,Exit.then]);refine bodyPost_ret (results_none rfl _ _ _) rfl ?_)
   exact⟨rfl,hh,B,L,hfin⟩
def iJ.cf(q:Int)(cz:ByteArray)(x:iJ):iJ:=if x.seq=q then {x with want:=dK (zM cz) x.want} else x
def lW(q:Int)(cz:ByteArray)(L:List iJ):List iJ:=dK gY (L.map (iJ.cf q cz))
def si(q:Int)(cz:ByteArray)(L:List iJ)(i:Nat):List iJ:=(L.take i).map (iJ.cf q cz)++L.drop i
theorem ND{q:Int}{cz:ByteArray}{L:List iJ}{i:Nat}{x:iJ}(h:(si q cz L i)[i]? =some x)(hi:i<L.length):L[i]? =some x:=by
 unfold si at h;rw[List.getElem?_append_right (by rw[List.length_map,List.length_take];omega),List.length_map,List.length_take,Nat.min_eq_left (by omega),Nat.sub_self,List.getElem?_drop,Nat.add_zero] at h;exact h
theorem D6{q:Int}{cz:ByteArray}{L:List iJ}{i:Nat}{x:iJ}(h:L[i]? =some x):(si q cz L i).set i (iJ.cf q cz x)=si q cz L (i+1):=by
 have hi:=(List.getElem?_eq_some_iff.1 h).1;unfold si;rw[List.set_append_right _ _ (by rw[List.length_map,List.length_take];omega),List.length_map,List.length_take,Nat.min_eq_left (by omega),Nat.sub_self,oq h,List.map_append,List.append_assoc]
 congr 1
 have he:L.drop i=x::L.drop (i+1):=by obtain⟨hj,e⟩:=List.getElem?_eq_some_iff.1 h;rw[List.drop_eq_getElem_cons hj,e]
 rw[he];rfl
theorem J4{q:Int}{cz:ByteArray}{L:List iJ}{i:Nat}{x:iJ}(h:L[i]? =some x)(hq:x.seq≠q):si q cz L i=si q cz L (i+1):=by
 rw[<-D6 h,show iJ.cf q cz x=x from if_neg hq];refine(List.ext_getElem? fun j=> ?_);rw[List.getElem?_set];by_cases hj:i=j
 ·subst hj;have hi:=(List.getElem?_eq_some_iff.1 h).1;have hl:i<(si q cz L i).length:=by unfold si;simp;omega
  rw[if_pos rfl,if_pos hl];unfold si;rw[List.getElem?_append_right (by rw[List.length_map,List.length_take];omega),List.length_map,List.length_take,Nat.min_eq_left (by omega),Nat.sub_self,List.getElem?_drop,Nat.add_zero,h]
 ·rw[if_neg hj]
theorem O0{q:Int}{cz:ByteArray}{L:List iJ}:si q cz L L.length=L.map (iJ.cf q cz):=by unfold si;simp
theorem Fz{q:Int}{cz:ByteArray}{L:List iJ}{i:Nat}(hi:i<=L.length):(si q cz L i).length=L.length:=by unfold si;simp;omega
theorem OH{base g gr n c:Nat}{w w1:World}{h:Hd}{N:eG}(r:cK base w g h N)(hv:h.vopn=.slice (some ⟨gr,0,none⟩) n c)(hs:base<=w.heap.size)(hb:Below w.heap.size w w1){i:Nat}{x:iJ}(hx:N.opn[i]? =some x){v':Value}{G:List ByteArray}(hG:Kd.R Kd.string tS w1 base (fun _=>True) v' G):
 cK base (w1.setCell ⟨gr,i*4+3,none⟩ v') g h {N with opn:=N.opn.set i {x with want:=G}}∧Fr base g w h (w1.setCell ⟨gr,i*4+3,none⟩ v') h:=by
 have r1:=r.below hb;have hR:=r1.rows.opn;rw[hv] at hR;have hn:=(Kd.bN hR).1;have hi:i<N.opn.length:=(List.getElem?_eq_some_iff.1 hx).1;obtain⟨ci,hcl,hM,hcc,_⟩:=Kd.sG hR QG (i:Int) (by omega) (by omega);rw[Int.toNat_natCast] at hM hcc;have hxx:N.opn.getD i QG=x:=by rw[List.getD_eq_getElem?_getD,hx];rfl
 rw[hxx] at hM;obtain⟨v,u,rfl,hV,hW⟩:=qW hM;obtain⟨cur,hgb,_⟩:=Od hR;have hG':=Kd.xJ hG hgb (by decide+kernel);have FD:zO.M w1 base (fun k=>True∧k≠gr) {x with want:=G} ([.int .i64 x.seq,v,.string x.pay,u].take 3++ [v']++ [.int .i64 x.seq,v,.string x.pay,u].drop (3+1)):=I9 hV hG';obtain⟨h1,h2⟩:=Kd.Ry hR (i:Int) (by omega) (by omega) hcl hcc (j:=3) (seg:= [v']) (Nat.le_refl _) FD (fun _ hk=>hk);rw[Int.toNat_natCast] at h1 h2;have hset:w1.setCells gr (i*zO.sz+3) [v']=w1.setCell ⟨gr,i*4+3,none⟩ v':=rfl;rw[hset] at h1 h2;have how:h.vopn.ownBlock=some gr:=by rw[hv];rfl
 rw[<-how] at h2;rw[<-hv] at h1;have r2:=r1.rows.Gw h2 h1;refine⟨⟨?_,r1.gb,r2⟩,(Fr.of_below hb hs).trans (Fr.Gw r1.rows h2 (Nat.le_trans hs hb.size))⟩;rw[Below.heap_setCell w1 ⟨gr,i*4+3,none⟩ v' g (fun e=>by
  have hz:=r1.blk;rw[e,hgb] at hz;injection hz with hz;injection hz with _ hz;revert hz;decide+kernel)]
 exact r1.blk
theorem zY(base g k c:Nat)(h:Hd)(N:eG)(kind q hops:Int)(cz pay:ByteArray)(E:Option Addr)(w:World)(hI:cK base w g h N)(hs:base<=w.heap.size)(hl:N.opn.length<=8)(hw:∀e∈N.opn,e.want.length<=36):
 Calls prog 139 #[.pointer (some ⟨g,0,none⟩),.agg (fT kind cz N.addr q hops E k c pay)] w fun e w'=>e=.returned (.tuple #[])∧∃h',cK base w' g h' {N with opn:=lW q cz N.opn}∧Fr base g w h w' h':=by
 have HS:=ai hs;have HL:=ai (And.intro hl hw);have hI1:=hI.below (ae (Below.refl w.heap.size w) (.cells (fT kind cz N.addr q hops E k c pay) tM));have hF1:=Fr.of_below (g:=g) (h:=h) (ae (Below.refl w.heap.size w) (.cells (fT kind cz N.addr q hops E k c pay) tM)) hs;clear hI hl hw;unfold fT;go_enter func139,ntmps139
 go_upto_region 1 with (fail)
 have lN:ay (cK base _ g h N):=⟨hI1⟩
 have lX:ay (Fr base g w h _ h):=⟨hF1⟩
 have HK:=ai (heap_alloc_new w (.cells (fT kind cz N.addr q hops E k c pay) tM));have RL:ay (base<=w.heap.size):=HS;clear hI1 hF1;unfold fT at lN lX HK;generalize w.alloc (.cells #[.int .i64 kind,.string cz,.bool false,.slice none 0 0,.int .i64 N.addr,.int .i64 q,.int .i64 hops,.slice E k c,.string pay] tM)=W1 at lN lX HK|-;generalize w.heap.size=gm at HK|-;have m1:=bS HK.o;have m4:=dI HK.o;have m5:=eH HK.o;obtain⟨A8,c8,El,hc8,UW⟩:=Kd.bB lN.o.rows.opn;obtain⟨n,hn⟩:∃n,n=N.opn.length:=⟨_,rfl⟩
 rw[<-hn] at El hc8 UW;have HN:=ai hn;have Jr:=ai El;have y0:=(lN.o.cell 0).trans (show _=some (Value.int .i64 N.addr) from rfl);have y8:=(lN.o.cell 8).trans (show _=some (Vs A8 n c8) from by rw[<-El];rfl);clear El hc8 UW hn;go_region
 go_wp2_with fail
 go_loopg [4,17] (n+1) (fun kk v4 v17 W=>∃(i:Nat) (C:List iJ),ay (i<=n∧kk+i=n+1∧C=si q cz N.opn i)∧v17=.int .i64 (i:Int)∧ay (cK base W g h {N with opn:=C}∧Fr base g w h W h)∧ay (W.heap[gm]? =some (.cells #[.int .i64 kind,.string cz,.bool false,.slice none 0 0,.int .i64 N.addr,.int .i64 q,.int .i64 hops,.slice E k c,.string pay] tM (0,0))))
 case atStart=>
  refine⟨0,N.opn,⟨by omega,by omega,rfl⟩,rfl,⟨lN.o.below ?h1,lX.o.then ?h2 HS.o⟩,⟨(Below.block (?h3:Below W1.heap.size W1 _) gm (aI HK.o)).trans HK.o⟩⟩
  all_goals (with_reducible repeat(first|exact Below.refl _ _|apply ah|apply ak|apply aK))
 case round=>
  obtain⟨i,C,HM,rfl,HW,R5⟩:=hrel;by_cases hi:i<n
  ·have b1:decide ((i:Int)<(n:Int))=true:=decide_eq_true (by omega);have b2:decide (i<n)=true:=decide_eq_true (by omega);have p1:(0:Int)<=(i:Int):=by omega
   have p2:(i:Int)<(n:Int):=by omega
   have hcl:C.length=n:=by rw[HM.o.2.2,Fz (by have:=HN.o;omega)];exact HN.o.symm
   have hR:Kd.R zO nM wr base (fun _=>True) (.slice A8 n c8) C:=by have h:=HW.o.1.rows.opn;rw[Jr.o] at h;exact h
   have hC:=(Kd.bN hR).2.2;obtain⟨gr,cap,hsl,hgr,Hw,cells,hgc⟩:=Kd.vv hR (by omega);injection hsl with hs1 hs2 hs3;subst hs1 hs3;obtain⟨ci,hci,hM,hcc,_⟩:=Kd.sG hR QG (i:Int) p1 p2;rw[Int.toNat_natCast] at hM hcc;have hx:C[i]? =some (C.getD i QG):=by rw[List.getD_eq_getElem?_getD,List.getElem?_eq_getElem (by omega)];rfl
   generalize C.getD i QG=x at hM hx;obtain⟨vV,vW,rfl,hV,hW⟩:=qW hM;obtain⟨D,e,rfl,_,_⟩:=Kd.bB hW;have h0:wr.cell? ⟨gr,i*4,none⟩=some (Value.int .i64 x.seq):=hcc 0 _ rfl;have h3:wr.cell? ⟨gr,i*4+3,none⟩=some (Vs D x.want.length e):=hcc 3 _ rfl;have HWW:=ai (Kd.dD hW (ok':=fun _=>True) (fun _ _=>trivial));have OB:=ai hgc;have m1:=bS R5.o;have m5:=eH R5.o;have y8:=(HW.o.1.cell 8).trans (show _=some (Vs (some ⟨gr,0,none⟩) n c8) from by rw[<-Jr.o];rfl);have hxs:N.opn[i]? =some x:=ND (HM.o.2.2▸hx) (by have:=HN.o;omega);have HX:=ai (And.intro hx hxs);clear hx hxs hR hM hV hW hcc hci hgr Hw hgc hcl hs2 hC;go_wp2_with fail
   go_region
   by_cases hq:x.seq=q
   ·have hb:(x.seq==q)=true:=beq_iff_eq.2 hq;have HQ:=ai hq;clear hq;go_wp2_with fail
    have hbd:Below wr.heap.size wr wr.drew:=aK (Below.refl _ _);have KM:=ai (And.intro (HW.o.1.below hbd) (HW.o.2.then hbd HS.o));have J3:=ai ((hbd.block gm (aI R5.o)).trans R5.o);have FT:=ai ((hbd.block gr (aI OB.o)).trans OB.o);have Ui:=lV HWW hbd;have YS:=av hbd m1;have Uu:=av hbd y8;have h3':=av hbd h3;clear hbd m1 y8 h3 h0 m5 HW R5 OB HWW hb;generalize wr.drew=W5 at KM J3 FT Ui YS Uu h3'|-;have ZQ:=ai (HL.o.2 x (List.mem_of_getElem? HX.o.2));have vQ:=ai (fun (W:World) (hb:Below W5.heap.size W5 W)=>clS.row (base:=base) (Nat.le_trans (Nat.le_trans HS.o KM.o.2.below.size) hb.size) (Kd.bJ Ui.o hb) (by have:=ZQ.o;omega) (by decide));go_region_law (first
     |(go_simp;go_at_call 72;(with_reducible refine(vQ.o _ (aK (Below.refl _ _))).mono ?_);rintro e' wx ⟨A',c',rfl,WZ,hge,hbx⟩;have n_:=aD (aK (Below.refl W5.heap.size W5)) (Nat.le_refl _) hbx;have m1x:=av n_ YS;have y8x:=av n_ Uu;have h3x:=av n_ h3';have UO:=ai (And.intro WZ (And.intro (show ∀k1,(Vs A' x.want.length c').ownBlock=some k1->W5.heap.size<=k1 from hge) n_));have fx:=af ((n_.block gr (aI FT.o)).trans FT.o) (i*4+3);clear WZ hge hbx n_)
     |(go_simp;go_at_call 197;(with_reducible refine(Vf cz gm base (fun _=>True) _ x.want wx UO.o.1 (by have:=ZQ.o;omega) m1x (fun e1=>by have:=UO.o.2.1 _ e1.symm;have:=aI J3.o;omega)).mono ?_);rintro e' wy ⟨v',rfl,hRy,hgy,hoy⟩;obtain⟨A9,c9,rfl,_,_⟩:=Kd.bB hRy;have n_:=UO.o.2.2.grown hgy UO.o.2.2.size (fun k1 hk1=>UO.o.2.1 k1 hk1);have y8y:=av n_ Uu;have h3y:=av n_ h3';have fy:=af ((n_.block gr (aI FT.o)).trans FT.o) (i*4+3);have YB:=ai (And.intro hRy n_);clear hRy hgy hoy n_))
    all_goals
     have hw9:=OH KM.o.1 Jr.o (Nat.le_trans HS.o KM.o.2.below.size) YB.o.2 (i:=i) (x:=x) HX.o.1 YB.o.1;have HN9:=ai (And.intro hw9.1 (KM.o.2.trans hw9.2));have UR:=(YB.o.2.block gm (aI J3.o)).trans J3.o;have hne:gm≠gr:=fun e1=>by
      have hz:=J3.o;rw[e1,FT.o] at hz;injection hz with hz;injection hz with _ hz;revert hz;decide+kernel
     have HK9:=ai ((Below.heap_setCell wy ⟨gr,i*4+3,none⟩ (.slice A9 (dK (zM cz) x.want).length c9) gm hne).trans UR);clear hw9 UR hne YB fy y8y h3y KM J3 FT Ui vQ UO fx y8x h3x m1x Uu h3' YS ZQ;generalize wy.setCell ⟨gr,i*4+3,none⟩ (.slice A9 (dK (zM cz) x.want).length c9)=W9 at HN9 HK9|-;go_wp2_with fail
     go_roundg (gk-1)
     case measure=>have:=HM.o;omega
     case rel=>
      refine⟨i+1,_,⟨by omega,by have:=HM.o;omega, ?_⟩,by rw[jK (by omega) (by have:=HL.o.1;have:=HN.o;omega)];rfl,HN9,HK9⟩;rw[<-D6 HX.o.2,show iJ.cf q cz x={x with want:=dK (zM cz) x.want} from if_pos HQ.o,<-HM.o.2.2]
   ·have hb:(x.seq==q)=false:=beq_eq_false_iff_ne.2 hq;have HQ:=ai hq;clear hq;go_wp2_with fail
    go_roundg (gk-1)
    case measure=>have:=HM.o;omega
    case rel=>
     have hbd:Below wr.heap.size wr wr.drew:=aK (Below.refl _ _);refine⟨i+1,C,⟨by omega,by have:=HM.o;omega, ?_⟩,by rw[jK (by omega) (by have:=HL.o.1;have:=HN.o;omega)];rfl,⟨HW.o.1.below hbd,HW.o.2.then hbd HS.o⟩,⟨(hbd.block gm (aI R5.o)).trans R5.o⟩⟩;rw[HM.o.2.2];exact J4 HX.o.2 HQ.o
  ·have b1:decide ((i:Int)<(n:Int))=false:=decide_eq_false (by omega);have b2:decide (i<n)=false:=decide_eq_false (by omega);have hR:Kd.R zO nM wr base (fun _=>True) h.vopn C:=HW.o.1.rows.opn;have hin:i=N.opn.length:=by have:=HM.o;have:=HN.o;omega
   have hcl:C.length=n:=by rw[HM.o.2.2,Fz (by omega)];exact HN.o.symm
   have U2:C=N.opn.map (iJ.cf q cz):=by rw[HM.o.2.2,hin,O0]
   have y8:=(HW.o.1.cell 8).trans (show _=some (Vs A8 n c8) from by rw[<-Jr.o];rfl);have f8:=af HW.o.1.blk 8;rw[Jr.o] at hR;have HDE:=ai (fun (W:World) (hb:Below wr.heap.size wr W)=>Sr base (fun _=>True) _ C W (Kd.bJ hR hb) (by have:=HL.o.1;have:=HN.o;omega));have Sa:=ai U2;clear U2 hcl hin hR hi;go_wp2_with fail
   refine(HDE.o wr (Below.refl _ _)).mono ?_;rintro r w2 ⟨v',rfl,hR2,hg2,ho2⟩;obtain⟨A9,c9,rfl,_,_⟩:=Kd.bB hR2;have how:(Vs A8 n c8).ownBlock=h.vopn.ownBlock:=by rw[Jr.o]
   rw[how] at hg2 ho2;have k9:=dB HW.o.1.blk hg2 (Kd.kM HW.o.1.rows.opn HW.o.1.blk (by decide));have r9:=HW.o.1.rows.Gw hg2 hR2;have k10:=bg k9 8 (.slice A9 (dK gY C).length c9);have jW:=r9.set k9 (by decide) 8 (.slice A9 (dK gY C).length c9);have f10:=((HW.o.2.trans (Fr.Gw HW.o.1.rows hg2 (Nat.le_trans HS.o HW.o.2.below.size))).zn (v1:=.slice A9 (dK gY C).length c9) (.inl ho2)).trans (Fr.set HW.o.1.gb 8 (.slice A9 (dK gY C).length c9));have Uu:=(aN k9 8).trans (show _=some (Vs A8 n c8) from by rw[<-Jr.o];rfl);have f8':=af k9 8;have fQ:ay (∃h',cK base (w2.setCell ⟨g,8,none⟩ (.slice A9 (dK gY C).length c9)) g h' {N with opn:=lW q cz N.opn}∧Fr base g w h (w2.setCell ⟨g,8,none⟩ (.slice A9 (dK gY C).length c9)) h'):=⟨⟨_,by
    have hz:lW q cz N.opn=dK gY C:=by unfold lW;rw[Sa.o]
    rw[hz];exact cK.of k10 rfl HW.o.1.gb ⟨jW.sch,jW.sub,jW.seen,jW.box,jW.opn,jW.lnk,jW.sent⟩,f10⟩⟩
   clear hR2 hg2 ho2 how k9 r9 k10 jW f10 HW HDE;go_wp2
   first|go_end0|((try simp only[Exit.inBlock,Exit.then]);refine bodyPost_ret (results_none rfl _ _ _) rfl ?_)
   exact⟨rfl,fQ.o⟩
end Go.Proofs.YtnmpijbcajclgaaGreatDoor.Mine
end
section
namespace Go.Proofs.YtnmpijbcajclgaaGreatDoor.PNodeAlone
open Go.RowKit Go.Proofs.YtnmpijbcajclgaaGreatDoorW.PrintWords Go.Proofs.YtnmpijbcajclgaaGreatDoorW.PrintLast Go.Proofs.YtnmpijbcajclgaaGreatDoorW.PrintMore
attribute [local go_sem] nQ nU qM o7 oz oC ql qa
theorem Sj(d:Nat)(w:World)(x0 y0:ByteArray)(x1 y1:Int)(x2 y2:Int):
 (Op.equalIn (d+2) 272 (.agg #[.string x0,.int .i64 x1,.int .i64 x2]) (.agg #[.string y0,.int .i64 y1,.int .i64 y2])).run Tryz.prog w=.ok (x0.toList==y0.toList&&(x1==y1&&(x2==y2))) w:=by
 refine Tp Tryz.underlying272 (by kernel_rfl) ?_;refine DZ (by rfl) (by go_simp;rfl) (by go_simp;rfl) (by go_simp) ?_;refine DZ (by rfl) (by go_simp;rfl) (by go_simp;rfl) (by go_simp) ?_;exact Ms (by rfl) (by go_simp;rfl) (by go_simp;rfl) (by go_simp)
attribute [local go_sem] nQ nU qM o7 oz oC ql qa
attribute [local go_sem high] Sj
def bz.l0:Nat->List (rq)->Int->Int->ByteArray->Int->Int->Option (Int)
 |0,_,_,_,_,_,_=>none
 |k+1,x0,x7,x8,x379000,x379001,x379002=>if x8<x7 then (if 0<=x8 then (if x8<(x0.length:Int) then (if (x379000.toList==(((dG x0 x8).f0).toList)&&(x379001==((dG x0 x8).f1)&&(x379002==((dG x0 x8).f2))))=true then (some x8) else (bz.l0 k x0 x7 (wrap64 (x8+1)) x379000 x379001 x379002)) else (none)) else (none)) else (some (-1))
def bz.f(k:Nat)(l0:List (rq))(a1_0:ByteArray)(a1_1:Int)(a1_2:Int):Option (Int):=bz.l0 k l0 (l0.length:Int) 0 a1_0 a1_1 a1_2
theorem bz.qF:∀k,(∀y0 y1 y2 y3 y4 y5,fJ (bz.l0 k y0 y1 y2 y3 y4 y5) (bz.l0 (k+1) y0 y1 y2 y3 y4 y5))
 |0=>fun _ _ _ _ _ _ r h=>by simp[bz.l0] at h
 |k+1=>by
  have yH:=bz.qF k
  ·intro y0 y1 y2 y3 y4 y5;unfold bz.l0
   repeat' first
   |(with_reducible exact yH _ _ _ _ _ _)
   |(with_reducible exact fJ.refl _)
   |(with_reducible exact fJ.none _)
   |(with_reducible refine fJ.ite ?_ ?_)
   |(with_reducible refine fJ.bind ?_ (fun _=> ?_))
   |exact yH _ _ _ _ _ _
   |exact fJ.none _
   |refine fJ.ite ?_ ?_
   |refine fJ.bind ?_ (fun _=> ?_)
theorem bz.mono:∀a0 a1 a2 a3 k,fJ (bz.f k a0 a1 a2 a3) (bz.f (k+1) a0 a1 a2 a3):=by
 intro a0 a1 a2 a3 k;have yH:=bz.qF k;unfold bz.f
 repeat' first
  |(with_reducible exact yH _ _ _ _ _ _)
  |(with_reducible exact fJ.refl _)
  |(with_reducible exact fJ.none _)
  |(with_reducible refine fJ.ite ?_ ?_)
  |(with_reducible refine fJ.bind ?_ (fun _=> ?_))
  |exact yH _ _ _ _ _ _
  |exact fJ.none _
  |refine fJ.ite ?_ ?_
  |refine fJ.bind ?_ (fun _=> ?_)
theorem bz.calls(k:Nat)(A0:Option Addr)(c0:Nat)(l0:List (rq))(a1_0:ByteArray)(a1_1:Int)(a1_2:Int)(r:Int)(w:World)(hr0:Kd.C Ic w A0 l0.length l0)(hc0:l0.length<=c0)(h:bz.f k l0 a1_0 a1_1 a1_2=some r):
 Calls Tryz.prog 221 #[.slice A0 l0.length c0,.agg #[.string a1_0,.int .i64 a1_1,.int .i64 a1_2]] w fun e w'=>e=.returned (.int .i64 r)∧Below w.heap.size w w':=by
 have Xr:=Tryz.underlying272;have TN:=ai hr0;have Wh:=ai hc0;clear hr0 hc0;have HB:=ai (Below.refl w.heap.size w);have H:(bz.l0 k l0 (l0.length:Int) 0 a1_0 a1_1 a1_2)=some r:=h;clear h;have H':=ai H;clear H;go_enter Tryz.func221,Tryz.ntmps221
 go_wp2_with (first|((with_reducible refine sU (N:=3) rfl ?_);refine qZ ?hg (N:=3) ?hd (cs:= #[.string a1_0,.int .i64 a1_1,.int .i64 a1_2]) (t:=272) ?hr ?_;(case hd=>rfl);(case hg=>rfl);(case hr=>first|(go_simp;done)|(go_simp;rfl));intro gb378 hg w3 vB hb;have lJ:=ai (vB);have Rs:=ai ((by rw[hg];exact(dX (by repeat(first|(with_reducible first|exact HB.o|apply ae|apply ah|apply ak)|exact HB.o))):w.heap.size<=gb378));have Av:=ai ((by rw[hg];exact(dX (by repeat(first|(with_reducible first|exact HB.o|apply ae|apply ah|apply ak)|exact HB.o))):w.heap.size<=gb378));replace HB:=ai (mP (by repeat(first|(with_reducible first|exact HB.o|apply ae|apply ah|apply ak)|exact HB.o)) hb);clear hb vB hg))
 repeat(go_quiet (first|((with_reducible refine sU (N:=3) rfl ?_);refine qZ ?hg (N:=3) ?hd (cs:= #[.string a1_0,.int .i64 a1_1,.int .i64 a1_2]) (t:=272) ?hr ?_;(case hd=>rfl);(case hg=>rfl);(case hr=>first|(go_simp;done)|(go_simp;rfl));intro gb378 hg w3 vB hb;have lJ:=ai (vB);have Rs:=ai ((by rw[hg];exact(dX (by repeat(first|(with_reducible first|exact HB.o|apply ae|apply ah|apply ak)|exact HB.o))):w.heap.size<=gb378));have Av:=ai ((by rw[hg];exact(dX (by repeat(first|(with_reducible first|exact HB.o|apply ae|apply ah|apply ak)|exact HB.o))):w.heap.size<=gb378));replace HB:=ai (mP (by repeat(first|(with_reducible first|exact HB.o|apply ae|apply ah|apply ak)|exact HB.o)) hb);clear hb vB hg));try go_wp2_with (first|((with_reducible refine sU (N:=3) rfl ?_);refine qZ ?hg (N:=3) ?hd (cs:= #[.string a1_0,.int .i64 a1_1,.int .i64 a1_2]) (t:=272) ?hr ?_;(case hd=>rfl);(case hg=>rfl);(case hr=>first|(go_simp;done)|(go_simp;rfl));intro gb378 hg w3 vB hb;have lJ:=ai (vB);have Rs:=ai ((by rw[hg];exact(dX (by repeat(first|(with_reducible first|exact HB.o|apply ae|apply ah|apply ak)|exact HB.o))):w.heap.size<=gb378));have Av:=ai ((by rw[hg];exact(dX (by repeat(first|(with_reducible first|exact HB.o|apply ae|apply ah|apply ak)|exact HB.o))):w.heap.size<=gb378));replace HB:=ai (mP (by repeat(first|(with_reducible first|exact HB.o|apply ae|apply ah|apply ak)|exact HB.o)) hb);clear hb vB hg)))
 go_loopg [8] k (fun kq v8 w'=>∃(iD:Int),v8=.int .i64 iD∧ay (bz.l0 kq l0 (l0.length:Int) iD a1_0 a1_1 a1_2=some r)∧ay (kq<=k)∧ay (w'.heap[gb378]? =some (.cells #[.string a1_0,.int .i64 a1_1,.int .i64 a1_2] 272 (0,0)))∧ay (Below w.heap.size w w'))
 case atStart=>exact⟨(0),(by first|rfl|(simp;done)|(simp[*];done)),H',⟨Nat.le_refl _⟩,⟨by(with_reducible repeat(first|refine vX ?_ _|refine xW ?_|refine vC ?_ _));exact lJ.o⟩,⟨by repeat(first|(with_reducible first|exact HB.o|apply ae|apply ah|apply ak|refine au ?_ Av.o)|exact HB.o)⟩⟩
 case round=>
  clear H'
  try clear c2
  try clear p2
  obtain⟨iD,rfl,HA,rW,lJ,HB⟩:=hrel;cases gk with
  |zero=>exact absurd HA.o (by simp[bz.l0])
  |succ k1=>
   have H:=HA.o;clear HA;simp only[bz.l0] at H;by_cases c4:iD<(l0.length:Int)
   ·rw[if_pos c4] at H;have O5:decide (iD<(l0.length:Int))=true:=decide_eq_true c4;clear c4;by_cases c5:0<=iD
    ·rw[if_pos c5] at H;have aaJ:decide (0<=iD)=true:=decide_eq_true c5;clear c5;by_cases c6:iD<(l0.length:Int)
     ·rw[if_pos c6] at H;have Xv:decide (iD<(l0.length:Int))=true:=decide_eq_true c6;clear c6;by_cases c7:(a1_0.toList==(((dG l0 iD).f0).toList)&&(a1_1==((dG l0 iD).f1)&&(a1_2==((dG l0 iD).f2))))=true
      ·rw[if_pos c7] at H;have Z0:(a1_0.toList==(((dG l0 iD).f0).toList)&&(a1_1==((dG l0 iD).f1)&&(a1_2==((dG l0 iD).f2))))=true:=c7
       (try(have abg:decide (a1_0.toList=(((dG l0 iD).f0).toList)&&(a1_1==((dG l0 iD).f1)&&(a1_2==((dG l0 iD).f2))))=true:=by simpa using c7))
       (try(have abk:(a1_0.toList==(((dG l0 iD).f0).toList)&&(a1_1==((dG l0 iD).f1)&&(a1_2==((dG l0 iD).f2))))=true:=by simpa using c7))
       clear c7;obtain rfl:=Option.some.inj H;have pY:wr.cell? ⟨gb378,0,none⟩=some (.string a1_0):=bK lJ.o;have qb:wr.cell? ⟨gb378,1,none⟩=some (.int .i64 a1_1):=bS lJ.o;have qf:wr.cell? ⟨gb378,2,none⟩=some (.int .i64 a1_2):=dh lJ.o;have pU:=af lJ.o 0;have pW:=af lJ.o 1;have qg:=af lJ.o 2;have Gn:0<=(iD:Int):=of_decide_eq_true (by first|(with_reducible assumption)|assumption);have Ga:iD<(l0.length:Int):=of_decide_eq_true (by first|(with_reducible assumption)|assumption);obtain⟨Wq,Tu,o8,oK,oO⟩:=Js TN.o iD Gn Ga;cases Tu
       replace o8:=(HB.o.cell (World.block_lt_of_cell? w _ o8)).trans o8;replace oK:=(HB.o.cell (World.block_lt_of_cell? w _ oK)).trans oK;replace oO:=(HB.o.cell (World.block_lt_of_cell? w _ oO)).trans oO;replace Gn:=eq_true Gn;replace Ga:=eq_true Ga;go_wp2
       repeat(go_quiet (fail);try go_wp2)
       go_ret;exact⟨by first|rfl|(simp[bO,bP]<;>rfl)|(simp[*,bO,bP]<;>rfl),by repeat(first|(with_reducible first|exact HB.o|apply ae|apply ah|apply ak|refine au ?_ Av.o)|exact HB.o)⟩
      ·rw[if_neg c7] at H;have Z0:(a1_0.toList==(((dG l0 iD).f0).toList)&&(a1_1==((dG l0 iD).f1)&&(a1_2==((dG l0 iD).f2))))=false:=by simpa using c7
       (try(have abg:decide (a1_0.toList=(((dG l0 iD).f0).toList)&&(a1_1==((dG l0 iD).f1)&&(a1_2==((dG l0 iD).f2))))=false:=by simpa using c7))
       (try(have abk:(a1_0.toList==(((dG l0 iD).f0).toList)&&(a1_1==((dG l0 iD).f1)&&(a1_2==((dG l0 iD).f2))))=false:=by simpa using c7))
       (try(have adP:¬(a1_0.toList=(((dG l0 iD).f0).toList)&&(a1_1==((dG l0 iD).f1)&&(a1_2==((dG l0 iD).f2)))):=by simpa using c7))
       clear c7;have H':=ai H;clear H;have SL:wr.cell? ⟨gb378,0,none⟩=some (.string a1_0):=bK lJ.o;have Tz:wr.cell? ⟨gb378,1,none⟩=some (.int .i64 a1_1):=bS lJ.o;have TM:wr.cell? ⟨gb378,2,none⟩=some (.int .i64 a1_2):=dh lJ.o;have SH:=af lJ.o 0;have Ux:=af lJ.o 1;have Tv:=af lJ.o 2;have Gn:0<=(iD:Int):=of_decide_eq_true (by first|(with_reducible assumption)|assumption);have Ga:iD<(l0.length:Int):=of_decide_eq_true (by first|(with_reducible assumption)|assumption);obtain⟨Wq,Tu,o8,oK,oO⟩:=Js TN.o iD Gn Ga;cases Tu
       replace o8:=(HB.o.cell (World.block_lt_of_cell? w _ o8)).trans o8;replace oK:=(HB.o.cell (World.block_lt_of_cell? w _ oK)).trans oK;replace oO:=(HB.o.cell (World.block_lt_of_cell? w _ oO)).trans oO;replace Gn:=eq_true Gn;replace Ga:=eq_true Ga;go_wp2
       repeat(go_quiet (fail);try go_wp2)
       go_roundg k1
       case measure=>have:=rW.o;omega
       case rel=>exact⟨(wrap64 (iD+1)),(by first|rfl|(simp;done)|(simp[*];done)),H',⟨by have:=rW.o;omega⟩,⟨by(with_reducible repeat(first|refine vX ?_ _|refine xW ?_|refine vC ?_ _));exact lJ.o⟩,⟨by repeat(first|(with_reducible first|exact HB.o|apply ae|apply ah|apply ak|refine au ?_ Av.o)|exact HB.o)⟩⟩
     ·rw[if_neg c6] at H;exact absurd H (by simp)
    ·rw[if_neg c5] at H;exact absurd H (by simp)
   ·rw[if_neg c4] at H;have O5:decide (iD<(l0.length:Int))=false:=decide_eq_false c4;clear c4;obtain rfl:=Option.some.inj H;go_wp2
    repeat(go_quiet (fail);try go_wp2)
    go_ret;exact⟨by first|rfl|(simp[bO,bP]<;>rfl)|(simp[*,bO,bP]<;>rfl),by repeat(first|(with_reducible first|exact HB.o|apply ae|apply ah|apply ak|refine au ?_ Av.o)|exact HB.o)⟩
def eu.f(k:Nat)(l0:List (rq))(a1_0:ByteArray)(a1_1:Int)(a1_2:Int):Option (Bool):=(bz.f k l0 a1_0 a1_1 a1_2).bind fun Kq=>(some (decide (Kq≥0)))
theorem eu.mono:∀a0 a1 a2 a3 k,fJ (eu.f k a0 a1 a2 a3) (eu.f (k+1) a0 a1 a2 a3):=by
 intro a0 a1 a2 a3 k;unfold eu.f
 repeat' first
  |(with_reducible exact bz.mono _ _ _ _ _)
  |(with_reducible exact fJ.refl _)
  |(with_reducible exact fJ.none _)
  |(with_reducible refine fJ.ite ?_ ?_)
  |(with_reducible refine fJ.bind ?_ (fun _=> ?_))
  |exact bz.mono _ _ _ _ _
  |exact fJ.none _
  |refine fJ.ite ?_ ?_
  |refine fJ.bind ?_ (fun _=> ?_)
theorem eu.calls(k:Nat)(A0:Option Addr)(c0:Nat)(l0:List (rq))(a1_0:ByteArray)(a1_1:Int)(a1_2:Int)(r:Bool)(w:World)(hr0:Kd.C Ic w A0 l0.length l0)(hc0:l0.length<=c0)(h:eu.f k l0 a1_0 a1_1 a1_2=some r):
 Calls Tryz.prog 163 #[.slice A0 l0.length c0,.agg #[.string a1_0,.int .i64 a1_1,.int .i64 a1_2]] w fun e w'=>e=.returned (.bool r)∧Below w.heap.size w w':=by
 have Xr:=Tryz.underlying272;have TN:=ai hr0;have Wh:=ai hc0;clear hr0 hc0;have HB:=ai (Below.refl w.heap.size w);have H:((bz.f k l0 a1_0 a1_1 a1_2).bind fun Kq=>(some (decide (Kq≥0))))=some r:=h;clear h;replace H:=Option.bind_eq_some_iff.mp H;obtain⟨Kq,Vd,H⟩:=H;replace H:(some (decide (Kq≥0)))=some r:=H;have A3:=ai Vd;clear Vd;obtain rfl:=Option.some.inj H;go_enter Tryz.func163,Tryz.ntmps163
 go_wp2_with (first|((with_reducible refine sU (N:=3) rfl ?_);refine qZ ?hg (N:=3) ?hd (cs:= #[.string a1_0,.int .i64 a1_1,.int .i64 a1_2]) (t:=272) ?hr ?_;(case hd=>rfl);(case hg=>rfl);(case hr=>first|(go_simp;done)|(go_simp;rfl));intro gb380 hg w4 vB hb;have sW:=ai (vB);have acI:=ai ((by rw[hg];exact(dX (by repeat(first|(with_reducible first|exact HB.o|apply ae|apply ah|apply ak)|exact HB.o))):w.heap.size<=gb380));have RG:=ai ((by rw[hg];exact(dX (by repeat(first|(with_reducible first|exact HB.o|apply ae|apply ah|apply ak)|exact HB.o))):w.heap.size<=gb380));replace HB:=ai (mP (by repeat(first|(with_reducible first|exact HB.o|apply ae|apply ah|apply ak)|exact HB.o)) hb);clear hb vB hg;have pO:w4.cell? ⟨gb380,0,none⟩=some (.string a1_0):=bK sW.o;have qw:w4.cell? ⟨gb380,1,none⟩=some (.int .i64 a1_1):=bS sW.o;have p9:w4.cell? ⟨gb380,2,none⟩=some (.int .i64 a1_2):=dh sW.o;have qc:=af sW.o 0;have pM:=af sW.o 1;have qK:=af sW.o 2)|((with_reducible refine Dz (f:=221) rfl ?_);refine TH (some 7) rfl rfl Tryz.func221 (by kernel_rfl) rfl #[.slice A0 l0.length c0,.agg #[.string a1_0,.int .i64 a1_1,.int .i64 a1_2]] rfl (by(try simp only[List.map_toArray,List.map_cons,List.map_nil]);first|done|rfl|(simp only[List.length_drop,List.length_take];rfl)) ?_;(with_reducible refine(bz.calls k _ _ l0 a1_0 a1_1 a1_2 Kq _ ?side1 ?side2 A3.o).mono ?_);(case side1=>repeat(first|exact(Kd.aY TN.o HB.o)|(with_reducible refine Kd.Qw ?_ _)|(with_reducible refine Kd.PK ?_ _)|(with_reducible refine Kd.Te ?_)));(case side2=>exact Wh.o);rintro e w6 ⟨rfl,hb⟩;refine⟨_,rfl, ?_⟩;have dH:=ai (KL (g:=gb380) (o:=.cells #[.string a1_0,.int .i64 a1_1,.int .i64 a1_2] 272 (0,0)) (by(with_reducible repeat(first|refine vX ?_ _|refine xW ?_|refine vC ?_ _));exact sW.o) hb);have dU:=ai (mP (by repeat(first|(with_reducible first|exact HB.o|apply ae|apply ah|apply ak|refine au ?_ RG.o)|exact HB.o)) hb);clear sW;clear HB;have sW:=dH;have HB:=dU;clear dH dU;(try clear hb);(try clear hb2);(try clear hk);(try clear hi)))
 go_ret;exact⟨by first|rfl|(simp[bO,bP]<;>rfl)|(simp[*,bO,bP]<;>rfl),by repeat(first|(with_reducible first|exact HB.o|apply ae|apply ah|apply ak|refine au ?_ RG.o)|exact HB.o)⟩
end Go.Proofs.YtnmpijbcajclgaaGreatDoor.PNodeAlone
end
section
namespace Go.Proofs.YtnmpijbcajclgaaGreatDoor.Mine
open Go.Maps Go.RowKit YtnmpijbcajclgaaGreatDoorW.PrintWords YtnmpijbcajclgaaGreatDoorW.PrintLast YtnmpijbcajclgaaGreatDoorW.PrintMore
open PNodeAlone
theorem RU{α β:Type}{d:Kd α}{d':Kd β}(f:α->β){w:World}(hsz:d.sz=d'.sz)(hK:∀x cs,d.K w x cs->d'.K w (f x) cs){A:Option Addr}{n:Nat}{xs:List α}(h:Kd.C d w A n xs):Kd.C d' w A n (xs.map f):=by
 refine⟨by rw[List.length_map];exact h.1,h.2.1,fun hp=> ?_⟩;obtain⟨ad,e,hc⟩:=h.2.2 hp;refine⟨ad,e,fun i p hi=> ?_⟩;rw[List.getElem?_map,Option.map_eq_some_iff] at hi;obtain⟨x,hx,rfl⟩:=hi;obtain⟨cs,h1,h2,h3⟩:=hc i x hx;exact⟨cs,by rw[<-hsz];exact h1,hK x cs h2,by rw[<-hsz];exact h3⟩
def rz.s(x:rz):rq:=⟨x.cz,x.fG,x.seq⟩
theorem EJ(cz:ByteArray)(fG q:Int)(xs:List rq)(hl:xs.length<=600)(hno:∀s∈xs,¬(cz=s.f0∧fG=s.f1∧q=s.f2)):∀(k i:Nat),i<=xs.length->i+k=xs.length+1->bz.l0 k xs (xs.length:Int) (i:Int) cz fG q=some (-1)
 |0,i,h0,h=>by
  omega
 |k+1,i,h0,h=>by
  rw[bz.l0];by_cases hi:i<xs.length
  ·have hm:=hno _ (List.getElem_mem hi);have hr:dG xs (i:Int)=xs[i]:=by
    unfold dG;rw[Int.toNat_natCast,List.getD_eq_getElem?_getD,List.getElem?_eq_getElem hi];rfl
   rw[if_pos (by omega),if_pos (by omega),if_pos (by omega),hr,if_neg ?_,show wrap64 ((i:Int)+1)=((i+1:Nat):Int) from by unfold wrap64;omega]
   ·exact EJ cz fG q xs hl hno k (i+1) (by omega) (by omega)
   ·intro he;simp only[Bool.and_eq_true,beq_iff_eq] at he;exact hm ⟨by have h1:=he.1;simp only[Go.Lib.toList_data] at h1;exact ByteArray.ext (Array.toList_inj.1 h1),he.2.1,he.2.2⟩
  ·rw[if_neg (by omega)]
theorem Lp(A:Option Addr)(c:Nat)(xs:List rz)(cz:ByteArray)(fG q:Int)(w:World)(hC:Kd.C Lv w A xs.length xs)(hc:xs.length<=c)(hl:xs.length<=600)(hno:∀s∈xs,¬(cz=s.cz∧fG=s.fG∧q=s.seq)):
 Calls Tryz.prog 163 #[.slice A xs.length c,.agg #[.string cz,.int .i64 fG,.int .i64 q]] w fun e w'=>e=.returned (.bool false)∧Below w.heap.size w w':=by
 have hm:=RU (d':=Ic) rz.s rfl (fun x cs hx=>by rw[E9 hx];exact IA w x.s) hC;have hlen:(xs.map rz.s).length=xs.length:=List.length_map _;have h:=eu.calls (xs.length+1) A c (xs.map rz.s) cz fG q false w (by rw[hlen];exact hm) (by rw[hlen];exact hc) (by
  unfold eu.f bz.f;have hz:=EJ cz fG q (xs.map rz.s) (by omega) (fun s hs=>by
   obtain⟨x,hx,rfl⟩:=List.mem_map.1 hs;exact hno x hx) (xs.length+1) 0 (Nat.zero_le _) (by omega)
  rw[show (((0:Nat):Int))=0 from rfl] at hz;rw[hz];rfl)
 rwa [hlen] at h
theorem Et(cz:ByteArray)(fG q:Int)(xs:List rq)(hl:xs.length<=600):∀(k i:Nat),i<=xs.length->i+k=xs.length+1->(∃j,i<=j∧∃h:j<xs.length,cz=xs[j].f0∧fG=xs[j].f1∧q=xs[j].f2)->∃r:Nat,bz.l0 k xs (xs.length:Int) (i:Int) cz fG q=some (r:Int)
 |0,i,h0,h,_=>by
  omega
 |k+1,i,h0,h,hj=>by
  obtain⟨j,hij,hjl,e0,e1,e2⟩:=hj;rw[bz.l0];have hi:i<xs.length:=by omega
  have hr:dG xs (i:Int)=xs[i]:=by
   unfold dG;rw[Int.toNat_natCast,List.getD_eq_getElem?_getD,List.getElem?_eq_getElem hi];rfl
  rw[if_pos (by omega),if_pos (by omega),if_pos (by omega),hr];split
  ·exact⟨i,rfl⟩
  ·rename_i hm
   rw[show wrap64 ((i:Int)+1)=((i+1:Nat):Int) from by unfold wrap64;omega];refine Et cz fG q xs hl k (i+1) (by omega) (by omega) ⟨j, ?_,hjl,e0,e1,e2⟩;rcases Nat.lt_or_ge i j with h3|h3
   ·exact h3
   ·have:i=j:=by omega
    subst this;exact absurd (by rw[<-e0,<-e1,<-e2];simp) hm
theorem Gf(A:Option Addr)(c:Nat)(xs:List rz)(cz:ByteArray)(fG q:Int)(w:World)(hC:Kd.C Lv w A xs.length xs)(hc:xs.length<=c)(hl:xs.length<=600)(hy:∃s∈xs,cz=s.cz∧fG=s.fG∧q=s.seq):
 Calls Tryz.prog 163 #[.slice A xs.length c,.agg #[.string cz,.int .i64 fG,.int .i64 q]] w fun e w'=>e=.returned (.bool true)∧Below w.heap.size w w':=by
 have hm:=RU (d':=Ic) rz.s rfl (fun x cs hx=>by rw[E9 hx];exact IA w x.s) hC;have hlen:(xs.map rz.s).length=xs.length:=List.length_map _;obtain⟨s,hs,e0,e1,e2⟩:=hy;obtain⟨j,hj,rfl⟩:=List.getElem_of_mem hs;obtain⟨r,hz⟩:=Et cz fG q (xs.map rz.s) (by omega) (xs.length+1) 0 (by omega) (by omega) ⟨j,Nat.zero_le _,by omega,by rw[List.getElem_map];exact e0,by rw[List.getElem_map];exact e1,by rw[List.getElem_map];exact e2⟩;have h:=eu.calls (xs.length+1) A c (xs.map rz.s) cz fG q true w (by rw[hlen];exact hm) (by rw[hlen];exact hc) (by
  unfold eu.f bz.f;rw[show (((0:Nat):Int))=0 from rfl] at hz;rw[hz];exact congrArg some (decide_eq_true (by omega)))
 rwa [hlen] at h
end Go.Proofs.YtnmpijbcajclgaaGreatDoor.Mine
end
