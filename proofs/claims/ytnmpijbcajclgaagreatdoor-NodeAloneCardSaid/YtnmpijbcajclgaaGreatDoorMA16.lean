/- Texts of one claim, one behind the other, made short by a program. -/
import Derived.Test.YtnmpijbcajclgaaGreatDoorMA15
set_option maxHeartbeats 8000000
set_option linter.unusedSimpArgs false
set_option linter.unusedVariables false
set_option maxRecDepth 100000
section
namespace Go.Proofs.YtnmpijbcajclgaaGreatDoor.Mine
open Tryz
open Go.Maps Go.RowKit YtnmpijbcajclgaaGreatDoorW.PrintWords YtnmpijbcajclgaaGreatDoorW.PrintLast YtnmpijbcajclgaaGreatDoorW.PrintMore
open PNodeAlone
open Value renaming slice->Vs
theorem sw{H:Type}{w:World}{P:Program}{k:TypeId}{R:Value->Option (DataW H×List MemPlace)}{b r n:Nat}{D:DataW H}{left:Lit->Bool}{cnt:Nat}(h:w.ranges P k R b r n D left cnt):cnt<=n:=by
 obtain⟨es,clock,since,seen,c0,_,_,hs,_,_,_,hc,_⟩:=h;rw[<-hc];refine Nat.le_trans ?_ hs;unfold leftOf;exact Array.size_filter_le
theorem Ih(base g:Nat)(h:Hd)(N:eG)(a now:Int)(w:World)(hI:cK base w g h N)(hbase:base<=w.heap.size)(hF:fV N)(hG:oI N)(hlo:N.lost<=900000):
 Calls prog 13 #[.pointer (some ⟨g,0,none⟩),.int .i64 now,.iface rG (.int .i64 a)] w fun e w'=>e=.returned (.tuple #[])∧∃h' N',G6 N N'∧cK base w' g h' N'∧Fr base g w h w' h':=by
 have Rv:=ai (And.intro hG hlo);have HS:=ai hbase;have HF:=ai hF;have i1:cK base (w.setCell ⟨g,13,none⟩ (.int .i64 now)) g h {N with tick:=now}:=cK.of (bg hI.blk 13 (.int .i64 now)) rfl hI.gb (let r:=hI.rows.set hI.blk (by decide) 13 (.int .i64 now);⟨r.sch,r.sub,r.seen,r.box,r.opn,r.lnk,r.sent⟩);have f1:=Fr.set (w:=w) (h:=h) hI.gb 13 (.int .i64 now);have y13:=hI.cell 13;have y13:=y13.trans (show _=some (Value.int .i64 N.tick) from rfl);have z13:=af hI.blk 13;clear hI hbase hF hG hlo;go_enter func13,ntmps13
 go_upto_region 1 with (fail)
 generalize w.setCell ⟨g,13,none⟩ (.int .i64 now)=W1 at i1 f1|-;clear y13 z13;have HI:=ai i1;have lX:=ai f1;obtain⟨D,hown,Er⟩:=i1.rows.lnk.1;have Wm:=(i1.cell 10).trans (show _=some (Value.map (some h.bl)) from rfl);clear i1 f1 Er;go_wp2_with (first
  |(at_range;refine wpList_range_own _ rfl _ 105 rfl 3 170 kU underlying105 _ h.bl 0 _ rfl hown ?_;intro w0 hrg0 hg0 hs0)
  |fail)
 go_frame;have hb0:Below W1.heap.size W1 w0:=⟨hg0.os,hg0.tape,hg0.output,hg0.size,fun i hi=>hg0.block i hi (by simp)⟩
 have HI0:=ai (HI.o.below hb0);have HF0:=ai (lX.o.then hb0 HS.o);have hcnt:=sw hrg0;have wD:=ai (And.intro hcnt hrg0);generalize Maps.size D=cnt0 at wD;generalize W1.heap.size=r at wD|-;clear hrg0 hg0 hs0 hb0 hcnt hown Wm HI lX;have Xi:ay (∀key kl,keyOf prog 3 key=some kl->∃x,key=kI x):=⟨fun key kl hkey=>by obtain⟨x,rfl,_⟩:=Maps.keyOf_int_inv underlying3 hkey;exact⟨x,rfl⟩⟩
 go_loopg [6] 1 (fun kk v6 W=>W=w0)
 case atStart=>exact rfl
 case round=>
  subst hrel;go_wp2_with (first
   |(at_next;go_loud (refine wpList_next_ranges _ rfl _ rfl 3 kU PT kI (fun c:Value=>c) Xi.o (fun v y hv=>⟨v,rfl⟩) h.bl r 0 D _ _ rfl wD.o.2 ?_ ?_))
   |fail)
  ·intro _ _;go_wp2_with fail
   refine(JY base g h {N with tick:=now} now _ HI0.o (Nat.le_trans HS.o HF0.o.below.size)).mono ?_;rintro e w2 ⟨rfl,hI2,hF2⟩;have HI2:=ai hI2;have XF:=ai (HF0.o.trans hF2);have y5:=(hI2.cell 5).trans (show _=some (Vs none 0 0) from rfl);clear hI2 hF2;go_wp2_with fail
   refine(BC g w2 y5).mono ?_;rintro e w3 ⟨rfl,rfl⟩;go_wp2_with fail
   have Be:ay (fV {N with tick:=now}):=⟨⟨HF.o.chk,HF.o.lev,HF.o.seq,HF.o.last,HF.o.nSub,HF.o.flt,HF.o.cz,HF.o.nOpn,HF.o.evs,HF.o.nBox,HF.o.nSent⟩⟩
   clear y5;go_loopg [8,53] 1 (fun kk v8 v53 W=>v53=.int .i64 0∧ay (Below w3.heap.size w3 W))
   case atStart=>exact⟨rfl,⟨Below.refl _ _⟩⟩
   case round=>
    obtain⟨rfl,HB3⟩:=hrel;go_wp2_with fail
    refine(K3 base g h {N with tick:=now} _ (HI2.o.below HB3.o) Be.o).mono ?_;rintro e w4 ⟨A4,n4,c4,ys,rfl,RJ,hsm,hC4,hb4⟩;have YD:=ai (And.intro RJ (And.intro hsm hC4));have HI4:=ai ((HI2.o.below HB3.o).below hb4);have HF4:=ai ((XF.o.then HB3.o HS.o).then hb4 HS.o);clear RJ hsm hC4 hb4 HB3 HI2 XF;go_wp2_with fail
    have Rx:=ai (Below.refl w4.heap.size w4);go_loopg [12,13,14,83] (n4+1) (fun kk v12 v13 v14 v83 W=>∃i:Nat,ay (i<=n4∧kk+i=n4+1)∧v83=.int .i64 (i:Int)∧ay (Below w4.heap.size w4 W))
    case atStart=>exact⟨0,⟨by omega,by omega⟩,rfl,Rx⟩
    case round=>
     clear Rx;obtain⟨i,HM,rfl,HB⟩:=hrel;by_cases hi:i<n4
     ·have b1:decide ((i:Int)<(n4:Int))=true:=decide_eq_true (by omega);have b2:decide (i<n4)=true:=decide_eq_true (by omega);have p1:(0:Int)<=(i:Int):=by omega
      have p2:(i:Int)<(n4:Int):=by omega
      obtain⟨ad,x,hA,hx,h0⟩:=Cq (Kd.aY YD.o.2.2 HB.o) i hi;subst hA;have HX:=ai (YD.o.2.1 x (List.mem_of_getElem? hx));have y0:=((HI4.o.below HB.o).cell 0).trans (show _=some (Value.int .i64 N.addr) from rfl);clear hx;go_upto_region 20 with (fail)
      have na:=AZ a;have nm:=Ff a;have Y9:=ai (fun (W:World)=>BF x W HX.o);go_cut [13,14] (fun s13 s14 wx=>s13=.int .i64 N.addr∧s14=.nilIface∧ay (Below w4.heap.size w4 wx))
      case first=>
       go_region_law (first
        |(go_simp;go_at_call 51;(with_reducible refine(Y9.o _).mono ?_);rintro e wx ⟨⟨kk,rfl⟩,hbx⟩;replace HB:=ai (aD (aK HB.o) (aK HB.o).size hbx);have z0:=av hbx y0;clear hbx)
        |(go_simp;go_at_call 275;(with_reducible refine(DT _ _ _ _).mono ?_);rintro e wy ⟨rfl,rfl⟩))
       all_goals
        go_wp2_with fail
        go_meet;exact⟨rfl,rfl,HB⟩
      case rest=>
       clear HB y0;obtain⟨rfl,rfl,HB⟩:=hcut;have y0:=((HI4.o.below HB.o).cell 0).trans (show _=some (Value.int .i64 N.addr) from rfl);go_wp2_with fail
       go_roundg (gk-1)
       case measure=>have:=HM.o;omega
       case rel=>exact⟨i+1,⟨by omega,by have:=HM.o;omega⟩,by rw[jK (by omega) (by have:=YD.o.1;omega)];rfl,HB⟩
     ·have b1:decide ((i:Int)<(n4:Int))=false:=decide_eq_false (by omega);have b2:decide (i<n4)=false:=decide_eq_false (by omega);have i5:=HI4.o.below HB.o;have f5:=HF4.o.then HB.o HS.o;have hsz5:=f5.below.size;clear HM HB HI4 HF4 YD;obtain⟨A8,c8,El,hc8,_⟩:=Kd.bB i5.rows.opn;obtain⟨n8,Sd⟩:∃n,n=N.opn.length:=⟨_,rfl⟩
      have y8:=(i5.cell 8).trans (show _=some (Vs A8 n8 c8) from by rw[Sd,<-El];rfl);have Xf:Kd.R zO nM wr base (fun _=>True) (.slice A8 n8 c8) N.opn:=by have h:=i5.rows.opn;rw[El] at h;rw[Sd];exact h
      have HL8:=ai (show n8<=8 from by rw[Sd];exact HF.o.nOpn);have vQ:=ai (ZG.row (base:=base) (Nat.le_trans HS.o hsz5) Xf (by have:=HL8.o;omega) (by decide));have GY:=ai i5;have HF5:=ai f5;have Yh:=ai Sd;clear El hc8 Xf i5 f5 hsz5 Sd;go_wp2_with fail
      refine vQ.o.mono ?_;rintro e w5 ⟨A5,c5,rfl,Pb,zR,hb5⟩;have hG0:oI {N with tick:=now}:=⟨Rv.o.1.seqs,Rv.o.1.high,Rv.o.1.seenO,Rv.o.1.sentO,Rv.o.1.addr,Rv.o.1.lost⟩
      have Yu:=ai (And.intro hG0 (show ({N with tick:=now}:eG).lost<=900000 from Rv.o.2));have HI6:=ai (GY.o.below hb5);have HF6:=ai (HF5.o.then hb5 HS.o);have UF:=ai (Fr.ZY HI6.o Pb (fun k hk=>Off.new GY.o (zR k hk) (Kd.Qf Pb k hk)) (by decide+kernel));have HT6:=ai (yS.start hG0 Be.o);clear hG0 Pb zR hb5 vQ GY HF5 y8 Rv;go_wp2_with fail
      go_loopg [18,20,136] (n8+1) (fun kk v18 v20 v136 W=>∃(i:Nat) (hh:Hd) (M:eG),ay (i<=n8∧kk+i=n8+1)∧v136=.int .i64 (i:Int)∧ay (yS {N with tick:=now} i M)∧ay (cK base W g hh M)∧ay (Fr base g w h W hh)∧ay (Kd.R zO nM W base (fun k=>¬hh.own g k∧k<W.heap.size) (.slice A5 n8 c5) N.opn))
      case atStart=>exact⟨0,h,_,⟨by omega,by omega⟩,rfl,HT6,HI6,HF6,UF⟩
      case round=>
       clear HT6 HI6 HF6 UF;obtain⟨i,hh,M,HM,rfl,HT,HI,lX,HR⟩:=hrel;by_cases hi:i<n8
       ·have b1:decide ((i:Int)<(n8:Int))=true:=decide_eq_true (by omega);have b2:decide (i<n8)=true:=decide_eq_true (by omega);have p1:(0:Int)<=(i:Int):=by omega
        have p2:(i:Int)<(n8:Int):=by omega
        obtain⟨ko,hko⟩:∃z,z+1=gk:=⟨gk-1,by have:=HM.o;omega⟩
        have MN:=ai hko;clear hko;obtain⟨ad,x,B,k,b,D,l,e,hA,hx,c0,c1,c2,c3,hV,hW⟩:=Tx HR.o i hi;cases hA
        have HX:=ai hx;have HV:=ai hV;have HW:=ai hW;clear hx hV hW;go_upto_region 28 with (fail)
        have gZ:=ae (Below.refl wr.heap.size wr) (.cells #[.int .i64 x.seq,.slice B k b,.string x.pay,.slice D l e] nM);have lh:=heap_alloc_new wr (.cells #[.int .i64 x.seq,.slice B k b,.string x.pay,.slice D l e] nM);clear c0 c1 c2 c3;generalize wr.alloc (.cells #[.int .i64 x.seq,.slice B k b,.string x.pay,.slice D l e] nM)=W7 at gZ lh|-;replace HR:=ai (Fr.Rn (Fr.of_below (g:=g) (h:=hh) gZ (Nat.le_trans HS.o lX.o.below.size)) HR.o);replace HV:=ai (Fr.Rn (Fr.of_below (g:=g) (h:=hh) gZ (Nat.le_trans HS.o lX.o.below.size)) HV.o);replace HW:=ai (Fr.Rn (Fr.of_below (g:=g) (h:=hh) gZ (Nat.le_trans HS.o lX.o.below.size)) HW.o);replace lX:=ai (lX.o.then gZ HS.o);have HO:=ai (Off.new HI.o (Nat.le_refl _) (aI lh));replace HI:=ai (HI.o.below gZ);clear gZ;generalize wr.heap.size=gb at lh HO|-;have HK:=ai lh;have Rz:=ai (show QZ {N with tick:=now} i 0 x M from .inl ⟨rfl,HT.o⟩);have e3:=dA lh;have HLW:=ai (And.intro (Kd.bN HW.o).1 ((Be.o.evs x (List.mem_of_getElem? HX.o)).2.2.1));clear lh HT;go_wp2_with fail
        clear e3;go_loopg [20,143] (l+1) (fun kk v20 v143 W=>∃(j:Nat) (hh:Hd) (M:eG),ay (j<=l∧kk+j=l+1)∧v143=.int .i64 (j:Int)∧ay (QZ {N with tick:=now} i j x M)∧ay (cK base W g hh M)∧ay (Fr base g w h W hh)∧ay (Kd.R zO nM W base (fun k=>¬hh.own g k∧k<W.heap.size) (.slice (some ad) n8 c5) N.opn)∧ay (Kd.R pI tV W base (fun k=>¬hh.own g k∧k<W.heap.size) (.slice B k b) x.V)∧ay (Kd.R Kd.string tS W base (fun k=>¬hh.own g k∧k<W.heap.size) (.slice D l e) x.want)∧ay (Off W hh g gb)∧ay (W.heap[gb]? =some (.cells #[.int .i64 x.seq,.slice B k b,.string x.pay,.slice D l e] nM (0,0))))
        case atStart=>exact⟨0,hh,M,⟨by omega,by omega⟩,rfl,Rz,HI,lX,HR,HV,HW,HO,HK⟩
        case round=>
         clear Rz HI lX HR HV HW HO HK;obtain⟨j,hj0,M,HMJ,rfl,Rz,HI,lX,HR,HV,HW,HO,HK⟩:=hrel;by_cases hj:j<l
         ·have b1:decide ((j:Int)<(l:Int))=true:=decide_eq_true (by omega);have b2:decide (j<l)=true:=decide_eq_true (by omega);have p1:(0:Int)<=(j:Int):=by omega
          have p2:(j:Int)<(l:Int):=by omega
          have hCW:=(Kd.bN HW.o).2.2;rw[<-(Kd.bN HW.o).1] at hCW;obtain⟨rR,cz,hA2,hgx,g0⟩:=Cq hCW j hj;subst hA2;have HRT:=ai (fun (W:World) (hb:Below wr.heap.size wr W)=>Iq base g k b hj0 {N with tick:=now} M a i j x cz B W Yu.o.1 Be.o Yu.o.2 (HI.o.below hb) (Nat.le_trans HS.o (Nat.le_trans lX.o.below.size hb.size)) HX.o hgx (Kd.dD (Kd.bJ HV.o hb) (fun _ _=>trivial)) Rz.o);unfold fT at HRT;have y0:=(HI.o.cell 0).trans (show _=some (Value.int .i64 M.addr) from rfl);have e0:=bK HK.o;have e1:=bS HK.o;have e2:=dh HK.o;clear hCW hgx;go_upto_region 31 with (fail)
          go_still_tail 12,(by kernel_rfl)
          change wpList _ _ _ _ _ wr.drew;go_wp2_with fail
          refine(HRT.o _ (aK (Below.refl _ _))).mono ?_;rintro r w8 ⟨rfl,h8,M8,hS8,hI8,hF8⟩;have hd8:=aK (Below.refl wr.heap.size wr);have hfw:=Nat.le_trans HS.o lX.o.below.size;have fd:=(Fr.of_below (g:=g) (h:=hj0) hd8 hfw).trans hF8;have dH:=ai (show QZ {N with tick:=now} i (j+1) x M8 from .inr ⟨Nat.succ_pos j,hS8⟩);have dU:=ai hI8;have dS:=ai (lX.o.trans fd);have Gq:=ai (Fr.Rn fd HR.o);have yX:=ai (Fr.Rn fd HV.o);have uy:=ai (Fr.Rn fd HW.o);have Bj:=ai (Off.keep HO.o fd);have Hu:=ai (Off.blk HO.o fd HK.o);clear Rz HI lX HR HV HW HO HK hS8 hI8 hF8 hd8 hfw fd y0 e0 e1 e2 g0 HRT;go_wp2_with fail
          go_roundg (gk-1)
          case measure=>have:=HMJ.o;omega
          case rel=>exact⟨j+1,h8,M8,⟨by omega,by have:=HMJ.o;omega⟩,by rw[jK (by omega) (by have:=HLW.o;omega)];rfl,dH,dU,dS,Gq,yX,uy,Bj,Hu⟩
         ·have b1:decide ((j:Int)<(l:Int))=false:=decide_eq_false (by omega);have b2:decide (j<l)=false:=decide_eq_false (by omega);have hjl:j=x.want.length:=by have:=HMJ.o;have:=HLW.o.1;omega
          have HT:=ai (show yS {N with tick:=now} (i+1) M from by
           rcases Rz.o with⟨h0,_⟩|⟨_,hM⟩
           ·have:=(Be.o.evs x (List.mem_of_getElem? HX.o)).2.1;omega
           ·rw[hjl] at hM;exact hM.done Yu.o.1 HX.o)
          clear Rz HV HW HO HK hjl;go_wp2_with fail
          go_roundg ko
          case measure=>have:=MN.o;omega
          case rel=>exact⟨i+1,hj0,M,⟨by omega,by have:=HM.o;have:=MN.o;omega⟩,by rw[jK (by omega) (by have:=HL8.o;omega)];rfl,HT,HI,lX,HR⟩
       ·have b1:decide ((i:Int)<(n8:Int))=false:=decide_eq_false (by omega);have b2:decide (i<n8)=false:=decide_eq_false (by omega);have hin:i=N.opn.length:=by have:=HM.o;have:=Yh.o;omega
        subst hin;have hT:=HT.o.end_ Yu.o.1 Be.o;have HE:=ai (show G6 N M from⟨hT.pl,hT.S,hT.lev,hT.fit,hT.go,hT.lost⟩);clear HT hT HR;go_wp2
        first|go_end0|((try simp only[Exit.inBlock,Exit.then]);refine bodyPost_ret (results_none rfl _ _ _) rfl ?_)
        exact⟨rfl,hh,M,HE.o,HI.o,lX.o⟩
  ·intro x c kl y w' cnt' _ _ _ _ _ hlt;have:=wD.o.1;omega
theorem T9:(prog.info? 127).map (fun i=>(i.zero,i.size,i.bytes))=some (some (.agg #[(.int .i64 0),(.slice none 0 0),(.string ⟨#[]⟩),(.slice none 0 0)]),4,72):=by kernel_rfl
theorem Ey(base g k c:Nat)(h:Hd)(N:eG)(E:Option Addr)(V:List SV)(pay:ByteArray)(w:World)(hI:cK base w g h N)(hF:fV N)(hk:V.length=k)(hr:Kd.C pI w E k V)(hT:gF w)(i:Nat)(heb:dV N.S V pay=some i):
 Calls prog 12 #[.pointer (some ⟨g,0,none⟩),kR E k c pay] w fun e w'=>Below w.heap.size w w'∧∃b n,e=.returned (.tuple #[.int .i64 0,fw b])∧eX w' 3 n (fw b):=by
 have HI:=ai hI;have HF:=ai hF;have HR:=ai hr;have HT:=ai hT;obtain⟨A,c0,Af,Dq,hCS⟩:=Kd.bB hI.rows.sch;have HS:=ai (And.intro Dq hCS);have Us:=ai Af;have HK:=ai hk;clear hI hF hr hT Af Dq hCS hk;unfold kR;go_enter func12,ntmps12
 go_upto_region 1 with (fail)
 have ha:=ae (Below.refl w.heap.size w) (.cells #[.slice E k c,.string pay] 40);have jC:=ai (heap_alloc_new w (.cells #[.slice E k c,.string pay] 40));have hs1:(w.alloc (.cells #[.slice E k c,.string pay] 40)).heap.size=w.heap.size+1:=by show (w.heap.push _).size=_;exact Array.size_push _
 have HB:=ai ha;generalize w.alloc (.cells #[.slice E k c,.string pay] 40)=wa at jC HB hs1|-;obtain⟨ge,hge⟩:∃x,x=w.heap.size:=⟨_,rfl⟩
 rw[<-hge] at jC hs1|-;have Pq:=ai (And.intro hge hs1);clear ha hge hs1;have HI1:=HI.o.below HB.o;have y1:=(HI1.cell 1).trans (show _=some (Value.int .i64 N.levels) from rfl);have y2:=(HI1.cell 2).trans (show _=some (Vs A N.S.length c0) from by rw[<-Us.o];rfl);have e0:=bK jC.o;have e1:=bS jC.o;have FJ:=ai (fun W (hb:Below w.heap.size w W)=>uQ A E N.S.length k c0 c N.S V pay N.levels W HF.o.lev.1 HF.o.lev.2 rfl HK.o (Kd.aY HS.o.2 hb) (Kd.aY HR.o hb) HF.o.chk HS.o.1 (gF.below HT.o hb));unfold kR at FJ;clear HI1;have II:=ai heb;clear heb;go_region_held3 (fun X=>X.cell? ⟨g,1,none⟩=some (.int .i64 N.levels)∧X.cell? ⟨g,2,none⟩=some (.slice A N.S.length c0)∧X.cell? ⟨ge,0,none⟩=some (.slice E k c)∧X.cell? ⟨ge,1,none⟩=some (.string pay)) (go_keep) (first
  |(go_at_call 44;(with_reducible refine(FJ.o _ ?tb).mono ?_);(case tb=>(with_reducible repeat(first|exact HB.o|apply ah|apply ak|apply aK|apply ae)));rintro e wx ⟨hbx,hq⟩;obtain⟨b,n,rfl,hE⟩:∃b n,e=.returned (.tuple #[.slice none 0 0,fw b])∧eX wx 3 n (fw b):=(by rcases hq with⟨h1,_⟩|⟨_,b,n,h2,h3⟩;rotate_left;exact⟨b,n,h2,h3⟩;(rw[II.o] at h1;cases h1));replace HB:=ai (aD (by(with_reducible repeat(first|exact HB.o|apply ah|apply ak|apply aK|apply ae))) (Below.size (by(with_reducible repeat(first|exact HB.o|apply ah|apply ak|apply aK|apply ae)))) hbx);have z0:=av hbx y1;have z1:=av hbx y2;have z2:=av hbx e0;have z3:=av hbx e1;clear hq hbx))
 have hfin:=And.intro HB.o hE;clear hE;unfold fw;go_wp2
 go_ret2
 exact⟨hfin.1,b,n,rfl,hfin.2⟩
def Rt(base g:Nat)(w:World)(h:Hd)(N:eG)(V:List SV)(pay:ByteArray)(e:Ending)(w':World):Prop:=
 e=.returned (.tuple #[.int .i64 (N.seq+1),.nilIface])∧∃h' G,0<G.length∧G.length<=36∧Sm G∧cK base w' g h' (N.fG V pay G)∧Fr base g w h w' h'
theorem Ia(base g k c b:Nat)(ok:Nat->Prop)(h:Hd)(N:eG)(E:Option Addr)(V:List SV)(pay:ByteArray)(w:World)(hI:cK base w g h N)(hbase:base<=w.heap.size)(hF:fV N)(hrR:Kd.R pI tV w b ok (.slice E k c) V)(hT:gF w)(heb:dV N.S V pay=none)(h8:N.opn.length<8)(Oq:N.seq<1073741824):
 Calls prog 12 #[.pointer (some ⟨g,0,none⟩),kR E k c pay] w (Rt base g w h N V pay):=by
 obtain⟨hk0,hkc,hr⟩:=Kd.bN hrR;have hk:=hk0.symm;rw[<-hk0] at hr;clear hk0 hkc;obtain⟨A8,c8,El,hc8,_⟩:=Kd.bB hI.rows.opn;have Jr:=ai El;have HRR:=ai hrR;have kD:=ai hbase;clear El hc8 hrR hbase;have HI:=ai hI;have HF:=ai hF;have HR:=ai hr;have HT:=ai hT;obtain⟨A,c0,Af,Dq,hCS⟩:=Kd.bB hI.rows.sch;have HS:=ai (And.intro Dq hCS);have Us:=ai Af;have HK:=ai hk;clear hI hF hr hT Af Dq hCS hk;unfold kR;go_enter func12,ntmps12
 go_upto_region 1 with (fail)
 have ha:=ae (Below.refl w.heap.size w) (.cells #[.slice E k c,.string pay] 40);have jC:=ai (heap_alloc_new w (.cells #[.slice E k c,.string pay] 40));have hs1:(w.alloc (.cells #[.slice E k c,.string pay] 40)).heap.size=w.heap.size+1:=by show (w.heap.push _).size=_;exact Array.size_push _
 have HB:=ai ha;generalize w.alloc (.cells #[.slice E k c,.string pay] 40)=wa at jC HB hs1|-;obtain⟨ge,hge⟩:∃x,x=w.heap.size:=⟨_,rfl⟩
 rw[<-hge] at jC hs1|-;have Pq:=ai (And.intro hge hs1);clear ha hge hs1;have HI1:=HI.o.below HB.o;have y1:=(HI1.cell 1).trans (show _=some (Value.int .i64 N.levels) from rfl);have y2:=(HI1.cell 2).trans (show _=some (Vs A N.S.length c0) from by rw[<-Us.o];rfl);have e0:=bK jC.o;have e1:=bS jC.o;have FJ:=ai (fun W (hb:Below w.heap.size w W)=>uQ A E N.S.length k c0 c N.S V pay N.levels W HF.o.lev.1 HF.o.lev.2 rfl HK.o (Kd.aY HS.o.2 hb) (Kd.aY HR.o hb) HF.o.chk HS.o.1 (gF.below HT.o hb));unfold kR at FJ;clear HI1;have II:=ai heb;have Sk:=ai (And.intro h8 Oq);clear heb h8 Oq;go_region_held3 (fun X=>X.cell? ⟨g,1,none⟩=some (.int .i64 N.levels)∧X.cell? ⟨g,2,none⟩=some (.slice A N.S.length c0)∧X.cell? ⟨ge,0,none⟩=some (.slice E k c)∧X.cell? ⟨ge,1,none⟩=some (.string pay)) (go_keep) (first
  |(go_at_call 44;(with_reducible refine(FJ.o _ ?tb).mono ?_);(case tb=>(with_reducible repeat(first|exact HB.o|apply ah|apply ak|apply aK|apply ae)));rintro e wx ⟨hbx,hq⟩;obtain⟨v,G,rfl,hG1,hG2,hG3,hGR⟩:∃v G,e=.returned (.tuple #[v,.nilIface])∧0<G.length∧G.length<=36∧Sm G∧Kd.R Kd.string tS wx base (fun _=>True) v G:=(by rcases hq with⟨_,v,G,h2,h3,h4,h6,h5⟩|⟨h1,_⟩;exact⟨v,G,h2,h3,h4,h6,Kd.jr h5 (Nat.le_trans kD.o (Below.size (by(with_reducible repeat(first|exact HB.o|apply ah|apply ak|apply aK|apply ae)))))⟩;(rw[II.o] at h1;cases h1));replace HB:=ai (aD (by(with_reducible repeat(first|exact HB.o|apply ah|apply ak|apply aK|apply ae))) (Below.size (by(with_reducible repeat(first|exact HB.o|apply ah|apply ak|apply aK|apply ae)))) hbx);replace jC:=bZ hbx jC;have z0:=av hbx y1;have z1:=av hbx y2;have z2:=av hbx e0;have z3:=av hbx e1;clear hq hbx))
 obtain⟨A3,c3,rfl,hc3,_⟩:=Kd.bB hGR;have HG:=ai (And.intro hG1 (And.intro hG2 hGR));have HG3:=ai hG3;clear hG1 hG2 hG3 hGR hc3 y1 y2 e0 e1 z0 z1 z2 z3 FJ;have GY:=HI.o.below HB.o;have Xu:Fr base g w h wx h:=Fr.of_below HB.o kD.o;have S9:=ai (And.intro (aI HI.o.blk) HI.o.gb);have PG:ge≠g:=by have:=S9.o.1;have:=Pq.o.1;omega
 have y8:=(GY.cell 8).trans (show _=some (Vs A8 N.opn.length c8) from by rw[<-Jr.o];rfl);have y9:=(GY.cell 9).trans (show _=some (Value.int .i64 N.seq) from rfl);have f9:=af GY.blk 9;have d1:decide (8<=N.opn.length)=false:=decide_eq_false (by have:=Sk.o.1;omega);have d2:decide ((8:Int)<=(N.opn.length:Int))=false:=decide_eq_false (by have:=Sk.o.1;omega);have d3:decide (1073741824<=N.seq)=false:=decide_eq_false (by have:=Sk.o.2;omega);have hsw:wrap64 (N.seq+1)=N.seq+1:=jK (by have:=HF.o.seq;omega) (by have:=HF.o.seq;omega);go_upto_region 7 with (fail)
 rw[hsw];have k6:=bg GY.blk 9 (.int .i64 (N.seq+1));have r6:=GY.rows.set GY.blk (by decide) 9 (.int .i64 (N.seq+1));have Sb:=Xu.trans (Fr.set (h:=h) (w:=wx) HI.o.gb 9 (.int .i64 (N.seq+1)));have ke6:=(Below.heap_setCell wx ⟨g,9,none⟩ (.int .i64 (N.seq+1)) ge PG).trans jC.o;have v6:=Kd.jr (Kd.jX (Kd.bJ HRR.o HB.o) GY.blk (by decide+kernel) 9 (.int .i64 (N.seq+1))) (Nat.zero_le _);have g6:=Kd.jX HG.o.2.2 GY.blk (by decide+kernel) 9 (.int .i64 (N.seq+1));have HK6:=ai k6;have UF:=ai r6;have Sn:=ai Sb;have QK:=ai ke6;have HV6:=ai v6;have Z7:=ai g6;have JK:=ai (show base<=(wx.setCell ⟨g,9,none⟩ (.int .i64 (N.seq+1))).heap.size∧ge<(wx.setCell ⟨g,9,none⟩ (.int .i64 (N.seq+1))).heap.size from⟨Nat.le_trans kD.o Sb.below.size,aI ke6⟩);have sI:=ai (And.intro HG.o.1 HG.o.2.1);clear y8 y9 f9 d1 d2 d3 GY Xu k6 r6 Sb ke6 v6 g6 jC HB HG HRR hsw;generalize wx.setCell ⟨g,9,none⟩ (.int .i64 (N.seq+1))=W6 at HK6 UF Sn QK HV6 Z7 JK|-;have e0:=bK QK.o;go_wp2_with fail
 have hk4:k<=1000000:=by have:=nT II.o;have:=(dn HF.o.chk).2.1;have:=HK.o;omega
 refine(clV.row (base:=0) (Nat.zero_le _) HV6.o hk4 (by decide)).mono ?_;rintro e w7 ⟨A4,c4,rfl,Pf,Qg,gZ⟩;have v7:=Ol Pf (b':=base) (fun k hk=>Nat.le_trans JK.o.1 (Qg k hk));have KH:=ai v7;have Aa:=bZ gZ HK6;have WT:=ai (UF.o.below gZ);have Wi:=ai (Sn.o.then gZ kD.o);have Ip:=bZ gZ QK;have HG7:=lV Z7 gZ;clear HK6 UF Sn QK HV6 Z7 Pf Qg gZ v7 e0 JK;have e0:=bK Ip.o;have f0:=af Ip.o 0;go_upto_region 8 with (fail)
 have k8:=(Below.heap_setCell w7 ⟨ge,0,none⟩ (.slice A4 k c4) g (Ne.symm PG)).trans Aa.o;have r8:=WT.o.set Ip.o (by decide) 0 (.slice A4 k c4);have fr8:=Wi.o.BV kD.o (p:=⟨ge,0,none⟩) (Nat.le_of_eq Pq.o.1.symm) (.slice A4 k c4);have Zg:(w7.setCell ⟨ge,0,none⟩ (.slice A4 k c4)).heap[ge]? =some (.cells #[.slice A4 k c4,.string pay] 40 (0,0)):=by simpa using bg Ip.o 0 (.slice A4 k c4)
 have Vg:=ai k8;have Fw:=ai r8;have tX:=ai fr8;have Xq:=ai (Kd.gX (Kd.jX KH.o Ip.o (by decide+kernel) 0 (.slice A4 k c4)) r8.opn (by decide+kernel));have HG8:=ai (Kd.gX (Kd.jX HG7.o Ip.o (by decide+kernel) 0 (.slice A4 k c4)) r8.opn (by decide+kernel));clear Aa WT Wi Ip KH HG7 k8 r8 fr8 e0 f0;generalize w7.setCell ⟨ge,0,none⟩ (.slice A4 k c4)=W8 at Vg Fw tX Xq HG8 Zg|-;have e0:=bK Zg;have e1:=bS Zg;have y8:=(aN Vg.o 8).trans (show _=some (Vs A8 N.opn.length c8) from by rw[<-Jr.o];rfl);have y9:=XL Vg.o;clear Zg;have R4:=ai (I9 (x:=⟨N.seq+1,V,pay,G⟩) (Kd.dm Xq.o) (Kd.dm HG8.o));have y8a:(W8.alloc (Obj.cells #[.int .i64 (N.seq+1),.slice A4 k c4,.string pay,.slice A3 G.length c3] 127)).cell? ⟨g,8,none⟩=some (.slice A8 N.opn.length c8):=av (ae (Below.refl _ _) _) y8;go_region_law (refine Kd.jE zO (w0:=w) (W:=W8.drew) base ?hw (.tmp 53) (.tmp 61) 111 nM (.agg #[(.int .i64 0),(.slice none 0 0),(.string ⟨#[]⟩),(.slice none 0 0)]) 72 ?ho underlying111 T9 rfl (by decide) (by omega) h.vopn N.opn ⟨N.seq+1,V,pay,G⟩ [.int .i64 (N.seq+1),.slice A4 k c4,.string pay,.slice A3 G.length c3] (fun _=>True) (fun k=>True∧some k≠h.vopn.ownBlock) ?aV ?aX R4.o (fun _ hk=>hk) ?aF (Kd.dm Fw.o.opn) (aK tX.o.below) (Nat.le_trans kD.o tX.o.below.size) ?aL ?_;(case ho=>rfl);(case hw=>first|rfl|(simp[Region.wanted]));(case aV=>exact Jr.o.symm);(case aX=>first|rfl|(go_simp;done)|(go_simp;rfl));(case aF=>exact(fun _ _=>trivial));(case aL=>have:=Sk.o.1;omega);intro v9 w9 ho hb hg hat;have k9:=dB (w:=W8.drew) Vg.o hg (Kd.kM (w:=W8.drew) (Kd.dm Fw.o.opn) Vg.o (by decide));obtain⟨A9,c9,rfl,Sq,Pw⟩:=Kd.bB ho;have Uu:=(aN k9 8).trans (show _=some (Vs A8 N.opn.length c8) from by rw[<-Jr.o];rfl);have f8':=af k9 8)
 all_goals
  have k10:=bg k9 8 (.slice A9 (N.opn++ [(⟨N.seq+1,V,pay,G⟩:iJ)]).length c9);have rd:=Fw.o.below (aK (Below.refl W8.heap.size W8));have jW:=(rd.Gw hg ho).set k9 (by decide) 8 (.slice A9 (N.opn++ [(⟨N.seq+1,V,pay,G⟩:iJ)]).length c9);have f10:=((tX.o.trans ((Fr.of_below (aK (Below.refl W8.heap.size W8)) (Nat.le_trans kD.o tX.o.below.size)).trans (Fr.Gw rd hg (Nat.le_trans kD.o tX.o.below.size)))).zn (NewAt.from tX.o.below.size hat)).trans (Fr.set S9.o.2 8 (.slice A9 (N.opn++ [(⟨N.seq+1,V,pay,G⟩:iJ)]).length c9));have hlen:(N.opn++ [(⟨N.seq+1,V,pay,G⟩:iJ)]).length=N.opn.length+1:=by simp
  rw[hlen] at k10 jW f10;have y9':=XL k10;have hfin:Rt base g w h N V pay (.returned (.tuple #[.int .i64 (N.seq+1),.nilIface])) (w9.setCell ⟨g,8,none⟩ (.slice A9 (N.opn.length+1) c9)):=⟨rfl,_,G,sI.o.1,sI.o.2,HG3.o,cK.of k10 rfl S9.o.2 ⟨jW.sch,jW.sub,jW.seen,jW.box,jW.opn,jW.lnk,jW.sent⟩,f10⟩
  clear k9 ho hb hg hat Sq Pw Uu f8' rd jW f10 k10 hlen y8a;go_wp2
  go_ret2
  exact hfin
theorem BK(base g k c:Nat)(h:Hd)(N:eG)(E:Option Addr)(V:List SV)(pay:ByteArray)(w:World)(hI:cK base w g h N)(hF:fV N)(hk:V.length=k)(hr:Kd.C pI w E k V)(hT:gF w)(heb:dV N.S V pay=none)(h8:8<=N.opn.length):
 Calls prog 12 #[.pointer (some ⟨g,0,none⟩),kR E k c pay] w fun e w'=>Below w.heap.size w w'∧∃b n,e=.returned (.tuple #[.int .i64 0,fw b])∧eX w' 5 n (fw b):=by
 obtain⟨A8,c8,El,hc8,_⟩:=Kd.bB hI.rows.opn;have Jr:=ai El;clear El hc8;have HI:=ai hI;have HF:=ai hF;have HR:=ai hr;have HT:=ai hT;obtain⟨A,c0,Af,Dq,hCS⟩:=Kd.bB hI.rows.sch;have HS:=ai (And.intro Dq hCS);have Us:=ai Af;have HK:=ai hk;clear hI hF hr hT Af Dq hCS hk;unfold kR;go_enter func12,ntmps12
 go_upto_region 1 with (fail)
 have ha:=ae (Below.refl w.heap.size w) (.cells #[.slice E k c,.string pay] 40);have jC:=ai (heap_alloc_new w (.cells #[.slice E k c,.string pay] 40));have hs1:(w.alloc (.cells #[.slice E k c,.string pay] 40)).heap.size=w.heap.size+1:=by show (w.heap.push _).size=_;exact Array.size_push _
 have HB:=ai ha;generalize w.alloc (.cells #[.slice E k c,.string pay] 40)=wa at jC HB hs1|-;obtain⟨ge,hge⟩:∃x,x=w.heap.size:=⟨_,rfl⟩
 rw[<-hge] at jC hs1|-;have Pq:=ai (And.intro hge hs1);clear ha hge hs1;have HI1:=HI.o.below HB.o;have y1:=(HI1.cell 1).trans (show _=some (Value.int .i64 N.levels) from rfl);have y2:=(HI1.cell 2).trans (show _=some (Vs A N.S.length c0) from by rw[<-Us.o];rfl);have e0:=bK jC.o;have e1:=bS jC.o;have FJ:=ai (fun W (hb:Below w.heap.size w W)=>uQ A E N.S.length k c0 c N.S V pay N.levels W HF.o.lev.1 HF.o.lev.2 rfl HK.o (Kd.aY HS.o.2 hb) (Kd.aY HR.o hb) HF.o.chk HS.o.1 (gF.below HT.o hb));unfold kR at FJ;clear HI1;have II:=ai heb;have Sk:=ai h8;clear heb h8;go_region_held3 (fun X=>X.cell? ⟨g,1,none⟩=some (.int .i64 N.levels)∧X.cell? ⟨g,2,none⟩=some (.slice A N.S.length c0)∧X.cell? ⟨ge,0,none⟩=some (.slice E k c)∧X.cell? ⟨ge,1,none⟩=some (.string pay)) (go_keep) (first
  |(go_at_call 44;(with_reducible refine(FJ.o _ ?tb).mono ?_);(case tb=>(with_reducible repeat(first|exact HB.o|apply ah|apply ak|apply aK|apply ae)));rintro e wx ⟨hbx,hq⟩;obtain⟨v,rfl⟩:∃v,e=.returned (.tuple #[v,.nilIface]):=(by rcases hq with⟨_,v,G,h2,h3,h4,h6,h5⟩|⟨h1,_⟩;exact⟨v,h2⟩;(rw[II.o] at h1;cases h1));replace HB:=ai (aD (by(with_reducible repeat(first|exact HB.o|apply ah|apply ak|apply aK|apply ae))) (Below.size (by(with_reducible repeat(first|exact HB.o|apply ah|apply ak|apply aK|apply ae)))) hbx);have z0:=av hbx y1;have z1:=av hbx y2;have z2:=av hbx e0;have z3:=av hbx e1;clear hq hbx))
 have y8:=((HI.o.below HB.o).cell 8).trans (show _=some (Vs A8 N.opn.length c8) from by rw[<-Jr.o];rfl);have d1:decide (8<=N.opn.length)=true:=decide_eq_true Sk.o;have d2:decide ((8:Int)<=(N.opn.length:Int))=true:=decide_eq_true (by have:=Sk.o;omega);clear y1 y2 e0 e1 z0 z1 z2 z3 FJ;go_wp2_with fail
 refine(iN 5 _).mono ?_;rintro e w9 ⟨b,hbl,rfl,hf,hb⟩;have hfin:=And.intro (aD HB.o HB.o.size hb) (eU.zH hf);clear hf hb hbl;go_wp2
 go_ret2
 exact⟨hfin.1,b,1,rfl,hfin.2⟩
attribute [local go_sem] nQ nU qM o7
theorem Qp:(prog.info? 46).map (fun i=>(i.zero,i.size,i.bytes))=some (some (.agg #[(.int .i64 0),(.int .i64 0),(.int .i64 0),(.slice none 0 0),(.string ⟨#[]⟩)]),5,64):=by kernel_rfl
def DI(base g:Nat)(h:Hd)(N:eG)(most:Int)(w:World)(e:Ending)(w':World):Prop:=
 ∃A c,e=.returned (.slice A (min most.toNat N.inbox.length) c)∧Kd.R zL ny w' base (fun _=>True) (.slice A (min most.toNat N.inbox.length) c) (N.inbox.take (min most.toNat N.inbox.length))∧∃h',cK base w' g h' {N with inbox:=N.inbox.drop (min most.toNat N.inbox.length)}∧Fr base g w h w' h'
theorem Gl(base g:Nat)(h:Hd)(N:eG)(most:Int)(w:World)(hI:cK base w g h N)(hbase:base<=w.heap.size)(hl:N.inbox.length<=64):
 Calls prog 14 #[.pointer (some ⟨g,0,none⟩),.int .i64 most] w (DI base g h N most w):=by
 obtain⟨A7,c7,hv7,SX,_⟩:=Kd.bB hI.rows.box;have KH:=ai hv7;obtain⟨n,hn⟩:∃n,n=N.inbox.length:=⟨_,rfl⟩
 obtain⟨k,hk⟩:∃k,k=min most.toNat n:=⟨_,rfl⟩
 rw[<-hn] at SX;have HN:=ai (And.intro hn (And.intro hk hl));have y7:=(hI.cell 7).trans (show _=some (Vs A7 n c7) from by rw[hn,<-hv7];rfl);have hkn:k<=n:=by omega
 have hRB:Kd.R zL ny w base (fun _=>True) (.slice A7 n c7) N.inbox:=by have h:=hI.rows.box;rw[hv7,<-hn] at h;exact h
 obtain⟨tI,uH,hts,_⟩:=kS Qp;obtain⟨AA,KT⟩:∃AA,AA=(if c7=k then A7 else A7.map (·.add (k*zL.sz))):=⟨_,rfl⟩
 have hS1:∀W:World,(Instr.slice 43 (.slice A7 n c7) none (some (.int .i64 (k:Int))) none).run prog W=.ok (.slice A7 k c7) W:=by
  intro W;rw[uU (P:=prog) 43 ny .i64 underlying43 uH A7 n c7 (k:Int) (by omega) (by omega) SX W,Int.toNat_natCast]
 have hS2:∀W:World,(Instr.slice 43 (.slice A7 n c7) (some (.int .i64 (k:Int))) none none).run prog W=.ok (.slice AA (n-k) (c7-k)) W:=by
  intro W;rw[KT,mJ (P:=prog) 43 ny .i64 underlying43 uH 5 hts A7 n c7 (k:Int) (by omega) (by omega) W,Int.toNat_natCast];rfl
 have o9:=ai (WV.row (base:=base) hbase (Kd.xN hRB (m:=k) (by rw[<-hn];exact hkn)) (by omega) (by decide));have vZ:=ai (fun (W:World) (hb:Below w.heap.size w W)=>(show Calls prog 56 #[.slice AA (n-k) (c7-k)] W fun e' w'=>∃A' c',e'=.returned (.slice A' (n-k) c')∧Kd.R zL ny w' base (fun _=>True) (.slice A' (n-k) c') (N.inbox.drop k)∧(∀k',(Vs A' (n-k) c').ownBlock=some k'->W.heap.size<=k')∧Below W.heap.size W w' from by
  rw[KT];exact WV.drop (Nat.le_trans hbase hb.size) (Kd.bJ hRB hb) hkn (by omega) (by decide)))
 have hmm:(if (n:Int)<(if most<0 then 0 else most) then (n:Int) else (if most<0 then 0 else most))=(k:Int):=by split<;>split<;>omega
 have Bd:=ai hmm;have HI:=ai hI;have HB:=ai hbase;clear hI hbase hl hv7 hn hk hkn hRB uH hts KT hmm SX;go_enter func14,ntmps14
 go_upto_region 2 with (fail)
 rw[Bd.o];generalize (if most<0 then (0:Int) else most)=mx;clear Bd;go_wp2_with fail
 refine o9.o.mono ?_;rintro e w2 ⟨A1,c1,rfl,IL,XJ,hb1⟩;have Zd:=av hb1 y7;have H1:=ai (And.intro IL (And.intro XJ hb1));clear IL XJ hb1 y7;go_wp2_with fail
 refine(vZ.o w2 H1.o.2.2).mono ?_;rintro e w3 ⟨A2,c2,rfl,hR2,Wj,hb2⟩;have hb3:=aD H1.o.2.2 H1.o.2.2.size hb2;have rx:=HI.o.below hb3;have adl:=av hb2 Zd;have f7:=af rx.blk 7;have r2:eZ base w3 {h with vbox:=.slice A2 (n-k) c2} {N with inbox:=N.inbox.drop k}:=⟨rx.rows.sch,rx.rows.sub,rx.rows.seen,hR2,rx.rows.opn,rx.rows.lnk,rx.rows.sent⟩
 have jW:=r2.set rx.blk (by decide) 7 (.slice A2 (n-k) c2);have fy:=((Fr.of_below (g:=g) (h:=h) hb3 HB.o).pV (v1:=.slice A2 (n-k) c2) (.inr (fun b hb=>Nat.le_trans H1.o.2.2.size (Wj b hb)))).trans (Fr.set rx.gb 7 (.slice A2 (n-k) c2));have hlen:(N.inbox.drop k).length=n-k:=by rw[List.length_drop,HN.o.1]
 have hfin:=And.intro (Kd.jX (Kd.bJ H1.o.1 hb2) rx.blk (by decide+kernel) 7 (.slice A2 (n-k) c2)) (And.intro (cK.of (h:={h with vbox:=.slice A2 (n-k) c2}) (N:={N with inbox:=N.inbox.drop k}) (bg rx.blk 7 (.slice A2 (n-k) c2)) rfl rx.gb jW) fy);have fQ:=ai hfin;clear hb3 rx Zd r2 jW fy hlen hfin H1 hR2 Wj hb2 o9 vZ;go_wp2;go_ret;have hkk:=HN.o.2.1;rw[HN.o.1] at hkk;unfold DI;rw[<-hkk];exact⟨A1,c1,rfl,fQ.o.1,_,fQ.o.2.1,fQ.o.2.2⟩
theorem Fb(base g:Nat)(h:Hd)(N:eG)(w:World)(hI:cK base w g h N):Calls prog 15 #[.pointer (some ⟨g,0,none⟩)] w fun e w'=>e=.returned (.int .i64 (N.inbox.length:Int))∧w'=w:=by
 obtain⟨A7,c7,hv7,_,_⟩:=Kd.bB hI.rows.box;obtain⟨n,hn⟩:∃n,n=N.inbox.length:=⟨_,rfl⟩
 have y7:=(aN hI.blk 7).trans (show _=some (Vs A7 n c7) from by rw[hn,<-hv7];rfl);rw[<-hn];clear hI hv7 hn;go_enter func15,ntmps15
 go_wp2;go_ret;exact⟨rfl,rfl⟩
theorem FX(base g:Nat)(h:Hd)(N:eG)(w:World)(hI:cK base w g h N):Calls prog 17 #[.pointer (some ⟨g,0,none⟩)] w fun e w'=>e=.returned (.int .i64 N.lost)∧w'=w:=by
 have y12:=Ww hI.blk;clear hI;go_enter func17,ntmps17
 go_wp2;go_ret;exact⟨rfl,rfl⟩
theorem P5:(prog.info? 123).map (fun i=>(i.zero,i.size,i.bytes))=some (some (.agg #[(.int .i64 0),(.string ⟨#[]⟩),(.slice none 0 0),(.slice none 0 0)]),4,72):=by kernel_rfl
def eG.sub(N:eG)(t:ByteArray)(F:List SP)(G:List ByteArray):eG:={N with subs:=N.subs++ [⟨N.last+1,t,F,G⟩],last:=N.last+1}
theorem eG.SG(N:eG)(t:ByteArray)(F:List SP)(G:List ByteArray):(N.sub t F G).pl=N.pl.sub F:=by
 unfold eG.sub eG.pl Nd.sub;simp[iY.pl]
def RF(base g:Nat)(w:World)(h:Hd)(N:eG)(F:List SP)(e:Ending)(w':World):Prop:=
 e=.returned (.tuple #[.int .i64 (N.last+1),.nilIface])∧∃h' t G,G.length<=256∧Sm G∧cK base w' g h' (N.sub t F G)∧Fr base g w h w' h'
theorem EA{S:List SA}{t:ByteArray}{xs:List Pr}(h:fZ S t=.inl xs):cu S (xs.map toP)=none:=by
 unfold fZ at h;split at h
 ·cases h
 ·split at h
  ·injection h with h;subst h;assumption
  ·cases h
theorem BQ(base g:Nat)(h:Hd)(N:eG)(t:ByteArray)(xs:List Pr)(w:World)(hI:cK base w g h N)(hbase:base<=w.heap.size)(hF:fV N)(hT:Gj base w)(ht:t.size<=1000)(hx:fZ N.S t=.inl xs)(h16:N.subs.length<16):
 Calls prog 11 #[.pointer (some ⟨g,0,none⟩),.string t] w (RF base g w h N (xs.map toP)):=by
 have lL:=EA hx;obtain⟨IC,hPO⟩:=VD hF.chk lL;obtain⟨A3,c3,hv3,hc3,_⟩:=Kd.bB hI.rows.sub;have Ej:=ai hv3;obtain⟨A,c0,Af,Dq,hCS⟩:=Kd.bB hI.rows.sch;have HS:=ai (And.intro Dq hCS);have Us:=ai Af;have HI:=ai hI;have HF:=ai hF;have HT:=ai hT;have kD:=ai hbase;have jy:=ai (And.intro IC hPO);have Kh:=ai ((sH A N.S.length c0 N.S t w rfl hCS (by have:=(dn hF.chk).2.1;omega) ht).mono (fun e w' hq=>(show ∃v,e=.returned (.tuple #[v,.nilIface])∧Kd.R Po tP w' w.heap.size (fun _=>True) v (xs.map toP)∧Below w.heap.size w w' from fC.ok hq hx)));have xE:=ai (fun B d W (hb:Below w.heap.size w W) (hr2:Kd.C Po W B (xs.map toP).length (xs.map toP)) (hd:(xs.map toP).length<=d)=>TW A B N.S.length (xs.map toP).length c0 d N.S (xs.map toP) N.levels W hF.lev.1 hF.lev.2 rfl rfl (Kd.aY hCS hb) hr2 hF.chk lL Dq hd (gF.below hT.tab hb));have H16:=ai h16;have S9:=ai (And.intro (aI hI.blk) hI.gb);have y2:=(hI.cell 2).trans (show _=some (Vs A N.S.length c0) from by rw[<-Af];rfl);generalize xs.map toP=F at jy Kh xE|-;clear hI hF hT hbase hv3 hc3 Af Dq hCS IC hPO hx lL h16;go_enter func11,ntmps11
 go_wp2_with fail
 refine Kh.o.mono ?_;rintro e w1 ⟨vF,rfl,ZL,hb1⟩;obtain⟨AF,cF,rfl,hcF,hCF⟩:=Kd.bB ZL;have HB:=ai hb1;have DX:=ai (Kd.jr ZL kD.o);clear ZL hb1 Kh y2 hcF hCF;have y3:=((HI.o.below HB.o).cell 3).trans (show _=some (Vs A3 N.subs.length c3) from by rw[<-Ej.o];rfl);have y1:=((HI.o.below HB.o).cell 1).trans (show _=some (Value.int .i64 N.levels) from rfl);have y2:=((HI.o.below HB.o).cell 2).trans (show _=some (Vs A N.S.length c0) from by rw[<-Us.o];rfl);have d1:decide (16<=N.subs.length)=false:=decide_eq_false (by have:=H16.o;omega);have d2:decide ((16:Int)<=(N.subs.length:Int))=false:=decide_eq_false (by have:=H16.o;omega);go_upto_region 6 with (fail)
 go_region_held3 (fun X=>X.cell? ⟨g,1,none⟩=some (.int .i64 N.levels)∧X.cell? ⟨g,2,none⟩=some (.slice A N.S.length c0)) (go_keep) (first
  |(go_at_call 42;(with_reducible refine(xE.o AF cF _ ?tb ?tc ?td).mono ?_);(case tb=>(with_reducible repeat(first|exact HB.o|apply ah|apply ak|apply aK|apply ae)));(case tc=>exact(Kd.bN (w:=w1) DX.o).2.2);(case td=>exact(Kd.bN DX.o).2.1);rintro e wx ⟨vG,G,rfl,hG1,hG3,hG2,hbx⟩;replace DX:=ai (Kd.bJ (w:=w1.drew) (Kd.dm DX.o) hbx);have HG3:=ai hG3;have wD:=ai (And.intro hG1 (Kd.jr hG2 (Nat.le_trans kD.o (Below.size (by(with_reducible repeat(first|exact HB.o|apply ah|apply ak|apply aK|apply ae)))))));replace HB:=ai (aD (by(with_reducible repeat(first|exact HB.o|apply ah|apply ak|apply aK|apply ae))) (Below.size (by(with_reducible repeat(first|exact HB.o|apply ah|apply ak|apply aK|apply ae)))) hbx);have z0:=av hbx y1;have z1:=av hbx y2;clear hbx hG1 hG2 hG3))
 obtain⟨AG,cG,rfl,hcG,hCG⟩:=Kd.bB wD.o.2;clear hcG hCG y1 y2 y3 z0 z1 xE d1 d2;have HI2:=HI.o.below HB.o;have y4:=(HI2.cell 4).trans (show _=some (Value.int .i64 N.last) from rfl);have f4:=af HI2.blk 4;have hsw:wrap64 (N.last+1)=N.last+1:=jK (by have:=HF.o.last;omega) (by have:=HF.o.last;omega);go_upto_region 10 with (fail)
 rw[hsw];have fr3:=(Fr.of_below (g:=g) (h:=h) HB.o kD.o).trans (Fr.set (h:=h) (w:=wx) S9.o.2 4 (.int .i64 (N.last+1)));have uj:=ai (bg HI2.blk 4 (.int .i64 (N.last+1)));have HR3:=ai (HI2.rows.set HI2.blk (by decide) 4 (.int .i64 (N.last+1)));have Wx:=ai fr3;have HT3:=ai (HT.o.below fr3.below);have vF:=Kd.jX DX.o HI2.blk (by decide+kernel) 4 (.int .i64 (N.last+1));have vG:=Kd.jX wD.o.2 HI2.blk (by decide+kernel) 4 (.int .i64 (N.last+1));have HVF:=ai vF;have HVG:=ai (And.intro wD.o.1 vG);clear HI2 y4 f4 hsw fr3 vF vG DX wD HB;generalize wx.setCell ⟨g,4,none⟩ (.int .i64 (N.last+1))=W3 at uj HR3 Wx HT3 HVF HVG|-;obtain⟨s,hs⟩:=OW AF F.length cF N.S F W3 rfl (Kd.bN HVF.o).2.2 HT3.o.tab jy.o.2 jy.o.1.2;have BO:=ai hs;clear hs;have y3:=(aN uj.o 3).trans (show _=some (Vs A3 N.subs.length c3) from by rw[<-Ej.o];rfl);have y4:=dI uj.o;go_region_law (first
  |(go_simp;go_at_call 43;(with_reducible refine(BO.o _ (aK (Below.refl _ _))).mono ?_);rintro e wp ⟨rfl,hbp⟩;have n_:=aD (aK (Below.refl W3.heap.size W3)) (Nat.le_refl _) hbp;have y3p:=av n_ y3;have y4p:=av n_ y4;have rQ:=bZ n_ uj;have UI:=ai (HR3.o.below n_);have VN:=ai (Wx.o.then n_ kD.o);have HPP:=ai (Ep (x:=⟨N.last+1,s,F,G⟩) (Kd.gX (Kd.bJ HVF.o n_) UI.o.sub (by decide+kernel)) (Kd.gX (Kd.bJ HVG.o.2 n_) UI.o.sub (by decide+kernel)));have y3a:(wp.alloc (Obj.cells #[.int .i64 (N.last+1),.string s,.slice AF F.length cF,.slice AG G.length cG] 123)).cell? ⟨g,3,none⟩=some (.slice A3 N.subs.length c3):=av (ae (Below.refl _ _) _) y3p;clear n_ hbp)
  |(refine Kd.jE qJ (w0:=w) (W:=wp) base ?hw (.tmp 55) (.tmp 65) 94 iw (.agg #[(.int .i64 0),(.string ⟨#[]⟩),(.slice none 0 0),(.slice none 0 0)]) 72 ?ho underlying94 P5 rfl (by decide) (by omega) h.vsub N.subs ⟨N.last+1,s,F,G⟩ [.int .i64 (N.last+1),.string s,.slice AF F.length cF,.slice AG G.length cG] (fun _=>True) (fun k=>True∧some k≠h.vsub.ownBlock) ?aV ?aX HPP.o (fun _ hk=>hk) ?aF UI.o.sub VN.o.below (Nat.le_trans kD.o VN.o.below.size) ?aL ?_;(case ho=>rfl);(case hw=>first|rfl|(simp[Region.wanted]));(case aV=>exact Ej.o.symm);(case aX=>first|rfl|(go_simp;done)|(go_simp;rfl));(case aF=>exact(fun _ _=>trivial));(case aL=>have:=H16.o;omega);intro v9 w9 ho hb hg hat;have k9:=dB rQ.o hg (Kd.kM UI.o.sub rQ.o (by decide));obtain⟨A9,c9,rfl,Sq,Pw⟩:=Kd.bB ho;have UT:=(aN k9 3).trans (show _=some (Vs A3 N.subs.length c3) from by rw[<-Ej.o];rfl);have f3':=af k9 3))
 all_goals
  have k10:=bg k9 3 (.slice A9 (N.subs++ [(⟨N.last+1,s,F,G⟩:iY)]).length c9);have jW:=(UI.o.Md hg ho).set k9 (by decide) 3 (.slice A9 (N.subs++ [(⟨N.last+1,s,F,G⟩:iY)]).length c9);have f10:=((VN.o.trans (Fr.Md UI.o hg (Nat.le_trans kD.o VN.o.below.size))).wu (NewAt.from VN.o.below.size hat)).trans (Fr.set S9.o.2 3 (.slice A9 (N.subs++ [(⟨N.last+1,s,F,G⟩:iY)]).length c9));have hlen:(N.subs++ [(⟨N.last+1,s,F,G⟩:iY)]).length=N.subs.length+1:=by simp
  rw[hlen] at k10 jW f10;have y4':=dI k10;have hfin:RF base g w h N F (.returned (.tuple #[.int .i64 (N.last+1),.nilIface])) (w9.setCell ⟨g,3,none⟩ (.slice A9 (N.subs.length+1) c9)):=⟨rfl,_,s,G,HVG.o.1,HG3.o,cK.of k10 rfl S9.o.2 ⟨jW.sch,jW.sub,jW.seen,jW.box,jW.opn,jW.lnk,jW.sent⟩,f10⟩
  clear k9 ho hb hg hat Sq Pw UT f3' jW f10 k10 hlen y3a;go_wp2
  go_ret2
  exact hfin
theorem BU(base g:Nat)(h:Hd)(N:eG)(t:ByteArray)(c:Int)(w:World)(hI:cK base w g h N)(hF:fV N)(ht:t.size<=1000)(hx:fZ N.S t=.inr c):
 Calls prog 11 #[.pointer (some ⟨g,0,none⟩),.string t] w fun e w'=>Below w.heap.size w w'∧∃b n,e=.returned (.tuple #[.int .i64 0,fw b])∧eX w' c n (fw b):=by
 obtain⟨A,c0,Af,Dq,hCS⟩:=Kd.bB hI.rows.sch;have Kh:=ai ((sH A N.S.length c0 N.S t w rfl hCS (by have:=(dn hF.chk).2.1;omega) ht).mono (fun e w' hq=>(show ∃b n,e=.returned (.tuple #[.slice none 0 0,.iface 178 (.pointer (some ⟨b,0,none⟩))])∧eX w' c n (.iface 178 (.pointer (some ⟨b,0,none⟩)))∧Below w.heap.size w w' from fC.no hq hx)));have y2:=(hI.cell 2).trans (show _=some (Vs A N.S.length c0) from by rw[<-Af];rfl);clear hI hF Af Dq hCS hx;go_enter func11,ntmps11
 go_wp2_with fail
 refine Kh.o.mono ?_;rintro e w1 ⟨b,n,rfl,hE,hb1⟩;have hfin:=And.intro hb1 hE;clear hE hb1 Kh y2;go_wp2
 go_ret2
 exact⟨hfin.1,b,n,rfl,hfin.2⟩
theorem yC(base g:Nat)(h:Hd)(N:eG)(t:ByteArray)(xs:List Pr)(w:World)(hI:cK base w g h N)(hF:fV N)(ht:t.size<=1000)(hx:fZ N.S t=.inl xs)(h16:16<=N.subs.length):
 Calls prog 11 #[.pointer (some ⟨g,0,none⟩),.string t] w fun e w'=>Below w.heap.size w w'∧∃b n,e=.returned (.tuple #[.int .i64 0,fw b])∧eX w' 4 n (fw b):=by
 obtain⟨A3,c3,hv3,hc3,_⟩:=Kd.bB hI.rows.sub;have Ej:=ai hv3;have HI:=ai hI;obtain⟨A,c0,Af,Dq,hCS⟩:=Kd.bB hI.rows.sch;have Kh:=ai ((sH A N.S.length c0 N.S t w rfl hCS (by have:=(dn hF.chk).2.1;omega) ht).mono (fun e w' hq=>(show ∃v,e=.returned (.tuple #[v,.nilIface])∧Kd.R Po tP w' w.heap.size (fun _=>True) v (xs.map toP)∧Below w.heap.size w w' from fC.ok hq hx)));have y2:=(hI.cell 2).trans (show _=some (Vs A N.S.length c0) from by rw[<-Af];rfl);have d1:decide (16<=N.subs.length)=true:=decide_eq_true h16;have d2:decide ((16:Int)<=(N.subs.length:Int))=true:=decide_eq_true (by omega);clear hI hF Af Dq hCS hx hv3 hc3 h16;go_enter func11,ntmps11
 go_wp2_with fail
 refine Kh.o.mono ?_;rintro e w1 ⟨v,rfl,_,hb1⟩;have HB:=ai hb1;have y3:=((HI.o.below hb1).cell 3).trans (show _=some (Vs A3 N.subs.length c3) from by rw[<-Ej.o];rfl);clear hb1 Kh y2;go_wp2_with fail
 refine(iN 4 _).mono ?_;rintro e w9 ⟨b,hbl,rfl,hf,hb⟩;have hfin:=And.intro (aD HB.o HB.o.size hb) (eU.zH hf);clear hf hb hbl;go_wp2
 go_ret2
 exact⟨hfin.1,b,1,rfl,hfin.2⟩
structure Al(base g:Nat)(w0 w:World)(S:List SA)(lev:Int)(P:Nd):Prop where
 nd:∃h N,cK base w g h N∧N.pl=P∧N.S=S∧N.levels=lev∧fV N∧oI N
 below:Below w0.heap.size w0 w
 le:w0.heap.size<=base
 size:base<=w.heap.size
 tab:Gj base w
def iW(w w':World):Prop:=∀(k:Nat) (cs:Array Value) (t:TypeId) (fr:Nat×Nat),w.heap[k]? =some (.cells cs t fr)->(t≠tN∧t≠iw∧t≠ny∧t≠nM∧t≠vD)->w'.heap[k]? =w.heap[k]?
theorem Fr.EM{base g:Nat}{w w1:World}{h h1:Hd}{N:eG}(f:Fr base g w h w1 h1)(r:cK base w g h N):iW w w1:=fun k cs t fr hc ht=>f.keep k (Array.getElem?_eq_some_iff.1 hc).1 (r.other hc ht)
theorem iW.of_below{w w':World}(hb:Below w.heap.size w w'):iW w w':=fun k cs t fr hc _=>hb.block k (Array.getElem?_eq_some_iff.1 hc).1
theorem iW.trans{w w1 w2:World}(h1:iW w w1)(h2:iW w1 w2):iW w w2:=fun k cs t fr hc ht=>by
 have e:=h1 k cs t fr hc ht;exact(h2 k cs t fr (e.trans hc) ht).trans e
theorem iW.R{w w1:World}{α:Type}{d:Kd α}{e b:Nat}{ok:Nat->Prop}{v:Value}{xs:List α}(f:iW w w1)(hr:Kd.R d e w b ok v xs)(ht:∀q,q∈e::d.E->q≠tN∧q≠iw∧q≠ny∧q≠nM∧q≠vD):Kd.R d e w1 b ok v xs:=
 Kd.dD (Kd.pQ (Kd.iL hr) (fun k hk=>by
  obtain⟨_,_,_,q,hq,cells,hc⟩:=hk;exact f k _ _ _ hc (ht q hq))) (fun _ hk=>hk.1)
def ptr(g:Nat):Value:=.pointer (some ⟨g,0,none⟩)
section
variable{base g:Nat}{w0 w w':World}{S:List SA}{lev:Int}{P P':Nd}
theorem Al.keep(al:Al base g w0 w S lev P)(hb:Below w.heap.size w w'):Al base g w0 w' S lev P:=by
 obtain⟨h,N,h1,h2⟩:=al.nd;exact⟨⟨h,N,h1.below hb,h2⟩,al.below.trans (hb.mono (Nat.le_trans al.le al.size)),al.le,Nat.le_trans al.size hb.size,al.tab.below (hb.mono al.size)⟩
theorem Al.step(al:Al base g w0 w S lev P){h h':Hd}{N':eG}(f:Fr base g w h w' h')(hI:cK base w' g h' N')(hp:N'.pl=P')(hS:N'.S=S)(hL:N'.levels=lev)(hF:fV N')(hG:oI N'):Al base g w0 w' S lev P':=
 ⟨⟨h',N',hI,hp,hS,hL,hF,hG⟩,al.below.trans (f.below.mono al.le),al.le,Nat.le_trans al.size f.below.size,al.tab.below f.below⟩
theorem eG.pR{N:eG}(h:N.pl=P):N.subs.length=P.subs.length∧N.opn.length=P.opn.length∧N.inbox.length=P.inbox.length:=by
 subst h;exact⟨(List.length_map _).symm,(List.length_map _).symm,(List.length_map _).symm⟩
theorem Al.fits(al:Al base g w0 w S lev P):P.subs.length<=16∧P.opn.length<=8∧P.inbox.length<=64∧0<=P.seq∧P.seq<=1073741824∧0<=P.last∧0<=P.lost:=by
 obtain⟨h,N,h1,h2,h3,h4,h5,h6⟩:=al.nd;obtain⟨l1,l2,l3⟩:=eG.pR h2;have e1:=h5.nSub;have e2:=h5.nOpn;have e3:=h5.nBox;subst h2;exact⟨by omega,by omega,by omega,h5.seq.1,h5.seq.2,h5.last.1,h6.lost⟩
theorem oI.sub{N:eG}(h:oI N)(t:ByteArray)(F:List SP)(G:List ByteArray):oI (N.sub t F G):=⟨h.seqs,h.high,h.seenO,h.sentO,h.addr,h.lost⟩
theorem oI.fG{N:eG}(h:oI N)(V:List SV)(pay:ByteArray)(G:List ByteArray)(h0:0<=N.seq):oI (N.fG V pay G):=by
 refine⟨?_, ?_, ?_, ?_,h.addr,h.lost⟩
 ·show (N.opn++ [_]).Pairwise _;rw[List.pairwise_append];refine⟨h.seqs,List.pairwise_singleton _ _,fun a ha b hb=> ?_⟩;rw[List.mem_singleton.1 hb];have:=(h.high a ha).2;show a.seq<N.seq+1;omega
 ·intro e he;rcases List.mem_append.1 he with he|he
  ·have:=h.high e he;show 1<=e.seq∧e.seq<=N.seq+1;omega
  ·rw[List.mem_singleton.1 he];show 1<=N.seq+1∧N.seq+1<=N.seq+1;omega
 ·intro l hl;have h1:=h.seenO l hl;refine⟨⟨h1.1.1,by show l<=N.seq+1;omega⟩,fun e he=> ?_⟩;rcases List.mem_append.1 he with he|he
  ·exact h1.2 e he
  ·rw[List.mem_singleton.1 he];show l<N.seq+1;omega
 ·intro s hs;have h1:=h.sentO s hs;refine⟨by show s.seq<=N.seq+1;omega,fun e he=> ?_⟩;rcases List.mem_append.1 he with he|he
  ·exact h1.2 e he
  ·rw[List.mem_singleton.1 he];show s.seq<N.seq+1;omega
theorem NQ(A:Option Addr)(n c:Nat)(S:List SA)(a l:Int)(b:Nat)(ok:Nat->Prop)(w0 w:World)(ha:0<=a∧a<32)(h0:0<=l∧l<=8)(hr:Kd.R Pp tA w b ok (.slice A n c) S)(hb:b<=w.heap.size)(hck:cB S=none)(hT:gF w)(hb0:Below w0.heap.size w0 w):
 Calls prog 10 #[.int .i64 a,.slice A n c,.int .i64 l] w fun e w'=>∃g,e=.returned (.tuple #[ptr g,.nilIface])∧Al w.heap.size g w0 w' S l (Nd.new a):=by
 refine(Uo A n c S a l b ok w ha h0 hr hb hck).mono ?_;rintro e w' ⟨g,h,h1,h2,h3,h4⟩;refine⟨g,h1,⟨⟨h,_,h3,rfl,rfl,rfl,⟨hck,h0,⟨Int.le_refl _,(by show (0:Int)<=1073741824;decide)⟩,⟨Int.le_refl _,(by show (0:Int)<=1000000;decide)⟩,Nat.zero_le _,fun s hs=>(by cases hs),fun s hs=>(by cases hs),Nat.zero_le _,fun s hs=>(by cases hs),Nat.zero_le _,Nat.zero_le _⟩,⟨List.Pairwise.nil,fun s hs=>(by cases hs),fun l hl=>(by cases hl),fun s hs=>(by cases hs),ha,Int.le_refl _⟩⟩,hb0.trans (h4.mono hb0.size),hb0.size,h4.size,⟨w,hT,Nat.le_refl _,h4⟩⟩⟩
theorem wB(al:Al base g w0 w S lev P)(t:ByteArray)(xs:List Pr)(ht:t.size<=1000)(hx:fZ S t=.inl xs)(h16:P.subs.length<16)(hl:P.last<1000000):
 Calls prog 11 #[ptr g,.string t] w fun e w'=>e=.returned (.tuple #[.int .i64 (P.last+1),.nilIface])∧Al base g w0 w' S lev (P.sub (xs.map toP))∧iW w w':=by
 obtain⟨h,N,h1,h2,rfl,rfl,hF,hG⟩:=al.nd;have hlen:=eG.pR h2;subst h2;refine(BQ base g h N t xs w h1 al.size hF al.tab ht hx (by omega)).mono ?_;rintro e w' ⟨he,h',t',G,hg1,hg2,hI,hf⟩;refine⟨he,al.step hf hI (eG.SG N t' _ G) rfl rfl ?_ (hG.sub _ _ _),hf.EM h1⟩;have lL:=EA hx;have hl:N.last<1000000:=hl;have hla:=hF.last;refine⟨hF.chk,hF.lev,hF.seq, ?_, ?_, ?_, ?_,hF.nOpn,hF.evs,hF.nBox,hF.nSent⟩
 ·show 0<=N.last+1∧N.last+1<=1000000;omega
 ·show (N.subs++ [_]).length<=16;rw[List.length_append];show N.subs.length+1<=16;omega
 ·intro s hs;rcases List.mem_append.1 hs with hs|hs
  ·exact hF.flt s hs
  ·rw[List.mem_singleton.1 hs];exact lL
 ·intro s hs;rcases List.mem_append.1 hs with hs|hs
  ·exact hF.cz s hs
  ·rw[List.mem_singleton.1 hs];exact⟨hg1,hg2⟩
theorem J5(al:Al base g w0 w S lev P)(t:ByteArray)(xs:List Pr)(ht:t.size<=1000)(hx:fZ S t=.inl xs)(h16:P.subs.length<16)(hl:P.last<1000000):
 Calls prog 11 #[ptr g,.string t] w fun e w'=>e=.returned (.tuple #[.int .i64 (P.last+1),.nilIface])∧Al base g w0 w' S lev (P.sub (xs.map toP)):=by
 exact(wB al t xs ht hx h16 hl).mono (fun e w' h=>⟨h.1,h.2.1⟩)
theorem Ku(al:Al base g w0 w S lev P)(t:ByteArray)(c:Int)(ht:t.size<=1000)(hx:fZ S t=.inr c):
 Calls prog 11 #[ptr g,.string t] w fun e w'=>Below w.heap.size w w'∧Al base g w0 w' S lev P∧∃b n,e=.returned (.tuple #[.int .i64 0,fw b])∧eX w' c n (fw b):=by
 obtain⟨h,N,h1,h2,rfl,rfl,hF,hG⟩:=al.nd;refine(BU base g h N t c w h1 hF ht hx).mono ?_;rintro e w' ⟨hb,he⟩;exact⟨hb,al.keep hb,he⟩
theorem Ei(al:Al base g w0 w S lev P)(t:ByteArray)(xs:List Pr)(ht:t.size<=1000)(hx:fZ S t=.inl xs)(h16:16<=P.subs.length):
 Calls prog 11 #[ptr g,.string t] w fun e w'=>Below w.heap.size w w'∧Al base g w0 w' S lev P∧∃b n,e=.returned (.tuple #[.int .i64 0,fw b])∧eX w' 4 n (fw b):=by
 obtain⟨h,N,h1,h2,rfl,rfl,hF,hG⟩:=al.nd;have hlen:=eG.pR h2;refine(yC base g h N t xs w h1 hF ht hx (by omega)).mono ?_;rintro e w' ⟨hb,he⟩;exact⟨hb,al.keep hb,he⟩
theorem wN(al:Al base g w0 w S lev P)(k c b:Nat)(ok:Nat->Prop)(E:Option Addr)(V:List SV)(pay:ByteArray)(hrR:Kd.R pI tV w b ok (.slice E k c) V)(heb:dV S V pay=none)(h8:P.opn.length<8)(Oq:P.seq<1073741824):
 Calls prog 12 #[ptr g,kR E k c pay] w fun e w'=>e=.returned (.tuple #[.int .i64 (P.seq+1),.nilIface])∧Al base g w0 w' S lev (P.fG V pay)∧iW w w':=by
 obtain⟨h,N,h1,h2,rfl,rfl,hF,hG⟩:=al.nd;have hlen:=eG.pR h2;subst h2;refine(Ia base g k c b ok h N E V pay w h1 al.size hF hrR al.tab.tab heb (by omega) Oq).mono ?_;rintro e w' ⟨he,h',G,hg0,hg1,hg2,hI,hf⟩;have Oq:N.seq<1073741824:=Oq;have hs0:=hF.seq;refine⟨he,al.step hf hI (eG.TB N V pay G) rfl rfl ⟨hF.chk,hF.lev, ?_,hF.last,hF.nSub,hF.flt,hF.cz, ?_, ?_,hF.nBox,hF.nSent⟩ (hG.fG _ _ _ hs0.1),hf.EM h1⟩
 ·show 0<=N.seq+1∧N.seq+1<=1073741824;omega
 ·show (N.opn++ [_]).length<=8;rw[List.length_append];show N.opn.length+1<=8;omega
 ·intro s hs;rcases List.mem_append.1 hs with hs|hs
  ·exact hF.evs s hs
  ·rw[List.mem_singleton.1 hs];exact⟨heb,hg0,hg1,hg2⟩
theorem Kv(al:Al base g w0 w S lev P)(k c b:Nat)(ok:Nat->Prop)(E:Option Addr)(V:List SV)(pay:ByteArray)(hrR:Kd.R pI tV w b ok (.slice E k c) V)(heb:dV S V pay=none)(h8:P.opn.length<8)(Oq:P.seq<1073741824):
 Calls prog 12 #[ptr g,kR E k c pay] w fun e w'=>e=.returned (.tuple #[.int .i64 (P.seq+1),.nilIface])∧Al base g w0 w' S lev (P.fG V pay):=by
 exact(wN al k c b ok E V pay hrR heb h8 Oq).mono (fun e w' h=>⟨h.1,h.2.1⟩)
theorem Ik(al:Al base g w0 w S lev P)(k c:Nat)(E:Option Addr)(V:List SV)(pay:ByteArray)(hk:V.length=k)(hr:Kd.C pI w E k V)(i:Nat)(heb:dV S V pay=some i):
 Calls prog 12 #[ptr g,kR E k c pay] w fun e w'=>Below w.heap.size w w'∧Al base g w0 w' S lev P∧∃b n,e=.returned (.tuple #[.int .i64 0,fw b])∧eX w' 3 n (fw b):=by
 obtain⟨h,N,h1,h2,rfl,rfl,hF,hG⟩:=al.nd;refine(Ey base g k c h N E V pay w h1 hF hk hr al.tab.tab i heb).mono ?_;rintro e w' ⟨hb,he⟩;exact⟨hb,al.keep hb,he⟩
theorem EY(al:Al base g w0 w S lev P)(k c:Nat)(E:Option Addr)(V:List SV)(pay:ByteArray)(hk:V.length=k)(hr:Kd.C pI w E k V)(heb:dV S V pay=none)(h8:8<=P.opn.length):
 Calls prog 12 #[ptr g,kR E k c pay] w fun e w'=>Below w.heap.size w w'∧Al base g w0 w' S lev P∧∃b n,e=.returned (.tuple #[.int .i64 0,fw b])∧eX w' 5 n (fw b):=by
 obtain⟨h,N,h1,h2,rfl,rfl,hF,hG⟩:=al.nd;have hlen:=eG.pR h2;refine(BK base g k c h N E V pay w h1 hF hk hr al.tab.tab heb (by omega)).mono ?_;rintro e w' ⟨hb,he⟩;exact⟨hb,al.keep hb,he⟩
theorem AU(al:Al base g w0 w S lev P)(now a:Int)(hlo:P.lost<=900000):
 Calls prog 13 #[ptr g,.int .i64 now,.iface rG (.int .i64 a)] w fun e w'=>e=.returned (.tuple #[])∧Al base g w0 w' S lev (P.tick S)∧iW w w':=by
 obtain⟨h,N,h1,h2,rfl,rfl,hF,hG⟩:=al.nd;subst h2;refine(Ih base g h N a now w h1 al.size hF hG hlo).mono ?_;rintro e w' ⟨he,h',N',hT,hI,hf⟩;exact⟨he,al.step hf hI hT.pl hT.S hT.lev hT.fit hT.go,hf.EM h1⟩
theorem Q3(al:Al base g w0 w S lev P)(now a:Int)(hlo:P.lost<=900000):
 Calls prog 13 #[ptr g,.int .i64 now,.iface rG (.int .i64 a)] w fun e w'=>e=.returned (.tuple #[])∧Al base g w0 w' S lev (P.tick S):=by
 exact(AU al now a hlo).mono (fun e w' h=>⟨h.1,h.2.1⟩)
theorem Bb(al:Al base g w0 w S lev P)(most:Int):
 Calls prog 14 #[ptr g,.int .i64 most] w fun e w'=>∃A c L,e=.returned (.slice A (P.polled most) c)∧Kd.R zL ny w' base (fun _=>True) (.slice A (P.polled most) c) L∧L.map kY.pl=P.inbox.take (P.polled most)∧Al base g w0 w' S lev (P.poll most)∧iW w w':=by
 obtain⟨h,N,h1,h2,rfl,rfl,hF,hG⟩:=al.nd;subst h2;have e1:N.pl.polled most=min most.toNat N.inbox.length:=by show min most.toNat (N.inbox.map kY.pl).length=_;rw[List.length_map]
 refine(Gl base g h N most w h1 al.size hF.nBox).mono ?_;rintro e w' ⟨A,c,he,hR,h',hI,hf⟩;rw[e1];refine⟨A,c,_,he,hR,by rw[List.map_take];rfl,al.step hf hI ?_ rfl rfl ⟨hF.chk,hF.lev,hF.seq,hF.last,hF.nSub,hF.flt,hF.cz,hF.nOpn,hF.evs, ?_,hF.nSent⟩ ⟨hG.seqs,hG.high,hG.seenO,hG.sentO,hG.addr,hG.lost⟩,hf.EM h1⟩
 ·unfold Nd.poll;rw[e1];unfold eG.pl;rw[List.map_drop]
 ·show (N.inbox.drop _).length<=64;rw[List.length_drop];have:=hF.nBox;omega
theorem Qt(al:Al base g w0 w S lev P)(most:Int):
 Calls prog 14 #[ptr g,.int .i64 most] w fun e w'=>∃A c L,e=.returned (.slice A (P.polled most) c)∧Kd.R zL ny w' base (fun _=>True) (.slice A (P.polled most) c) L∧L.map kY.pl=P.inbox.take (P.polled most)∧Al base g w0 w' S lev (P.poll most):=by
 exact(Bb al most).mono (fun e w' ⟨A,c,L,h1,h2,h3,h4,_⟩=>⟨A,c,L,h1,h2,h3,h4⟩)
theorem M9(al:Al base g w0 w S lev P):Calls prog 15 #[ptr g] w fun e w'=>e=.returned (.int .i64 (P.inbox.length:Int))∧w'=w:=by
 obtain⟨h,N,h1,h2,rfl,rfl,hF,hG⟩:=al.nd;have hlen:=eG.pR h2;have:=Fb base g h N w h1;rw[hlen.2.2] at this;exact this
theorem P6(al:Al base g w0 w S lev P):Calls prog 17 #[ptr g] w fun e w'=>e=.returned (.int .i64 P.lost)∧w'=w:=by
 obtain⟨h,N,h1,h2,rfl,rfl,hF,hG⟩:=al.nd;subst h2;exact FX base g h N w h1
end
def I8(nm:ByteArray)(L:List qE):Int:=xM (fun x=>x.f0.toList==nm.toList) L
theorem wH(A:Option Addr)(n c:Nat)(L:List qE)(nm:ByteArray)(w:World)(hn:L.length=n)(hr:Kd.C ui w A n L)(hl:n<=100000):
 Calls prog 122 #[.slice A n c,.string nm] w fun e w'=>e=.returned (.int .i64 (I8 nm L))∧Below w.heap.size w w':=by
 have HR:=ai hr;have HN:=ai hn;have HF:=ai (show I8 nm L=idxFrom (fun x=>x.f0.toList==nm.toList) L 0 from rfl);generalize I8 nm L=z at HF|-;clear hr hn;go_enter func122,ntmps122
 go_wp2_with fail
 go_loopg [5,6,9] (n+1) (fun k v5 v6 v9 W=>∃i:Nat,ay (i<=n∧k+i=n+1∧z=idxFrom (fun x:qE=>x.f0.toList==nm.toList) (L.drop i) i)∧v9=.int .i64 (i:Int)∧ay (Below w.heap.size w W))
 case atStart=>exact⟨0,⟨by omega,by omega,HF.o⟩,rfl,⟨Below.refl _ _⟩⟩
 case round=>
  obtain⟨i,HM,rfl,HB⟩:=hrel;by_cases hi:i<n
  ·have b1:decide ((i:Int)<(n:Int))=true:=decide_eq_true (by omega);have b2:decide (i<n)=true:=decide_eq_true (by omega);have p1:(0:Int)<=(i:Int):=by omega
   have p2:(i:Int)<(n:Int):=by omega
   obtain⟨ad,e,h0,h1,h2,h3⟩:=sM HR.o i p1 p2;cases e
   rw[Int.toNat_natCast] at h0 h1 h2 h3;have hrd:lZ L (i:Int)=L.getD i JP:=rfl;rw[hrd] at h0 h1 h2 h3;have hdr:L.drop i=L.getD i JP::L.drop (i+1):=by
    rw[List.drop_eq_getElem_cons (by have:=HN.o;omega),List.getD_eq_getElem?_getD,List.getElem?_eq_getElem (by have:=HN.o;omega)];rfl
   have HD:=ai hdr;clear hrd hdr;generalize L.getD i JP=x at h0 h1 h2 h3 HD;replace h0:=(HB.o.cell (World.block_lt_of_cell? w _ h0)).trans h0;replace h1:=(HB.o.cell (World.block_lt_of_cell? w _ h1)).trans h1;replace h2:=(HB.o.cell (World.block_lt_of_cell? w _ h2)).trans h2;replace h3:=(HB.o.cell (World.block_lt_of_cell? w _ h3)).trans h3;cases hq:(x.f0.toList==nm.toList) with
   |true=>
    have HQ:=ai (show z=(i:Int) by rw[HM.o.2.2,HD.o];unfold idxFrom;rw[hq];rfl);go_wp2;go_ret;exact⟨by rw[HQ.o];rfl,ae HB.o _⟩
   |false=>
    have HQ:=ai (show z=idxFrom (fun x:qE=>x.f0.toList==nm.toList) (L.drop (i+1)) (i+1) by rw[HM.o.2.2,HD.o];show (if (x.f0.toList==nm.toList)=true then (i:Int) else _)=_;rw[hq];rfl);go_wp2_with fail
    go_roundg (gk-1)
    case measure=>have:=HM.o;omega
    case rel=>exact⟨i+1,⟨by omega,by have:=HM.o;omega,HQ.o⟩,rfl,⟨ae HB.o _⟩⟩
  ·have b1:decide ((i:Int)<(n:Int))=false:=decide_eq_false (by omega);have b2:decide (i<n)=false:=decide_eq_false (by omega);have hd:L.drop i= []:=List.drop_eq_nil_iff.2 (by have:=HN.o;omega);have HE:=ai (show z= -1 by rw[HM.o.2.2,hd];rfl);clear hd hi;go_wp2;go_ret;exact⟨by rw[HE.o];rfl,HB.o⟩
theorem oP(s:ByteArray)(w:World)(hs:s.size<=1000000000):Calls prog 124 #[.string s] w fun e w'=>e=.returned (.bool (jw s))∧w=w':=by
 have HS:=ai (show jw s=(decide (s.size<=40)&&(bytes s).all jS) from rfl);generalize jw s=b at HS|-;go_enter func124,ntmps124
 go_wp2_with fail
 go_loopg [3] (s.size+1) (fun k v3 W=>∃i:Nat,ay (i<=s.size∧k+i=s.size+1∧(bytes s).all jS=(bu s i).all jS)∧v3=.int .i64 (i:Int)∧W=w)
 case atStart=>exact⟨0,⟨by omega,by omega,rfl⟩,rfl,rfl⟩
 case round=>
  obtain⟨i,HM,rfl,rfl⟩:=hrel;by_cases hi:i<s.size
  ·have b1:decide ((i:Int)<(s.size:Int))=true:=decide_eq_true (by omega);have b2:decide (i<s.size)=true:=decide_eq_true (by omega);have p1:(0:Int)<=(i:Int):=by omega
   have p2:(i:Int)<(s.size:Int):=by omega
   obtain⟨c,hc⟩:∃c,s[i]'hi=c:=⟨_,rfl⟩
   have Bo:=dP hi;rw[hc] at Bo;have HD:=ai Bo;have hx:∀h:i<s.size,s[i]'h=c:=fun _=>hc
   clear hc Bo;have hch:jS c=(!decide ((c.toNat:Int)<32)&& !decide (126<(c.toNat:Int))):=by
    unfold jS;rw[Bool.eq_iff_iff];simp only[decide_eq_true_eq,Bool.and_eq_true,Bool.not_eq_true',decide_eq_false_iff_not,UInt8.le_iff_toNat_le];have e1:(32:UInt8).toNat=32:=rfl;have e2:(126:UInt8).toNat=126:=rfl;rw[e1,e2];omega
   by_cases g0:(c.toNat:Int)<32
   ·have g1:=decide_eq_true g0;have HQ:=ai (show b=false by rw[HS.o,HM.o.2.2,HD.o,List.all_cons,hch,g1];simp);clear hch g0;go_wp2;go_ret;exact⟨by rw[HQ.o];rfl,rfl⟩
   ·have g1:=decide_eq_false g0;by_cases g2:126<(c.toNat:Int)
    ·have g3:=decide_eq_true g2;have HQ:=ai (show b=false by rw[HS.o,HM.o.2.2,HD.o,List.all_cons,hch,g3];simp);clear hch g0 g2;go_wp2;go_ret;exact⟨by rw[HQ.o];rfl,rfl⟩
    ·have g3:=decide_eq_false g2;have HQ:=ai (show (bytes s).all jS=(bu s (i+1)).all jS by rw[HM.o.2.2,HD.o,List.all_cons,hch,g1,g3];simp);clear hch g0 g2;go_wp2_with fail
     go_roundg (gk-1)
     case measure=>have:=HM.o;omega
     case rel=>exact⟨i+1,⟨by omega,by have:=HM.o;omega,HQ.o⟩,rfl,rfl⟩
  ·have b1:decide ((i:Int)<(s.size:Int))=false:=decide_eq_false (by omega);have b2:decide (i<s.size)=false:=decide_eq_false (by omega);have HQ:=ai (show b=decide (s.size<=40) by rw[HS.o,HM.o.2.2,gP (by omega)];simp);by_cases h40:s.size<=40
   ·have q1:decide ((s.size:Int)<=40)=true:=decide_eq_true (by omega);rw[decide_eq_true h40] at HQ;clear hi h40;go_wp2;go_ret;exact⟨by rw[HQ.o];rfl,rfl⟩
   ·have q1:decide ((s.size:Int)<=40)=false:=decide_eq_false (by omega);rw[decide_eq_false h40] at HQ;clear hi h40;go_wp2;go_ret;exact⟨by rw[HQ.o];rfl,rfl⟩
end Go.Proofs.YtnmpijbcajclgaaGreatDoor.Mine
end
