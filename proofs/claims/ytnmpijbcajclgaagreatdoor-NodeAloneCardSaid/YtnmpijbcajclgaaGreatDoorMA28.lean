/- Texts of one claim, one behind the other, made short by a program. -/
import Derived.Test.YtnmpijbcajclgaaGreatDoorMA27
set_option linter.unusedSimpArgs false
set_option linter.unusedVariables false
set_option maxRecDepth 100000
section
namespace Go.Proofs.YtnmpijbcajclgaaGreatDoor.Mine
open Tryz
open Go.Maps Go.RowKit YtnmpijbcajclgaaGreatDoorW.PrintWords YtnmpijbcajclgaaGreatDoorW.PrintLast YtnmpijbcajclgaaGreatDoorW.PrintMore
open PNodeAlone
def abn(w:World)(S:List SA)(a l:Int)(w0:World)(e:Ending)(w':World):Prop:=
 ∃pv v cd,e=.returned (.tuple #[pv,v])∧qI w' cd v∧Below w.heap.size w w'∧(((a<0∨32<=a∨l<0∨8<l)∧cd=1∧pv=.pointer none)∨(¬(a<0∨32<=a∨l<0∨8<l)∧(((∃i,cB S=some i)∧cd=3∧pv=.pointer none)∨(cB S=none∧cd=0∧∃g,pv=ptr g∧Al w.heap.size g w0 w' S l (Nd.new a)))))
theorem Ib(A:Option Addr)(n c:Nat)(S:List SA)(a l:Int)(b:Nat)(ok:Nat->Prop)(w0 w:World)(hn:S.length=n)(hl:n<=100000)(hnc:n<=c)(hr:Kd.R Pp tA w b ok (.slice A n c) S)(hb:b<=w.heap.size)(hT:gF w)(hb0:Below w0.heap.size w0 w):
 Calls prog 10 #[.int .i64 a,.slice A n c,.int .i64 l] w (abn w S a l w0):=by
 by_cases h:a<0∨32<=a∨l<0∨8<l
 ·refine(Qi _ a l w h).mono ?_;rintro e w' ⟨hbw,bb,n,rfl,he⟩;exact⟨_,_,1,rfl,.inr ⟨_,he⟩,hbw,.inl ⟨h,rfl,rfl⟩⟩
 ·have ha:0<=a∧a<32:=by omega
  have h0:0<=l∧l<=8:=by omega
  cases hck:cB S with
  |some i=>
   have hC:=(Kd.bN hr).2.2;rw[hn] at hC;refine(QA A n c S a l i w ha h0 hn hC hl hnc hck).mono ?_;rintro e w' ⟨hbw,bb,n,rfl,he⟩;exact⟨_,_,3,rfl,.inr ⟨_,he⟩,hbw,.inr ⟨h,.inl ⟨⟨i,hck⟩,rfl,rfl⟩⟩⟩
  |none=>
   refine(NQ A n c S a l b ok w w ha h0 hr hb hck hT (Below.refl _ _)).mono ?_;rintro e w' ⟨g,rfl,al⟩;exact⟨_,_,0,rfl,.inl ⟨rfl,rfl⟩,al.below,.inr ⟨h,.inr ⟨hck,rfl,g,rfl,⟨al.nd,hb0.trans (al.below.mono hb0.size),hb0.size,al.size,al.tab⟩⟩⟩⟩
set_option maxHeartbeats 8000000 in
theorem EN(a lev:Int)(A AA:Option Addr)(n c na ca:Nat)(L:List SA)(acts:List wY)(w:World)(hn:L.length=n)(hr:Kd.C Pp w A n L)(hc:n<=c)(hnm:∀p∈L,p.f0.size<=9223372036854775807)(hn2:n<=9223372036854775807)(hac:vN w AA na acts)(hT:gF w)(hE:iR w):
 Calls prog 7 #[.int .i64 a,.slice A n c,.int .i64 lev,.slice AA na ca] w fun e w'=>e=.returned (.bool true)∧Below w.heap.size w w':=by
 have HE0:=ai (E5 A n c L w hn hr hc hnm hn2);have Rk:=ai (show (kJ L).length<=6∧∀a∈kJ L,a.f0.size<=1000000000 from⟨by unfold kJ;simp;omega,fun v hv=>by
  unfold kJ at hv;obtain⟨x,_,rfl⟩:=List.mem_map.1 hv;have:=CF x.f0 20;show (rF x.f0 20).size<=_;omega⟩)
 have Rw:=ai hac;have HT:=ai hT;have FH:=ai hE;generalize kJ L=S at HE0 Rk;clear hn hr hc hnm hn2 hac hT hE;go_enter func7,ntmps7
 go_wp2_with fail
 refine HE0.o.mono ?_;rintro e wb ⟨v0,v1,rfl,hR0,IL,hbb⟩;obtain⟨A1,c1,rfl,hc1,VM⟩:=Kd.bB hR0;obtain⟨A2,c2,rfl,hc2,hC2⟩:=Kd.bB IL;have HB0:=ai hbb;obtain⟨m1,hm1⟩:∃n,n=S.length:=⟨_,rfl⟩
 rw[List.length_map] at hc2 hC2 IL|-;rw[<-hm1] at hc1 VM hc2 hC2 hR0 IL Rk|-;have WM:=ai (And.intro hm1 (And.intro hc1 hc2));have TN:=ai hR0;have HR1:=ai IL;have o9:=ai (show Kd.C ui wb A2 m1 (S.map toA) from hC2);clear hbb HE0 hR0 IL hc1 VM hc2 hC2 hm1;go_wp2_with fail
 refine(Ib A1 m1 c1 S a lev w.heap.size (fun _=>True) w wb WM.o.1.symm (by have:=Rk.o.1;omega) WM.o.2.1 TN.o HB0.o.size (HT.o.below HB0.o) HB0.o).mono ?_;rintro e we ⟨pv,ve,cd,rfl,hcd,hbe,hcase⟩;replace o9:=ai (Kd.aY o9.o hbe);replace HR1:=lV HR1 hbe;have U1:=ai HB0.o.size;replace HB0:=dW HB0 hbe;clear TN hbe;have Yp:=ai hcd;clear hcd;go_wp2_with fail
 refine(zX A2 m1 c2 S we WM.o.1.symm o9.o (by have:=Rk.o.1;omega) WM.o.2.2 Rk.o.2).mono ?_;rintro e wf ⟨rfl,hbf⟩;have Lg:=dW HB0 hbf;have RZ:=ai (HT.o.below Lg.o);have FI:=ai (Yp.o.below hbf);have vZ:=ai (Kd.aY o9.o hbf);have HR2:=lV HR1 hbf;have hsb:(∃i:Nat,cB S=some i∧decide (0<=lv (cB S))=true)∨(cB S=none∧decide (0<=lv (cB S))=false):=by
  cases cB S with
  |none=>exact .inr ⟨rfl,by decide⟩
  |some i=>exact .inl ⟨i,rfl,decide_eq_true (by show (0:Int)<=(i:Int);omega)⟩
 rcases hcase with⟨hbad,rfl,rfl⟩|⟨hgood,hcase⟩
 ·clear Yp o9 HR1 HB0 hbf;by_cases h1:a<0
  ·have q1:decide (a<0)=true:=decide_eq_true h1;clear hbad;rcases hsb with⟨i,hck,hq⟩|⟨hck,hq⟩
   all_goals
    clear hck;go_wp2_with fail
    refine(jZ wf RZ.o).mono ?_;rintro e wg ⟨rfl,hbg⟩;have HB1:=dW Lg hbg;have Lu:=ai (FI.o.below hbg);clear Lg FI hbg;go_wp2_with fail
    refine(l6 Lu.o (iR.below FH.o HB1.o)).mono ?_;rintro e wh ⟨rfl,Cu⟩;have HB2:=dW HB1 Cu;clear Cu;go_wp2;go_ret;exact⟨rfl,HB2.o⟩
  ·have q1:decide (a<0)=false:=decide_eq_false h1;by_cases h2:31<a
   ·have q2:decide (31<a)=true:=decide_eq_true h2;clear hbad;rcases hsb with⟨i,hck,hq⟩|⟨hck,hq⟩
    all_goals
     clear hck;go_wp2_with fail
     refine(jZ wf RZ.o).mono ?_;rintro e wg ⟨rfl,hbg⟩;have HB1:=dW Lg hbg;have Lu:=ai (FI.o.below hbg);clear Lg FI hbg;go_wp2_with fail
     refine(l6 Lu.o (iR.below FH.o HB1.o)).mono ?_;rintro e wh ⟨rfl,Cu⟩;have HB2:=dW HB1 Cu;clear Cu;go_wp2;go_ret;exact⟨rfl,HB2.o⟩
   ·have q2:decide (31<a)=false:=decide_eq_false h2;by_cases h3:lev<0
    ·have q3:decide (lev<0)=true:=decide_eq_true h3;clear hbad;rcases hsb with⟨i,hck,hq⟩|⟨hck,hq⟩
     all_goals
      clear hck;go_wp2_with fail
      refine(jZ wf RZ.o).mono ?_;rintro e wg ⟨rfl,hbg⟩;have HB1:=dW Lg hbg;have Lu:=ai (FI.o.below hbg);clear Lg FI hbg;go_wp2_with fail
      refine(l6 Lu.o (iR.below FH.o HB1.o)).mono ?_;rintro e wh ⟨rfl,Cu⟩;have HB2:=dW HB1 Cu;clear Cu;go_wp2;go_ret;exact⟨rfl,HB2.o⟩
    ·have q3:decide (lev<0)=false:=decide_eq_false h3;have q4:decide (8<lev)=true:=decide_eq_true (by omega);clear hbad;rcases hsb with⟨i,hck,hq⟩|⟨hck,hq⟩
     all_goals
      clear hck;go_wp2_with fail
      refine(jZ wf RZ.o).mono ?_;rintro e wg ⟨rfl,hbg⟩;have HB1:=dW Lg hbg;have Lu:=ai (FI.o.below hbg);clear Lg FI hbg;go_wp2_with fail
      refine(l6 Lu.o (iR.below FH.o HB1.o)).mono ?_;rintro e wh ⟨rfl,Cu⟩;have HB2:=dW HB1 Cu;clear Cu;go_wp2;go_ret;exact⟨rfl,HB2.o⟩
 ·have q1:decide (a<0)=false:=decide_eq_false (by omega);have q2:decide (31<a)=false:=decide_eq_false (by omega);have q3:decide (lev<0)=false:=decide_eq_false (by omega);have q4:decide (8<lev)=false:=decide_eq_false (by omega);rcases hcase with⟨⟨i,hck⟩,rfl,rfl⟩|⟨hck,rfl,g,rfl,al⟩
  ·rcases hsb with⟨_,_,hq⟩|⟨Oy,_⟩
   ·clear Yp o9 HR1 HB0 hbf hck;go_wp2_with fail
    refine(jZ wf RZ.o).mono ?_;rintro e wg ⟨rfl,hbg⟩;have HB1:=dW Lg hbg;have Lu:=ai (FI.o.below hbg);clear Lg FI hbg;go_wp2_with fail
    refine(l6 Lu.o (iR.below FH.o HB1.o)).mono ?_;rintro e wh ⟨rfl,Cu⟩;have HB2:=dW HB1 Cu;clear Cu;go_wp2;go_ret;exact⟨rfl,HB2.o⟩
   ·rw[hck] at Oy;cases Oy
  ·rcases hsb with⟨i,Oy,_⟩|⟨_,hq⟩
   ·rw[hck] at Oy;cases Oy
   ·have AL:=ai (al.keep hbf);clear Yp o9 HR1 HB0 hbf hck al;unfold ptr;go_wp2_with fail
    refine(jZ wf RZ.o).mono ?_;rintro e wg ⟨rfl,hbg⟩;have HB1:=dW Lg hbg;have Lu:=ai (FI.o.below hbg);have AL1:=ai (AL.o.keep hbg);have HR3:=lV HR2 hbg;clear Lg FI hbg AL HR2 vZ;go_wp2_with fail
    refine(l6 Lu.o (iR.below FH.o HB1.o)).mono ?_;rintro e wh ⟨rfl,Cu⟩;have HB2:=dW HB1 Cu;have ZF:=ai (AL1.o.keep Cu);have HR4:=lV HR3 Cu;clear Cu HB1 AL1 HR3 Lu RZ;go_upto_region 13 with (fail)
    have hbn:=ae (Below.refl wh.heap.size wh) (.cells #[.slice A2 m1 c2,.slice none 0 0,.int .i64 0,.int .i64 0,.slice none 0 0,.slice none 0 0,.int .i64 0] dY);have kx:=heap_alloc_new wh (.cells #[.slice A2 m1 c2,.slice none 0 0,.int .i64 0,.int .i64 0,.slice none 0 0,.slice none 0 0,.int .i64 0] dY);have Yt:=ai (show AX wb.heap.size w.heap.size g wh.heap.size w (wh.alloc (.cells #[.slice A2 m1 c2,.slice none 0 0,.int .i64 0,.int .i64 0,.slice none 0 0,.slice none 0 0,.int .i64 0] dY)) S lev (Nd.new a) from⟨ZF.o.keep hbn,⟨⟨.slice A2 m1 c2,.slice none 0 0,.slice none 0 0,.slice none 0 0⟩,⟨Kd.bJ HR4.o hbn,Kd.iF _ _ _ _ _,Kd.iF _ _ _ _ _,Kd.iF _ _ _ _ _⟩,kx⟩,ZF.o.size,U1.o⟩);clear hbn kx ZF HR4 HB2;generalize wh.alloc (.cells #[.slice A2 m1 c2,.slice none 0 0,.int .i64 0,.int .i64 0,.slice none 0 0,.slice none 0 0,.int .i64 0] dY)=w1 at Yt|-;generalize wh.heap.size=gx at Yt|-;have HS:=ai (show S.length<=1000 from by have:=Rk.o.1;have:=WM.o.1;omega);clear q1 q2 q3 q4 hq hgood;go_wp2_with fail
    go_loopg [15] 51 (fun k v15 W=>∃(i:Nat) (P:Nd),ay (i<=na∧i<=50∧k+i=51)∧v15=.int .i64 (i:Int)∧ay (AX wb.heap.size w.heap.size g gx w W S lev P)∧ay (NI S i P∧NA a P))
    case atStart=>exact⟨0,Nd.new a,⟨by omega,by omega,by omega⟩,rfl,Yt,⟨NI.new a HS.o,NA.new a⟩⟩
    case round=>
     clear Yt;obtain⟨i,P,HI,rfl,HX,HN⟩:=hrel;by_cases hi:i<na
     ·have b1:decide ((i:Int)<(na:Int))=true:=decide_eq_true (by omega);have b2:decide (i<na)=true:=decide_eq_true (by omega);have YW:(0:Int)<=(i:Int):=by omega
      have YV:(i:Int)<(na:Int):=by omega
      by_cases h50:i<50
      ·have b3:decide ((i:Int)<50)=true:=decide_eq_true (by omega);have b4:decide (i<50)=true:=decide_eq_true (by omega);have hbw:=HX.o.al.below;obtain⟨ad,ac,hA,hget,hok,c0,c1',c2',c3',c4'⟩:=Tw (Rw.o.below hbw) i hi;subst hA;rw[Int.toNat_natCast] at c0 c1' c2' c3' c4';go_upto_region 17 with (fail)
       have gZ:=ae (Below.refl wr.heap.size wr) (.cells #[.int .i64 ac.kind,.int .i64 ac.num,.string ac.text,.slice ac.A ac.n ac.c,.string ac.pay] 76);have ka:=heap_alloc_new wr (.cells #[.int .i64 ac.kind,.int .i64 ac.num,.string ac.text,.slice ac.A ac.n ac.c,.string ac.pay] 76);have zN:=ai (HX.o.keep gZ);have gI:=ai (hok.below gZ);clear c0 c1' c2' c3' c4' hok hget hbw b1 b2 b3 b4 YW YV;generalize wr.alloc (.cells #[.int .i64 ac.kind,.int .i64 ac.num,.string ac.text,.slice ac.A ac.n ac.c,.string ac.pay] 76)=W7 at ka zN gI gZ|-;obtain⟨ga,hga⟩:∃q,q=wr.heap.size:=⟨_,rfl⟩
       rw[<-hga] at ka|-;have pg:=ai ka;have r0:=bK ka;have r1:=bS ka;have r2:=dh ka;clear ka gZ hga;go_upto_block 2 with (fail)
       clear r0;go_cut [] (fun wx=>∃P',ay (AX wb.heap.size w.heap.size g gx w wx S lev P')∧ay (NI S (i+1) P'∧NA a P'))
       case first=>
        have Qy:=ai (show TC a lev g gx ga i w wb wr W7 S P ac from⟨by have:=HI.o;omega,HX.o,zN.o,HN.o,gI.o,pg.o,FH.o⟩);clear HX HN gI pg FH r1 r2 zN;by_cases k1:ac.kind=1
        focus
         have G7:(ac.kind==1)=true:=by rw[beq_iff_eq];exact k1
         clear k1;refine sw1 Qy.o G7 ⟨?_⟩;intro P' w'
         intros
         rename_i rJ nP
         go_wp2_with fail
         go_meet;exact⟨P',rJ,nP⟩
        have G7:(ac.kind==1)=false:=by rw[beq_eq_false_iff_ne];exact k1
        clear k1;by_cases k2:ac.kind=2
        focus
         have e2b:(ac.kind==2)=true:=by rw[beq_iff_eq];exact k2
         clear k2;refine sw2 Qy.o G7 e2b ⟨?_⟩;intro P' w'
         intros
         rename_i rJ nP
         go_wp2_with fail
         go_meet;exact⟨P',rJ,nP⟩
        have e2b:(ac.kind==2)=false:=by rw[beq_eq_false_iff_ne];exact k2
        clear k2;by_cases k3:ac.kind=3
        focus
         have e3b:(ac.kind==3)=true:=by rw[beq_iff_eq];exact k3
         clear k3;refine sw3 Qy.o G7 e2b e3b ⟨?_⟩;intro P' w'
         intros
         rename_i rJ nP
         go_wp2_with fail
         go_meet;exact⟨P',rJ,nP⟩
        have e3b:(ac.kind==3)=false:=by rw[beq_eq_false_iff_ne];exact k3
        clear k3;by_cases k4:ac.kind=4
        focus
         have e4b:(ac.kind==4)=true:=by rw[beq_iff_eq];exact k4
         clear k4;refine sw4 Qy.o G7 e2b e3b e4b ⟨?_⟩;intro P' w'
         intros
         rename_i rJ nP
         go_wp2_with fail
         go_meet;exact⟨P',rJ,nP⟩
        have e4b:(ac.kind==4)=false:=by rw[beq_eq_false_iff_ne];exact k4
        clear k4;by_cases k5:ac.kind=5
        focus
         have Vn:(ac.kind==5)=true:=by rw[beq_iff_eq];exact k5
         clear k5;refine sw5 Qy.o G7 e2b e3b e4b Vn ⟨?_⟩;intro P' w'
         intros
         rename_i rJ nP
         go_wp2_with fail
         go_meet;exact⟨P',rJ,nP⟩
        have Vn:(ac.kind==5)=false:=by rw[beq_eq_false_iff_ne];exact k5
        clear k5;refine sw0 Qy.o G7 e2b e3b e4b Vn ⟨?_⟩;intro P' w'
        intros
        rename_i rJ nP
        go_wp2_with fail
        go_meet;exact⟨P',rJ,nP⟩
       case rest=>
        clear zN HX HN gI pg r1 r2;obtain⟨P',rJ,nP⟩:=hcut;go_upto_region 53 with (fail)
        refine SB rJ ⟨?_⟩;intro w'
        intros
        rename_i kP
        have FY:=ai (rJ.o.keep kP.o);go_wp2_with fail
        go_roundg (gk-1)
        case measure=>have:=HI.o;omega
        case rel=>exact⟨i+1,P',⟨by omega,by omega,by have:=HI.o;omega⟩,by first|rfl|(rw[jK (by omega) (by omega)];rfl),FY,nP⟩
      ·have hi5:i=50:=by have:=HI.o;omega
       have b3:decide ((i:Int)<50)=false:=decide_eq_false (by omega);have b4:decide (i<50)=false:=decide_eq_false (by omega);have hfin:=HX.o.al.below;clear hi5;go_wp2;go_ret;exact⟨rfl,hfin⟩
     ·have b1:decide ((i:Int)<(na:Int))=false:=decide_eq_false (by omega);have b2:decide (i<na)=false:=decide_eq_false (by omega);have hfin:=HX.o.al.below;go_wp2;go_ret;exact⟨rfl,hfin⟩
open Go.ChangeShapes Go.WideShapes Go.ChangeAt Go.Deep
theorem Eh{H:Type}{enc:TypeId×Value->H}{W:World}{v:Value}{d:DataW H}{p:List MemPlace}{r:Reach}{b0:Nat}(hv:Value.okWide prog W r b0 32 v)(h:DataW.Trod enc prog W 0 (fun _=>true) true 32 v d p):
 ∃(A:Option Addr) (n c:Nat) (L:List iZ),v=.slice A n c∧L.length=n∧n<=c∧c<=maxLen∧Kd.C uM W A n L∧∀x∈L,x.f0.size<=maxLen∧(Lit.int .i64 x.f1).wf=true∧(Lit.int .i64 x.f2).wf=true∧(Lit.int .i64 x.f3).wf=true:=by
 obtain⟨A,n,c,rfl⟩:=okWide_slice underlying32 hv;obtain⟨fuel,hf⟩:=h;rcases nK underlying32 underlying30 (by kernel_rfl) (by kernel_rfl) hf with⟨hcs,_⟩|⟨a,len,cap,m,D,Pl,hcs,_,hl,hm,hmm,hx,hi⟩
 ·simp[Value.cells] at hcs;obtain⟨rfl,rfl,rfl⟩:=hcs;exact⟨none,0,0,[],rfl,rfl,Nat.le_refl _,Nat.zero_le _,Kd.RH _ _,by simp⟩
 ·simp[Value.cells] at hcs;obtain⟨rfl,rfl,rfl⟩:=hcs;rw[if_pos rfl] at hmm;subst hmm;obtain⟨L,hL,hat⟩:=pick (fun i (x:iZ)=>(x.f0.size<=maxLen∧(Lit.int .i64 x.f1).wf=true∧(Lit.int .i64 x.f2).wf=true∧(Lit.int .i64 x.f3).wf=true)∧∀j u,([Value.string x.f0,.int .i64 x.f1,.int .i64 x.f2,.int .i64 x.f3])[j]? =some u->W.cell? (a.add (i*([Value.string x.f0,.int .i64 x.f1,.int .i64 x.f2,.int .i64 x.f3]).length+j))=some u) n (fun i hin=>by
   obtain⟨ys,q,_,_,_,hfl⟩:=hi i (by omega);obtain⟨v0,y0,c0,_,t0⟩:=hfl 0 _ rfl;obtain⟨v1,y1,c1,_,t1⟩:=hfl 1 _ rfl;obtain⟨v2,y2,c2,_,t2⟩:=hfl 2 _ rfl;obtain⟨v3,y3,c3,_,t3⟩:=hfl 3 _ rfl;obtain⟨s0,e0,_,z0⟩:=DataW.trod_string underlying9 t0;obtain⟨s1,e1,_,z1⟩:=DataW.trod_int underlying3 t1;obtain⟨s2,e2,_,z2⟩:=DataW.trod_int underlying3 t2;obtain⟨s3,e3,_,z3⟩:=DataW.trod_int underlying3 t3;obtain rfl:=List.singleton_inj.1 e0;obtain rfl:=List.singleton_inj.1 e1;obtain rfl:=List.singleton_inj.1 e2;obtain rfl:=List.singleton_inj.1 e3;refine⟨⟨s0,s1,s2,s3⟩,⟨z0,z1,z2,z3⟩,fun j u hj=> ?_⟩;match j,hj with|0,hj=>(obtain rfl:=Option.some.inj hj;exact c0)|1,hj=>(obtain rfl:=Option.some.inj hj;exact c1)|2,hj=>(obtain rfl:=Option.some.inj hj;exact c2)|3,hj=>(obtain rfl:=Option.some.inj hj;exact c3))
  refine⟨some a,n,m,L,rfl,hL,hl,hm,⟨hL,by have:maxLen=9223372036854775807:=rfl;omega,fun _=>⟨a,rfl,fun j x hj=> ?_⟩⟩,fun x hx=> ?_⟩
  ·exact⟨[Value.string x.f0,.int .i64 x.f1,.int .i64 x.f2,.int .i64 x.f3],rfl,Tg W x,(hat j x hj).2⟩
  ·obtain⟨j,hj,rfl⟩:=List.getElem_of_mem hx;exact(hat j _ (List.getElem?_eq_getElem hj)).1
end Go.Proofs.YtnmpijbcajclgaaGreatDoor.Mine
end
