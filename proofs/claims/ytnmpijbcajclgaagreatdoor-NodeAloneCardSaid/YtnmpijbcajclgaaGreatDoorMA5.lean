/- Texts of one claim, one behind the other, made short by a program. -/
import Derived.Test.YtnmpijbcajclgaaGreatDoorMA3
set_option linter.unusedSimpArgs false
set_option linter.unusedVariables false
section
namespace Go.Proofs.YtnmpijbcajclgaaGreatDoor.PNodeAlone
open Go.RowKit Go.Proofs.YtnmpijbcajclgaaGreatDoorW.PrintWords Go.Proofs.YtnmpijbcajclgaaGreatDoorW.PrintLast Go.Proofs.YtnmpijbcajclgaaGreatDoorW.PrintMore
attribute [local go_sem] nQ nU qM o7 oz oC ql qa
mutual
def ax.j0:Nat->Int->Int->Int->Bool->ByteArray->Int->Int->Option (Int×ByteArray×Int×Int)
 |0,_,_,_,_,_,_,_=>none
 |k+1,x3,x4,x5,x39,x1000,x1001,x1002=>if x39=true then (ax.j1 k x3 (-1) x5 x1000 (wrap64 (x1001+1)) x1002) else (ax.j1 k x3 x4 x5 x1000 x1001 x1002)
def ax.j1:Nat->Int->Int->Int->ByteArray->Int->Int->Option (Int×ByteArray×Int×Int)
 |0,_,_,_,_,_,_=>none
 |k+1,x3,x4,x5,x1000,x1001,x1002=>ax.l0 k x3 x4 x5 x1001 x1000 x1001 x1002
def ax.l0:Nat->Int->Int->Int->Int->ByteArray->Int->Int->Option (Int×ByteArray×Int×Int)
 |0,_,_,_,_,_,_,_=>none
 |k+1,x3,x4,x5,x6,x1000,x1001,x1002=>if x1001<(x1000.size:Int) then (if 0<=x1001 then ((ig.f (bt x1000 x1001)).bind fun t154=>(ax.j3 k x3 x4 x5 x6 t154 x1000 x1001 x1002)) else (none)) else (ax.j3 k x3 x4 x5 x6 false x1000 x1001 x1002)
def ax.j3:Nat->Int->Int->Int->Int->Bool->ByteArray->Int->Int->Option (Int×ByteArray×Int×Int)
 |0,_,_,_,_,_,_,_,_=>none
 |k+1,x3,x4,x5,x6,x72,x1000,x1001,x1002=>if x72=true then (if (wrap64 (x1001-x6))≥10 then ((aH.f x1000 x1001 x1002 x3).bind fun bt155=>(some (0,bt155.1,bt155.2.1,bt155.2.2))) else (if 0<=x1001 then (if x1001<(x1000.size:Int) then (ax.l0 k x3 x4 (wrap64 ((wrap64 (10*x5))+(((bt x1000 x1001)-48)%256))) x6 x1000 (wrap64 (x1001+1)) x1002) else (none)) else (none))) else (if x1001=x6 then ((aH.f x1000 x1001 x1002 x3).bind fun bt158=>(some (wrap64 (x4*x5),bt158.1,bt158.2.1,bt158.2.2))) else (if (wrap64 (x1001-x6))>1 then (if 0<=x6 then (if x6<(x1000.size:Int) then (if (bt x1000 x6)=48 then ((aH.f x1000 x1001 x1002 x3).bind fun bt161=>(some (wrap64 (x4*x5),bt161.1,bt161.2.1,bt161.2.2))) else (if x4<0 then (if x5=0 then ((aH.f x1000 x1001 x1002 x3).bind fun bt164=>(some (wrap64 (x4*x5),bt164.1,bt164.2.1,bt164.2.2))) else (some (wrap64 (x4*x5),x1000,x1001,x1002))) else (some (wrap64 (x4*x5),x1000,x1001,x1002)))) else (none)) else (none)) else (if x4<0 then (if x5=0 then ((aH.f x1000 x1001 x1002 x3).bind fun bt167=>(some (wrap64 (x4*x5),bt167.1,bt167.2.1,bt167.2.2))) else (some (wrap64 (x4*x5),x1000,x1001,x1002))) else (some (wrap64 (x4*x5),x1000,x1001,x1002)))))
end
def ax.f(k:Nat)(s0_0:ByteArray)(s0_1:Int)(s0_2:Int):Option (Int×ByteArray×Int×Int):=(aA.f k s0_0 s0_1 s0_2).bind fun bt151=>(if bt151.2.2≥0 then (some (0,bt151.1,bt151.2.1,bt151.2.2)) else (if bt151.2.1<(bt151.1.size:Int) then (if 0<=bt151.2.1 then (ax.j0 k bt151.2.1 1 0 ((bt bt151.1 bt151.2.1)==45) bt151.1 bt151.2.1 bt151.2.2) else (none)) else (ax.j0 k bt151.2.1 1 0 false bt151.1 bt151.2.1 bt151.2.2)))
theorem ax.qF:∀k,(∀y0 y1 y2 y3 y4 y5 y6,fJ (ax.j0 k y0 y1 y2 y3 y4 y5 y6) (ax.j0 (k+1) y0 y1 y2 y3 y4 y5 y6))∧(∀y0 y1 y2 y3 y4 y5,fJ (ax.j1 k y0 y1 y2 y3 y4 y5) (ax.j1 (k+1) y0 y1 y2 y3 y4 y5))∧(∀y0 y1 y2 y3 y4 y5 y6,fJ (ax.l0 k y0 y1 y2 y3 y4 y5 y6) (ax.l0 (k+1) y0 y1 y2 y3 y4 y5 y6))∧(∀y0 y1 y2 y3 y4 y5 y6 y7,fJ (ax.j3 k y0 y1 y2 y3 y4 y5 y6 y7) (ax.j3 (k+1) y0 y1 y2 y3 y4 y5 y6 y7))
 |0=>⟨fun _ _ _ _ _ _ _ r h=>by simp[ax.j0] at h,fun _ _ _ _ _ _ r h=>by simp[ax.j1] at h,fun _ _ _ _ _ _ _ r h=>by simp[ax.l0] at h,fun _ _ _ _ _ _ _ _ r h=>by simp[ax.j3] at h⟩
 |k+1=>by
  obtain⟨yH,ih1,ih2,ih3⟩:=ax.qF k;refine⟨?_, ?_, ?_, ?_⟩
  ·intro y0 y1 y2 y3 y4 y5 y6;unfold ax.j0
   repeat' first
   |(with_reducible exact yH _ _ _ _ _ _ _)
   |(with_reducible exact ih1 _ _ _ _ _ _)
   |(with_reducible exact ih2 _ _ _ _ _ _ _)
   |(with_reducible exact ih3 _ _ _ _ _ _ _ _)
   |(with_reducible exact aA.mono _ _ _ _)
   |(with_reducible exact fJ.refl _)
   |(with_reducible exact fJ.none _)
   |(with_reducible refine fJ.ite ?_ ?_)
   |(with_reducible refine fJ.bind ?_ (fun _=> ?_))
   |exact yH _ _ _ _ _ _ _
   |exact ih1 _ _ _ _ _ _
   |exact ih2 _ _ _ _ _ _ _
   |exact ih3 _ _ _ _ _ _ _ _
   |exact aA.mono _ _ _ _
   |exact fJ.none _
   |refine fJ.ite ?_ ?_
   |refine fJ.bind ?_ (fun _=> ?_)
  ·intro y0 y1 y2 y3 y4 y5;unfold ax.j1
   repeat' first
   |(with_reducible exact yH _ _ _ _ _ _ _)
   |(with_reducible exact ih1 _ _ _ _ _ _)
   |(with_reducible exact ih2 _ _ _ _ _ _ _)
   |(with_reducible exact ih3 _ _ _ _ _ _ _ _)
   |(with_reducible exact aA.mono _ _ _ _)
   |(with_reducible exact fJ.refl _)
   |(with_reducible exact fJ.none _)
   |(with_reducible refine fJ.ite ?_ ?_)
   |(with_reducible refine fJ.bind ?_ (fun _=> ?_))
   |exact yH _ _ _ _ _ _ _
   |exact ih1 _ _ _ _ _ _
   |exact ih2 _ _ _ _ _ _ _
   |exact ih3 _ _ _ _ _ _ _ _
   |exact aA.mono _ _ _ _
   |exact fJ.none _
   |refine fJ.ite ?_ ?_
   |refine fJ.bind ?_ (fun _=> ?_)
  ·intro y0 y1 y2 y3 y4 y5 y6;unfold ax.l0
   repeat' first
   |(with_reducible exact yH _ _ _ _ _ _ _)
   |(with_reducible exact ih1 _ _ _ _ _ _)
   |(with_reducible exact ih2 _ _ _ _ _ _ _)
   |(with_reducible exact ih3 _ _ _ _ _ _ _ _)
   |(with_reducible exact aA.mono _ _ _ _)
   |(with_reducible exact fJ.refl _)
   |(with_reducible exact fJ.none _)
   |(with_reducible refine fJ.ite ?_ ?_)
   |(with_reducible refine fJ.bind ?_ (fun _=> ?_))
   |exact yH _ _ _ _ _ _ _
   |exact ih1 _ _ _ _ _ _
   |exact ih2 _ _ _ _ _ _ _
   |exact ih3 _ _ _ _ _ _ _ _
   |exact aA.mono _ _ _ _
   |exact fJ.none _
   |refine fJ.ite ?_ ?_
   |refine fJ.bind ?_ (fun _=> ?_)
  ·intro y0 y1 y2 y3 y4 y5 y6 y7;unfold ax.j3
   repeat' first
   |(with_reducible exact yH _ _ _ _ _ _ _)
   |(with_reducible exact ih1 _ _ _ _ _ _)
   |(with_reducible exact ih2 _ _ _ _ _ _ _)
   |(with_reducible exact ih3 _ _ _ _ _ _ _ _)
   |(with_reducible exact aA.mono _ _ _ _)
   |(with_reducible exact fJ.refl _)
   |(with_reducible exact fJ.none _)
   |(with_reducible refine fJ.ite ?_ ?_)
   |(with_reducible refine fJ.bind ?_ (fun _=> ?_))
   |exact yH _ _ _ _ _ _ _
   |exact ih1 _ _ _ _ _ _
   |exact ih2 _ _ _ _ _ _ _
   |exact ih3 _ _ _ _ _ _ _ _
   |exact aA.mono _ _ _ _
   |exact fJ.none _
   |refine fJ.ite ?_ ?_
   |refine fJ.bind ?_ (fun _=> ?_)
theorem ax.mono:∀a0 a1 a2 k,fJ (ax.f k a0 a1 a2) (ax.f (k+1) a0 a1 a2):=by
 intro a0 a1 a2 k;obtain⟨yH,ih1,ih2,ih3⟩:=ax.qF k;unfold ax.f
 repeat' first
  |(with_reducible exact yH _ _ _ _ _ _ _)
  |(with_reducible exact ih1 _ _ _ _ _ _)
  |(with_reducible exact ih2 _ _ _ _ _ _ _)
  |(with_reducible exact ih3 _ _ _ _ _ _ _ _)
  |(with_reducible exact aA.mono _ _ _ _)
  |(with_reducible exact fJ.refl _)
  |(with_reducible exact fJ.none _)
  |(with_reducible refine fJ.ite ?_ ?_)
  |(with_reducible refine fJ.bind ?_ (fun _=> ?_))
  |exact yH _ _ _ _ _ _ _
  |exact ih1 _ _ _ _ _ _
  |exact ih2 _ _ _ _ _ _ _
  |exact ih3 _ _ _ _ _ _ _ _
  |exact aA.mono _ _ _ _
  |exact fJ.none _
  |refine fJ.ite ?_ ?_
  |refine fJ.bind ?_ (fun _=> ?_)
set_option maxHeartbeats 8000000 in
set_option maxRecDepth 100000 in
theorem ax.calls(k:Nat)(g:Nat)(s0_0:ByteArray)(s0_1:Int)(s0_2:Int)(r1:Int)(r2:ByteArray)(r3:Int)(r4:Int)(w0 w:World)(hI:ag w0 w g s0_0 s0_1 s0_2)(hB:Below w0.heap.size w0 w)(h:ax.f k s0_0 s0_1 s0_2=some (r1,r2,r3,r4)):
 Calls Tryz.prog 204 #[.pointer (some ⟨g,0,none⟩)] w fun e w'=>e=.returned (.int .i64 r1)∧ag w0 w' g r2 r3 r4∧Below w0.heap.size w0 w'∧az w w' g none:=by
 have HI0:=ai hI;have HK:=ai (az.refl w g none);have HL:=ai hB.size;clear hI;have HW0:=ai hB.size;have HB:=ai hB;clear hB;have H:((aA.f k s0_0 s0_1 s0_2).bind fun bt151=>(if bt151.2.2≥0 then (some (0,bt151.1,bt151.2.1,bt151.2.2)) else (if bt151.2.1<(bt151.1.size:Int) then (if 0<=bt151.2.1 then (ax.j0 k bt151.2.1 1 0 ((bt bt151.1 bt151.2.1)==45) bt151.1 bt151.2.1 bt151.2.2) else (none)) else (ax.j0 k bt151.2.1 1 0 false bt151.1 bt151.2.1 bt151.2.2))))=some (r1,r2,r3,r4):=h;clear h;replace H:=Option.bind_eq_some_iff.mp H;obtain⟨⟨t151,t152,t153⟩,UG,H⟩:=H;replace H:(if t153≥0 then (some (0,t151,t152,t153)) else (if t152<(t151.size:Int) then (if 0<=t152 then (ax.j0 k t152 1 0 ((bt t151 t152)==45) t151 t152 t153) else (none)) else (ax.j0 k t152 1 0 false t151 t152 t153)))=some (r1,r2,r3,r4):=H;have A2:=ai UG;clear UG;by_cases c3:t153≥0
 ·rw[if_pos c3] at H;have zD:decide (0<=t153)=true:=decide_eq_true c3;clear c3;simp only[Option.some.injEq,Prod.mk.injEq] at H;obtain⟨rfl,rfl,rfl,rfl⟩:=H;go_enter Tryz.func204,Tryz.ntmps204
  go_wp2_with (first|(go_at_call 144;(with_reducible refine(aA.calls k g s0_0 s0_1 s0_2 t151 t152 t153 w0 _ ?side1 ?side2 A2.o).mono ?_);(case side1=>repeat(first|(with_reducible first|exact HI0.o|apply ag.alloc|apply ag.drewN|apply ag.drew|apply ag.bG|apply ag.bE|apply ag.bF)|exact HI0.o));(case side2=>repeat(first|(with_reducible first|exact HB.o|apply ae|apply ah|apply ak|refine au ?_ (ag.ge HI0.o))|exact HB.o));rintro e w4 ⟨rfl,hi,hb,hk⟩;have dH:=ai (az.trans (by repeat(first|(with_reducible first|exact HK.o|apply az.cO|apply aC|apply aJ|apply aG)|exact HK.o)) hk (.inl rfl));have dU:=ai (hb);have dS:=ai (hi);clear HK;clear HB;clear HI0;have HK:=dH;have HB:=dU;have HI0:=dS;clear dH dU dS;(try clear hb);(try clear hb2);(try clear hk);(try clear hi);obtain⟨jO,Ie⟩:=HI0.o;have pO:=aT jO;have qw:=aR jO;have p9:=aU jO;have qc:=af jO 0;have pM:=af jO 1;have qK:=af jO 2;clear jO Ie))
  repeat(go_quiet (first|(go_at_call 144;(with_reducible refine(aA.calls k g s0_0 s0_1 s0_2 t151 t152 t153 w0 _ ?side1 ?side2 A2.o).mono ?_);(case side1=>repeat(first|(with_reducible first|exact HI0.o|apply ag.alloc|apply ag.drewN|apply ag.drew|apply ag.bG|apply ag.bE|apply ag.bF)|exact HI0.o));(case side2=>repeat(first|(with_reducible first|exact HB.o|apply ae|apply ah|apply ak|refine au ?_ (ag.ge HI0.o))|exact HB.o));rintro e w4 ⟨rfl,hi,hb,hk⟩;have dH:=ai (az.trans (by repeat(first|(with_reducible first|exact HK.o|apply az.cO|apply aC|apply aJ|apply aG)|exact HK.o)) hk (.inl rfl));have dU:=ai (hb);have dS:=ai (hi);clear HK;clear HB;clear HI0;have HK:=dH;have HB:=dU;have HI0:=dS;clear dH dU dS;(try clear hb);(try clear hb2);(try clear hk);(try clear hi);obtain⟨jO,Ie⟩:=HI0.o;have pO:=aT jO;have qw:=aR jO;have p9:=aU jO;have qc:=af jO 0;have pM:=af jO 1;have qK:=af jO 2;clear jO Ie));try go_wp2_with (first|(go_at_call 144;(with_reducible refine(aA.calls k g s0_0 s0_1 s0_2 t151 t152 t153 w0 _ ?side1 ?side2 A2.o).mono ?_);(case side1=>repeat(first|(with_reducible first|exact HI0.o|apply ag.alloc|apply ag.drewN|apply ag.drew|apply ag.bG|apply ag.bE|apply ag.bF)|exact HI0.o));(case side2=>repeat(first|(with_reducible first|exact HB.o|apply ae|apply ah|apply ak|refine au ?_ (ag.ge HI0.o))|exact HB.o));rintro e w4 ⟨rfl,hi,hb,hk⟩;have dH:=ai (az.trans (by repeat(first|(with_reducible first|exact HK.o|apply az.cO|apply aC|apply aJ|apply aG)|exact HK.o)) hk (.inl rfl));have dU:=ai (hb);have dS:=ai (hi);clear HK;clear HB;clear HI0;have HK:=dH;have HB:=dU;have HI0:=dS;clear dH dU dS;(try clear hb);(try clear hb2);(try clear hk);(try clear hi);obtain⟨jO,Ie⟩:=HI0.o;have pO:=aT jO;have qw:=aR jO;have p9:=aU jO;have qc:=af jO 0;have pM:=af jO 1;have qK:=af jO 2;clear jO Ie)))
  go_ret;exact⟨by first|rfl|(simp[bO,bP]<;>rfl)|(simp[*,bO,bP]<;>rfl),by repeat(first|(with_reducible first|exact HI0.o|apply ag.alloc|apply ag.drewN|apply ag.drew|apply ag.bG|apply ag.bE|apply ag.bF)|exact HI0.o),by repeat(first|(with_reducible first|exact HB.o|apply ae|apply ah|apply ak|refine au ?_ (ag.ge HI0.o))|exact HB.o),by repeat(first|(with_reducible first|exact HK.o|apply az.cO|apply aC|apply aJ|apply aG)|exact HK.o)⟩
 ·rw[if_neg c3] at H;have zD:decide (0<=t153)=false:=decide_eq_false c3;clear c3;have UQ:=ai H;clear H;go_enter Tryz.func204,Tryz.ntmps204
  go_upto_region 5 with (first|(go_at_call 144;(with_reducible refine(aA.calls k g s0_0 s0_1 s0_2 t151 t152 t153 w0 _ ?side1 ?side2 A2.o).mono ?_);(case side1=>repeat(first|(with_reducible first|exact HI0.o|apply ag.alloc|apply ag.drewN|apply ag.drew|apply ag.bG|apply ag.bE|apply ag.bF)|exact HI0.o));(case side2=>repeat(first|(with_reducible first|exact HB.o|apply ae|apply ah|apply ak|refine au ?_ (ag.ge HI0.o))|exact HB.o));rintro e w7 ⟨rfl,hi,hb,hk⟩;have dH:=ai (az.trans (by repeat(first|(with_reducible first|exact HK.o|apply az.cO|apply aC|apply aJ|apply aG)|exact HK.o)) hk (.inl rfl));have dU:=ai (hb);have dS:=ai (hi);clear HK;clear HB;clear HI0;have HK:=dH;have HB:=dU;have HI0:=dS;clear dH dU dS;(try clear hb);(try clear hb2);(try clear hk);(try clear hi);obtain⟨jM,GL⟩:=HI0.o;have pY:=aT jM;have qb:=aR jM;have qf:=aU jM;have pU:=af jM 0;have pW:=af jM 1;have qg:=af jM 2;clear jM GL))
  repeat(go_quiet (first|(go_at_call 144;(with_reducible refine(aA.calls k g s0_0 s0_1 s0_2 t151 t152 t153 w0 _ ?side1 ?side2 A2.o).mono ?_);(case side1=>repeat(first|(with_reducible first|exact HI0.o|apply ag.alloc|apply ag.drewN|apply ag.drew|apply ag.bG|apply ag.bE|apply ag.bF)|exact HI0.o));(case side2=>repeat(first|(with_reducible first|exact HB.o|apply ae|apply ah|apply ak|refine au ?_ (ag.ge HI0.o))|exact HB.o));rintro e w7 ⟨rfl,hi,hb,hk⟩;have dH:=ai (az.trans (by repeat(first|(with_reducible first|exact HK.o|apply az.cO|apply aC|apply aJ|apply aG)|exact HK.o)) hk (.inl rfl));have dU:=ai (hb);have dS:=ai (hi);clear HK;clear HB;clear HI0;have HK:=dH;have HB:=dU;have HI0:=dS;clear dH dU dS;(try clear hb);(try clear hb2);(try clear hk);(try clear hi);obtain⟨jM,GL⟩:=HI0.o;have pY:=aT jM;have qb:=aR jM;have qf:=aU jM;have pU:=af jM 0;have pW:=af jM 1;have qg:=af jM 2;clear jM GL));go_upto_region 5 with (first|(go_at_call 144;(with_reducible refine(aA.calls k g s0_0 s0_1 s0_2 t151 t152 t153 w0 _ ?side1 ?side2 A2.o).mono ?_);(case side1=>repeat(first|(with_reducible first|exact HI0.o|apply ag.alloc|apply ag.drewN|apply ag.drew|apply ag.bG|apply ag.bE|apply ag.bF)|exact HI0.o));(case side2=>repeat(first|(with_reducible first|exact HB.o|apply ae|apply ah|apply ak|refine au ?_ (ag.ge HI0.o))|exact HB.o));rintro e w7 ⟨rfl,hi,hb,hk⟩;have dH:=ai (az.trans (by repeat(first|(with_reducible first|exact HK.o|apply az.cO|apply aC|apply aJ|apply aG)|exact HK.o)) hk (.inl rfl));have dU:=ai (hb);have dS:=ai (hi);clear HK;clear HB;clear HI0;have HK:=dH;have HB:=dU;have HI0:=dS;clear dH dU dS;(try clear hb);(try clear hb2);(try clear hk);(try clear hi);obtain⟨jM,GL⟩:=HI0.o;have pY:=aT jM;have qb:=aR jM;have qf:=aU jM;have pU:=af jM 0;have pW:=af jM 1;have qg:=af jM 2;clear jM GL)))
  (try simp only[Act.put,List.setIfInBounds_toArray,List.set_cons_zero,List.set_cons_succ])
  go_cut [39] (fun v39 wc=>∃(kq:Nat) (IM:Bool),v39=.bool IM∧ay (ax.j0 kq t152 1 0 IM t151 t152 t153=some (r1,r2,r3,r4))∧ay (kq<=k)∧ay (ag w0 wc g t151 t152 t153)∧ay (az w wc g none)∧ay (Below w0.heap.size w0 wc))
  case first=>
   have H:=UQ.o;clear UQ;by_cases c9:t152<(t151.size:Int)
   ·rw[if_pos c9] at H;have yh:decide (t152<(t151.size:Int))=true:=decide_eq_true c9;clear c9
    (first|rw[yh]|(simp only[JB,JC];rw[yh])|skip)
    by_cases c10:0<=t152
    ·rw[if_pos c10] at H;have Jl:decide (0<=t152)=true:=decide_eq_true c10;clear c10;have H':=ai H;clear H;obtain⟨gU,yK⟩:=HI0.o;have oZ:=aT gU;have oM:=aR gU;have oL:=aU gU;have o6:=af gU 0;have oG:=af gU 1;have o5:=af gU 2;clear gU yK;have Pj:0<=(t152:Int):=of_decide_eq_true (by first|(with_reducible assumption)|assumption);have Pm:t152<(t151.size:Int):=of_decide_eq_true (by first|(with_reducible assumption)|assumption);have rH:=sO t151 t152;replace Pj:=eq_true Pj;replace Pm:=eq_true Pm;go_wp2
     repeat(go_quiet (fail);try go_wp2)
     go_meet
     case rel=>exact⟨_,(((bt t151 t152)==45)),(by first|rfl|(simp;done)|(simp[*];done)),H',⟨by first|omega|exact Nat.le_refl _⟩,⟨by repeat(first|(with_reducible first|exact HI0.o|apply ag.alloc|apply ag.drewN|apply ag.drew|apply ag.bG|apply ag.bE|apply ag.bF)|exact HI0.o)⟩,⟨by repeat(first|(with_reducible first|exact HK.o|apply az.cO|apply aC|apply aJ|apply aG)|exact HK.o)⟩,⟨by repeat(first|(with_reducible first|exact HB.o|apply ae|apply ah|apply ak|refine au ?_ (ag.ge HI0.o))|exact HB.o)⟩⟩
    ·rw[if_neg c10] at H;exact absurd H (by simp)
   ·rw[if_neg c9] at H;have yh:decide (t152<(t151.size:Int))=false:=decide_eq_false c9;clear c9
    (first|rw[yh]|(simp only[JB,JC];rw[yh])|skip)
    have H':=ai H;clear H;obtain⟨xY,VI⟩:=HI0.o;have xx:=aT xY;have xI:=aR xY;have xC:=aU xY;have xH:=af xY 0;have xk:=af xY 1;have xL:=af xY 2;clear xY VI;go_wp2
    repeat(go_quiet (fail);try go_wp2)
    go_meet
    case rel=>exact⟨_,(false),(by first|rfl|(simp;done)|(simp[*];done)),H',⟨by first|omega|exact Nat.le_refl _⟩,⟨by repeat(first|(with_reducible first|exact HI0.o|apply ag.alloc|apply ag.drewN|apply ag.drew|apply ag.bG|apply ag.bE|apply ag.bF)|exact HI0.o)⟩,⟨by repeat(first|(with_reducible first|exact HK.o|apply az.cO|apply aC|apply aJ|apply aG)|exact HK.o)⟩,⟨by repeat(first|(with_reducible first|exact HB.o|apply ae|apply ah|apply ak|refine au ?_ (ag.ge HI0.o))|exact HB.o)⟩⟩
  case rest=>
   clear UQ
   try clear c1
   try clear p1
   try clear q1
   try clear hx1
   try clear c2
   try clear p2
   try clear c3
   try clear zD
   try clear c9
   try clear yh
   try clear c10
   try clear Jl
   try clear Pj
   try clear Pm
   try clear rH
   try clear oZ
   try clear oM
   try clear oL
   try clear xx
   try clear xI
   try clear xC
   try clear pO
   try clear qw
   try clear p9
   try clear pY
   try clear qb
   try clear qf
   try clear o6
   try clear oG
   try clear o5
   try clear xH
   try clear xk
   try clear xL
   try clear qc
   try clear pM
   try clear qK
   try clear pU
   try clear pW
   try clear qg
   try clear Pj
   try clear Pm
   obtain⟨kq,IM,rfl,HA,U0,HI0,HK,HB⟩:=hcut;cases kq with
   |zero=>exact absurd HA.o (by simp[ax.j0])
   |succ kj5=>
    have H:=HA.o;clear HA;simp only[ax.j0] at H;have Uf:=ai H;clear H
    go_upto_if 39 with (fail)
    repeat(go_quiet (fail);go_upto_if 39 with (fail))
    go_cut [4] (fun v4 wc=>∃(kq:Nat) (iE:Int) (bT:Int),v4=.int .i64 iE∧ay (ax.j1 kq t152 iE 0 t151 bT t153=some (r1,r2,r3,r4))∧ay (kq<=kj5)∧ay (ag w0 wc g t151 bT t153)∧ay (az w wc g none)∧ay (Below w0.heap.size w0 wc))
    case first=>
     have H:=Uf.o;clear Uf;by_cases c15:IM=true
     ·subst c15;replace H:(ax.j1 kj5 t152 (-1) 0 t151 (wrap64 (t152+1)) t153)=some (r1,r2,r3,r4):=by rw[if_pos rfl] at H;exact H
      have H':=ai H;clear H;obtain⟨zm,WU⟩:=HI0.o;have Cg:=aT zm;have CE:=aR zm;have BH:=aU zm;have CK:=af zm 0;have Cz:=af zm 1;have BX:=af zm 2;clear zm WU;go_wp2
      repeat(go_quiet (fail);try go_wp2)
      go_meet
      case rel=>exact⟨_,((-1)),(wrap64 (t152+1)),(by first|rfl|(simp;done)|(simp[*];done)),H',⟨by have:=U0.o;first|omega|exact Nat.le_refl _⟩,⟨by repeat(first|(with_reducible first|exact HI0.o|apply ag.alloc|apply ag.drewN|apply ag.drew|apply ag.bG|apply ag.bE|apply ag.bF)|exact HI0.o)⟩,⟨by repeat(first|(with_reducible first|exact HK.o|apply az.cO|apply aC|apply aJ|apply aG)|exact HK.o)⟩,⟨by repeat(first|(with_reducible first|exact HB.o|apply ae|apply ah|apply ak|refine au ?_ (ag.ge HI0.o))|exact HB.o)⟩⟩
     ·replace c15:=Bool.eq_false_iff.mpr c15;subst c15;replace H:(ax.j1 kj5 t152 1 0 t151 t152 t153)=some (r1,r2,r3,r4):=by rw[if_neg (show ¬(false=true) by decide)] at H;exact H
      have H':=ai H;clear H;go_wp2
      repeat(go_quiet (fail);try go_wp2)
      go_meet
      case rel=>exact⟨_,(1),(t152),(by first|rfl|(simp;done)|(simp[*];done)),H',⟨by have:=U0.o;first|omega|exact Nat.le_refl _⟩,⟨by repeat(first|(with_reducible first|exact HI0.o|apply ag.alloc|apply ag.drewN|apply ag.drew|apply ag.bG|apply ag.bE|apply ag.bF)|exact HI0.o)⟩,⟨by repeat(first|(with_reducible first|exact HK.o|apply az.cO|apply aC|apply aJ|apply aG)|exact HK.o)⟩,⟨by repeat(first|(with_reducible first|exact HB.o|apply ae|apply ah|apply ak|refine au ?_ (ag.ge HI0.o))|exact HB.o)⟩⟩
    case rest=>
     clear Uf
     try clear c1
     try clear p1
     try clear q1
     try clear hx1
     try clear c2
     try clear p2
     try clear c3
     try clear zD
     try clear p6
     try clear c9
     try clear yh
     try clear c10
     try clear Jl
     try clear Pj
     try clear Pm
     try clear rH
     try clear c15
     try clear oZ
     try clear oM
     try clear oL
     try clear xx
     try clear xI
     try clear xC
     try clear Cg
     try clear CE
     try clear BH
     try clear pO
     try clear qw
     try clear p9
     try clear pY
     try clear qb
     try clear qf
     try clear o6
     try clear oG
     try clear o5
     try clear xH
     try clear xk
     try clear xL
     try clear CK
     try clear Cz
     try clear BX
     try clear qc
     try clear pM
     try clear qK
     try clear pU
     try clear pW
     try clear qg
     try clear p1
     try clear Pj
     try clear p2
     try clear q1
     try clear Pm
     obtain⟨kq,iE,bT,rfl,HA,Qk,HI0,HK,HB⟩:=hcut;cases kq with
     |zero=>exact absurd HA.o (by simp[ax.j1])
     |succ kj13=>
      have H:=HA.o;clear HA;simp only[ax.j1] at H;have H':=ai H;clear H;obtain⟨xQ,U5⟩:=HI0.o;have Iz:=aT xQ;have Iw:=aR xQ;have Jn:=aU xQ;have IG:=af xQ 0;have JA:=af xQ 1;have IE:=af xQ 2;clear xQ U5;go_wp2
      repeat(go_quiet (fail);try go_wp2)
      go_loopg [5] kj13 (fun kq v5 w'=>∃(jN:Int) (bM:ByteArray) (bH:Int) (dM:Int),v5=.int .i64 jN∧ay (ax.l0 kq t152 iE jN bT bM bH dM=some (r1,r2,r3,r4))∧ay (kq<=kj13)∧ay (ag w0 w' g bM bH dM)∧ay (az w w' g none)∧ay (Below w0.heap.size w0 w'))
      case atStart=>exact⟨(0),(t151),(bT),(t153),(by first|rfl|(simp;done)|(simp[*];done)),H',⟨Nat.le_refl _⟩,⟨by repeat(first|(with_reducible first|exact HI0.o|apply ag.alloc|apply ag.drewN|apply ag.drew|apply ag.bG|apply ag.bE|apply ag.bF)|exact HI0.o)⟩,⟨by repeat(first|(with_reducible first|exact HK.o|apply az.cO|apply aC|apply aJ|apply aG)|exact HK.o)⟩,⟨by repeat(first|(with_reducible first|exact HB.o|apply ae|apply ah|apply ak|refine au ?_ (ag.ge HI0.o))|exact HB.o)⟩⟩
      case round=>
       clear H'
       try clear c1
       try clear p1
       try clear q1
       try clear hx1
       try clear c2
       try clear p2
       try clear c3
       try clear zD
       try clear p6
       try clear c9
       try clear yh
       try clear c10
       try clear Jl
       try clear Pj
       try clear Pm
       try clear rH
       try clear c15
       try clear oZ
       try clear oM
       try clear oL
       try clear xx
       try clear xI
       try clear xC
       try clear Cg
       try clear CE
       try clear BH
       try clear Iz
       try clear Iw
       try clear Jn
       try clear pO
       try clear qw
       try clear p9
       try clear pY
       try clear qb
       try clear qf
       try clear o6
       try clear oG
       try clear o5
       try clear xH
       try clear xk
       try clear xL
       try clear CK
       try clear Cz
       try clear BX
       try clear IG
       try clear JA
       try clear IE
       try clear qc
       try clear pM
       try clear qK
       try clear pU
       try clear pW
       try clear qg
       try clear p1
       try clear Pj
       try clear p2
       try clear p6
       try clear q1
       try clear Pm
       obtain⟨jN,bM,bH,dM,rfl,HA,uj,HI0,HK,HB⟩:=hrel;cases gk with
       |zero=>exact absurd HA.o (by simp[ax.l0])
       |succ k3=>
        have H:=HA.o;clear HA;simp only[ax.l0] at H;have TY:=ai H;clear H;go_upto_region 9 with (fail)
        repeat(go_quiet (fail);go_upto_region 9 with (fail))
        go_cut [72] (fun v72 wc=>∃(kq:Nat) (BS:Bool),v72=.bool BS∧ay (ax.j3 kq t152 iE jN bT BS bM bH dM=some (r1,r2,r3,r4))∧ay (kq<=k3)∧ay (ag w0 wc g bM bH dM)∧ay (az w wc g none)∧ay (Below w0.heap.size w0 wc))
        case first=>
         have H:=TY.o;clear TY;by_cases c19:bH<(bM.size:Int)
         ·rw[if_pos c19] at H;have Bg:decide (bH<(bM.size:Int))=true:=decide_eq_true c19;clear c19
          (first|rw[Bg]|(simp only[JB,JC];rw[Bg])|skip)
          by_cases c20:0<=bH
          ·rw[if_pos c20] at H;have XP:decide (0<=bH)=true:=decide_eq_true c20;clear c20;replace H:=Option.bind_eq_some_iff.mp H;obtain⟨t154,Vl,H⟩:=H;replace H:(ax.j3 k3 t152 iE jN bT t154 bM bH dM)=some (r1,r2,r3,r4):=H;have A22:=ai Vl;clear Vl;have H':=ai H;clear H;obtain⟨yR,Vk⟩:=HI0.o;have PX:=aT yR;have Qb:=aR yR;have PD:=aU yR;have Qd:=af yR 0;have Qm:=af yR 1;have PW:=af yR 2;clear yR Vk;have Yd:0<=(bH:Int):=of_decide_eq_true (by first|(with_reducible assumption)|assumption);have Yy:bH<(bM.size:Int):=of_decide_eq_true (by first|(with_reducible assumption)|assumption);have sF:=sO bM bH;replace Yd:=eq_true Yd;replace Yy:=eq_true Yy;go_wp2_with (first|(go_at_call 206;(with_reducible refine(ig.calls (bt bM bH) t154 _ A22.o).mono ?_);rintro e w' ⟨rfl,⟨nd,rfl⟩⟩;(try first|exact⟨rfl,_,World.drewN_drewN _ _ _⟩|exact⟨rfl,_,Eq.trans (World.drewN_drewN _ _ _) (congrArg (World.drewN _) (Nat.add_assoc _ _ _))⟩)))
           repeat(go_quiet (first|(go_at_call 206;(with_reducible refine(ig.calls (bt bM bH) t154 _ A22.o).mono ?_);rintro e w' ⟨rfl,⟨nd,rfl⟩⟩;(try first|exact⟨rfl,_,World.drewN_drewN _ _ _⟩|exact⟨rfl,_,Eq.trans (World.drewN_drewN _ _ _) (congrArg (World.drewN _) (Nat.add_assoc _ _ _))⟩)));try go_wp2_with (first|(go_at_call 206;(with_reducible refine(ig.calls (bt bM bH) t154 _ A22.o).mono ?_);rintro e w' ⟨rfl,⟨nd,rfl⟩⟩;(try first|exact⟨rfl,_,World.drewN_drewN _ _ _⟩|exact⟨rfl,_,Eq.trans (World.drewN_drewN _ _ _) (congrArg (World.drewN _) (Nat.add_assoc _ _ _))⟩))))
           go_meet
           case rel=>exact⟨_,(t154),(by first|rfl|(simp;done)|(simp[*];done)),H',⟨by have:=U0.o;have:=Qk.o;have:=uj.o;first|omega|exact Nat.le_refl _⟩,⟨by repeat(first|(with_reducible first|exact HI0.o|apply ag.alloc|apply ag.drewN|apply ag.drew|apply ag.bG|apply ag.bE|apply ag.bF)|exact HI0.o)⟩,⟨by repeat(first|(with_reducible first|exact HK.o|apply az.cO|apply aC|apply aJ|apply aG)|exact HK.o)⟩,⟨by repeat(first|(with_reducible first|exact HB.o|apply ae|apply ah|apply ak|refine au ?_ (ag.ge HI0.o))|exact HB.o)⟩⟩
          ·rw[if_neg c20] at H;exact absurd H (by simp)
         ·rw[if_neg c19] at H;have Bg:decide (bH<(bM.size:Int))=false:=decide_eq_false c19;clear c19
          (first|rw[Bg]|(simp only[JB,JC];rw[Bg])|skip)
          have H':=ai H;clear H;obtain⟨zt,Vo⟩:=HI0.o;have Qe:=aT zt;have Re:=aR zt;have Ql:=aU zt;have QR:=af zt 0;have Px:=af zt 1;have Q0:=af zt 2;clear zt Vo;go_wp2
          repeat(go_quiet (fail);try go_wp2)
          go_meet
          case rel=>exact⟨_,(false),(by first|rfl|(simp;done)|(simp[*];done)),H',⟨by have:=U0.o;have:=Qk.o;have:=uj.o;first|omega|exact Nat.le_refl _⟩,⟨by repeat(first|(with_reducible first|exact HI0.o|apply ag.alloc|apply ag.drewN|apply ag.drew|apply ag.bG|apply ag.bE|apply ag.bF)|exact HI0.o)⟩,⟨by repeat(first|(with_reducible first|exact HK.o|apply az.cO|apply aC|apply aJ|apply aG)|exact HK.o)⟩,⟨by repeat(first|(with_reducible first|exact HB.o|apply ae|apply ah|apply ak|refine au ?_ (ag.ge HI0.o))|exact HB.o)⟩⟩
        case rest=>
         clear TY
         try clear c1
         try clear p1
         try clear q1
         try clear hx1
         try clear c2
         try clear p2
         try clear q2
         try clear hx2
         try clear c3
         try clear zD
         try clear p6
         try clear c9
         try clear yh
         try clear c10
         try clear Jl
         try clear Pj
         try clear Pm
         try clear rH
         try clear c15
         try clear c19
         try clear Bg
         try clear c20
         try clear XP
         try clear Yd
         try clear Yy
         try clear sF
         try clear oZ
         try clear oM
         try clear oL
         try clear xx
         try clear xI
         try clear xC
         try clear Cg
         try clear CE
         try clear BH
         try clear Iz
         try clear Iw
         try clear Jn
         try clear PX
         try clear Qb
         try clear PD
         try clear Qe
         try clear Re
         try clear Ql
         try clear pO
         try clear qw
         try clear p9
         try clear pY
         try clear qb
         try clear qf
         try clear o6
         try clear oG
         try clear o5
         try clear xH
         try clear xk
         try clear xL
         try clear CK
         try clear Cz
         try clear BX
         try clear IG
         try clear JA
         try clear IE
         try clear Qd
         try clear Qm
         try clear PW
         try clear QR
         try clear Px
         try clear Q0
         try clear qc
         try clear pM
         try clear qK
         try clear pU
         try clear pW
         try clear qg
         try clear p1
         try clear Pj
         try clear p2
         try clear Yd
         try clear p6
         try clear q1
         try clear Pm
         try clear Yy
         obtain⟨kq,BS,rfl,HA,V8,HI0,HK,HB⟩:=hcut;cases kq with
         |zero=>exact absurd HA.o (by simp[ax.j3])
         |succ kj17=>
          have H:=HA.o;clear HA;simp only[ax.j3] at H;by_cases c25:BS=true
          ·subst c25;replace H:(if (wrap64 (bH-bT))≥10 then ((aH.f bM bH dM t152).bind fun bt155=>(some (0,bt155.1,bt155.2.1,bt155.2.2))) else (if 0<=bH then (if bH<(bM.size:Int) then (ax.l0 kj17 t152 iE (wrap64 ((wrap64 (10*jN))+(((bt bM bH)-48)%256))) bT bM (wrap64 (bH+1)) dM) else (none)) else (none)))=some (r1,r2,r3,r4):=by rw[if_pos rfl] at H;exact H
           by_cases c26:(wrap64 (bH-bT))≥10
           ·rw[if_pos c26] at H;have VS:decide (10<=(wrap64 (bH-bT)))=true:=decide_eq_true c26;clear c26;replace H:=Option.bind_eq_some_iff.mp H;obtain⟨⟨t155,t156,t157⟩,VB,H⟩:=H;replace H:(some (0,t155,t156,t157))=some (r1,r2,r3,r4):=H;have A27:=ai VB;clear VB;simp only[Option.some.injEq,Prod.mk.injEq] at H;obtain⟨rfl,rfl,rfl,rfl⟩:=H;obtain⟨yf,XO⟩:=HI0.o;have YY:=aT yf;have Zl:=aR yf;have Zx:=aU yf;have Yk:=af yf 0;have Y8:=af yf 1;have Zq:=af yf 2;clear yf XO;go_wp2_with (first|(go_at_call 146;(with_reducible refine(aH.calls g bM bH dM t152 t155 t156 t157 w0 _ ?side1 ?side2 A27.o).mono ?_);(case side1=>repeat(first|(with_reducible first|exact HI0.o|apply ag.alloc|apply ag.drewN|apply ag.drew|apply ag.bG|apply ag.bE|apply ag.bF)|exact HI0.o));(case side2=>repeat(first|(with_reducible first|exact HB.o|apply ae|apply ah|apply ak|refine au ?_ (ag.ge HI0.o))|exact HB.o));rintro e w29 ⟨rfl,hi,hb,hk⟩;have dH:=ai (az.trans (by repeat(first|(with_reducible first|exact HK.o|apply az.cO|apply aC|apply aJ|apply aG)|exact HK.o)) hk (.inl rfl));have dU:=ai (hb);have dS:=ai (hi);clear HK;clear HB;clear HI0;have HK:=dH;have HB:=dU;have HI0:=dS;clear dH dU dS;(try clear hb);(try clear hb2);(try clear hk);(try clear hi)))
            repeat(go_quiet (first|(go_at_call 146;(with_reducible refine(aH.calls g bM bH dM t152 t155 t156 t157 w0 _ ?side1 ?side2 A27.o).mono ?_);(case side1=>repeat(first|(with_reducible first|exact HI0.o|apply ag.alloc|apply ag.drewN|apply ag.drew|apply ag.bG|apply ag.bE|apply ag.bF)|exact HI0.o));(case side2=>repeat(first|(with_reducible first|exact HB.o|apply ae|apply ah|apply ak|refine au ?_ (ag.ge HI0.o))|exact HB.o));rintro e w29 ⟨rfl,hi,hb,hk⟩;have dH:=ai (az.trans (by repeat(first|(with_reducible first|exact HK.o|apply az.cO|apply aC|apply aJ|apply aG)|exact HK.o)) hk (.inl rfl));have dU:=ai (hb);have dS:=ai (hi);clear HK;clear HB;clear HI0;have HK:=dH;have HB:=dU;have HI0:=dS;clear dH dU dS;(try clear hb);(try clear hb2);(try clear hk);(try clear hi)));try go_wp2_with (first|(go_at_call 146;(with_reducible refine(aH.calls g bM bH dM t152 t155 t156 t157 w0 _ ?side1 ?side2 A27.o).mono ?_);(case side1=>repeat(first|(with_reducible first|exact HI0.o|apply ag.alloc|apply ag.drewN|apply ag.drew|apply ag.bG|apply ag.bE|apply ag.bF)|exact HI0.o));(case side2=>repeat(first|(with_reducible first|exact HB.o|apply ae|apply ah|apply ak|refine au ?_ (ag.ge HI0.o))|exact HB.o));rintro e w29 ⟨rfl,hi,hb,hk⟩;have dH:=ai (az.trans (by repeat(first|(with_reducible first|exact HK.o|apply az.cO|apply aC|apply aJ|apply aG)|exact HK.o)) hk (.inl rfl));have dU:=ai (hb);have dS:=ai (hi);clear HK;clear HB;clear HI0;have HK:=dH;have HB:=dU;have HI0:=dS;clear dH dU dS;(try clear hb);(try clear hb2);(try clear hk);(try clear hi))))
            go_ret;exact⟨by first|rfl|(simp[bO,bP]<;>rfl)|(simp[*,bO,bP]<;>rfl),by repeat(first|(with_reducible first|exact HI0.o|apply ag.alloc|apply ag.drewN|apply ag.drew|apply ag.bG|apply ag.bE|apply ag.bF)|exact HI0.o),by repeat(first|(with_reducible first|exact HB.o|apply ae|apply ah|apply ak|refine au ?_ (ag.ge HI0.o))|exact HB.o),by repeat(first|(with_reducible first|exact HK.o|apply az.cO|apply aC|apply aJ|apply aG)|exact HK.o)⟩
           ·rw[if_neg c26] at H;have VS:decide (10<=(wrap64 (bH-bT)))=false:=decide_eq_false c26;clear c26;by_cases c30:0<=bH
            ·rw[if_pos c30] at H;have ada:decide (0<=bH)=true:=decide_eq_true c30;clear c30;by_cases c31:bH<(bM.size:Int)
             ·rw[if_pos c31] at H;have adk:decide (bH<(bM.size:Int))=true:=decide_eq_true c31;clear c31;have H':=ai H;clear H;obtain⟨yA,Xl⟩:=HI0.o;have Yg:=aT yA;have YP:=aR yA;have YT:=aU yA;have Y3:=af yA 0;have Zm:=af yA 1;have XY:=af yA 2;clear yA Xl;have p32:0<=(bH:Int):=of_decide_eq_true (by first|(with_reducible assumption)|assumption);have q32:bH<(bM.size:Int):=of_decide_eq_true (by first|(with_reducible assumption)|assumption);have hx32:=sO bM bH;replace p32:=eq_true p32;replace q32:=eq_true q32;go_wp2
              repeat(go_quiet (fail);try go_wp2)
              go_roundg kj17
              case measure=>have:=U0.o;have:=Qk.o;have:=uj.o;have:=V8.o;omega
              case rel=>exact⟨(wrap64 ((wrap64 (10*jN))+(((bt bM bH)-48)%256))),(bM),(wrap64 (bH+1)),(dM),(by first|rfl|(simp;done)|(simp[*];done)),H',⟨by have:=U0.o;have:=Qk.o;have:=uj.o;have:=V8.o;omega⟩,⟨by repeat(first|(with_reducible first|exact HI0.o|apply ag.alloc|apply ag.drewN|apply ag.drew|apply ag.bG|apply ag.bE|apply ag.bF)|exact HI0.o)⟩,⟨by repeat(first|(with_reducible first|exact HK.o|apply az.cO|apply aC|apply aJ|apply aG)|exact HK.o)⟩,⟨by repeat(first|(with_reducible first|exact HB.o|apply ae|apply ah|apply ak|refine au ?_ (ag.ge HI0.o))|exact HB.o)⟩⟩
             ·rw[if_neg c31] at H;exact absurd H (by simp)
            ·rw[if_neg c30] at H;exact absurd H (by simp)
          ·replace c25:=Bool.eq_false_iff.mpr c25;subst c25;replace H:(if bH=bT then ((aH.f bM bH dM t152).bind fun bt158=>(some (wrap64 (iE*jN),bt158.1,bt158.2.1,bt158.2.2))) else (if (wrap64 (bH-bT))>1 then (if 0<=bT then (if bT<(bM.size:Int) then (if (bt bM bT)=48 then ((aH.f bM bH dM t152).bind fun bt161=>(some (wrap64 (iE*jN),bt161.1,bt161.2.1,bt161.2.2))) else (if iE<0 then (if jN=0 then ((aH.f bM bH dM t152).bind fun bt164=>(some (wrap64 (iE*jN),bt164.1,bt164.2.1,bt164.2.2))) else (some (wrap64 (iE*jN),bM,bH,dM))) else (some (wrap64 (iE*jN),bM,bH,dM)))) else (none)) else (none)) else (if iE<0 then (if jN=0 then ((aH.f bM bH dM t152).bind fun bt167=>(some (wrap64 (iE*jN),bt167.1,bt167.2.1,bt167.2.2))) else (some (wrap64 (iE*jN),bM,bH,dM))) else (some (wrap64 (iE*jN),bM,bH,dM)))))=some (r1,r2,r3,r4):=by rw[if_neg (show ¬(false=true) by decide)] at H;exact H
           by_cases c34:bH=bT
           ·rw[if_pos c34] at H;have VQ:(bH==bT)=true:=beq_iff_eq.mpr c34;have VJ:(bH != bT)=false:=bne_eq_false_iff_eq.mpr c34;clear c34;replace H:=Option.bind_eq_some_iff.mp H;obtain⟨⟨t158,t159,t160⟩,XB,H⟩:=H;replace H:(some (wrap64 (iE*jN),t158,t159,t160))=some (r1,r2,r3,r4):=H;have ZB:=ai XB;clear XB;simp only[Option.some.injEq,Prod.mk.injEq] at H;obtain⟨rfl,rfl,rfl,rfl⟩:=H;obtain⟨zG,WR⟩:=HI0.o;have X3:=aT zG;have Zp:=aR zG;have YL:=aU zG;have Yq:=af zG 0;have YH:=af zG 1;have YF:=af zG 2;clear zG WR;go_wp2_with (first|(go_at_call 146;(with_reducible refine(aH.calls g bM bH dM t152 t158 t159 t160 w0 _ ?side1 ?side2 ZB.o).mono ?_);(case side1=>repeat(first|(with_reducible first|exact HI0.o|apply ag.alloc|apply ag.drewN|apply ag.drew|apply ag.bG|apply ag.bE|apply ag.bF)|exact HI0.o));(case side2=>repeat(first|(with_reducible first|exact HB.o|apply ae|apply ah|apply ak|refine au ?_ (ag.ge HI0.o))|exact HB.o));rintro e w37 ⟨rfl,hi,hb,hk⟩;have dH:=ai (az.trans (by repeat(first|(with_reducible first|exact HK.o|apply az.cO|apply aC|apply aJ|apply aG)|exact HK.o)) hk (.inl rfl));have dU:=ai (hb);have dS:=ai (hi);clear HK;clear HB;clear HI0;have HK:=dH;have HB:=dU;have HI0:=dS;clear dH dU dS;(try clear hb);(try clear hb2);(try clear hk);(try clear hi)))
            repeat(go_quiet (first|(go_at_call 146;(with_reducible refine(aH.calls g bM bH dM t152 t158 t159 t160 w0 _ ?side1 ?side2 ZB.o).mono ?_);(case side1=>repeat(first|(with_reducible first|exact HI0.o|apply ag.alloc|apply ag.drewN|apply ag.drew|apply ag.bG|apply ag.bE|apply ag.bF)|exact HI0.o));(case side2=>repeat(first|(with_reducible first|exact HB.o|apply ae|apply ah|apply ak|refine au ?_ (ag.ge HI0.o))|exact HB.o));rintro e w37 ⟨rfl,hi,hb,hk⟩;have dH:=ai (az.trans (by repeat(first|(with_reducible first|exact HK.o|apply az.cO|apply aC|apply aJ|apply aG)|exact HK.o)) hk (.inl rfl));have dU:=ai (hb);have dS:=ai (hi);clear HK;clear HB;clear HI0;have HK:=dH;have HB:=dU;have HI0:=dS;clear dH dU dS;(try clear hb);(try clear hb2);(try clear hk);(try clear hi)));try go_wp2_with (first|(go_at_call 146;(with_reducible refine(aH.calls g bM bH dM t152 t158 t159 t160 w0 _ ?side1 ?side2 ZB.o).mono ?_);(case side1=>repeat(first|(with_reducible first|exact HI0.o|apply ag.alloc|apply ag.drewN|apply ag.drew|apply ag.bG|apply ag.bE|apply ag.bF)|exact HI0.o));(case side2=>repeat(first|(with_reducible first|exact HB.o|apply ae|apply ah|apply ak|refine au ?_ (ag.ge HI0.o))|exact HB.o));rintro e w37 ⟨rfl,hi,hb,hk⟩;have dH:=ai (az.trans (by repeat(first|(with_reducible first|exact HK.o|apply az.cO|apply aC|apply aJ|apply aG)|exact HK.o)) hk (.inl rfl));have dU:=ai (hb);have dS:=ai (hi);clear HK;clear HB;clear HI0;have HK:=dH;have HB:=dU;have HI0:=dS;clear dH dU dS;(try clear hb);(try clear hb2);(try clear hk);(try clear hi))))
            go_ret;exact⟨by first|rfl|(simp[bO,bP]<;>rfl)|(simp[*,bO,bP]<;>rfl),by repeat(first|(with_reducible first|exact HI0.o|apply ag.alloc|apply ag.drewN|apply ag.drew|apply ag.bG|apply ag.bE|apply ag.bF)|exact HI0.o),by repeat(first|(with_reducible first|exact HB.o|apply ae|apply ah|apply ak|refine au ?_ (ag.ge HI0.o))|exact HB.o),by repeat(first|(with_reducible first|exact HK.o|apply az.cO|apply aC|apply aJ|apply aG)|exact HK.o)⟩
           ·rw[if_neg c34] at H;have VQ:(bH==bT)=false:=beq_eq_false_iff_ne.mpr c34;have VJ:(bH != bT)=true:=bne_iff_ne.mpr c34;by_cases c38:(wrap64 (bH-bT))>1
            ·rw[if_pos c38] at H;have Vt:decide (1<(wrap64 (bH-bT)))=true:=decide_eq_true c38;clear c38;by_cases c39:0<=bT
             ·rw[if_pos c39] at H;have abY:decide (0<=bT)=true:=decide_eq_true c39;clear c39;by_cases c40:bT<(bM.size:Int)
              ·rw[if_pos c40] at H;have ab6:decide (bT<(bM.size:Int))=true:=decide_eq_true c40;clear c40;by_cases c42:(bt bM bT)=48
               ·rw[if_pos c42] at H;have U6:((bt bM bT)==48)=true:=beq_iff_eq.mpr c42;have Xz:((bt bM bT) != 48)=false:=bne_eq_false_iff_eq.mpr c42;clear c42;replace H:=Option.bind_eq_some_iff.mp H;obtain⟨⟨t161,t162,t163⟩,WL,H⟩:=H;replace H:(some (wrap64 (iE*jN),t161,t162,t163))=some (r1,r2,r3,r4):=H;have Z9:=ai WL;clear WL;simp only[Option.some.injEq,Prod.mk.injEq] at H;obtain⟨rfl,rfl,rfl,rfl⟩:=H;obtain⟨yG,VR⟩:=HI0.o;have YU:=aT yG;have X6:=aR yG;have Zo:=aU yG;have XW:=af yG 0;have Y0:=af yG 1;have YG:=af yG 2;clear yG VR;have p41:0<=(bT:Int):=of_decide_eq_true (by first|(with_reducible assumption)|assumption);have OG:bT<(bM.size:Int):=of_decide_eq_true (by first|(with_reducible assumption)|assumption);have TU:=sO bM bT;replace p41:=eq_true p41;replace OG:=eq_true OG;go_wp2_with (first|(go_at_call 146;(with_reducible refine(aH.calls g bM bH dM t152 t161 t162 t163 w0 _ ?side1 ?side2 Z9.o).mono ?_);(case side1=>repeat(first|(with_reducible first|exact HI0.o|apply ag.alloc|apply ag.drewN|apply ag.drew|apply ag.bG|apply ag.bE|apply ag.bF)|exact HI0.o));(case side2=>repeat(first|(with_reducible first|exact HB.o|apply ae|apply ah|apply ak|refine au ?_ (ag.ge HI0.o))|exact HB.o));rintro e w45 ⟨rfl,hi,hb,hk⟩;have dH:=ai (az.trans (by repeat(first|(with_reducible first|exact HK.o|apply az.cO|apply aC|apply aJ|apply aG)|exact HK.o)) hk (.inl rfl));have dU:=ai (hb);have dS:=ai (hi);clear HK;clear HB;clear HI0;have HK:=dH;have HB:=dU;have HI0:=dS;clear dH dU dS;(try clear hb);(try clear hb2);(try clear hk);(try clear hi)))
                repeat(go_quiet (first|(go_at_call 146;(with_reducible refine(aH.calls g bM bH dM t152 t161 t162 t163 w0 _ ?side1 ?side2 Z9.o).mono ?_);(case side1=>repeat(first|(with_reducible first|exact HI0.o|apply ag.alloc|apply ag.drewN|apply ag.drew|apply ag.bG|apply ag.bE|apply ag.bF)|exact HI0.o));(case side2=>repeat(first|(with_reducible first|exact HB.o|apply ae|apply ah|apply ak|refine au ?_ (ag.ge HI0.o))|exact HB.o));rintro e w45 ⟨rfl,hi,hb,hk⟩;have dH:=ai (az.trans (by repeat(first|(with_reducible first|exact HK.o|apply az.cO|apply aC|apply aJ|apply aG)|exact HK.o)) hk (.inl rfl));have dU:=ai (hb);have dS:=ai (hi);clear HK;clear HB;clear HI0;have HK:=dH;have HB:=dU;have HI0:=dS;clear dH dU dS;(try clear hb);(try clear hb2);(try clear hk);(try clear hi)));try go_wp2_with (first|(go_at_call 146;(with_reducible refine(aH.calls g bM bH dM t152 t161 t162 t163 w0 _ ?side1 ?side2 Z9.o).mono ?_);(case side1=>repeat(first|(with_reducible first|exact HI0.o|apply ag.alloc|apply ag.drewN|apply ag.drew|apply ag.bG|apply ag.bE|apply ag.bF)|exact HI0.o));(case side2=>repeat(first|(with_reducible first|exact HB.o|apply ae|apply ah|apply ak|refine au ?_ (ag.ge HI0.o))|exact HB.o));rintro e w45 ⟨rfl,hi,hb,hk⟩;have dH:=ai (az.trans (by repeat(first|(with_reducible first|exact HK.o|apply az.cO|apply aC|apply aJ|apply aG)|exact HK.o)) hk (.inl rfl));have dU:=ai (hb);have dS:=ai (hi);clear HK;clear HB;clear HI0;have HK:=dH;have HB:=dU;have HI0:=dS;clear dH dU dS;(try clear hb);(try clear hb2);(try clear hk);(try clear hi))))
                go_ret;exact⟨by first|rfl|(simp[bO,bP]<;>rfl)|(simp[*,bO,bP]<;>rfl),by repeat(first|(with_reducible first|exact HI0.o|apply ag.alloc|apply ag.drewN|apply ag.drew|apply ag.bG|apply ag.bE|apply ag.bF)|exact HI0.o),by repeat(first|(with_reducible first|exact HB.o|apply ae|apply ah|apply ak|refine au ?_ (ag.ge HI0.o))|exact HB.o),by repeat(first|(with_reducible first|exact HK.o|apply az.cO|apply aC|apply aJ|apply aG)|exact HK.o)⟩
               ·rw[if_neg c42] at H;have U6:((bt bM bT)==48)=false:=beq_eq_false_iff_ne.mpr c42;have Xz:((bt bM bT) != 48)=true:=bne_iff_ne.mpr c42;by_cases c46:iE<0
                ·rw[if_pos c46] at H;have U3:decide (iE<0)=true:=decide_eq_true c46;clear c46;by_cases c47:jN=0
                 ·rw[if_pos c47] at H;have U9:(jN==0)=true:=beq_iff_eq.mpr c47;have WQ:(jN != 0)=false:=bne_eq_false_iff_eq.mpr c47;clear c47;replace H:=Option.bind_eq_some_iff.mp H;obtain⟨⟨t164,t165,t166⟩,Vh,H⟩:=H;replace H:(some (wrap64 (iE*jN),t164,t165,t166))=some (r1,r2,r3,r4):=H;have ZP:=ai Vh;clear Vh;simp only[Option.some.injEq,Prod.mk.injEq] at H;obtain⟨rfl,rfl,rfl,rfl⟩:=H;obtain⟨yo,Wn⟩:=HI0.o;have YR:=aT yo;have YI:=aR yo;have Yb:=aU yo;have YK:=af yo 0;have XT:=af yo 1;have YO:=af yo 2;clear yo Wn;have p41:0<=(bT:Int):=of_decide_eq_true (by first|(with_reducible assumption)|assumption);have OG:bT<(bM.size:Int):=of_decide_eq_true (by first|(with_reducible assumption)|assumption);have TU:=sO bM bT;replace p41:=eq_true p41;replace OG:=eq_true OG;go_wp2_with (first|(go_at_call 146;(with_reducible refine(aH.calls g bM bH dM t152 t164 t165 t166 w0 _ ?side1 ?side2 ZP.o).mono ?_);(case side1=>repeat(first|(with_reducible first|exact HI0.o|apply ag.alloc|apply ag.drewN|apply ag.drew|apply ag.bG|apply ag.bE|apply ag.bF)|exact HI0.o));(case side2=>repeat(first|(with_reducible first|exact HB.o|apply ae|apply ah|apply ak|refine au ?_ (ag.ge HI0.o))|exact HB.o));rintro e w50 ⟨rfl,hi,hb,hk⟩;have dH:=ai (az.trans (by repeat(first|(with_reducible first|exact HK.o|apply az.cO|apply aC|apply aJ|apply aG)|exact HK.o)) hk (.inl rfl));have dU:=ai (hb);have dS:=ai (hi);clear HK;clear HB;clear HI0;have HK:=dH;have HB:=dU;have HI0:=dS;clear dH dU dS;(try clear hb);(try clear hb2);(try clear hk);(try clear hi)))
                  repeat(go_quiet (first|(go_at_call 146;(with_reducible refine(aH.calls g bM bH dM t152 t164 t165 t166 w0 _ ?side1 ?side2 ZP.o).mono ?_);(case side1=>repeat(first|(with_reducible first|exact HI0.o|apply ag.alloc|apply ag.drewN|apply ag.drew|apply ag.bG|apply ag.bE|apply ag.bF)|exact HI0.o));(case side2=>repeat(first|(with_reducible first|exact HB.o|apply ae|apply ah|apply ak|refine au ?_ (ag.ge HI0.o))|exact HB.o));rintro e w50 ⟨rfl,hi,hb,hk⟩;have dH:=ai (az.trans (by repeat(first|(with_reducible first|exact HK.o|apply az.cO|apply aC|apply aJ|apply aG)|exact HK.o)) hk (.inl rfl));have dU:=ai (hb);have dS:=ai (hi);clear HK;clear HB;clear HI0;have HK:=dH;have HB:=dU;have HI0:=dS;clear dH dU dS;(try clear hb);(try clear hb2);(try clear hk);(try clear hi)));try go_wp2_with (first|(go_at_call 146;(with_reducible refine(aH.calls g bM bH dM t152 t164 t165 t166 w0 _ ?side1 ?side2 ZP.o).mono ?_);(case side1=>repeat(first|(with_reducible first|exact HI0.o|apply ag.alloc|apply ag.drewN|apply ag.drew|apply ag.bG|apply ag.bE|apply ag.bF)|exact HI0.o));(case side2=>repeat(first|(with_reducible first|exact HB.o|apply ae|apply ah|apply ak|refine au ?_ (ag.ge HI0.o))|exact HB.o));rintro e w50 ⟨rfl,hi,hb,hk⟩;have dH:=ai (az.trans (by repeat(first|(with_reducible first|exact HK.o|apply az.cO|apply aC|apply aJ|apply aG)|exact HK.o)) hk (.inl rfl));have dU:=ai (hb);have dS:=ai (hi);clear HK;clear HB;clear HI0;have HK:=dH;have HB:=dU;have HI0:=dS;clear dH dU dS;(try clear hb);(try clear hb2);(try clear hk);(try clear hi))))
                  go_ret;exact⟨by first|rfl|(simp[bO,bP]<;>rfl)|(simp[*,bO,bP]<;>rfl),by repeat(first|(with_reducible first|exact HI0.o|apply ag.alloc|apply ag.drewN|apply ag.drew|apply ag.bG|apply ag.bE|apply ag.bF)|exact HI0.o),by repeat(first|(with_reducible first|exact HB.o|apply ae|apply ah|apply ak|refine au ?_ (ag.ge HI0.o))|exact HB.o),by repeat(first|(with_reducible first|exact HK.o|apply az.cO|apply aC|apply aJ|apply aG)|exact HK.o)⟩
                 ·rw[if_neg c47] at H;have U9:(jN==0)=false:=beq_eq_false_iff_ne.mpr c47;have WQ:(jN != 0)=true:=bne_iff_ne.mpr c47;simp only[Option.some.injEq,Prod.mk.injEq] at H;obtain⟨rfl,rfl,rfl,rfl⟩:=H;obtain⟨yu,WW⟩:=HI0.o;have Za:=aT yu;have X5:=aR yu;have YC:=aU yu;have Ya:=af yu 0;have YA:=af yu 1;have Ye:=af yu 2;clear yu WW;have p41:0<=(bT:Int):=of_decide_eq_true (by first|(with_reducible assumption)|assumption);have OG:bT<(bM.size:Int):=of_decide_eq_true (by first|(with_reducible assumption)|assumption);have TU:=sO bM bT;replace p41:=eq_true p41;replace OG:=eq_true OG;go_wp2
                  repeat(go_quiet (fail);try go_wp2)
                  go_ret;exact⟨by first|rfl|(simp[bO,bP]<;>rfl)|(simp[*,bO,bP]<;>rfl),by repeat(first|(with_reducible first|exact HI0.o|apply ag.alloc|apply ag.drewN|apply ag.drew|apply ag.bG|apply ag.bE|apply ag.bF)|exact HI0.o),by repeat(first|(with_reducible first|exact HB.o|apply ae|apply ah|apply ak|refine au ?_ (ag.ge HI0.o))|exact HB.o),by repeat(first|(with_reducible first|exact HK.o|apply az.cO|apply aC|apply aJ|apply aG)|exact HK.o)⟩
                ·rw[if_neg c46] at H;have U3:decide (iE<0)=false:=decide_eq_false c46;clear c46;simp only[Option.some.injEq,Prod.mk.injEq] at H;obtain⟨rfl,rfl,rfl,rfl⟩:=H;obtain⟨xO,WG⟩:=HI0.o;have XX:=aT xO;have Zj:=aR xO;have Yv:=aU xO;have YN:=af xO 0;have Yr:=af xO 1;have Yo:=af xO 2;clear xO WG;have p41:0<=(bT:Int):=of_decide_eq_true (by first|(with_reducible assumption)|assumption);have OG:bT<(bM.size:Int):=of_decide_eq_true (by first|(with_reducible assumption)|assumption);have TU:=sO bM bT;replace p41:=eq_true p41;replace OG:=eq_true OG;go_wp2
                 repeat(go_quiet (fail);try go_wp2)
                 go_ret;exact⟨by first|rfl|(simp[bO,bP]<;>rfl)|(simp[*,bO,bP]<;>rfl),by repeat(first|(with_reducible first|exact HI0.o|apply ag.alloc|apply ag.drewN|apply ag.drew|apply ag.bG|apply ag.bE|apply ag.bF)|exact HI0.o),by repeat(first|(with_reducible first|exact HB.o|apply ae|apply ah|apply ak|refine au ?_ (ag.ge HI0.o))|exact HB.o),by repeat(first|(with_reducible first|exact HK.o|apply az.cO|apply aC|apply aJ|apply aG)|exact HK.o)⟩
              ·rw[if_neg c40] at H;exact absurd H (by simp)
             ·rw[if_neg c39] at H;exact absurd H (by simp)
            ·rw[if_neg c38] at H;have Vt:decide (1<(wrap64 (bH-bT)))=false:=decide_eq_false c38;clear c38;by_cases c53:iE<0
             ·rw[if_pos c53] at H;have VE:decide (iE<0)=true:=decide_eq_true c53;clear c53;by_cases c54:jN=0
              ·rw[if_pos c54] at H;have Wv:(jN==0)=true:=beq_iff_eq.mpr c54;have VZ:(jN != 0)=false:=bne_eq_false_iff_eq.mpr c54;clear c54;replace H:=Option.bind_eq_some_iff.mp H;obtain⟨⟨t167,t168,t169⟩,Xc,H⟩:=H;replace H:(some (wrap64 (iE*jN),t167,t168,t169))=some (r1,r2,r3,r4):=H;have A55:=ai Xc;clear Xc;simp only[Option.some.injEq,Prod.mk.injEq] at H;obtain⟨rfl,rfl,rfl,rfl⟩:=H;obtain⟨zw,Xo⟩:=HI0.o;have Zr:=aT zw;have Zb:=aR zw;have Zf:=aU zw;have YE:=af zw 0;have Zc:=af zw 1;have YM:=af zw 2;clear zw Xo;go_wp2_with (first|(go_at_call 146;(with_reducible refine(aH.calls g bM bH dM t152 t167 t168 t169 w0 _ ?side1 ?side2 A55.o).mono ?_);(case side1=>repeat(first|(with_reducible first|exact HI0.o|apply ag.alloc|apply ag.drewN|apply ag.drew|apply ag.bG|apply ag.bE|apply ag.bF)|exact HI0.o));(case side2=>repeat(first|(with_reducible first|exact HB.o|apply ae|apply ah|apply ak|refine au ?_ (ag.ge HI0.o))|exact HB.o));rintro e w57 ⟨rfl,hi,hb,hk⟩;have dH:=ai (az.trans (by repeat(first|(with_reducible first|exact HK.o|apply az.cO|apply aC|apply aJ|apply aG)|exact HK.o)) hk (.inl rfl));have dU:=ai (hb);have dS:=ai (hi);clear HK;clear HB;clear HI0;have HK:=dH;have HB:=dU;have HI0:=dS;clear dH dU dS;(try clear hb);(try clear hb2);(try clear hk);(try clear hi)))
               repeat(go_quiet (first|(go_at_call 146;(with_reducible refine(aH.calls g bM bH dM t152 t167 t168 t169 w0 _ ?side1 ?side2 A55.o).mono ?_);(case side1=>repeat(first|(with_reducible first|exact HI0.o|apply ag.alloc|apply ag.drewN|apply ag.drew|apply ag.bG|apply ag.bE|apply ag.bF)|exact HI0.o));(case side2=>repeat(first|(with_reducible first|exact HB.o|apply ae|apply ah|apply ak|refine au ?_ (ag.ge HI0.o))|exact HB.o));rintro e w57 ⟨rfl,hi,hb,hk⟩;have dH:=ai (az.trans (by repeat(first|(with_reducible first|exact HK.o|apply az.cO|apply aC|apply aJ|apply aG)|exact HK.o)) hk (.inl rfl));have dU:=ai (hb);have dS:=ai (hi);clear HK;clear HB;clear HI0;have HK:=dH;have HB:=dU;have HI0:=dS;clear dH dU dS;(try clear hb);(try clear hb2);(try clear hk);(try clear hi)));try go_wp2_with (first|(go_at_call 146;(with_reducible refine(aH.calls g bM bH dM t152 t167 t168 t169 w0 _ ?side1 ?side2 A55.o).mono ?_);(case side1=>repeat(first|(with_reducible first|exact HI0.o|apply ag.alloc|apply ag.drewN|apply ag.drew|apply ag.bG|apply ag.bE|apply ag.bF)|exact HI0.o));(case side2=>repeat(first|(with_reducible first|exact HB.o|apply ae|apply ah|apply ak|refine au ?_ (ag.ge HI0.o))|exact HB.o));rintro e w57 ⟨rfl,hi,hb,hk⟩;have dH:=ai (az.trans (by repeat(first|(with_reducible first|exact HK.o|apply az.cO|apply aC|apply aJ|apply aG)|exact HK.o)) hk (.inl rfl));have dU:=ai (hb);have dS:=ai (hi);clear HK;clear HB;clear HI0;have HK:=dH;have HB:=dU;have HI0:=dS;clear dH dU dS;(try clear hb);(try clear hb2);(try clear hk);(try clear hi))))
               go_ret;exact⟨by first|rfl|(simp[bO,bP]<;>rfl)|(simp[*,bO,bP]<;>rfl),by repeat(first|(with_reducible first|exact HI0.o|apply ag.alloc|apply ag.drewN|apply ag.drew|apply ag.bG|apply ag.bE|apply ag.bF)|exact HI0.o),by repeat(first|(with_reducible first|exact HB.o|apply ae|apply ah|apply ak|refine au ?_ (ag.ge HI0.o))|exact HB.o),by repeat(first|(with_reducible first|exact HK.o|apply az.cO|apply aC|apply aJ|apply aG)|exact HK.o)⟩
              ·rw[if_neg c54] at H;have Wv:(jN==0)=false:=beq_eq_false_iff_ne.mpr c54;have VZ:(jN != 0)=true:=bne_iff_ne.mpr c54;simp only[Option.some.injEq,Prod.mk.injEq] at H;obtain⟨rfl,rfl,rfl,rfl⟩:=H;obtain⟨yE,Vu⟩:=HI0.o;have Yj:=aT yE;have XU:=aR yE;have Zz:=aU yE;have Zw:=af yE 0;have Yz:=af yE 1;have X8:=af yE 2;clear yE Vu;go_wp2
               repeat(go_quiet (fail);try go_wp2)
               go_ret;exact⟨by first|rfl|(simp[bO,bP]<;>rfl)|(simp[*,bO,bP]<;>rfl),by repeat(first|(with_reducible first|exact HI0.o|apply ag.alloc|apply ag.drewN|apply ag.drew|apply ag.bG|apply ag.bE|apply ag.bF)|exact HI0.o),by repeat(first|(with_reducible first|exact HB.o|apply ae|apply ah|apply ak|refine au ?_ (ag.ge HI0.o))|exact HB.o),by repeat(first|(with_reducible first|exact HK.o|apply az.cO|apply aC|apply aJ|apply aG)|exact HK.o)⟩
             ·rw[if_neg c53] at H;have VE:decide (iE<0)=false:=decide_eq_false c53;clear c53;simp only[Option.some.injEq,Prod.mk.injEq] at H;obtain⟨rfl,rfl,rfl,rfl⟩:=H;obtain⟨yI,Vw⟩:=HI0.o;have Ym:=aT yI;have Y2:=aR yI;have Zn:=aU yI;have Y6:=af yI 0;have XV:=af yI 1;have Yf:=af yI 2;clear yI Vw;go_wp2
              repeat(go_quiet (fail);try go_wp2)
              go_ret;exact⟨by first|rfl|(simp[bO,bP]<;>rfl)|(simp[*,bO,bP]<;>rfl),by repeat(first|(with_reducible first|exact HI0.o|apply ag.alloc|apply ag.drewN|apply ag.drew|apply ag.bG|apply ag.bE|apply ag.bF)|exact HI0.o),by repeat(first|(with_reducible first|exact HB.o|apply ae|apply ah|apply ak|refine au ?_ (ag.ge HI0.o))|exact HB.o),by repeat(first|(with_reducible first|exact HK.o|apply az.cO|apply aC|apply aJ|apply aG)|exact HK.o)⟩
end Go.Proofs.YtnmpijbcajclgaaGreatDoor.PNodeAlone
end
