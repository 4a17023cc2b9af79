/- Texts of one claim, one behind the other, made short by a program. -/
import Derived.Test.YtnmpijbcajclgaaGreatDoorMA12
import Derived.WalkSpells
set_option maxHeartbeats 8000000
set_option linter.unusedSimpArgs false
set_option linter.unusedVariables false
set_option maxRecDepth 100000
section
namespace Go.Proofs.YtnmpijbcajclgaaGreatDoor.Mine
open Tryz
open Go.Maps Go.RowKit YtnmpijbcajclgaaGreatDoorW.PrintWords YtnmpijbcajclgaaGreatDoorW.PrintLast YtnmpijbcajclgaaGreatDoorW.PrintMore
open PNodeAlone
open Value renaming slice->Vs
theorem K3(base g:Nat)(h:Hd)(N:eG)(w:World)(hI:cK base w g h N)(hF:fV N):
 Calls prog 50 #[.pointer (some ⟨g,0,none⟩)] w fun e w'=>∃A n c ys,e=.returned (.slice A n c)∧n<=10000∧Sm ys∧Kd.C Kd.string w' A n ys∧Below w.heap.size w w':=by
 obtain⟨A3,c3,hv3,hc3,Gp⟩:=Kd.bB hI.rows.sub;have Ej:=ai hv3;have XD:=ai Gp;have HF:=ai hF;have y5:=(hI.cell 5).trans (show _=some (Vs none 0 0) from rfl);have y3:=(hI.cell 3).trans (show _=some (Vs A3 N.subs.length c3) from by rw[<-hv3];rfl);clear hI hF hv3 hc3 Gp;go_enter func50,ntmps50
 go_wp2_with fail
 refine(BC g _ y5).mono ?_;rintro e w1 ⟨rfl,rfl⟩;go_wp2_with fail
 have HB:=ai (Below.refl w1.heap.size w1);have HO:ay (Kd.R Kd.string tS w1 w1.heap.size (fun _=>True) (.slice none 0 0) ([]:List ByteArray)):=⟨Kd.iF _ _ _ _ _⟩
 obtain⟨n,hn⟩:∃n,n=N.subs.length:=⟨_,rfl⟩
 rw[<-hn] at XD|-;have HN:=ai hn;clear y3 hn;go_loopg [3,5,15] (n+1) (fun k v3 v5 v15 W=>∃(i:Nat) (acc:List ByteArray),ay (i<=n∧k+i=n+1∧acc.length<=256*i∧Sm acc)∧v15=.int .i64 (i:Int)∧ay (Kd.R Kd.string tS W w1.heap.size (fun _=>True) v3 acc)∧ay (Below w1.heap.size w1 W))
 case atStart=>exact⟨0,[],⟨by omega,by omega,by simp,Sm.nil⟩,rfl,HO,HB⟩
 case round=>
  clear HO HB;obtain⟨i,acc,HI,rfl,HO,HB⟩:=hrel;by_cases hi:i<n
  ·have b1:decide ((i:Int)<(n:Int))=true:=decide_eq_true (by omega);have b2:decide (i<n)=true:=decide_eq_true (by omega);have p1:(0:Int)<=(i:Int):=by omega
   have p2:(i:Int)<(n:Int):=by omega
   obtain⟨ad,x,B,b,D,e,hA,hx,h0,h1,h2,h3,hF,hG⟩:=GI (Kd.aY XD.o HB.o) i hi;cases hA
   have hm:x∈N.subs:=List.mem_of_getElem? hx;have HGL:=ai (HF.o.cz x hm);have hG2:=hG.2;clear hx hF hm hG;go_upto_region 5 with (fail)
   have ha:=ae (Below.refl wr.heap.size wr) (.cells #[.int .i64 x.id,.string x.text,.slice B x.F.length b,.slice D x.G.length e] iw);have hk:=heap_alloc_new wr (.cells #[.int .i64 x.id,.string x.text,.slice B x.F.length b,.slice D x.G.length e] iw);replace HB:=dW HB ha;replace HO:=lV HO ha;have HG:=ai (Kd.aY hG2 ha);clear h0 h1 h2 h3 hG2;generalize wr.alloc (.cells #[.int .i64 x.id,.string x.text,.slice B x.F.length b,.slice D x.G.length e] iw)=W4 at ha hk HB HO HG|-;clear ha;generalize wr.heap.size=gb at hk|-;have e3:=dA hk;have HL:=ai (show (acc.length+x.G.length)*16<=140737488355328 by have:=HI.o;have:=HGL.o;have:=HF.o.nSub;have:=HN.o;omega);clear hk;go_wp2_with ((with_reducible refine bn (b:=.append) (xs:= #[.tmp 19,.tmp 21]) rfl ?_);at_builtin;go_loud (refine Kd.Ce Value.string ByteArray.empty (w0:=w1) w1.heap.size rfl (.tmp 19) (.tmp 21) 99 9 (.string ⟨#[]⟩) 16 ?ho underlying99 NV rfl (by omega) u3 acc x.G D x.G.length e (fun _=>True) ?hs ?hx (fun _ _=>trivial) HO.o HG.o HB.o HB.o.size ?hl ?_;(case ho=>rfl);(case hs=>first|rfl|(go_simp;done)|(go_simp;rfl));(case hx=>first|rfl|(go_simp;done)|(go_simp;rfl));(case hl=>have:=HL.o;omega);intro v9 w9 ho hb hg hat;replace HO:=ai ho;replace HB:=ai hb;clear ho hb hg hat))
   go_roundg (gk-1)
   case measure=>have:=HI.o;omega
   case rel=>exact⟨i+1,acc++x.G,⟨by omega,by have:=HI.o;omega,by rw[List.length_append];have:=HI.o;have:=HGL.o;omega,HI.o.2.2.2.app HGL.o.2⟩,by rw[jK (by omega) (by have:=HF.o.nSub;have:=HN.o;omega)];rfl,HO,HB⟩
  ·have b1:decide ((i:Int)<(n:Int))=false:=decide_eq_false (by omega);have b2:decide (i<n)=false:=decide_eq_false (by omega);have hal:acc.length<=10000:=by have:=HI.o;have:=HF.o.nSub;have:=HN.o;omega
   obtain⟨A7,c7,rfl,SX,hC7⟩:=Kd.bB HO.o;have HL:=ai hal;clear SX hC7 hal hi;go_wp2_with fail
   refine(LQ w1.heap.size _ HO.o (by have:=HL.o;omega)).mono ?_;rintro e w5 ⟨rfl,⟨ys,hys,hsm,Pb⟩,hg5⟩;have RL:=ai (hsm HI.o.2.2.2);have RN:=ai (HB.o.grown hg5 HB.o.size (fun k hk=>Kd.jU HO.o k hk));have HR5:=ai Pb;clear hys hsm Pb hg5 HB HO;go_wp2_with fail
   refine(EZ w1.heap.size _ HR5.o (by have:=HL.o;omega)).mono ?_;rintro e w6 ⟨m,zs,rfl,hm,hzs,hsm,hR6,hg6⟩;have hfin:=And.intro (Nat.le_trans hm HL.o) (And.intro (hsm RL.o)<|And.intro (show Kd.C Kd.string w6 A7 m zs from by have h:=(Kd.bN hR6).2.2;rwa [hzs] at h) (RN.o.grown hg6 RN.o.size (fun k hk=>Kd.jU HR5.o k hk)));clear hm hzs hsm hR6 hg6;go_wp2;go_ret;exact⟨A7,m,c7,zs,rfl,hfin⟩
theorem Rh:(prog.info? 127).map (fun i=>(i.zero,i.size,i.bytes))=some (some (.agg #[(.int .i64 0),(.slice none 0 0),(.string ⟨#[]⟩),(.slice none 0 0)]),4,72):=by kernel_rfl
def QG:iJ:=⟨0,[],⟨#[]⟩,[]⟩
def gY(x:iJ):Bool:=decide ((x.want.length:Int)=0)
theorem um(q:Int)(V:Value)(pay:ByteArray)(D:Option Addr)(m e:Nat)(w:World):
 Calls prog 200 #[.agg #[.int .i64 q,V,.string pay,.slice D m e]] w fun r w'=>r=.returned (.bool (decide ((m:Int)=0)))∧Below w.heap.size w w':=by
 go_enter func200,ntmps200
 have ha:=ae (Below.refl w.heap.size w) (.cells #[.int .i64 q,V,.string pay,.slice D m e] nM);have hk:=heap_alloc_new w (.cells #[.int .i64 q,V,.string pay,.slice D m e] nM);have e3:=dA hk;have HB:=ai ha;clear hk ha;go_wp2;go_ret;refine⟨?_,HB.o⟩
 congr 2
theorem Ul(A:Option Addr)(n c:Nat)(L:List iJ)(w:World)(hr:Kd.C zO w A n L)(hl:n<=100000):
 Calls prog 236 #[.slice A n c,.func (.func 200) #[] #[]] w fun e w'=>e=.returned (.int .i64 (idxFrom gY L 0))∧Below w.heap.size w w':=by
 have HR:=ai hr;have HN:=ai hr.1;clear hr;go_enter func236,ntmps236
 go_wp2_with fail
 go_loopg [5,8] (n+1) (fun k v5 v8 W=>∃i:Nat,ay (i<=n∧k+i=n+1∧idxFrom gY L 0=idxFrom gY (L.drop i) i)∧v8=.int .i64 (i:Int)∧ay (Below w.heap.size w W))
 case atStart=>exact⟨0,⟨by omega,by omega,rfl⟩,rfl,⟨Below.refl _ _⟩⟩
 case round=>
  obtain⟨i,HM,rfl,HB⟩:=hrel;by_cases hi:i<n
  ·have b1:decide ((i:Int)<(n:Int))=true:=decide_eq_true (by omega);have b2:decide (i<n)=true:=decide_eq_true (by omega);have p1:(0:Int)<=(i:Int):=by omega
   have p2:(i:Int)<(n:Int):=by omega
   obtain⟨ad,x,B,b,D,e,hA,hx,h0,h1,h2,h3,hF,hG⟩:=RQ (Kd.aY HR.o HB.o) i hi;cases hA
   have HD:=ai (show L.drop i=x::L.drop (i+1) from by obtain⟨hj,e⟩:=List.getElem?_eq_some_iff.1 hx;rw[List.drop_eq_getElem_cons hj,e]);clear hx hF hG;go_wp2_with fail
   refine(um x.seq (Vs B x.V.length b) x.pay D x.want.length e wr).mono ?_;rintro r w2 ⟨rfl,hb⟩;replace HB:=dW HB hb;clear hb h0 h1 h2 h3;cases hpx:gY x with
   |true=>
    have hd:decide ((x.want.length:Int)=0)=true:=hpx;have HX:=ai hpx;rw[hd];clear hpx hd;go_wp2;go_ret;exact⟨by rw[HM.o.2.2,HD.o];simp[idxFrom,HX.o],HB.o⟩
   |false=>
    have hd:decide ((x.want.length:Int)=0)=false:=hpx;have HX:=ai hpx;rw[hd];clear hpx hd;go_wp2_with fail
    go_roundg (gk-1)
    case measure=>have:=HM.o;omega
    case rel=>exact⟨i+1,⟨by omega,by have:=HM.o;omega,by rw[HM.o.2.2,HD.o];simp[idxFrom,HX.o]⟩,rfl,HB⟩
  ·have b1:decide ((i:Int)<(n:Int))=false:=decide_eq_false (by omega);have b2:decide (i<n)=false:=decide_eq_false (by omega);have hend:idxFrom gY L 0= -1:=by rw[HM.o.2.2,List.drop_eq_nil_of_le (by have:=HN.o;omega)];rfl
   have HE:=ai hend;clear hend;go_wp2;go_ret;exact⟨by rw[HE.o];rfl,HB.o⟩
theorem Sr(base:Nat)(ok:Nat->Prop)(v:Value)(xs:List iJ)(w:World)(hR:Kd.R zO nM w base ok v xs)(hl:xs.length<=100000):
 Calls prog 199 #[v,.func (.func 200) #[] #[]] w fun e w'=>∃v',e=.returned v'∧Kd.R zO nM w' base ok v' (dK gY xs)∧w.grownBy w' v.ownBlock∧v'.ownBlock=v.ownBlock:=by
 obtain⟨A0,c0,rfl,hc0,hC0⟩:=Kd.bB hR;have HR:=ai hR;have HL:=ai hl;clear hR hc0 hl;go_enter func199,ntmps199
 go_wp2_with fail
 refine(Ul A0 xs.length c0 xs w hC0 HL.o).mono ?_;rintro r w1 ⟨rfl,hb⟩;have HB:=ai hb;clear hb hC0;rcases nW gY xs 0 with⟨hi,hk⟩|⟨k,hi,hk,hs⟩
 ·have HK:=ai hk;rw[hi];clear hi hk;go_wp2;go_ret;refine⟨_,rfl, ?_,iB (World.grownBy.refl _ _) HB.o,rfl⟩;rw[HK.o];exact Kd.bJ HR.o HB.o
 ·rw[hi];obtain⟨g,cap,hv,hg,Hw,hgb⟩:=Kd.vv HR.o (by omega);injection hv with hv1 hv2 hv3;subst hv1 hv3;have NB:ay (iK gY xs xs k (k+1)):=⟨iK.start hk hs⟩
  have HR1:=lV HR HB.o;have uP:=ai (show w.grownBy w1 (some g) from iB (World.grownBy.refl _ _) HB.o);have hk1:k<xs.length:=hk;have e0:((0+k:Nat):Int)=(k:Int):=by omega
  rw[e0];obtain⟨n,hn⟩:∃n,n=xs.length:=⟨_,rfl⟩
  have HN:=ai hn;rw[<-hn] at HR1 hk1|-;have hne:((k:Int)== -1)=false:=by rw[beq_eq_false_iff_ne];omega
  clear hi hk hs hv2 hg Hw hgb hn e0;go_wp2_with fail
  have rW:=ai hk1;clear HB HR hk1;go_loopg [5,6,7] (n+1) (fun kk v5 v6 v7 W=>∃(i j:Nat) (C:List iJ),ay (iK gY xs C i j∧kk+j=n+k+2∧i<j)∧v5=.int .i64 (i:Int)∧v6=.int .i64 (j:Int)∧ay (Kd.R zO nM W base ok (.slice (some ⟨g,0,none⟩) n c0) C)∧ay (w.grownBy W (some g)))
  case atStart=>exact⟨k,k+1,xs,⟨NB.o,by omega,by omega⟩,rfl,by rw[jK (by omega) (by have:=HL.o;have:=HN.o;have:=rW.o;omega)];rfl,HR1,uP⟩
  case round=>
   clear NB HR1 uP;obtain⟨i,j,C,HM,rfl,rfl,HR,HG⟩:=hrel;by_cases hi:j<n
   ·have b1:decide ((j:Int)<(n:Int))=true:=decide_eq_true (by omega);have b2:decide (j<n)=true:=decide_eq_true (by omega);have p1:(0:Int)<=(j:Int):=by omega
    have p2:(j:Int)<(n:Int):=by omega
    have hcn:=(Kd.bN HR.o).1;obtain⟨cj,hcl,hM,hcc,_⟩:=Kd.sG HR.o QG (j:Int) p1 p2;rw[Int.toNat_natCast] at hM hcc;have hx:C[j]? =some (C.getD j QG):=by rw[List.getD_eq_getElem?_getD,List.getElem?_eq_getElem (by omega)];rfl
    have HX:=ai (And.intro hx (HM.o.1.at' hx));clear hx;generalize C.getD j QG=x at hM HX;obtain⟨v,u,rfl,hV,hW⟩:=qW hM;obtain⟨B,b,rfl,_,_⟩:=Kd.bB hV;obtain⟨D,e,rfl,_,_⟩:=Kd.bB hW;have h0:wr.cell? ⟨g,j*4,none⟩=some (Value.int .i64 x.seq):=hcc 0 _ rfl;have h1:wr.cell? ⟨g,j*4+1,none⟩=some (Vs B x.V.length b):=hcc 1 _ rfl;have h2:wr.cell? ⟨g,j*4+2,none⟩=some (Value.string x.pay):=hcc 2 _ rfl;have h3:wr.cell? ⟨g,j*4+3,none⟩=some (Vs D x.want.length e):=hcc 3 _ rfl;have Bd:=ai hM;clear hM hcc hcl hV hW hcn;go_upto_region 8 with (fail)
    have ha:=ae (Below.refl wr.heap.size wr) (.cells #[.int .i64 x.seq,.slice B x.V.length b,.string x.pay,.slice D x.want.length e] nM);have hk:=heap_alloc_new wr (.cells #[.int .i64 x.seq,.slice B x.V.length b,.string x.pay,.slice D x.want.length e] nM);replace HR:=lV HR ha;replace HG:=ai (iB HG.o ha);replace Bd:=ai (Kd.kG Bd.o ha);clear h0 h1 h2 h3;generalize wr.alloc (.cells #[.int .i64 x.seq,.slice B x.V.length b,.string x.pay,.slice D x.want.length e] nM)=W4 at ha hk HR HG Bd|-;clear ha;generalize wr.heap.size=gb at hk|-;have e0:=bK hk;have e1:=bS hk;have e2:=dh hk;have e3:=dA hk;clear hk;go_wp2_with fail
    refine(um x.seq (Vs B x.V.length b) x.pay D x.want.length e W4).mono ?_;rintro r w2 ⟨rfl,hb⟩;have dH:=lV HR hb;have dU:=ai (iB HG.o hb);have dS:=ai (Kd.kG Bd.o hb);replace e0:=(hb.cell (World.block_lt_of_cell? W4 _ e0)).trans e0;replace e1:=(hb.cell (World.block_lt_of_cell? W4 _ e1)).trans e1;replace e2:=(hb.cell (World.block_lt_of_cell? W4 _ e2)).trans e2;replace e3:=(hb.cell (World.block_lt_of_cell? W4 _ e3)).trans e3;clear HR HG Bd hb;have HR:=dH;have HG:=dU;have Bd:=dS;clear dH dU dS;cases hpx:gY x with
    |true=>
     have hd:decide ((x.want.length:Int)=0)=true:=hpx;have HP:=ai hpx;rw[hd];clear hpx hd e0 e1 e2 e3;go_wp2_with fail
     go_roundg (gk-1)
     case measure=>have:=HM.o;omega
     case rel=>exact⟨i,j+1,C,⟨HM.o.1.skip HX.o.2 HP.o,by have:=HM.o.2;omega,by have:=HM.o.2;omega⟩,rfl,by rw[jK (by omega) (by have:=HL.o;have:=HN.o;omega)];rfl,HR,HG⟩
    |false=>
     have hd:decide ((x.want.length:Int)=0)=false:=hpx;have HP:=ai hpx;rw[hd];clear hpx hd;have q1:(0:Int)<=(i:Int):=by omega
     have q2:(i:Int)<(n:Int):=by have:=HM.o.1.le;omega
     obtain⟨ci,hcl,_,hcc,_⟩:=Kd.sG HR.o QG (i:Int) q1 q2;have RA:=ai (show zO.M w2 base (fun k=>ok k∧k≠g) x (ci.take 0++ [.int .i64 x.seq,.slice B x.V.length b,.string x.pay,.slice D x.want.length e]++ci.drop (0+4)) from by rw[show List.drop (0+4) ci= [] from List.drop_eq_nil_of_le (Nat.le_of_eq hcl)];exact Bd.o);have RS:ay (∀q∈ [Value.int .i64 x.seq,.slice B x.V.length b,.string x.pay,.slice D x.want.length e],q.oneCell'=true):=⟨by intro q hq;simp only[List.mem_cons,List.not_mem_nil,or_false] at hq;rcases hq with rfl|rfl|rfl|rfl<;>rfl⟩
     have uD:=ai (And.intro hcl hcc);clear hcl hcc Bd;go_wp2_with ((with_reducible refine NR (.store nM (.tmp 33) (.tmp 32)) rfl ?_);go_loud (refine Kd.Dc zO (w0:=w2) (o':=i*4) base rfl rfl nM (.tmp 33) (.tmp 32) rfl nM (i:Int) 0 C x (.agg #[.int .i64 x.seq,.slice B x.V.length b,.string x.pay,.slice D x.want.length e]) [.int .i64 x.seq,.slice B x.V.length b,.string x.pay,.slice D x.want.length e] ci ok (fun k=>ok k∧k≠g) ?hp ?hoff ?hx rfl ?ht ?h1 HR.o q1 q2 uD.o.1 uD.o.2 ?hj ?hM (fun _ hk=>hk) (Below.refl _ _) ?_;(case hp=>first|rfl|(go_simp;done)|(go_simp;rfl));(case hoff=>rfl);(case hx=>first|rfl|(go_simp;done)|(go_simp;rfl));(case ht=>kernel_rfl);(case h1=>exact RS.o);(case hj=>exact Nat.le_refl _);(case hM=>exact RA.o);intro w9 ho hb hg;replace HR:=ai ho;replace HG:=ai (jh HG.o hg);clear RA uD RS ho hb hg))
     go_roundg (gk-1)
     case measure=>have:=HM.o;omega
     case rel=>exact⟨i+1,j+1,C.set i x,⟨HM.o.1.keep HX.o.2 HP.o,by have:=HM.o.2;omega,by have:=HM.o.2;omega⟩,by rw[jK (by omega) (by have:=HL.o;have:=HN.o;omega)];rfl,by rw[jK (by omega) (by have:=HL.o;have:=HN.o;omega)];rfl,HR,HG⟩
   ·have b1:decide ((j:Int)<(n:Int))=false:=decide_eq_false (by omega);have b2:decide (j<n)=false:=decide_eq_false (by omega);have hjn:j=n:=by have:=HM.o.1.jle;have:=HN.o;omega
    subst hjn;have hij:=HM.o.2.2;obtain⟨hcn,hc0,_⟩:=Kd.bN HR.o;obtain⟨tI,uH,hts,htz⟩:=kS Rh;have hS1:∀W:World,(Instr.slice 111 (.slice (some ⟨g,0,none⟩) j c0) (some (.int .i64 (i:Int))) none none).run prog W=.ok (.slice (some ⟨g,i*4,none⟩) (j-i) (c0-i)) W:=by
     intro W;rw[mJ (P:=prog) 111 nM .i64 underlying111 uH 4 hts (some ⟨g,0,none⟩) j c0 (i:Int) (by omega) (by omega) W,Int.toNat_natCast,if_neg (by omega)];rw[Option.map_some,add_plain]
    have hS2:∀W:World,(Instr.slice 111 (.slice (some ⟨g,0,none⟩) j c0) none (some (.int .i64 (i:Int))) none).run prog W=.ok (.slice (some ⟨g,0,none⟩) i c0) W:=by
     intro W;rw[uU (P:=prog) 111 nM .i64 underlying111 uH (some ⟨g,0,none⟩) j c0 (i:Int) (by omega) (by omega) hc0 W,Int.toNat_natCast]
    obtain⟨hcl,hzl⟩:=mh HR.o i hij 111 0 _ (c0-i) underlying111 htz rfl (by decide) (by decide);have Wy:∀ty,(Builtin.clear_ #[111] ty #[.slice (some ⟨g,i*4,none⟩) (j-i) (c0-i)]).run prog wr=.ok (.tuple #[]) (wr.setCells g (i*4) (Builtin.zeroCells (Value.agg #[(.int .i64 0),(.slice none 0 0),(.string ⟨#[]⟩),(.slice none 0 0)]).cells (j-i)).toList):=fun ty=>(mh HR.o i hij 111 ty _ (c0-i) underlying111 htz rfl (by decide) (by decide)).1
    generalize (Builtin.zeroCells (Value.agg #[(.int .i64 0),(.slice none 0 0),(.string ⟨#[]⟩),(.slice none 0 0)]).cells (j-i)).toList=zc at Wy hzl;have hfin:=ym HR.o (Nat.le_of_lt hij) (show C.take i=dK gY xs from iK.done (by rw[<-HN.o];exact HM.o.1)) zc hzl (by omega);have fQ:=ai (And.intro hfin.1 (jh HG.o hfin.2));clear hcl hzl hfin hcn hc0 hij uH htz hts HR HG HM;go_wp2;go_ret;exact⟨_,rfl,fQ.o.1,fQ.o.2,rfl⟩
def zM(q y:ByteArray):Bool:=y.toList==q.toList
theorem SQ:(prog.info? 9).map (fun i=>(i.zero,i.size,i.bytes))=some (some (.string ⟨#[]⟩),1,16):=by kernel_rfl
theorem BD(q y:ByteArray)(gm:Nat)(w:World)(hc:w.cell? ⟨gm,1,none⟩=some (.string q)):
 Calls prog 198 #[.string y,.pointer (some ⟨gm,0,none⟩)] w fun r w'=>r=.returned (.bool (zM q y))∧Below w.heap.size w w':=by
 go_enter func198,ntmps198
 have HB:=ai (Below.refl w.heap.size w);go_wp2;go_ret;refine⟨?_,HB.o⟩
 congr 2
theorem Xt(q:ByteArray)(gm:Nat)(A:Option Addr)(n c:Nat)(L:List ByteArray)(w:World)(hr:Kd.C Kd.string w A n L)(hl:n<=100000)(hc:w.cell? ⟨gm,1,none⟩=some (.string q)):
 Calls prog 223 #[.slice A n c,.func (.func 198) #[] #[.pointer (some ⟨gm,0,none⟩)]] w fun e w'=>e=.returned (.int .i64 (idxFrom (zM q) L 0))∧Below w.heap.size w w':=by
 have HR:=ai hr;have HN:=ai hr.1;have HC:=ai hc;clear hr hc;go_enter func223,ntmps223
 go_wp2_with fail
 go_loopg [5,8] (n+1) (fun k v5 v8 W=>∃i:Nat,ay (i<=n∧k+i=n+1∧idxFrom (zM q) L 0=idxFrom (zM q) (L.drop i) i)∧v8=.int .i64 (i:Int)∧ay (Below w.heap.size w W))
 case atStart=>exact⟨0,⟨by omega,by omega,rfl⟩,rfl,⟨Below.refl _ _⟩⟩
 case round=>
  obtain⟨i,HM,rfl,HB⟩:=hrel;by_cases hi:i<n
  ·have b1:decide ((i:Int)<(n:Int))=true:=decide_eq_true (by omega);have b2:decide (i<n)=true:=decide_eq_true (by omega);have p1:(0:Int)<=(i:Int):=by omega
   have p2:(i:Int)<(n:Int):=by omega
   obtain⟨ad,x,hA,hx,h0⟩:=Cq (Kd.aY HR.o HB.o) i hi;cases hA
   have HD:=ai (show L.drop i=x::L.drop (i+1) from by obtain⟨hj,e⟩:=List.getElem?_eq_some_iff.1 hx;rw[List.drop_eq_getElem_cons hj,e]);clear hx;go_wp2_with fail
   refine(BD q x gm wr ((HB.o.cell (World.block_lt_of_cell? w _ HC.o)).trans HC.o)).mono ?_;rintro r w2 ⟨rfl,hb⟩;replace HB:=dW HB hb;clear hb h0;cases hpx:(zM q) x with
   |true=>
    have HX:=ai hpx;clear hpx;go_wp2;go_ret;exact⟨by rw[HM.o.2.2,HD.o];simp[idxFrom,HX.o],HB.o⟩
   |false=>
    have HX:=ai hpx;clear hpx;go_wp2_with fail
    go_roundg (gk-1)
    case measure=>have:=HM.o;omega
    case rel=>exact⟨i+1,⟨by omega,by have:=HM.o;omega,by rw[HM.o.2.2,HD.o];simp[idxFrom,HX.o]⟩,rfl,HB⟩
  ·have b1:decide ((i:Int)<(n:Int))=false:=decide_eq_false (by omega);have b2:decide (i<n)=false:=decide_eq_false (by omega);have hend:idxFrom (zM q) L 0= -1:=by rw[HM.o.2.2,List.drop_eq_nil_of_le (by have:=HN.o;omega)];rfl
   have HE:=ai hend;clear hend;go_wp2;go_ret;exact⟨by rw[HE.o];rfl,HB.o⟩
theorem Vf(q:ByteArray)(gm:Nat)(base:Nat)(ok:Nat->Prop)(v:Value)(xs:List ByteArray)(w:World)(hR:Kd.R Kd.string tS w base ok v xs)(hl:xs.length<=100000)(hc:w.cell? ⟨gm,1,none⟩=some (.string q))(hne:some gm≠v.ownBlock):
 Calls prog 197 #[v,.func (.func 198) #[] #[.pointer (some ⟨gm,0,none⟩)]] w fun e w'=>∃v',e=.returned v'∧Kd.R Kd.string tS w' base ok v' (dK (zM q) xs)∧w.grownBy w' v.ownBlock∧v'.ownBlock=v.ownBlock:=by
 obtain⟨A0,c0,rfl,hc0,hC0⟩:=Kd.bB hR;have HR:=ai hR;have HL:=ai hl;have HC:=ai hc;have UM:=ai hne;clear hR hc0 hl hc hne;go_enter func197,ntmps197
 go_wp2_with fail
 refine(Xt q gm A0 xs.length c0 xs w hC0 HL.o HC.o).mono ?_;rintro r w1 ⟨rfl,hb⟩;have HB:=ai hb;clear hb hC0;rcases nW (zM q) xs 0 with⟨hi,hk⟩|⟨k,hi,hk,hs⟩
 ·have HK:=ai hk;rw[hi];clear hi hk;go_wp2;go_ret;refine⟨_,rfl, ?_,iB (World.grownBy.refl _ _) HB.o,rfl⟩;rw[HK.o];exact Kd.bJ HR.o HB.o
 ·rw[hi];obtain⟨g,cap,hv,hg,Hw,hgb⟩:=Kd.vv HR.o (by omega);injection hv with hv1 hv2 hv3;subst hv1 hv3;have NB:ay (iK (zM q) xs xs k (k+1)):=⟨iK.start hk hs⟩
  have HR1:=lV HR HB.o;have uP:=ai (show w.grownBy w1 (some g) from iB (World.grownBy.refl _ _) HB.o);have hk1:k<xs.length:=hk;have e0:((0+k:Nat):Int)=(k:Int):=by omega
  rw[e0];obtain⟨n,hn⟩:∃n,n=xs.length:=⟨_,rfl⟩
  have HN:=ai hn;rw[<-hn] at HR1 hk1|-;have hne:((k:Int)== -1)=false:=by rw[beq_eq_false_iff_ne];omega
  clear hi hk hs hv2 hg Hw hgb hn e0;go_wp2_with fail
  have rW:=ai hk1;clear HB HR hk1;go_loopg [5,6,7] (n+1) (fun kk v5 v6 v7 W=>∃(i j:Nat) (C:List ByteArray),ay (iK (zM q) xs C i j∧kk+j=n+k+2∧i<j)∧v5=.int .i64 (i:Int)∧v6=.int .i64 (j:Int)∧ay (Kd.R Kd.string tS W base ok (.slice (some ⟨g,0,none⟩) n c0) C)∧ay (w.grownBy W (some g)))
  case atStart=>exact⟨k,k+1,xs,⟨NB.o,by omega,by omega⟩,rfl,by rw[jK (by omega) (by have:=HL.o;have:=HN.o;have:=rW.o;omega)];rfl,HR1,uP⟩
  case round=>
   clear NB HR1 uP;obtain⟨i,j,C,HM,rfl,rfl,HR,HG⟩:=hrel;by_cases hi:j<n
   ·have b1:decide ((j:Int)<(n:Int))=true:=decide_eq_true (by omega);have b2:decide (j<n)=true:=decide_eq_true (by omega);have p1:(0:Int)<=(j:Int):=by omega
    have p2:(j:Int)<(n:Int):=by omega
    have hcn:=(Kd.bN HR.o).1;obtain⟨ad,x,hA,hx,h0⟩:=Cq (Kd.bN HR.o).2.2 j (by rw[<-hcn];exact hi);cases hA
    have HX:=ai (And.intro hx (HM.o.1.at' hx));rw[add_plain] at h0;have o9:=ai (HG.o.cell HC.o UM.o);clear hx hcn;go_upto_region 8 with (fail)
    go_wp2_with fail
    refine(BD q x gm wr o9.o).mono ?_;rintro r w2 ⟨rfl,hb⟩;replace HR:=lV HR hb;replace HG:=ai (iB HG.o hb);clear hb h0 o9;cases hpx:(zM q) x with
    |true=>
     have HP:=ai hpx;clear hpx;go_wp2_with fail
     go_roundg (gk-1)
     case measure=>have:=HM.o;omega
     case rel=>exact⟨i,j+1,C,⟨HM.o.1.skip HX.o.2 HP.o,by have:=HM.o.2;omega,by have:=HM.o.2;omega⟩,rfl,by rw[jK (by omega) (by have:=HL.o;have:=HN.o;omega)];rfl,HR,HG⟩
    |false=>
     have HP:=ai hpx;clear hpx;have q1:(0:Int)<=(i:Int):=by omega
     have q2:(i:Int)<(n:Int):=by have:=HM.o.1.le;omega
     obtain⟨ci,hcl,_,hcc,_⟩:=Kd.sG HR.o ⟨#[]⟩ (i:Int) q1 q2;have RA:=ai (show Kd.string.M w2 base (fun k=>ok k∧k≠g) x (ci.take 0++ [.string x]++ci.drop (0+1)) from by rw[show List.drop (0+1) ci= [] from List.drop_eq_nil_of_le (Nat.le_of_eq hcl)];exact rfl);have RS:ay (∀q∈ [Value.string x],q.oneCell'=true):=⟨by intro q hq;simp only[List.mem_cons,List.not_mem_nil,or_false] at hq;subst hq;rfl⟩
     have uD:=ai (And.intro hcl hcc);have xE:ay (i=(i:Int).toNat*Kd.string.sz+0):=⟨by rw[Int.toNat_natCast];show i=i*1+0;omega⟩
     clear hcl hcc;go_wp2_with ((with_reducible refine NR (.store tS (.tmp 33) (.tmp 32)) rfl ?_);go_loud (refine Kd.Dc Kd.string (w0:=w2) (o':=i) base rfl rfl tS (.tmp 33) (.tmp 32) rfl tS (i:Int) 0 C x (.string x) [.string x] ci ok (fun k=>ok k∧k≠g) ?hp ?hoff ?hx rfl ?ht ?h1 HR.o q1 q2 uD.o.1 uD.o.2 ?hj ?hM (fun _ hk=>hk) (Below.refl _ _) ?_;(case hp=>first|rfl|(go_simp;done)|(go_simp;rfl));(case hoff=>exact xE.o);(case hx=>first|rfl|(go_simp;done)|(go_simp;rfl));(case ht=>kernel_rfl);(case h1=>exact RS.o);(case hj=>exact Nat.le_refl _);(case hM=>exact RA.o);intro w9 ho hb hg;replace HR:=ai ho;replace HG:=ai (jh HG.o hg);clear RA uD RS ho hb hg))
     go_roundg (gk-1)
     case measure=>have:=HM.o;omega
     case rel=>exact⟨i+1,j+1,C.set i x,⟨HM.o.1.keep HX.o.2 HP.o,by have:=HM.o.2;omega,by have:=HM.o.2;omega⟩,by rw[jK (by omega) (by have:=HL.o;have:=HN.o;omega)];rfl,by rw[jK (by omega) (by have:=HL.o;have:=HN.o;omega)];rfl,HR,HG⟩
   ·have b1:decide ((j:Int)<(n:Int))=false:=decide_eq_false (by omega);have b2:decide (j<n)=false:=decide_eq_false (by omega);have hjn:j=n:=by have:=HM.o.1.jle;have:=HN.o;omega
    subst hjn;have hij:=HM.o.2.2;obtain⟨hcn,hc0,_⟩:=Kd.bN HR.o;obtain⟨tI,uH,hts,htz⟩:=kS SQ;have hS1:∀W:World,(Instr.slice 99 (.slice (some ⟨g,0,none⟩) j c0) (some (.int .i64 (i:Int))) none none).run prog W=.ok (.slice (some ⟨g,i,none⟩) (j-i) (c0-i)) W:=by
     intro W;rw[mJ (P:=prog) 99 tS .i64 underlying99 uH 1 hts (some ⟨g,0,none⟩) j c0 (i:Int) (by omega) (by omega) W,Int.toNat_natCast,if_neg (by omega)];rw[Option.map_some,add_plain,Nat.mul_one]
    have hS2:∀W:World,(Instr.slice 99 (.slice (some ⟨g,0,none⟩) j c0) none (some (.int .i64 (i:Int))) none).run prog W=.ok (.slice (some ⟨g,0,none⟩) i c0) W:=by
     intro W;rw[uU (P:=prog) 99 tS .i64 underlying99 uH (some ⟨g,0,none⟩) j c0 (i:Int) (by omega) (by omega) hc0 W,Int.toNat_natCast]
    have kz:i*Kd.string.sz=i:=Nat.mul_one i;obtain⟨hcl,hzl⟩:=mh HR.o i hij 99 0 _ (c0-i) underlying99 htz rfl (by decide) (by decide);have Wy:∀ty,(Builtin.clear_ #[99] ty #[.slice (some ⟨g,i,none⟩) (j-i) (c0-i)]).run prog wr=.ok (.tuple #[]) (wr.setCells g i (Builtin.zeroCells (Value.string ⟨#[]⟩).cells (j-i)).toList):=fun ty=>by have h:=(mh HR.o i hij 99 ty _ (c0-i) underlying99 htz rfl (by decide) (by decide)).1;rw[kz] at h;exact h
    generalize (Builtin.zeroCells (Value.string ⟨#[]⟩).cells (j-i)).toList=zc at Wy hzl;have hfin:=ym HR.o (Nat.le_of_lt hij) (show C.take i=dK (zM q) xs from iK.done (by rw[<-HN.o];exact HM.o.1)) zc hzl (by omega);rw[kz] at hfin;have fQ:=ai (And.intro hfin.1 (jh HG.o hfin.2));clear hcl hzl hfin kz hcn hc0 hij uH htz hts HR HG HM;go_wp2;go_ret;exact⟨_,rfl,fQ.o.1,fQ.o.2,rfl⟩
theorem JV(n:Nat)(h:n<18446744073709551616):IntKind.u64.wrap (n:Int)=(n:Int):=by rw[IntKind.wrap_u64];omega
theorem Mr(x:Int):Go.bits .and .u64 (Go.bits .or .u64 x 1) 1=1:=by
 show IntKind.u64.wrap (((BitVec.ofInt 64 (IntKind.u64.wrap ((BitVec.ofInt 64 x|||BitVec.ofInt 64 1).toNat:Int)))&&& BitVec.ofInt 64 1).toNat:Int)=1;rw[JV _ (BitVec.ofInt 64 x|||BitVec.ofInt 64 1).isLt,BitVec.ofInt_natCast,BitVec.ofNat_toNat,BitVec.setWidth_eq];have:(BitVec.ofInt 64 x|||BitVec.ofInt 64 1)&&& BitVec.ofInt 64 1=1#64:=by
  have e1:BitVec.ofInt 64 1=1#64:=by decide
  rw[e1]
  ext i hi
  simp only[BitVec.getElem_and,BitVec.getElem_or];cases (BitVec.ofInt 64 x)[i]<;>simp
 rw[this];decide
theorem Jm:Go.bits .and .u64 1 1=1:=by decide
theorem Oh{a:Int}(h:0<=a∧a<32):keyOf prog 3 (kI a)=some (.int .i64 a):=SE (by simp[Lit.wf,IntKind.min,IntKind.max,IntKind.signed,IntKind.bits];omega)
theorem Da(w:World):(zeroValue 353).run prog w=.ok (.agg #[.int .i64 0,.int .u64 0]) w:=by kernel_rfl
def eG.UL(N:eG)(q:Int):eG:={N with seen:=some q}
theorem Gr(base g:Nat)(h:Hd)(N:eG)(q:Int)(w:World)(hI:cK base w g h N)(ha:0<=N.addr∧N.addr<32)(hq:1<=q∧q<=1073741824)(hs:N.seen=some q):
 Calls prog 222 #[.pointer (some ⟨g,6,none⟩),.int .i64 N.addr,.int .i64 q] w fun e w'=>e=.returned (.tuple #[.int .i64 2,.nilIface])∧Below w.heap.size w w':=by
 obtain⟨b,c0,n,Pt,hbb,hM,hn,hodd⟩:=(hI.rows.seen.yes q hs).is;have y6:=(hI.cell 6).trans (show _=some (Value.map (some b)) from by rw[<-Pt];rfl);have hlk:(Instr.lookup 108 (.map (some b)) (.int .i64 N.addr) false).run prog w=.ok (.agg #[.int .i64 q,.int .u64 c0]) w:=by
  have:=hM.Rp kU underlying108 (Da w) (Oh ha);rw[if_pos rfl] at this;exact this
 obtain⟨l0,hl0⟩:∃x,x=q:=⟨_,rfl⟩
 rw[<-hl0] at hlk;have iH:=ai hodd;have xX:=ai hl0;clear hl0 hI hs Pt hbb hM hn hodd;have c1:decide (N.addr<0)=false:=decide_eq_false (by omega);have c2:decide (32<=N.addr)=false:=decide_eq_false (by omega);have c3:decide (q<1)=false:=decide_eq_false (by omega);have c4:decide (1073741824<q)=false:=decide_eq_false (by omega);have Q5:=ai (show wrap64 (q-l0)=q-l0 from jK (by have:=xX.o;omega) (by have:=xX.o;omega));clear ha hq;have hqm:∀(w:World) (r:Option Nat),(binOp .eql 108 (.map r) (.map none)).run prog w=.ok (.bool r.isNone) w:=fun w r=>run_eql_map_nil w _ _ _ r underlying108
 go_enter func222,ntmps222
 go_upto_region 4 with (fail)
 have HB:=ai (ae (Below.refl w.heap.size w) (.cells #[.int .i64 l0,.int .u64 c0] 353));have HK:=ai (heap_alloc_new w (.cells #[.int .i64 l0,.int .u64 c0] 353));generalize w.alloc (.cells #[.int .i64 l0,.int .u64 c0] 353)=W1 at HB HK|-;obtain⟨g1,hg1⟩:∃x,x=w.heap.size:=⟨_,rfl⟩
 rw[<-hg1] at HK|-;have uP:=ai hg1;clear hg1 c1 c2 c3 c4;have e0:=bK HK.o;have e1:=bS HK.o;have f0:=af HK.o 0;have f1:=af HK.o 1;have hz:wrap64 (q-l0)=0:=by rw[Q5.o];have:=xX.o;omega
 have ho:=iH.o;go_wp2
 go_ret2
 exact⟨rfl,HB.o⟩
theorem xP{α:Type}{d:Kd α}{e b':Nat}{ok:Nat->Prop}{w w1:World}{v:Value}{xs:List α}{b:Nat}{es:Array MapEntry}{cl:Nat}(h:Kd.R d e w b' ok v xs)(hm:w.heap[b]? =some (Obj.map es cl))(hg:w.grownBy w1 (some b)):Kd.R d e w1 b' ok v xs:=
 Kd.dD (Kd.pQ (Kd.iL h) (fun k hk=>hg.block k hk.2.2.1 (fun e=>by
  obtain rfl:=Option.some.inj e;obtain⟨_,_,_,q,_,cells,hc⟩:=hk;rw[hm] at hc;cases hc))) (fun _ hk=>hk.1)
theorem xq{base g b n:Nat}{h:Hd}{N:eG}{q cc:Int}{f:Int->Option Value}{w w1:World}(hr:eZ base w h N)(hk:w.heap[g]? =some (.cells (xz {h with vm:=.map (some b)} N) tN (0,0)))(hM:fP prog 3 kI w1 b n (upd f N.addr (some (.agg #[.int .i64 q,.int .u64 cc])))){es:Array MapEntry}{cl:Nat}(ho:w.heap[b]? =some (Obj.map es cl))(hg:w.grownBy w1 (some b))(hbb:base<=b)(hbl:h.bl≠b)(hf:∀x,x≠N.addr->f x=none)(hn:(n:Int)<=q)(hodd:Go.bits .and .u64 cc 1=1)(hgb:base<=g):
 cK base w1 g {h with vm:=.map (some b)} (N.UL q):=by
 have e:upd f N.addr (some (.agg #[.int .i64 q,.int .u64 cc]))=(fun x=>if x=N.addr then some (.agg #[.int .i64 q,.int .u64 cc]) else none):=by
  funext x
  unfold upd;by_cases hx:x=N.addr
  ·rw[if_pos hx,if_pos hx]
  ·rw[if_neg hx,if_neg hx,hf x hx]
 rw[e] at hM;have PG:g≠b:=by
  rintro rfl;rw[hk] at ho;cases ho
 refine⟨(hg.block g (aI hk) (fun e=>PG (Option.some.inj e))).trans hk,hgb,⟨xP hr.sch ho hg,xP hr.sub ho hg,⟨fun hs=>(by cases hs),fun q' hq'=>⟨b,cc,n,rfl,hbb, ?_, ?_,hodd⟩⟩,xP hr.box ho hg,xP hr.opn ho hg,⟨hr.lnk.1.block (hg.block h.bl hr.lnk.1.lt (fun e=>hbl (Option.some.inj e))),hr.lnk.2.1,fun e=>hbl (by injection e with e;injection e with e;exact e.symm)⟩,xP hr.sent ho hg⟩⟩
 ·injection hq' with hq';subst hq';exact hM
 ·injection hq' with hq';subst hq';exact hn
theorem Kl(base g:Nat)(h:Hd)(N:eG)(q l:Int)(w:World)(hI:cK base w g h N)(hbase:base<=w.heap.size)(ha:0<=N.addr∧N.addr<32)(hq:1<=q∧q<=1073741824)(hs:N.seen=some l)(hl:0<=l∧l<q):
 Calls prog 222 #[.pointer (some ⟨g,6,none⟩),.int .i64 N.addr,.int .i64 q] w fun e w'=>e=.returned (.tuple #[.int .i64 1,.nilIface])∧∃h',cK base w' g h' (N.UL q)∧Fr base g w h w' h':=by
 obtain⟨b,c0,n,Pt,hbb,hM,hn,hodd⟩:=(hI.rows.seen.yes l hs).is;have y6:=(hI.cell 6).trans (show _=some (Value.map (some b)) from by rw[<-Pt];rfl);have hlk:(Instr.lookup 108 (.map (some b)) (.int .i64 N.addr) false).run prog w=.ok (.agg #[.int .i64 l,.int .u64 c0]) w:=by
  have:=hM.Rp kU underlying108 (Da w) (Oh ha);rw[if_pos rfl] at this;exact this
 obtain⟨l0,hl0⟩:∃x,x=l:=⟨_,rfl⟩
 rw[<-hl0] at hlk;have xX:=ai (show l0=l∧0<=l∧l<q∧q<=1073741824 from⟨hl0,hl.1,hl.2,hq.2⟩);have HI:=ai hI;have HM:=ai (And.intro hM (And.intro hbb hn));have OI:=ai Pt;have kD:=ai hbase;have pg:=ai (Oh ha);clear hl0 hI hs Pt hbb hM hn hodd hl hbase;have c1:decide (N.addr<0)=false:=decide_eq_false (by omega);have c2:decide (32<=N.addr)=false:=decide_eq_false (by omega);have c3:decide (q<1)=false:=decide_eq_false (by omega);have c4:decide (1073741824<q)=false:=decide_eq_false (by omega);have Q5:=ai (show wrap64 (q-l0)=q-l0 from jK (by have:=xX.o;omega) (by have:=xX.o;omega));clear ha hq;have hqm:∀(w:World) (r:Option Nat),(binOp .eql 108 (.map r) (.map none)).run prog w=.ok (.bool r.isNone) w:=fun w r=>run_eql_map_nil w _ _ _ r underlying108
 go_enter func222,ntmps222
 go_upto_region 4 with (fail)
 have HB:=ai (ae (Below.refl w.heap.size w) (.cells #[.int .i64 l0,.int .u64 c0] 353));have HK:=ai (heap_alloc_new w (.cells #[.int .i64 l0,.int .u64 c0] 353));generalize w.alloc (.cells #[.int .i64 l0,.int .u64 c0] 353)=W1 at HB HK|-;obtain⟨g1,hg1⟩:∃x,x=w.heap.size:=⟨_,rfl⟩
 rw[<-hg1] at HK|-;have uP:=ai hg1;clear hg1 c1 c2 c3 c4;have e0:=bK HK.o;have e1:=bS HK.o;have f0:=af HK.o 0;have f1:=af HK.o 1;have z1:decide (0<wrap64 (q-l0))=true:=by rw[Q5.o];exact decide_eq_true (by have:=xX.o;omega)
 have z3:decide (0<=wrap64 (q-l0))=true:=by rw[Q5.o];exact decide_eq_true (by have:=xX.o;omega)
 have z4:0<=wrap64 (q-l0):=by rw[Q5.o];have:=xX.o;omega
 by_cases h64:wrap64 (q-l0)<64
 ·have z2:=decide_eq_true h64;clear h64;go_upto_region 15 with (fail)
  have hk3:=bg (bg HK.o 1 (.int .u64 (bits BinOp.or IntKind.u64 (IntKind.u64.wrap (c0*2^min (wrap64 (q-l0)).toNat 64)) 1))) 0 (.int .i64 q);have hb3:=au (j:=0) (v:=.int .i64 q) (au (j:=1) (v:=.int .u64 (bits BinOp.or IntKind.u64 (IntKind.u64.wrap (c0*2^min (wrap64 (q-l0)).toNat 64)) 1)) HB.o (Nat.le_of_eq uP.o.symm)) (Nat.le_of_eq uP.o.symm);have QB:=ai (show Go.bits .and .u64 (bits BinOp.or IntKind.u64 (IntKind.u64.wrap (c0*2^min (wrap64 (q-l0)).toNat 64)) 1) 1=1 from Mr _);generalize (bits BinOp.or IntKind.u64 (IntKind.u64.wrap (c0*2^min (wrap64 (q-l0)).toNat 64)) 1)=cc at hk3 hb3 QB|-;have uj:ay (_=some (Obj.cells #[.int .i64 q,.int .u64 cc] 353 (0,0))):=⟨hk3.trans rfl⟩
  have HB3:=ai hb3;clear HK HB e0 e1 f0 f1 hk3 hb3;generalize (W1.setCell ⟨g1,1,none⟩ (.int .u64 cc)).setCell ⟨g1,0,none⟩ (.int .i64 q)=W3 at uj HB3|-;have e0:=bK uj.o;have e1:=bS uj.o;have HI3:=ai (HI.o.below HB3.o);have y6:=(HI3.o.cell 6).trans (show _=some (Value.map (some b)) from by rw[<-OI.o];rfl);obtain⟨W6,hrun,O4,hgr⟩:=fP.store (w:=W3.drew) ((HM.o.1.below HB3.o).block rfl) kU (fun _ _ e=>by injection e) underlying108 (by unfold maxLen;have:=HM.o.2.2;have:=xX.o;omega) pg.o (.agg #[.int .i64 q,.int .u64 cc]);have hup:(Instr.mapUpdate 108 (.map (some b)) (.int .i64 N.addr) (.agg #[.int .i64 q,.int .u64 cc])).run prog W3.drew=.ok () W6:=hrun;obtain⟨es,cl,Nw⟩:=(HM.o.1.below HB3.o).at;have hd:=aK (Below.refl W3.heap.size W3);have hfr:=(Fr.of_below (g:=g) (h:=h) (aK HB3.o) kD.o).trans (Fr.grown (g:=g) (h:=h) hgr (Nat.le_trans kD.o HB3.o.size) (fun k hk=>⟨.inr (.inr (.inr (.inr (.inr (by rw[OI.o,hk]))))),by injection hk with hk;rw[<-hk];exact HM.o.2.1⟩));have hh:{h with vm:=.map (some b)}=h:=by rw[<-OI.o]
  have hnd:=xq (n:=n+1) (cc:=cc) (HI3.o.rows.below hd) (by rw[hh];exact HI3.o.blk) O4 Nw hgr HM.o.2.1 (fun e=>HI.o.rows.lnk.2.2 (by rw[OI.o,e])) (fun x hx=>if_neg hx) (by have:=HM.o.2.2;have:=xX.o;omega) QB.o HI.o.gb;rw[hh] at hnd;have hfin:=And.intro hnd hfr;clear hrun O4 hgr Nw hd hfr hh hnd;go_upto_region 17 with (fail)
  go_region_with (fail)
  all_goals
   go_wp2
   go_ret2
   exact⟨rfl,h,hfin⟩
 ·have z2:=decide_eq_false h64;clear h64;go_upto_region 15 with (fail)
  have hk3:=bg (bg HK.o 1 (.int .u64 (1:Int))) 0 (.int .i64 q);have hb3:=au (j:=0) (v:=.int .i64 q) (au (j:=1) (v:=.int .u64 (1:Int)) HB.o (Nat.le_of_eq uP.o.symm)) (Nat.le_of_eq uP.o.symm);have QB:=ai (show Go.bits .and .u64 (1:Int) 1=1 from Jm);skip
  have uj:ay (_=some (Obj.cells #[.int .i64 q,.int .u64 1] 353 (0,0))):=⟨hk3.trans rfl⟩
  have HB3:=ai hb3;clear HK HB e0 e1 f0 f1 hk3 hb3;generalize (W1.setCell ⟨g1,1,none⟩ (.int .u64 1)).setCell ⟨g1,0,none⟩ (.int .i64 q)=W3 at uj HB3|-;have e0:=bK uj.o;have e1:=bS uj.o;have HI3:=ai (HI.o.below HB3.o);have y6:=(HI3.o.cell 6).trans (show _=some (Value.map (some b)) from by rw[<-OI.o];rfl);obtain⟨W6,hrun,O4,hgr⟩:=fP.store (w:=W3.drew) ((HM.o.1.below HB3.o).block rfl) kU (fun _ _ e=>by injection e) underlying108 (by unfold maxLen;have:=HM.o.2.2;have:=xX.o;omega) pg.o (.agg #[.int .i64 q,.int .u64 1]);have hup:(Instr.mapUpdate 108 (.map (some b)) (.int .i64 N.addr) (.agg #[.int .i64 q,.int .u64 1])).run prog W3.drew=.ok () W6:=hrun;obtain⟨es,cl,Nw⟩:=(HM.o.1.below HB3.o).at;have hd:=aK (Below.refl W3.heap.size W3);have hfr:=(Fr.of_below (g:=g) (h:=h) (aK HB3.o) kD.o).trans (Fr.grown (g:=g) (h:=h) hgr (Nat.le_trans kD.o HB3.o.size) (fun k hk=>⟨.inr (.inr (.inr (.inr (.inr (by rw[OI.o,hk]))))),by injection hk with hk;rw[<-hk];exact HM.o.2.1⟩));have hh:{h with vm:=.map (some b)}=h:=by rw[<-OI.o]
  have hnd:=xq (n:=n+1) (cc:=1) (HI3.o.rows.below hd) (by rw[hh];exact HI3.o.blk) O4 Nw hgr HM.o.2.1 (fun e=>HI.o.rows.lnk.2.2 (by rw[OI.o,e])) (fun x hx=>if_neg hx) (by have:=HM.o.2.2;have:=xX.o;omega) QB.o HI.o.gb;rw[hh] at hnd;have hfin:=And.intro hnd hfr;clear hrun O4 hgr Nw hd hfr hh hnd;go_upto_region 17 with (fail)
  go_region_with (fail)
  all_goals
   go_wp2
   go_ret2
   exact⟨rfl,h,hfin⟩
theorem H7(base g:Nat)(h:Hd)(N:eG)(q:Int)(w:World)(hI:cK base w g h N)(hbase:base<=w.heap.size)(ha:0<=N.addr∧N.addr<32)(hq:1<=q∧q<=1073741824)(hs:N.seen=none):
 Calls prog 222 #[.pointer (some ⟨g,6,none⟩),.int .i64 N.addr,.int .i64 q] w fun e w'=>e=.returned (.tuple #[.int .i64 1,.nilIface])∧∃h',cK base w' g h' (N.UL q)∧Fr base g w h w' h':=by
 have Pt:=hI.rows.seen.no hs;have y6:=(hI.cell 6).trans (show _=some (Value.map none) from by rw[<-Pt];rfl);have WN:(Instr.lookup 108 (.map none) (.int .i64 N.addr) false).run prog w=.ok (.agg #[.int .i64 0,.int .u64 0]) w:=Maps.look_nil false kU underlying108 (Da w) (Oh ha);obtain⟨l0,hl0⟩:∃x:Int,x=0:=⟨_,rfl⟩
 obtain⟨c0,hc0⟩:∃x:Int,x=0:=⟨_,rfl⟩
 have hlk:(Instr.lookup 108 (.map none) (.int .i64 N.addr) false).run prog w=.ok (.agg #[.int .i64 l0,.int .u64 c0]) w:=by rw[hl0,hc0];exact WN
 have xX:=ai (show l0=0∧1<=q∧q<=1073741824 from⟨hl0,hq⟩);have HI:=ai hI;have OI:=ai Pt;have kD:=ai hbase;have pg:=ai (Oh ha);clear WN hl0 hc0 hI hs Pt hbase;have c1:decide (N.addr<0)=false:=decide_eq_false (by omega);have c2:decide (32<=N.addr)=false:=decide_eq_false (by omega);have c3:decide (q<1)=false:=decide_eq_false (by omega);have c4:decide (1073741824<q)=false:=decide_eq_false (by omega);have Q5:=ai (show wrap64 (q-l0)=q-l0 from jK (by have:=xX.o;omega) (by have:=xX.o;omega));clear ha hq;have hqm:∀(w:World) (r:Option Nat),(binOp .eql 108 (.map r) (.map none)).run prog w=.ok (.bool r.isNone) w:=fun w r=>run_eql_map_nil w _ _ _ r underlying108
 go_enter func222,ntmps222
 go_upto_region 4 with (fail)
 have HB:=ai (ae (Below.refl w.heap.size w) (.cells #[.int .i64 l0,.int .u64 c0] 353));have HK:=ai (heap_alloc_new w (.cells #[.int .i64 l0,.int .u64 c0] 353));generalize w.alloc (.cells #[.int .i64 l0,.int .u64 c0] 353)=W1 at HB HK|-;obtain⟨g1,hg1⟩:∃x,x=w.heap.size:=⟨_,rfl⟩
 rw[<-hg1] at HK|-;have uP:=ai hg1;clear hg1 c1 c2 c3 c4;have e0:=bK HK.o;have e1:=bS HK.o;have f0:=af HK.o 0;have f1:=af HK.o 1;have z1:decide (0<wrap64 (q-l0))=true:=by rw[Q5.o];exact decide_eq_true (by have:=xX.o;omega)
 have z3:decide (0<=wrap64 (q-l0))=true:=by rw[Q5.o];exact decide_eq_true (by have:=xX.o;omega)
 have z4:0<=wrap64 (q-l0):=by rw[Q5.o];have:=xX.o;omega
 by_cases h64:wrap64 (q-l0)<64
 ·have z2:=decide_eq_true h64;clear h64;go_upto_region 15 with (fail)
  have hk3:=bg (bg HK.o 1 (.int .u64 (bits BinOp.or IntKind.u64 (IntKind.u64.wrap (c0*2^min (wrap64 (q-l0)).toNat 64)) 1))) 0 (.int .i64 q);have hb3:=au (j:=0) (v:=.int .i64 q) (au (j:=1) (v:=.int .u64 (bits BinOp.or IntKind.u64 (IntKind.u64.wrap (c0*2^min (wrap64 (q-l0)).toNat 64)) 1)) HB.o (Nat.le_of_eq uP.o.symm)) (Nat.le_of_eq uP.o.symm);have QB:=ai (show Go.bits .and .u64 (bits BinOp.or IntKind.u64 (IntKind.u64.wrap (c0*2^min (wrap64 (q-l0)).toNat 64)) 1) 1=1 from Mr _);generalize (bits BinOp.or IntKind.u64 (IntKind.u64.wrap (c0*2^min (wrap64 (q-l0)).toNat 64)) 1)=cc at hk3 hb3 QB|-;have uj:ay (_=some (Obj.cells #[.int .i64 q,.int .u64 cc] 353 (0,0))):=⟨hk3.trans rfl⟩
  have HB3:=ai hb3;clear HK HB e0 e1 f0 f1 hk3 hb3;generalize (W1.setCell ⟨g1,1,none⟩ (.int .u64 cc)).setCell ⟨g1,0,none⟩ (.int .i64 q)=W3 at uj HB3|-;have e0:=bK uj.o;have e1:=bS uj.o;have HI3:=ai (HI.o.below HB3.o);have y6:=(HI3.o.cell 6).trans (show _=some (Value.map none) from by rw[<-OI.o];rfl);have f6:=af HI3.o.blk 6;have hmm:= @run_makeMap prog;have Bv:=ae (Below.refl W3.heap.size W3) (Obj.map #[] 0);have Z8:=av Bv y6;have hgm:=(Bv.block g (aI HI3.o.blk)).trans HI3.o.blk;have f6m:=af hgm 6;go_upto_region 17 with (fail)
  have zP:=fP.made (P:=prog) (k:=3) (kv:=kI) W3;have hm0:(W3.alloc (Obj.map #[] 0)).heap[W3.heap.size]? =some (Obj.map #[] 0):=heap_alloc_new W3 _;have Rx:=dW HB3 Bv;have hge:=(Bv.block g1 (aI uj.o)).trans uj.o;obtain⟨b,hbeq⟩:∃b,b=W3.heap.size:=⟨_,rfl⟩
  have hbg:b≠g:=by have:=aI HI3.o.blk;omega
  have Ty:g1≠g:=by have:=uP.o;have:=aI HI.o.blk;omega
  have SC:h.bl≠b:=by have:=HI3.o.rows.lnk.1.lt;omega
  have hbb:base<=b:=by have:=HB3.o.size;have:=kD.o;omega
  have VP:=ai (show w.heap.size<=b by have:=HB3.o.size;omega);rw[<-hbeq] at zP hm0|-;clear y6 f6 Z8 f6m hmm hbeq;generalize W3.alloc (Obj.map #[] 0)=W4 at Bv hgm zP hm0 Rx hge|-;have hk5:=bg hgm 6 (.map (some b));have Sz:=(HI3.o.rows.below Bv).set hgm (by decide) 6 (.map (some b));have Mx:=(Fr.of_below (g:=g) (h:=h) Rx.o kD.o).trans (Fr.set (h:=h) (w:=W4) HI.o.gb 6 (.map (some b)));have zR:=(Below.heap_setCell W4 ⟨g,6,none⟩ (.map (some b)) g1 Ty).trans hge;have Tq:=(Below.heap_setCell W4 ⟨g,6,none⟩ (.map (some b)) b hbg).trans hm0;have F6:=zP.block (Below.heap_setCell W4 ⟨g,6,none⟩ (.map (some b)) b hbg);clear Bv hgm zP hm0 hge;generalize W4.setCell ⟨g,6,none⟩ (.map (some b))=W5 at hk5 Sz Mx zR Tq F6|-;have e0:=bK zR;have e1:=bS zR;have y6:=fF hk5;obtain⟨W6,hrun,O4,hgr⟩:=fP.store (w:=W5.drew) (F6.block rfl) kU (fun _ _ e=>by injection e) underlying108 (by decide) pg.o (.agg #[.int .i64 q,.int .u64 cc]);have hup:(Instr.mapUpdate 108 (.map (some b)) (.int .i64 N.addr) (.agg #[.int .i64 q,.int .u64 cc])).run prog W5.drew=.ok () W6:=hrun;have hd:=aK (Below.refl W5.heap.size W5);have zI:=(Mx.trans (Fr.of_below hd (Nat.le_trans kD.o Mx.below.size)))
  have hfr:Fr base g w h W6 {h with vm:=.map (some b)}:=(show Fr base g w h W6 h from⟨zI.below.grown hgr (Nat.le_trans kD.o Mx.below.size) (fun k hk=>by injection hk with hk;omega),fun k hk hn=>(hgr.block k (Nat.lt_of_lt_of_le hk zI.below.size) (fun e=>by injection e with e;have:=VP.o;omega)).trans (zI.keep k hk hn),zI.own⟩).nvm (.inr VP.o);have hnd:=xq (h:=h) (N:=N) (n:=1) (cc:=cc) (Sz.below hd) (by exact hk5) O4 Tq hgr hbb SC (fun x hx=>rfl) (by have:=xX.o;omega) QB.o HI.o.gb;have hfin:=And.intro hnd hfr;clear hrun O4 hgr hd zI hfr hnd Sz Mx Tq F6;go_region_with (fail)
  all_goals
   go_wp2
   go_ret2
   exact⟨rfl,_,hfin⟩
 ·have z2:=decide_eq_false h64;clear h64;go_upto_region 15 with (fail)
  have hk3:=bg (bg HK.o 1 (.int .u64 (1:Int))) 0 (.int .i64 q);have hb3:=au (j:=0) (v:=.int .i64 q) (au (j:=1) (v:=.int .u64 (1:Int)) HB.o (Nat.le_of_eq uP.o.symm)) (Nat.le_of_eq uP.o.symm);have QB:=ai (show Go.bits .and .u64 (1:Int) 1=1 from Jm);skip
  have uj:ay (_=some (Obj.cells #[.int .i64 q,.int .u64 1] 353 (0,0))):=⟨hk3.trans rfl⟩
  have HB3:=ai hb3;clear HK HB e0 e1 f0 f1 hk3 hb3;generalize (W1.setCell ⟨g1,1,none⟩ (.int .u64 1)).setCell ⟨g1,0,none⟩ (.int .i64 q)=W3 at uj HB3|-;have e0:=bK uj.o;have e1:=bS uj.o;have HI3:=ai (HI.o.below HB3.o);have y6:=(HI3.o.cell 6).trans (show _=some (Value.map none) from by rw[<-OI.o];rfl);have f6:=af HI3.o.blk 6;have hmm:= @run_makeMap prog;have Bv:=ae (Below.refl W3.heap.size W3) (Obj.map #[] 0);have Z8:=av Bv y6;have hgm:=(Bv.block g (aI HI3.o.blk)).trans HI3.o.blk;have f6m:=af hgm 6;go_upto_region 17 with (fail)
  have zP:=fP.made (P:=prog) (k:=3) (kv:=kI) W3;have hm0:(W3.alloc (Obj.map #[] 0)).heap[W3.heap.size]? =some (Obj.map #[] 0):=heap_alloc_new W3 _;have Rx:=dW HB3 Bv;have hge:=(Bv.block g1 (aI uj.o)).trans uj.o;obtain⟨b,hbeq⟩:∃b,b=W3.heap.size:=⟨_,rfl⟩
  have hbg:b≠g:=by have:=aI HI3.o.blk;omega
  have Ty:g1≠g:=by have:=uP.o;have:=aI HI.o.blk;omega
  have SC:h.bl≠b:=by have:=HI3.o.rows.lnk.1.lt;omega
  have hbb:base<=b:=by have:=HB3.o.size;have:=kD.o;omega
  have VP:=ai (show w.heap.size<=b by have:=HB3.o.size;omega);rw[<-hbeq] at zP hm0|-;clear y6 f6 Z8 f6m hmm hbeq;generalize W3.alloc (Obj.map #[] 0)=W4 at Bv hgm zP hm0 Rx hge|-;have hk5:=bg hgm 6 (.map (some b));have Sz:=(HI3.o.rows.below Bv).set hgm (by decide) 6 (.map (some b));have Mx:=(Fr.of_below (g:=g) (h:=h) Rx.o kD.o).trans (Fr.set (h:=h) (w:=W4) HI.o.gb 6 (.map (some b)));have zR:=(Below.heap_setCell W4 ⟨g,6,none⟩ (.map (some b)) g1 Ty).trans hge;have Tq:=(Below.heap_setCell W4 ⟨g,6,none⟩ (.map (some b)) b hbg).trans hm0;have F6:=zP.block (Below.heap_setCell W4 ⟨g,6,none⟩ (.map (some b)) b hbg);clear Bv hgm zP hm0 hge;generalize W4.setCell ⟨g,6,none⟩ (.map (some b))=W5 at hk5 Sz Mx zR Tq F6|-;have e0:=bK zR;have e1:=bS zR;have y6:=fF hk5;obtain⟨W6,hrun,O4,hgr⟩:=fP.store (w:=W5.drew) (F6.block rfl) kU (fun _ _ e=>by injection e) underlying108 (by decide) pg.o (.agg #[.int .i64 q,.int .u64 1]);have hup:(Instr.mapUpdate 108 (.map (some b)) (.int .i64 N.addr) (.agg #[.int .i64 q,.int .u64 1])).run prog W5.drew=.ok () W6:=hrun;have hd:=aK (Below.refl W5.heap.size W5);have zI:=(Mx.trans (Fr.of_below hd (Nat.le_trans kD.o Mx.below.size)))
  have hfr:Fr base g w h W6 {h with vm:=.map (some b)}:=(show Fr base g w h W6 h from⟨zI.below.grown hgr (Nat.le_trans kD.o Mx.below.size) (fun k hk=>by injection hk with hk;omega),fun k hk hn=>(hgr.block k (Nat.lt_of_lt_of_le hk zI.below.size) (fun e=>by injection e with e;have:=VP.o;omega)).trans (zI.keep k hk hn),zI.own⟩).nvm (.inr VP.o);have hnd:=xq (h:=h) (N:=N) (n:=1) (cc:=1) (Sz.below hd) (by exact hk5) O4 Tq hgr hbb SC (fun x hx=>rfl) (by have:=xX.o;omega) QB.o HI.o.gb;have hfin:=And.intro hnd hfr;clear hrun O4 hgr hd zI hfr hnd Sz Mx Tq F6;go_region_with (fail)
  all_goals
   go_wp2
   go_ret2
   exact⟨rfl,_,hfin⟩
end Go.Proofs.YtnmpijbcajclgaaGreatDoor.Mine
end
