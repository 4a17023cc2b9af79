/- Texts of one claim, one behind the other, made short by a program. -/
import Derived.Test.YtnmpijbcajclgaaGreatDoorMA24
set_option maxHeartbeats 8000000
set_option linter.unusedSimpArgs false
set_option linter.unusedVariables false
set_option maxRecDepth 100000
section
namespace Go.Proofs.YtnmpijbcajclgaaGreatDoor.Mine
open Tryz
open Go.Maps Go.RowKit YtnmpijbcajclgaaGreatDoorW.PrintWords YtnmpijbcajclgaaGreatDoorW.PrintLast YtnmpijbcajclgaaGreatDoorW.PrintMore
open PNodeAlone
open Value renaming slice->Vs
theorem DU:(prog.info? 123).map (fun i=>(i.zero,i.size,i.bytes))=some (some (.agg #[(.int .i64 0),(.string ⟨#[]⟩),(.slice none 0 0),(.slice none 0 0)]),4,72):=by kernel_rfl
def jg(id:Int)(x:iY):Bool:=x.id==id
theorem DV(id:Int)(gi:Nat)(x:iY)(V U:Value)(w:World)(hc:w.cell? ⟨gi,0,none⟩=some (.int .i64 id)):
 Calls prog 59 #[.agg #[.int .i64 x.id,.string x.text,V,U],.pointer (some ⟨gi,0,none⟩)] w fun r w'=>r=.returned (.bool (jg id x))∧Below w.heap.size w w':=by
 go_enter func59,ntmps59
 have ha:=ae (Below.refl w.heap.size w) (.cells #[.int .i64 x.id,.string x.text,V,U] iw);have hk:=heap_alloc_new w (.cells #[.int .i64 x.id,.string x.text,V,U] iw);have e3:=bK hk;have c3:=av ha hc;have HB:=ai ha;clear hk ha hc;go_wp2;go_ret;refine⟨?_,HB.o⟩;rfl
theorem IQ(id:Int)(gi:Nat)(A:Option Addr)(n c:Nat)(L:List iY)(w:World)(hr:Kd.C qJ w A n L)(hl:n<=100000)(hc:w.cell? ⟨gi,0,none⟩=some (.int .i64 id)):
 Calls prog 58 #[.slice A n c,.func (.func 59) #[] #[.pointer (some ⟨gi,0,none⟩)]] w fun e w'=>e=.returned (.int .i64 (idxFrom (jg id) L 0))∧Below w.heap.size w w':=by
 have HR:=ai hr;have HN:=ai hr.1;have HC:=ai hc;clear hr hc;go_enter func58,ntmps58
 go_wp2_with fail
 go_loopg [5,8] (n+1) (fun k v5 v8 W=>∃i:Nat,ay (i<=n∧k+i=n+1∧idxFrom (jg id) L 0=idxFrom (jg id) (L.drop i) i)∧v8=.int .i64 (i:Int)∧ay (Below w.heap.size w W))
 case atStart=>exact⟨0,⟨by omega,by omega,rfl⟩,rfl,⟨Below.refl _ _⟩⟩
 case round=>
  obtain⟨i,HM,rfl,HB⟩:=hrel;by_cases hi:i<n
  ·have b1:decide ((i:Int)<(n:Int))=true:=decide_eq_true (by omega);have b2:decide (i<n)=true:=decide_eq_true (by omega);have p1:(0:Int)<=(i:Int):=by omega
   have p2:(i:Int)<(n:Int):=by omega
   obtain⟨ad,x,B,b,D,e,hA,hx,h0,h1,h2,h3,hF,hG⟩:=GI (Kd.aY HR.o HB.o) i hi;cases hA
   have HD:=ai (show L.drop i=x::L.drop (i+1) from by obtain⟨hj,e⟩:=List.getElem?_eq_some_iff.1 hx;rw[List.drop_eq_getElem_cons hj,e]);clear hx hF hG;go_wp2_with fail
   refine(DV id gi x (Vs B x.F.length b) (Vs D x.G.length e) wr ((HB.o.cell (World.block_lt_of_cell? w _ HC.o)).trans HC.o)).mono ?_;rintro r w2 ⟨rfl,hb⟩;replace HB:=dW HB hb;clear hb h0 h1 h2 h3;cases hpx:(jg id) x with
   |true=>
    have HX:=ai hpx;clear hpx;go_wp2;go_ret;exact⟨by rw[HM.o.2.2,HD.o];simp[idxFrom,HX.o],HB.o⟩
   |false=>
    have HX:=ai hpx;clear hpx;go_wp2_with fail
    go_roundg (gk-1)
    case measure=>have:=HM.o;omega
    case rel=>exact⟨i+1,⟨by omega,by have:=HM.o;omega,by rw[HM.o.2.2,HD.o];simp[idxFrom,HX.o]⟩,rfl,HB⟩
  ·have b1:decide ((i:Int)<(n:Int))=false:=decide_eq_false (by omega);have b2:decide (i<n)=false:=decide_eq_false (by omega);have hend:idxFrom (jg id) L 0= -1:=by rw[HM.o.2.2,List.drop_eq_nil_of_le (by have:=HN.o;omega)];rfl
   have HE:=ai hend;clear hend;go_wp2;go_ret;exact⟨by rw[HE.o];rfl,HB.o⟩
theorem QD(g n c i:Nat)(base:Nat)(ok:Nat->Prop)(xs:List iY)(w:World)(hR:Kd.R qJ iw w base ok (.slice (some ⟨g,0,none⟩) n c) xs)(hl:n<=100000)(hi:i<n):
 Calls prog 60 #[.slice (some ⟨g,0,none⟩) n c,.int .i64 (i:Int),.int .i64 ((i+1:Nat):Int)] w fun e w'=>e=.returned (.slice (some ⟨g,0,none⟩) (n-1) c)∧Kd.R qJ iw w' base ok (.slice (some ⟨g,0,none⟩) (n-1) c) (xs.take i++xs.drop (i+1))∧w.grownBy w' (some g):=by
 obtain⟨hn,hnc,_⟩:=Kd.bN hR;obtain⟨tI,uH,hts,htz⟩:=kS DU;obtain⟨j,hj⟩:∃j,j=i+1:=⟨_,rfl⟩
 rw[<-hj];have hel:prog.elem 94=iw:=by kernel_rfl
 have hu:prog.underlying 94=some (.slice (prog.elem 94)):=by rw[hel];exact underlying94
 have hni:¬n=i:=by omega
 have hS0:∀W:World,(Instr.slice 94 (.slice (some ⟨g,0,none⟩) n c) (some (.int .i64 (i:Int))) (some (.int .i64 (j:Int))) (some (.int .i64 (n:Int)))).run prog W=.ok (.slice (some ⟨g,i*4,none⟩) (j-i) (n-i)) W:=by
  intro W;rw[run_slice_lhm W 94 _ n c hu .i64 .i64 .i64 (i:Int) (j:Int) (n:Int) (by omega) (by omega) (by omega) (by omega),hel];simp[sizeOf,typeInfo,uH,hts,sliced,Result.andThen,hni,add_plain]
 have hS1:∀W:World,(Instr.slice 94 (.slice (some ⟨g,0,none⟩) n c) none (some (.int .i64 (i:Int))) none).run prog W=.ok (.slice (some ⟨g,0,none⟩) i c) W:=by
  intro W;rw[uU (P:=prog) 94 iw .i64 underlying94 uH (some ⟨g,0,none⟩) n c (i:Int) (by omega) (by omega) (by omega) W,Int.toNat_natCast]
 have hS2:∀W:World,(Instr.slice 94 (.slice (some ⟨g,0,none⟩) n c) (some (.int .i64 (j:Int))) none none).run prog W=.ok (.slice (if c=j then some ⟨g,0,none⟩ else some ⟨g,j*4,none⟩) (n-j) (c-j)) W:=by
  intro W;rw[mJ (P:=prog) 94 iw .i64 underlying94 uH 4 hts (some ⟨g,0,none⟩) n c (j:Int) (by omega) (by omega) W,Int.toNat_natCast,Option.map_some,add_plain]
 have hS3:∀W:World,(Instr.slice 94 (.slice (some ⟨g,0,none⟩) (n-1) c) (some (.int .i64 ((n-1:Nat):Int))) (some (.int .i64 (n:Int))) none).run prog W=.ok (.slice (some ⟨g,(n-1)*4,none⟩) 1 (c-(n-1))) W:=by
  intro W;rw[run_slice_lh W 94 _ (n-1) c hu .i64 .i64 ((n-1:Nat):Int) (n:Int) (by omega) (by omega) (by omega),hel];simp[sizeOf,typeInfo,uH,hts,sliced,Result.andThen];refine⟨?_,by omega⟩;rw[if_neg (by omega),add_plain]
 obtain⟨w1,hrun,IL,hg1⟩:=Mt (P:=prog) (Kd.dm hR) i j (by omega) (by omega) 94 94 _ 72 underlying94 DU;rw[show i+(n-j)=n-1 by omega] at hrun IL;have aaa:∀ty,(Builtin.clear_ #[94] ty #[.slice (some ⟨g,(n-1)*4,none⟩) 1 (c-(n-1))]).run prog w1=.ok (.tuple #[]) (w1.setCells g ((n-1)*4) (Builtin.zeroCells (Value.agg #[(.int .i64 0),(.string ⟨#[]⟩),(.slice none 0 0),(.slice none 0 0)]).cells 1).toList):=fun ty=>(uq (P:=prog) IL (m:=1) (by decide) (by omega) 94 ty _ (c-(n-1)) underlying94 htz rfl (by decide) (by decide)).1
 have hzl:=(uq (P:=prog) IL (m:=1) (by decide) (by omega) 94 0 _ (c-(n-1)) underlying94 htz rfl (by decide) (by decide)).2;generalize (Builtin.zeroCells (Value.agg #[(.int .i64 0),(.string ⟨#[]⟩),(.slice none 0 0),(.slice none 0 0)]).cells 1).toList=zc at aaa hzl;have hfin:=O6 IL (m:=1) zc hzl (by omega);rw[show (n-1)*qJ.sz=(n-1)*4 from rfl] at hfin;have fQ:=ai (And.intro hfin.1 (jh (kK (aK (Below.refl _ w)) (some g)) (jh hg1 hfin.2)));have q1:((i:Int)==(j:Int))=false:=by rw[beq_eq_false_iff_ne];omega
 clear IL hg1 hfin hzl hR uH hts htz hn hnc hel hu hj hi;by_cases hcj:c=j
 ·subst hcj;rw[if_pos rfl,Nat.sub_self] at hrun;simp only[if_true,Nat.sub_self] at hS2;have Uw:=ai hrun;clear hrun;go_enter func60,ntmps60
  go_upto_region 5 with (fail)
  go_region_law (first
   |(refine sP rfl (.tmp 22) (.tmp 25) 94 rfl _ _ _ ?xa ?xb Uw.o ?_;(case xa=>first|rfl|(go_simp;done)|(go_simp;rfl));(case xb=>first|rfl|(go_simp;done)|(go_simp;rfl))))
  all_goals
   go_wp2;go_ret;exact⟨rfl,fQ.o⟩
 ·rw[if_neg hcj] at hrun;simp only[if_neg hcj] at hS2;have Uw:=ai hrun;clear hrun;go_enter func60,ntmps60
  go_upto_region 5 with (fail)
  go_region_law (first
   |(refine sP rfl (.tmp 22) (.tmp 25) 94 rfl _ _ _ ?xa ?xb Uw.o ?_;(case xa=>first|rfl|(go_simp;done)|(go_simp;rfl));(case xb=>first|rfl|(go_simp;done)|(go_simp;rfl))))
  all_goals
   go_wp2;go_ret;exact⟨rfl,fQ.o⟩
theorem QN:(prog.info? 46).map (fun i=>(i.zero,i.size,i.bytes))=some (some (.agg #[(.int .i64 0),(.int .i64 0),(.int .i64 0),(.slice none 0 0),(.string ⟨#[]⟩)]),5,64):=by kernel_rfl
def Yl:kY:=⟨0,0,0,[],⟨#[]⟩⟩
def nC(id:Int)(x:kY):Bool:=x.sub==id
theorem Kt{w:World}{base:Nat}{ok:Nat->Prop}{x:kY}{cs:List Value}(h:zL.M w base ok x cs):∃v,cs= [.int .i64 x.sub,.int .i64 x.fG,.int .i64 x.seq,v,.string x.pay]∧Kd.R pI tV w base ok v x.V:=by
 obtain⟨_,_,rfl,rfl,⟨_,_,rfl,rfl,⟨_,_,rfl,rfl,⟨_,_,rfl,⟨v,rfl,h1⟩,rfl⟩⟩⟩⟩:=h;exact⟨v,rfl,h1⟩
theorem yO(id:Int)(gi:Nat)(x:kY)(V:Value)(w:World)(hc:w.cell? ⟨gi,0,none⟩=some (.int .i64 id)):
 Calls prog 62 #[.agg #[.int .i64 x.sub,.int .i64 x.fG,.int .i64 x.seq,V,.string x.pay],.pointer (some ⟨gi,0,none⟩)] w fun r w'=>r=.returned (.bool (nC id x))∧Below w.heap.size w w':=by
 go_enter func62,ntmps62
 have ha:=ae (Below.refl w.heap.size w) (.cells #[.int .i64 x.sub,.int .i64 x.fG,.int .i64 x.seq,V,.string x.pay] ny);have hk:=heap_alloc_new w (.cells #[.int .i64 x.sub,.int .i64 x.fG,.int .i64 x.seq,V,.string x.pay] ny);have e3:=bK hk;have c3:=av ha hc;have HB:=ai ha;clear hk ha hc;go_wp2;go_ret;refine⟨?_,HB.o⟩;rfl
theorem Un(id:Int)(gi:Nat)(A:Option Addr)(n c:Nat)(L:List kY)(w:World)(hr:Kd.C zL w A n L)(hl:n<=100000)(hc:w.cell? ⟨gi,0,none⟩=some (.int .i64 id)):
 Calls prog 113 #[.slice A n c,.func (.func 62) #[] #[.pointer (some ⟨gi,0,none⟩)]] w fun e w'=>e=.returned (.int .i64 (idxFrom (nC id) L 0))∧Below w.heap.size w w':=by
 have HR:=ai hr;have HN:=ai hr.1;have HC:=ai hc;clear hr hc;go_enter func113,ntmps113
 go_wp2_with fail
 go_loopg [5,8] (n+1) (fun k v5 v8 W=>∃i:Nat,ay (i<=n∧k+i=n+1∧idxFrom (nC id) L 0=idxFrom (nC id) (L.drop i) i)∧v8=.int .i64 (i:Int)∧ay (Below w.heap.size w W))
 case atStart=>exact⟨0,⟨by omega,by omega,rfl⟩,rfl,⟨Below.refl _ _⟩⟩
 case round=>
  obtain⟨i,HM,rfl,HB⟩:=hrel;by_cases hi:i<n
  ·have b1:decide ((i:Int)<(n:Int))=true:=decide_eq_true (by omega);have b2:decide (i<n)=true:=decide_eq_true (by omega);have p1:(0:Int)<=(i:Int):=by omega
   have p2:(i:Int)<(n:Int):=by omega
   obtain⟨ad,x,B,b,hA,hx,h0,h1,h2,h3,h4,_,hG⟩:=Om (Kd.aY HR.o HB.o) i hi;cases hA
   have HD:=ai (show L.drop i=x::L.drop (i+1) from by obtain⟨hj,e⟩:=List.getElem?_eq_some_iff.1 hx;rw[List.drop_eq_getElem_cons hj,e]);clear hx hG;go_wp2_with fail
   refine(yO id gi x (Vs B x.V.length b) wr ((HB.o.cell (World.block_lt_of_cell? w _ HC.o)).trans HC.o)).mono ?_;rintro r w2 ⟨rfl,hb⟩;replace HB:=dW HB hb;clear hb h0 h1 h2 h3 h4;cases hpx:(nC id) x with
   |true=>
    have HX:=ai hpx;clear hpx;go_wp2;go_ret;exact⟨by rw[HM.o.2.2,HD.o];simp[idxFrom,HX.o],HB.o⟩
   |false=>
    have HX:=ai hpx;clear hpx;go_wp2_with fail
    go_roundg (gk-1)
    case measure=>have:=HM.o;omega
    case rel=>exact⟨i+1,⟨by omega,by have:=HM.o;omega,by rw[HM.o.2.2,HD.o];simp[idxFrom,HX.o]⟩,rfl,HB⟩
  ·have b1:decide ((i:Int)<(n:Int))=false:=decide_eq_false (by omega);have b2:decide (i<n)=false:=decide_eq_false (by omega);have hend:idxFrom (nC id) L 0= -1:=by rw[HM.o.2.2,List.drop_eq_nil_of_le (by have:=HN.o;omega)];rfl
   have HE:=ai hend;clear hend;go_wp2;go_ret;exact⟨by rw[HE.o];rfl,HB.o⟩
theorem TF(id:Int)(gi:Nat)(base:Nat)(ok:Nat->Prop)(v:Value)(xs:List kY)(w:World)(hR:Kd.R zL ny w base ok v xs)(hl:xs.length<=100000)(hc:w.cell? ⟨gi,0,none⟩=some (.int .i64 id))(hne:some gi≠v.ownBlock):
 Calls prog 61 #[v,.func (.func 62) #[] #[.pointer (some ⟨gi,0,none⟩)]] w fun e w'=>∃v',e=.returned v'∧Kd.R zL ny w' base ok v' (dK (nC id) xs)∧w.grownBy w' v.ownBlock∧v'.ownBlock=v.ownBlock:=by
 obtain⟨A0,c0,rfl,hc0,hC0⟩:=Kd.bB hR;have HR:=ai hR;have HL:=ai hl;have HC:=ai hc;have UM:=ai hne;clear hR hc0 hl hc hne;go_enter func61,ntmps61
 go_wp2_with fail
 refine(Un id gi A0 xs.length c0 xs w hC0 HL.o HC.o).mono ?_;rintro r w1 ⟨rfl,hb⟩;have HB:=ai hb;clear hb hC0;rcases nW (nC id) xs 0 with⟨hi,hk⟩|⟨k,hi,hk,hs⟩
 ·have HK:=ai hk;rw[hi];clear hi hk;go_wp2;go_ret;refine⟨_,rfl, ?_,iB (World.grownBy.refl _ _) HB.o,rfl⟩;rw[HK.o];exact Kd.bJ HR.o HB.o
 ·rw[hi];obtain⟨g,cap,hv,hg,Hw,hgb⟩:=Kd.vv HR.o (by omega);injection hv with hv1 hv2 hv3;subst hv1 hv3;have NB:ay (iK (nC id) xs xs k (k+1)):=⟨iK.start hk hs⟩
  have HR1:=lV HR HB.o;have uP:=ai (show w.grownBy w1 (some g) from iB (World.grownBy.refl _ _) HB.o);have hk1:k<xs.length:=hk;have e0:((0+k:Nat):Int)=(k:Int):=by omega
  rw[e0];obtain⟨n,hn⟩:∃n,n=xs.length:=⟨_,rfl⟩
  have HN:=ai hn;rw[<-hn] at HR1 hk1|-;have hne:((k:Int)== -1)=false:=by rw[beq_eq_false_iff_ne];omega
  clear hi hk hs hv2 hg Hw hgb hn e0;go_wp2_with fail
  have rW:=ai hk1;clear HB HR hk1;go_loopg [5,6,7] (n+1) (fun kk v5 v6 v7 W=>∃(i j:Nat) (C:List kY),ay (iK (nC id) xs C i j∧kk+j=n+k+2∧i<j)∧v5=.int .i64 (i:Int)∧v6=.int .i64 (j:Int)∧ay (Kd.R zL ny W base ok (.slice (some ⟨g,0,none⟩) n c0) C)∧ay (w.grownBy W (some g)))
  case atStart=>exact⟨k,k+1,xs,⟨NB.o,by omega,by omega⟩,rfl,by rw[jK (by omega) (by have:=HL.o;have:=HN.o;have:=rW.o;omega)];rfl,HR1,uP⟩
  case round=>
   clear NB HR1 uP;obtain⟨i,j,C,HM,rfl,rfl,HR,HG⟩:=hrel;by_cases hi:j<n
   ·have b1:decide ((j:Int)<(n:Int))=true:=decide_eq_true (by omega);have b2:decide (j<n)=true:=decide_eq_true (by omega);have p1:(0:Int)<=(j:Int):=by omega
    have p2:(j:Int)<(n:Int):=by omega
    have hcn:=(Kd.bN HR.o).1;obtain⟨cj,hcl,hM,hcc,_⟩:=Kd.sG HR.o Yl (j:Int) p1 p2;rw[Int.toNat_natCast] at hM hcc;have hx:C[j]? =some (C.getD j Yl):=by rw[List.getD_eq_getElem?_getD,List.getElem?_eq_getElem (by omega)];rfl
    have HX:=ai (And.intro hx (HM.o.1.at' hx));clear hx;generalize C.getD j Yl=x at hM HX;obtain⟨v,rfl,hV⟩:=Kt hM;obtain⟨B,b,rfl,_,_⟩:=Kd.bB hV;have h0:wr.cell? ⟨g,j*5,none⟩=some (Value.int .i64 x.sub):=hcc 0 _ rfl;have h1:wr.cell? ⟨g,j*5+1,none⟩=some (Value.int .i64 x.fG):=hcc 1 _ rfl;have h2:wr.cell? ⟨g,j*5+2,none⟩=some (Value.int .i64 x.seq):=hcc 2 _ rfl;have h3:wr.cell? ⟨g,j*5+3,none⟩=some (Vs B x.V.length b):=hcc 3 _ rfl;have h4:wr.cell? ⟨g,j*5+4,none⟩=some (Value.string x.pay):=hcc 4 _ rfl;have o9:=ai (HG.o.cell HC.o UM.o);have Bd:=ai hM;clear hM hcc hcl hV hcn;go_upto_region 8 with (fail)
    have ha:=ae (Below.refl wr.heap.size wr) (.cells #[.int .i64 x.sub,.int .i64 x.fG,.int .i64 x.seq,.slice B x.V.length b,.string x.pay] ny);have hk:=heap_alloc_new wr (.cells #[.int .i64 x.sub,.int .i64 x.fG,.int .i64 x.seq,.slice B x.V.length b,.string x.pay] ny);replace HR:=lV HR ha;replace HG:=ai (iB HG.o ha);replace Bd:=ai (Kd.kG Bd.o ha);replace o9:=ai (av ha o9.o);clear h0 h1 h2 h3 h4;generalize wr.alloc (.cells #[.int .i64 x.sub,.int .i64 x.fG,.int .i64 x.seq,.slice B x.V.length b,.string x.pay] ny)=W4 at ha hk HR HG Bd o9|-;clear ha;generalize wr.heap.size=gb at hk|-;have e0:=bK hk;have e1:=bS hk;have e2:=dh hk;have e3:=dA hk;have e4:=dI hk;clear hk;go_wp2_with fail
    refine(yO id gi x (Vs B x.V.length b) W4 o9.o).mono ?_;rintro r w2 ⟨rfl,hb⟩;have dH:=lV HR hb;have dU:=ai (iB HG.o hb);have dS:=ai (Kd.kG Bd.o hb);replace e0:=(hb.cell (World.block_lt_of_cell? W4 _ e0)).trans e0;replace e1:=(hb.cell (World.block_lt_of_cell? W4 _ e1)).trans e1;replace e2:=(hb.cell (World.block_lt_of_cell? W4 _ e2)).trans e2;replace e3:=(hb.cell (World.block_lt_of_cell? W4 _ e3)).trans e3;replace e4:=(hb.cell (World.block_lt_of_cell? W4 _ e4)).trans e4;clear HR HG Bd hb o9;have HR:=dH;have HG:=dU;have Bd:=dS;clear dH dU dS;cases hpx:(nC id) x with
    |true=>
     have HP:=ai hpx;clear hpx e0 e1 e2 e3 e4;go_wp2_with fail
     go_roundg (gk-1)
     case measure=>have:=HM.o;omega
     case rel=>exact⟨i,j+1,C,⟨HM.o.1.skip HX.o.2 HP.o,by have:=HM.o.2;omega,by have:=HM.o.2;omega⟩,rfl,by rw[jK (by omega) (by have:=HL.o;have:=HN.o;omega)];rfl,HR,HG⟩
    |false=>
     have HP:=ai hpx;clear hpx;have q1:(0:Int)<=(i:Int):=by omega
     have q2:(i:Int)<(n:Int):=by have:=HM.o.1.le;omega
     obtain⟨ci,hcl,_,hcc,_⟩:=Kd.sG HR.o Yl (i:Int) q1 q2;have RA:=ai (show zL.M w2 base (fun k=>ok k∧k≠g) x (ci.take 0++ [.int .i64 x.sub,.int .i64 x.fG,.int .i64 x.seq,.slice B x.V.length b,.string x.pay]++ci.drop (0+5)) from by rw[show List.drop (0+5) ci= [] from List.drop_eq_nil_of_le (Nat.le_of_eq hcl)];exact Bd.o);have RS:ay (∀q∈ [Value.int .i64 x.sub,.int .i64 x.fG,.int .i64 x.seq,.slice B x.V.length b,.string x.pay],q.oneCell'=true):=⟨by intro q hq;simp only[List.mem_cons,List.not_mem_nil,or_false] at hq;rcases hq with rfl|rfl|rfl|rfl|rfl<;>rfl⟩
     have uD:=ai (And.intro hcl hcc);clear hcl hcc Bd;go_wp2_with ((with_reducible refine NR (.store ny (.tmp 33) (.tmp 32)) rfl ?_);go_loud (refine Kd.Dc zL (w0:=w2) (o':=i*5) base rfl rfl ny (.tmp 33) (.tmp 32) rfl ny (i:Int) 0 C x (.agg #[.int .i64 x.sub,.int .i64 x.fG,.int .i64 x.seq,.slice B x.V.length b,.string x.pay]) [.int .i64 x.sub,.int .i64 x.fG,.int .i64 x.seq,.slice B x.V.length b,.string x.pay] ci ok (fun k=>ok k∧k≠g) ?hp ?hoff ?hx rfl ?ht ?h1 HR.o q1 q2 uD.o.1 uD.o.2 ?hj ?hM (fun _ hk=>hk) (Below.refl _ _) ?_;(case hp=>first|rfl|(go_simp;done)|(go_simp;rfl));(case hoff=>rfl);(case hx=>first|rfl|(go_simp;done)|(go_simp;rfl));(case ht=>kernel_rfl);(case h1=>exact RS.o);(case hj=>exact Nat.le_refl _);(case hM=>exact RA.o);intro w9 ho hb hg;replace HR:=ai ho;replace HG:=ai (jh HG.o hg);clear RA uD RS ho hb hg))
     go_roundg (gk-1)
     case measure=>have:=HM.o;omega
     case rel=>exact⟨i+1,j+1,C.set i x,⟨HM.o.1.keep HX.o.2 HP.o,by have:=HM.o.2;omega,by have:=HM.o.2;omega⟩,by rw[jK (by omega) (by have:=HL.o;have:=HN.o;omega)];rfl,by rw[jK (by omega) (by have:=HL.o;have:=HN.o;omega)];rfl,HR,HG⟩
   ·have b1:decide ((j:Int)<(n:Int))=false:=decide_eq_false (by omega);have b2:decide (j<n)=false:=decide_eq_false (by omega);have hjn:j=n:=by have:=HM.o.1.jle;have:=HN.o;omega
    subst hjn;have hij:=HM.o.2.2;obtain⟨hcn,hc0,_⟩:=Kd.bN HR.o;obtain⟨tI,uH,hts,htz⟩:=kS QN;have hS1:∀W:World,(Instr.slice 43 (.slice (some ⟨g,0,none⟩) j c0) (some (.int .i64 (i:Int))) none none).run prog W=.ok (.slice (some ⟨g,i*5,none⟩) (j-i) (c0-i)) W:=by
     intro W;rw[mJ (P:=prog) 43 ny .i64 underlying43 uH 5 hts (some ⟨g,0,none⟩) j c0 (i:Int) (by omega) (by omega) W,Int.toNat_natCast,if_neg (by omega)];rw[Option.map_some,add_plain]
    have hS2:∀W:World,(Instr.slice 43 (.slice (some ⟨g,0,none⟩) j c0) none (some (.int .i64 (i:Int))) none).run prog W=.ok (.slice (some ⟨g,0,none⟩) i c0) W:=by
     intro W;rw[uU (P:=prog) 43 ny .i64 underlying43 uH (some ⟨g,0,none⟩) j c0 (i:Int) (by omega) (by omega) hc0 W,Int.toNat_natCast]
    obtain⟨hcl,hzl⟩:=mh HR.o i hij 43 0 _ (c0-i) underlying43 htz rfl (by decide) (by decide);have Wy:∀ty,(Builtin.clear_ #[43] ty #[.slice (some ⟨g,i*5,none⟩) (j-i) (c0-i)]).run prog wr=.ok (.tuple #[]) (wr.setCells g (i*5) (Builtin.zeroCells (Value.agg #[(.int .i64 0),(.int .i64 0),(.int .i64 0),(.slice none 0 0),(.string ⟨#[]⟩)]).cells (j-i)).toList):=fun ty=>(mh HR.o i hij 43 ty _ (c0-i) underlying43 htz rfl (by decide) (by decide)).1
    generalize (Builtin.zeroCells (Value.agg #[(.int .i64 0),(.int .i64 0),(.int .i64 0),(.slice none 0 0),(.string ⟨#[]⟩)]).cells (j-i)).toList=zc at Wy hzl;have hfin:=ym HR.o (Nat.le_of_lt hij) (show C.take i=dK (nC id) xs from iK.done (by rw[<-HN.o];exact HM.o.1)) zc hzl (by omega);have fQ:=ai (And.intro hfin.1 (jh HG.o hfin.2));clear hcl hzl hfin hcn hc0 hij uH htz hts HR HG HM;go_wp2;go_ret;exact⟨_,rfl,fQ.o.1,fQ.o.2,rfl⟩
theorem Q9{α:Type}(p:α->Bool)(l:List α)(k:Nat)(hk:k<l.length)(h:dK p (l.take (k+1))=l.take k):p l[k]=true∧dK p (l.take k)=l.take k:=by
 have e:l.take (k+1)=l.take k++ [l[k]]:=oq (List.getElem?_eq_getElem hk);have hl:(dK p (l.take k)).length<=(l.take k).length:=List.length_filter_le _ _;rw[e] at h;unfold dK at h hl|-;rw[List.filter_append] at h;cases hp:p l[k] with
 |true=>
  rw[List.filter_cons_of_neg (by simp[hp]),List.filter_nil,List.append_nil] at h;exact⟨rfl,h⟩
 |false=>
  rw[List.filter_cons_of_pos (by simp[hp]),List.filter_nil] at h;have:=congrArg List.length h;rw[List.length_append,List.length_singleton] at this;exfalso;have h6:(l.take k).filter (fun x=> !p x)++ [l[k]]=l.take k:=h;have h7:=congrArg (List.filter (fun x=> !p x)) h6;simp only[List.filter_append,List.filter_filter,Bool.and_self] at h7;rw[List.filter_cons_of_pos (by simp[hp]),List.filter_nil] at h7;have h8:=congrArg List.length h7;rw[List.length_append,List.length_singleton] at h8;omega
theorem QJ{L:List iY}{id:Int}{k:Nat}(hk:k<L.length)(h:dK (jg id) (L.take (k+1))=L.take k)(hd:L.Pairwise (fun a b=>a.id≠b.id)):L.take k++L.drop (k+1)=dK (jg id) L:=by
 obtain⟨h1,h2⟩:=Q9 (jg id) L k hk h;have e:L=L.take k++L[k]::L.drop (k+1):=by rw[<-List.drop_eq_getElem_cons hk,List.take_append_drop]
 have hid:L[k].id=id:=by simpa [jg] using h1
 have hp:(L[k]::L.drop (k+1)).Pairwise (fun a b=>a.id≠b.id):=by
  rw[<-List.drop_eq_getElem_cons hk];exact hd.sublist (List.drop_sublist _ _)
 have h3:dK (jg id) (L.drop (k+1))=L.drop (k+1):=by
  unfold dK;rw[List.filter_eq_self];intro x hx;have:=(List.pairwise_cons.1 hp).1 x hx;have h4:jg id x=false:=by
   unfold jg;rw[beq_eq_false_iff_ne,<-hid];exact fun e=>this e.symm
  rw[h4];rfl
 unfold dK at h2 h3|-
 conv=>rhs;rw[e]
 rw[List.filter_append,List.filter_cons_of_neg (by simp[h1]),h2,h3]
theorem BP(L:List iY)(id:Int):(dK (jg id) L).map iY.pl=(L.map iY.pl).filter (fun s=> !(s.id==id)):=by
 unfold dK;rw[List.filter_map];rfl
theorem Eg(L:List kY)(id:Int):(dK (nC id) L).map kY.pl=(L.map kY.pl).filter (fun s=> !(s.sub==id)):=by
 unfold dK;rw[List.filter_map];rfl
theorem GA(base g:Nat)(h:Hd)(N:eG)(id:Int)(w:World)(hI:cK base w g h N)(hF:fV N)(hno:idxFrom (jg id) N.subs 0= -1):
 Calls prog 18 #[.pointer (some ⟨g,0,none⟩),.int .i64 id] w fun e w'=>Below w.heap.size w w'∧∃b n,e=.returned (fw b)∧eX w' 9 n (fw b):=by
 obtain⟨A3,c3,hv3,hc3,Gp⟩:=Kd.bB hI.rows.sub;obtain⟨n,hn⟩:∃n,n=N.subs.length:=⟨_,rfl⟩
 rw[<-hn] at Gp;have y3:=(hI.cell 3).trans (show _=some (Vs A3 n c3) from by rw[hn,<-hv3];rfl);have R7:=ai (fun (W:World) (gi:Nat) (hb:Below w.heap.size w W) (hc:W.cell? ⟨gi,0,none⟩=some (.int .i64 id))=>IQ id gi A3 n c3 N.subs W (Kd.aY Gp hb) (by have:=hF.nSub;omega) hc);rw[hno] at R7;clear hI hF hno hv3 hc3 Gp hn;go_enter func18,ntmps18
 go_upto_region 1 with (fail)
 have hb1:=ae (Below.refl w.heap.size w) (.cells #[.int .i64 id] 3);have hk1:=heap_alloc_new w (.cells #[.int .i64 id] 3);generalize w.alloc (.cells #[.int .i64 id] 3)=W1 at hb1 hk1|-;generalize w.heap.size=gi at hk1|-;have HK:=ai (And.intro hb1 ((bK hk1)));have UT:=av hb1 y3;clear hb1 hk1 y3;go_wp2_with fail
 refine(R7.o _ _ HK.o.1 HK.o.2).mono ?_;rintro e w2 ⟨rfl,hb2⟩;have HB:=ai (aD HK.o.1 HK.o.1.size hb2);clear hb2 HK R7 UT;go_wp2_with fail
 refine(iN 9 w2).mono ?_;rintro e w3 ⟨b,hb,rfl,Ee,hb3⟩;have fQ:=ai (And.intro Ee (aD HB.o HB.o.size hb3));clear hb Ee hb3;go_wp2;go_ret;exact⟨fQ.o.2,b,1,rfl,b,_,_,_,rfl,fQ.o.1,rfl⟩
def eG.Sy(N:eG)(id:Int):eG:={N with subs:=dK (jg id) N.subs,inbox:=dK (nC id) N.inbox}
theorem OO(base g k:Nat)(h:Hd)(N:eG)(id:Int)(w:World)(hI:cK base w g h N)(hbase:base<=w.heap.size)(hF:fV N)(hix:idxFrom (jg id) N.subs 0=(k:Int))(hk:k<N.subs.length)(hcut:N.subs.take k++N.subs.drop (k+1)=dK (jg id) N.subs):
 Calls prog 18 #[.pointer (some ⟨g,0,none⟩),.int .i64 id] w fun e w'=>e=.returned .nilIface∧∃h',cK base w' g h' (N.Sy id)∧Fr base g w h w' h':=by
 obtain⟨A3,c3,hv3,hc3,Gp⟩:=Kd.bB hI.rows.sub;obtain⟨n,hn⟩:∃n,n=N.subs.length:=⟨_,rfl⟩
 rw[<-hn] at Gp hk;obtain⟨gs,cap,hvf,_,_,_⟩:=Kd.vv hI.rows.sub (by omega);rw[hv3] at hvf;injection hvf with hvA _ hvc;subst hvA hvc;have y3:=(hI.cell 3).trans (show _=some (Vs (some ⟨gs,0,none⟩) n c3) from by rw[hn,<-hv3];rfl);have R7:=ai (fun (W:World) (gi:Nat) (hb:Below w.heap.size w W) (hc:W.cell? ⟨gi,0,none⟩=some (.int .i64 id))=>IQ id gi (some ⟨gs,0,none⟩) n c3 N.subs W (Kd.aY Gp hb) (by have:=hF.nSub;omega) hc);rw[hix] at R7;have HF:=ai hF;have Ej:=ai hv3;have HS:=ai hbase;have HI:=ai hI;have HN:=ai (And.intro hn (And.intro hk hcut));have b0:decide ((k:Int)<0)=false:=decide_eq_false (by omega);clear hI hF hix hv3 hc3 Gp hn hbase hk hcut;go_enter func18,ntmps18
 go_upto_region 1 with (fail)
 have hb1:=ae (Below.refl w.heap.size w) (.cells #[.int .i64 id] 3);have hk1:=heap_alloc_new w (.cells #[.int .i64 id] 3);generalize w.alloc (.cells #[.int .i64 id] 3)=W1 at hb1 hk1|-;obtain⟨gi,hgi⟩:∃x,x=w.heap.size:=⟨_,rfl⟩
 rw[<-hgi] at hk1|-;have HGI:=ai hgi;have HK:=ai (And.intro hb1 hk1);have UT:=av hb1 y3;clear hb1 hk1 y3 hgi;go_wp2_with fail
 refine(R7.o _ _ HK.o.1 ((bK HK.o.2))).mono ?_;rintro e w2 ⟨rfl,hb2⟩;have HB:=ai (aD HK.o.1 HK.o.1.size hb2);have xy:=ai ((hb2.block _ (aI HK.o.2)).trans HK.o.2);have aah:=av hb2 UT;have HI2:=ai (HI.o.below HB.o);have hR2:=HI2.o.rows.sub;rw[Ej.o,<-HN.o.1] at hR2;have HD:=ai (QD gs n c3 k base (fun _=>True) N.subs w2 hR2 (by have:=HF.o.nSub;have:=HN.o.1;omega) HN.o.2.1);have hw1:wrap64 ((k:Int)+1)=((k+1:Nat):Int):=by rw[jK (by omega) (by have:=HF.o.nSub;have:=HN.o;omega)];rfl
 clear hb2 HK R7 UT hR2;go_wp2_with fail
 rw[hw1];refine HD.o.mono ?_;rintro e w3 ⟨rfl,Kg,hg3⟩;rw[HN.o.2.2] at Kg;have hg3':w2.grownBy w3 h.vsub.ownBlock:=by rw[Ej.o];exact hg3
 have r3:=HI2.o.rows.Md hg3' Kg;have k3:=dB HI2.o.blk hg3' (Kd.kM HI2.o.rows.sub HI2.o.blk (by decide));have f3:=(Fr.of_below (g:=g) (h:=h) HB.o HS.o).trans (Fr.Md HI2.o.rows hg3' (Nat.le_trans HS.o HB.o.size));have f3:=f3.wu (v1:=.slice (some ⟨gs,0,none⟩) (n-1) c3) (.inl (by rw[Ej.o];rfl));have LB:=dB xy.o hg3' (Kd.kM HI2.o.rows.sub xy.o (by decide));have y3:=(aN k3 3).trans (show _=some (Vs (some ⟨gs,0,none⟩) n c3) from by rw[HN.o.1,<-Ej.o];rfl);have z3:=af k3 3;have i4:=r3.set k3 (by decide) 3 (.slice (some ⟨gs,0,none⟩) (n-1) c3);have k4:=bg k3 3 (.slice (some ⟨gs,0,none⟩) (n-1) c3);have f4:=f3.trans (Fr.set HI2.o.gb 3 (.slice (some ⟨gs,0,none⟩) (n-1) c3));have I4:cK base _ g _ {N with subs:=dK (jg id) N.subs}:=cK.of k4 rfl HI2.o.gb i4;have c4:(w3.setCell ⟨g,3,none⟩ (.slice (some ⟨gs,0,none⟩) (n-1) c3)).heap[gi]? =some (.cells #[.int .i64 id] 3 (0,0)):=by
  rw[Below.heap_setCell w3 ⟨g,3,none⟩ _ gi (fun e2=>by have e3:gi=g:=e2;rw[e3,k3] at LB;injection LB with LB;injection LB with _ LB _;cases LB)];exact LB
 have HI4:=ai (And.intro I4 (And.intro f4 c4));clear r3 k3 f3 LB i4 k4 f4 I4 c4 Kg hg3 hg3' HD HI2 xy HB hw1 aah;go_upto_region 5 with (fail)
 generalize w3.setCell ⟨g,3,none⟩ (.slice (some ⟨gs,0,none⟩) (n-1) c3)=w4 at HI4|-;clear y3 z3;obtain⟨A7,c7,hv7,_,_⟩:=Kd.bB HI4.o.1.rows.box;have Pf:=HI4.o.1.rows.box;have y7:=(HI4.o.1.cell 7).trans (show _=some (Vs A7 N.inbox.length c7) from by rw[<-hv7];rfl);have z7:=af HI4.o.1.blk 7;have hne:some gi≠(Vs A7 N.inbox.length c7).ownBlock:=by
  have:=Kd.kM Pf HI4.o.2.2 (by decide);rw[hv7] at this;exact this
 have KH:=ai hv7;have HDD:=ai (TF id gi base (fun _=>True) _ N.inbox w4 (by rw[hv7] at Pf;exact Pf) (by have:=HF.o.nBox;omega) ((bK HI4.o.2.2)) hne);obtain⟨n7,hn7⟩:∃n7,n7=N.inbox.length:=⟨_,rfl⟩
 rw[<-hn7] at HDD y7 KH;clear hv7 Pf hne hn7;go_wp2_with fail
 refine HDD.o.mono ?_;rintro e w5 ⟨v7,rfl,Pb,hg5,Ti⟩;have PO:w4.grownBy w5 h.vbox.ownBlock:=by rw[KH.o];exact hg5
 have r5:=eZ.MG HI4.o.1.rows PO Pb;have k5:=dB HI4.o.1.blk PO (Kd.kM HI4.o.1.rows.box HI4.o.1.blk (by decide));have f5:=HI4.o.2.1.trans (Fr.MG HI4.o.1.rows PO (Nat.le_trans HS.o HI4.o.2.1.below.size));have f5:=f5.pV (v1:=v7) (.inl (by rw[Ti];show _=h.vbox.ownBlock;rw[KH.o]));have y5:=(aN k5 7).trans (show _=some (Vs A7 n7 c7) from by rw[<-KH.o];rfl);have z5:=af k5 7;have i6:=r5.set k5 (by decide) 7 v7;have k6:=bg k5 7 v7;have f6:=f5.trans (Fr.set HI4.o.1.gb 7 v7);have I6:cK base _ g _ (N.Sy id):=cK.of k6 rfl HI4.o.1.gb i6;have fQ:=ai (And.intro I6 f6);obtain⟨A9,c9,rfl,_,_⟩:=Kd.bB Pb;clear r5 k5 f5 i6 k6 f6 I6 Pb hg5 PO Ti HI4 HDD y7 z7;go_wp2;go_ret;exact⟨rfl,_,fQ.o⟩
theorem TE{N:eG}(h:N.pl.subs.Pairwise (fun a b=>a.id≠b.id)):N.subs.Pairwise (fun a b=>a.id≠b.id):=by
 have h:(N.subs.map iY.pl).Pairwise (fun a b=>a.id≠b.id):=h;rw[List.pairwise_map] at h;exact h
theorem Oz(p:iY->Bool):∀(l:List iY) (i:Nat),(∀x∈l,p x=false)->idxFrom p l i= -1:=by
 intro l
 induction l with
 |nil=>intro i _;rfl
 |cons x r ih=>
  intro i h;simp only[idxFrom];rw[h x List.mem_cons_self,if_neg (by simp)];exact ih (i+1) (fun y hy=>h y (List.mem_cons_of_mem x hy))
section
variable{base g:Nat}{w0 w:World}{S:List SA}{lev:Int}{P:Nd}
theorem Eb(al:Al base g w0 w S lev P)(id:Int)(hno:∀s∈P.subs,s.id≠id):
 Calls prog 18 #[ptr g,.int .i64 id] w fun e w'=>Below w.heap.size w w'∧Al base g w0 w' S lev P∧∃b n,e=.returned (fw b)∧eX w' 9 n (fw b):=by
 obtain⟨h,N,h1,h2,rfl,rfl,hF,hG⟩:=al.nd;subst h2;refine(GA base g h N id w h1 hF (Oz _ _ _ (fun x hx=> ?_))).mono ?_
 ·have:=hno x.pl (List.mem_map.2 ⟨x,hx,rfl⟩);unfold jg;rw[beq_eq_false_iff_ne];exact this
 ·rintro e w' ⟨hb,he⟩;exact⟨hb,al.keep hb,he⟩
theorem EG(al:Al base g w0 w S lev P)(id:Int)(hyes:∃s∈P.subs,s.id=id)(hd:P.subs.Pairwise (fun a b=>a.id≠b.id)):
 Calls prog 18 #[ptr g,.int .i64 id] w fun e w'=>e=.returned .nilIface∧Al base g w0 w' S lev (P.nS id)∧iW w w':=by
 obtain⟨h,N,h1,h2,rfl,rfl,hF,hG⟩:=al.nd;subst h2;rcases nW (jg id) N.subs 0 with⟨_,hk⟩|⟨k,hi,hk,hs⟩
 ·exfalso;obtain⟨s,hs,hid⟩:=hyes;obtain⟨x,hx,rfl⟩:=List.mem_map.1 hs;have hx2:x∈dK (jg id) N.subs:=by rw[hk];exact hx
  unfold dK at hx2;have:=(List.mem_filter.1 hx2).2;have hid:x.id=id:=hid;simp[jg,hid] at this
 ·refine(OO base g k h N id w h1 al.size hF (by rw[hi,Nat.zero_add]) hk (QJ hk hs (TE hd))).mono ?_;rintro e w' ⟨he,h',hI,hf⟩;refine⟨he,al.step hf hI ?_ rfl rfl ⟨hF.chk,hF.lev,hF.seq,hF.last, ?_, ?_, ?_,hF.nOpn,hF.evs, ?_,hF.nSent⟩ ⟨hG.seqs,hG.high,hG.seenO,hG.sentO,hG.addr,hG.lost⟩,hf.EM h1⟩
  ·unfold eG.Sy eG.pl Nd.nS;simp only[BP,Eg]
  ·exact Nat.le_trans (List.length_filter_le _ _) hF.nSub
  ·exact fun s hs=>hF.flt s (List.mem_filter.1 hs).1
  ·exact fun s hs=>hF.cz s (List.mem_filter.1 hs).1
  ·exact Nat.le_trans (List.length_filter_le _ _) hF.nBox
end
theorem Xx:(prog.info? 3).map (fun i=>(i.zero,i.size,i.bytes))=some (some (.int .i64 0),1,8):=by kernel_rfl
theorem Gs(base g:Nat)(h:Hd)(N:eG)(w:World)(hI:cK base w g h N)(hl:N.opn.length<=8):
 Calls prog 33 #[.pointer (some ⟨g,0,none⟩)] w fun e w'=>(∃A c,e=.returned (.slice A N.opn.length c))∧Below w.heap.size w w':=by
 obtain⟨A8,c8,El,hc8,UW⟩:=Kd.bB hI.rows.opn;obtain⟨n,hn⟩:∃n,n=N.opn.length:=⟨_,rfl⟩
 rw[<-hn] at UW hl|-;have y8:=(hI.cell 8).trans (show _=some (Vs A8 n c8) from by rw[hn,<-El];rfl);have HC:=ai UW;have HL:=ai hl;clear hI El hc8 UW hl hn;go_enter func33,ntmps33
 have HB0:=ai (Below.refl w.heap.size w);go_wp2_with fail
 go_loopg [3,5,11] (n+1) (fun kk v3 v5 v11 W=>∃(i:Nat) (acc:List Int),ay (i<=n∧kk+i=n+1∧acc.length=i)∧v11=.int .i64 (i:Int)∧ay (Below w.heap.size w W)∧ay (Kd.R (Kd.int .i64) 3 W w.heap.size (fun _=>True) v3 acc))
 case atStart=>exact⟨0,[],⟨by omega,by omega,rfl⟩,rfl,HB0,⟨Kd.iF _ _ _ _ _⟩⟩
 case round=>
  obtain⟨i,acc,HM,rfl,HB,HO⟩:=hrel;by_cases hi:i<n
  ·have b1:decide ((i:Int)<(n:Int))=true:=decide_eq_true (by omega);have b2:decide (i<n)=true:=decide_eq_true (by omega);have p1:(0:Int)<=(i:Int):=by omega
   have p2:(i:Int)<(n:Int):=by omega
   obtain⟨ad,x,B,b,D,e,hA,hx,c0,c1,c2,c3,_,_⟩:=RQ (Kd.aY HC.o HB.o) i hi;cases hA
   clear hx;go_upto_region 5 with (fail)
   have gZ:=ae (Below.refl wr.heap.size wr) (.cells #[.int .i64 x.seq,.slice B x.V.length b,.string x.pay,.slice D x.want.length e] nM);have lh:=heap_alloc_new wr (.cells #[.int .i64 x.seq,.slice B x.V.length b,.string x.pay,.slice D x.want.length e] nM);clear c0 c1 c2 c3;generalize wr.alloc (.cells #[.int .i64 x.seq,.slice B x.V.length b,.string x.pay,.slice D x.want.length e] nM)=W7 at gZ lh|-;replace HB:=dW HB gZ;replace HO:=lV HO gZ;have e0:=bK lh;clear gZ lh;generalize wr.heap.size=gb at e0|-;obtain⟨A3,c3,rfl,_,_⟩:=Kd.bB HO.o;go_wp2_with ((with_reducible refine bn (b:=.append) (xs:= #[.tmp 15,.tmp 18]) rfl ?_);at_builtin;go_loud (refine Kd.di (Kd.int .i64) (w0:=w) w.heap.size rfl (.tmp 15) (.tmp 18) 22 3 (.int .i64 0) 8 rfl underlying22 Xx rfl (by decide) (by omega) _ acc x.seq [.int .i64 x.seq] (fun _=>True) (fun _=>False) rfl ?aX ?aP (fun _ hk=>hk.elim) ?aF HO.o HB.o HB.o.size ?aL ?_;(case aX=>first|rfl|(go_simp;done)|(go_simp;rfl));(case aP=>exact rfl);(case aF=>exact(fun _ _=>trivial));(case aL=>have:=HM.o;have:=HL.o;omega);intro v9 w9 ho hb hg hat;replace HO:=ai ho;replace HB:=ai hb;clear ho hb hg hat))
   obtain⟨A9,c9,rfl,_,_⟩:=Kd.bB HO.o;go_wp2_with fail
   go_roundg (gk-1)
   case measure=>have:=HM.o;omega
   case rel=>exact⟨i+1,acc++ [x.seq],⟨by omega,by have:=HM.o;omega,by have:=HM.o;simp;omega⟩,by rw[jK (by omega) (by have:=HL.o;omega)];rfl,HB,HO⟩
  ·have b1:decide ((i:Int)<(n:Int))=false:=decide_eq_false (by omega);have b2:decide (i<n)=false:=decide_eq_false (by omega);obtain⟨A9,c9,rfl,_,_⟩:=Kd.bB HO.o;have hal:acc.length=n:=by have:=HM.o;omega
   have qL:=ai hal;clear hal;go_wp2;go_ret;exact⟨⟨A9,c9,by(try rw[qL.o]);rfl⟩,HB.o⟩
def ZW:List SA:= [⟨⟨#[97]⟩,1,0,9⟩]
def T09:ByteArray:=⟨#[97,32,105,110,32,48,46,46,57]⟩
def F09:List SP:=match fZ ZW T09 with| .inl xs=>xs.map toP| .inr _=> []
theorem m1:gL ZW F09 [⟨1,⟨#[]⟩⟩] ⟨#[]⟩=true:=by decide+kernel
theorem m3:gL ZW F09 [⟨3,⟨#[]⟩⟩] ⟨#[]⟩=true:=by decide+kernel
theorem Nt(w:World)(nm:ByteArray)(k lo hi:Int):Kd.R Pp tA (w.alloc (.cells #[.string nm,.int .i64 k,.int .i64 lo,.int .i64 hi] tA)) w.heap.size (fun _=>True) (.slice (some ⟨w.heap.size,0,none⟩) 1 1) [⟨nm,k,lo,hi⟩]:=
 ⟨fun _ _=>trivial,[.string nm,.int .i64 k,.int .i64 lo,.int .i64 hi],World.ownsRow_lit (base:=w.heap.size) (e:=tA) (size:=4) w #[.string nm,.int .i64 k,.int .i64 lo,.int .i64 hi] 1 (Nat.le_refl _) (by decide) rfl,⟨rfl,fun i x hx=>by
  match i,hx with
  |0,hx=>
   obtain rfl:=Option.some.inj hx;exact Di _ _ _ _⟩⟩
theorem Ra(w:World)(n:Int)(s:ByteArray):Kd.R pI tV (w.alloc (.cells #[.int .i64 n,.string s] tV)) w.heap.size (fun _=>True) (.slice (some ⟨w.heap.size,0,none⟩) 1 1) [⟨n,s⟩]:=
 ⟨fun _ _=>trivial,[.int .i64 n,.string s],World.ownsRow_lit (base:=w.heap.size) (e:=tV) (size:=2) w #[.int .i64 n,.string s] 1 (Nat.le_refl _) (by decide) rfl,⟨rfl,fun i x hx=>by
  match i,hx with
  |0,hx=>
   obtain rfl:=Option.some.inj hx;exact CO _ _ _ _⟩⟩
def BR:List SA:= [⟨⟨#[112,114,105,99,101]⟩,1,0,99⟩]
def FM:List SV:= [⟨5,⟨#[]⟩⟩]
def Yx:ByteArray:=⟨#[112,114,105,99,101,32,105,110,32,51,46,46,57]⟩
theorem ZO:cB BR=none:=by decide+kernel
theorem aa5:dV BR FM ⟨#[]⟩=none:=by decide+kernel
theorem aao:∃xs,fZ BR Yx=.inl xs∧gL BR (xs.map toP) FM ⟨#[]⟩=true:=by
 have h:(match fZ BR Yx with| .inl xs=>gL BR (xs.map toP) FM ⟨#[]⟩| .inr _=>false)=true:=by decide+kernel
 cases hr:fZ BR Yx with
 |inl xs=>rw[hr] at h;exact⟨xs,rfl,h⟩
 |inr c=>rw[hr] at h;cases h
def PA2(F:List SP):Nd:=(((Nd.new 0).sub F).fG FM ⟨#[]⟩)
theorem Uc{F:List SP}(h:gL BR F FM ⟨#[]⟩=true):(PA2 F).tick BR=⟨0,[⟨1,F⟩],1,[⟨1,0,1,FM,⟨#[]⟩⟩],[],1,0⟩:=by
 show ({ (PA2 F).uV BR ⟨1,FM,⟨#[]⟩⟩ with opn:= []}:Nd)=_;have e:jQ BR 0 ⟨1,FM,⟨#[]⟩⟩ [⟨1,F⟩] ([],0)=([⟨1,0,1,FM,⟨#[]⟩⟩],0):=by
  show (if gL BR F FM ⟨#[]⟩=true then _ else _)=_;rw[if_pos h];rfl
 show (⟨0,[⟨1,F⟩],1,(jQ BR 0 ⟨1,FM,⟨#[]⟩⟩ [⟨1,F⟩] ([],0)).1,[],1,(jQ BR 0 ⟨1,FM,⟨#[]⟩⟩ [⟨1,F⟩] ([],0)).2⟩:Nd)=_;rw[e]
theorem Jd{base g:Nat}{w0 w:World}{S:List SA}{lev:Int}{P:Nd}(al:Al base g w0 w S lev P):Calls prog 33 #[ptr g] w fun e w'=>(∃A c,e=.returned (.slice A P.opn.length c))∧Below w.heap.size w w':=by
 obtain⟨h,N,h1,h2,rfl,rfl,hF,hG⟩:=al.nd;have hlen:=eG.pR h2;have:=Gs base g h N w h1 hF.nOpn;rw[hlen.2.1] at this;exact this
theorem jZ(w:World)(hT:gF w):Calls prog 9 #[] w fun e w'=>e=.returned (.bool true)∧Below w.heap.size w w':=by
 obtain⟨xs,hrd,hmt⟩:=aao;have HT:=ai hT;have HM:=ai (And.intro hrd hmt);clear hT hrd hmt;go_enter func9,ntmps9
 go_wp2_with fail
 have hb1:=ae (Below.refl w.heap.size w) (.cells #[.string ⟨#[112,114,105,99,101]⟩,.int .i64 1,.int .i64 0,.int .i64 99] tA);have hr1:=Nt w ⟨#[112,114,105,99,101]⟩ 1 0 99;generalize w.alloc (.cells #[.string ⟨#[112,114,105,99,101]⟩,.int .i64 1,.int .i64 0,.int .i64 99] tA)=w1 at hb1 hr1|-;refine(NQ (some ⟨w.heap.size,0,none⟩) 1 1 BR 0 3 w.heap.size (fun _=>True) w w1 ⟨by decide,by decide⟩ ⟨by decide,by decide⟩ hr1 hb1.size ZO (gF.below HT.o hb1) hb1).mono ?_;rintro e w2 ⟨g,rfl,al⟩;generalize w1.heap.size=base at al;have HA:=ai al;unfold ptr;clear al hb1 hr1 HT;go_wp2_with fail
 have hs:Calls prog 11 #[.pointer (some ⟨g,0,none⟩),.string ⟨#[112,114,105,99,101,32,105,110,32,51,46,46,57]⟩] w2 fun e w'=>e=.returned (.tuple #[.int .i64 1,.nilIface])∧Al base g w w' BR 3 ((Nd.new 0).sub (xs.map toP)):=J5 HA.o Yx xs (by decide) HM.o.1 (by decide) (by decide)
 refine hs.mono ?_;rintro e w3 ⟨rfl,al⟩;have HA3:=ai al;clear HA al hs;go_wp2_with fail
 have hb4:=ae (Below.refl w3.heap.size w3) (.cells #[.int .i64 5,.string ⟨#[]⟩] tV);have hr4:=Ra w3 5 ⟨#[]⟩;generalize w3.alloc (.cells #[.int .i64 5,.string ⟨#[]⟩] tV)=w4 at hb4 hr4|-;have hs:Calls prog 12 #[.pointer (some ⟨g,0,none⟩),.agg #[.slice (some ⟨w3.heap.size,0,none⟩) 1 1,.string ⟨#[]⟩]] w4 fun e w'=>e=.returned (.tuple #[.int .i64 1,.nilIface])∧Al base g w w' BR 3 (PA2 (xs.map toP)):=Kv (HA3.o.keep hb4) 1 1 w3.heap.size (fun _=>True) (some ⟨w3.heap.size,0,none⟩) FM ⟨#[]⟩ hr4 aa5 (by show (0:Nat)<8;decide) (by show (0:Int)<1073741824;decide)
 refine hs.mono ?_;rintro e w5 ⟨rfl,al⟩;have HA5:=ai al;clear HA3 al hs hb4 hr4;go_wp2_with fail
 have hs:Calls prog 13 #[.pointer (some ⟨g,0,none⟩),.int .i64 1,.iface rG (.int .i64 0)] w5 fun e w'=>e=.returned (.tuple #[])∧Al base g w w' BR 3 ⟨0,[⟨1,xs.map toP⟩],1,[⟨1,0,1,FM,⟨#[]⟩⟩],[],1,0⟩:=by
  have:=Q3 HA5.o 1 0 (by show (0:Int)<=900000;decide);rw[Uc HM.o.2] at this;exact this
 refine hs.mono ?_;rintro e w6 ⟨rfl,al⟩;have HA6:=ai al;clear HA5 al hs;go_wp2_with fail
 have hs:Calls prog 14 #[.pointer (some ⟨g,0,none⟩),.int .i64 9] w6 fun e w'=>∃A c L,e=.returned (.slice A 1 c)∧Kd.R zL ny w' base (fun _=>True) (.slice A 1 c) L∧L.map kY.pl= [⟨1,0,1,FM,⟨#[]⟩⟩]∧Al base g w w' BR 3 ⟨0,[⟨1,xs.map toP⟩],1,[],[],1,0⟩:=Qt HA6.o 9
 refine hs.mono ?_;rintro e w7 ⟨A,c,L,rfl,hR,hL,al⟩;obtain⟨d,rfl,hd⟩:∃d,L= [d]∧d.pl=⟨1,0,1,FM,⟨#[]⟩⟩:=by
  match L,hL with
  | [d],hL=>exact⟨d,rfl,(List.cons.inj hL).1⟩
 have h1:d.sub=1:=congrArg wS.sub hd;have h2:d.seq=1:=congrArg wS.seq hd;obtain⟨gd,cap,hv,_,_,_⟩:=Kd.vv hR (show 0<1 by decide);injection hv with hv1 hv2 hv3;subst hv1 hv3;obtain⟨ad,x,B,b,hA,hx,c0,c1,c2,c3,c4,_⟩:=Om (Kd.bN hR).2.2 0 (show 0<1 by decide);obtain rfl:(⟨gd,0,none⟩:Addr)=ad:=Option.some.inj hA;obtain rfl:d=x:=Option.some.inj hx;rw[h1] at c0;rw[h2] at c2;replace c0:w7.cell? ⟨gd,0,none⟩=some (.int .i64 1):=c0;replace c2:w7.cell? ⟨gd,2,none⟩=some (.int .i64 1):=c2;have ZM:=ai al;clear HA6 al hs hR hL hx hd h1 h2 c1 c3 c4 hA hv2;go_upto_region 8 with (fail)
 have hs:=Jd ZM.o;unfold ptr at hs;have Nb:=ai hs;clear hs;go_wp2_with fail
 refine Nb.o.mono ?_;rintro e w8 ⟨⟨A9,c9,rfl⟩,UU⟩;have HF:=ai (ZM.o.keep UU).below;clear ZM UU Nb;go_wp2;go_ret;exact⟨rfl,HF.o⟩
open Go.Extern.Stop Go.Stop Go.Extern
theorem rlm(z:Sem Value)(f:TypeId->Addr->Nat->Nat->Sem Value)(v:Value):
 ReflectliteValue.method z f #[v]=(do match <-ReflectliteValue.parts v with|none=>z|some (t,a,fl)=>f t a fl (fl%32)):=rfl
theorem rls(v x:Value):ReflectliteValue.set #[v,x]=(do
 let (some (dst,a,fl),some (src,b,_)):=(<-ReflectliteValue.parts v,<-ReflectliteValue.parts x)
  |unsupported (.noEntry "extern/(internal/reflectlite.Value).Set.zeroValue")
 if fl/ReflectliteValue.flagAddr%2==0 then unsupported (.noEntry "extern/(internal/reflectlite.Value).Set.unaddressable")
 let val <-loadVar src b
 if <-Rtype.directlyAssignable dst src then storeVar dst a val
 else if <-Rtype.implements dst src then
  if (<-Rtype.kind src)==20 then
   match val with
   | .nilIface=>unsupported (.noEntry "extern/reflectlite: a nil value of one interface type handed on as a value of another")
   |_=>storeVar dst a val
  else storeVar dst a (.iface src val)
 else panicString ("reflectlite.Set: value of type " ++(<-Rtype.spelt src)++ " is not assignable to type " ++(<-Rtype.spelt dst))
 pure (.tuple #[])):=rfl
theorem H6(h:Value)(w:World):(Go.method 489 278 (.agg #[h]) "Kind").run prog w=.ok (271,h) w:=by kernel_rfl
theorem F4(h:Value)(w:World):(Go.method 489 278 (.agg #[h]) "Elem").run prog w=.ok (288,.agg #[h]) w:=by kernel_rfl
theorem vY(h:Value)(w:World):(Go.method 489 278 (.agg #[h]) "Implements").run prog w=.ok (289,.agg #[h]) w:=by kernel_rfl
theorem sj(h:Value)(w:World):(Go.method 489 278 (.agg #[h]) "AssignableTo").run prog w=.ok (286,.agg #[h]) w:=by kernel_rfl
def Ag(e:Int):Value:=.int .i64 e
theorem Q8(v:Value)(w:World):(ReflectliteType.typeOf #[.iface 178 v]).run prog w=.ok (.iface 278 (.agg #[.pointer (some ⟨4,178,none⟩)])) w:=by kernel_rfl
theorem Mc(t:Addr)(w:World):(ReflectliteValue.unpack (.iface 146 (.pointer (some t)))).run prog w
 =.ok (.agg #[.pointer (some ⟨4,146,none⟩),.pointer (some ⟨w.heap.size,0,none⟩),.int .u64 150]) (w.alloc (.cells #[.pointer (some t)] 146)):=by kernel_rfl
theorem Xe(a:Addr)(w:World):(ReflectliteValue.methodAny (ReflectliteValue.valueError "reflectlite.Value.Type" 0) (fun t _ _ _=>ReflectliteType.toType t) #[.agg #[.pointer (some ⟨4,146,none⟩),.pointer (some a),.int .u64 150]]).run prog w
 =.ok (.iface 278 (.agg #[.pointer (some ⟨4,146,none⟩)])) w:=by kernel_rfl
theorem V6(w:World):((ReflectliteType.abiMethod fun t=>(fun a:Nat=>Value.int IntKind.u8 (a:Int)) <$> Rtype.kind t) #[.pointer (some ⟨4,146,none⟩)]).run prog w=.ok (.int .u8 22) w:=by kernel_rfl
theorem Ug(w:World):((ReflectliteType.abiMethod fun t=>(fun a:Nat=>Value.int IntKind.u8 (a:Int)) <$> Rtype.kind t) #[.pointer (some ⟨4,49,none⟩)]).run prog w=.ok (.int .u8 2) w:=by kernel_rfl
theorem NN(a:Addr)(w:World):(ReflectliteValue.parts (.agg #[.pointer (some ⟨4,146,none⟩),.pointer (some a),.int .u64 150])).run prog w=.ok (some (146,a,150)) w:=by kernel_rfl
theorem Sw(a p:Addr)(W:World)(ha:W.cell? a=some (.pointer (some p))):
 (ReflectliteValue.method (ReflectliteValue.valueError "reflectlite.Value.IsNil" 0) ReflectliteValue.isNil #[.agg #[.pointer (some ⟨4,146,none⟩),.pointer (some a),.int .u64 150]]).run prog W=.ok (.bool false) W:=by
 rw[rlm];simp only[Sem.run_bind,NN,Result.andThen];simp[ReflectliteValue.isNil,loadVar,isAgg,underlying,underlying146,ha,Result.andThen]
theorem XG(w:World):(ReflectliteType.method ReflectliteType.elem #[.agg #[.pointer (some ⟨4,146,none⟩)]]).run prog w=.ok (.iface 278 (.agg #[.pointer (some ⟨4,49,none⟩)])) w:=by kernel_rfl
theorem Fj(w:World):(ReflectliteType.relation "Implements" ReflectliteType.implements_ #[.agg #[.pointer (some ⟨4,49,none⟩)],.iface 278 (.agg #[.pointer (some ⟨4,26,none⟩)])]).run prog w=.ok (.bool true) w:=by kernel_rfl
theorem PI(v:Value)(w:World):(ReflectliteType.typeOf #[.iface 49 v]).run prog w=.ok (.iface 278 (.agg #[.pointer (some ⟨4,49,none⟩)])) w:=by kernel_rfl
theorem D5(w:World):(ReflectliteType.relation "AssignableTo" ReflectliteType.assignableTo #[.agg #[.pointer (some ⟨4,49,none⟩)],.iface 278 (.agg #[.pointer (some ⟨4,49,none⟩)])]).run prog w=.ok (.bool true) w:=by kernel_rfl
theorem QH(w:World):(Rtype.elem? 146).run prog w=.ok (some 49) w:=by kernel_rfl
theorem mkC(p:Addr)(w:World):(ReflectliteValue.mk 49 p ReflectliteValue.flagAddr).run prog w=.ok (.agg #[.pointer (some ⟨4,49,none⟩),.pointer (some p),.int .u64 386]) w:=by kernel_rfl
theorem TQ(a p:Addr)(W:World)(ha:W.cell? a=some (.pointer (some p))):
 (ReflectliteValue.method (ReflectliteValue.valueError "reflectlite.Value.Elem" 0) ReflectliteValue.elem #[.agg #[.pointer (some ⟨4,146,none⟩),.pointer (some a),.int .u64 150]]).run prog W
  =.ok (.agg #[.pointer (some ⟨4,49,none⟩),.pointer (some p),.int .u64 386]) W:=by
 rw[rlm];simp only[Sem.run_bind,NN,Result.andThen];simp[ReflectliteValue.elem,loadVar,isAgg,underlying,underlying146,ha,Result.andThen,QH,mkC]
theorem Qc(a:Addr)(w:World):(ReflectliteValue.parts (.agg #[.pointer (some ⟨4,49,none⟩),.pointer (some a),.int .u64 386])).run prog w=.ok (some (49,a,386)) w:=by kernel_rfl
theorem QC(a:Addr)(w:World):(ReflectliteValue.parts (.agg #[.pointer (some ⟨4,49,none⟩),.pointer (some a),.int .u64 130])).run prog w=.ok (some (49,a,130)) w:=by kernel_rfl
theorem QP(w:World):(Rtype.directlyAssignable 49 49).run prog w=.ok true w:=by kernel_rfl
theorem abm(ta b:Addr)(e:Int)(old:Value)(W:World)(hb:W.cell? b=some (Ag e))(ht:W.cell? ta=some old)(hf:W.frozen? ta=false):
 (ReflectliteValue.set #[.agg #[.pointer (some ⟨4,49,none⟩),.pointer (some ta),.int .u64 386],.agg #[.pointer (some ⟨4,49,none⟩),.pointer (some b),.int .u64 130]]).run prog W
  =.ok (.tuple #[]) (W.setCell ta (Ag e)):=by
 rw[rls];unfold Ag at *;simp only[Sem.run_bind,Qc,QC,Result.andThen];simp[ReflectliteValue.flagAddr,loadVar,isAgg,underlying,underlying49,hb,Result.andThen,QP,storeVar,Value.cells,storeCells,Addr.add];rw[run_store prog W ta _ _ (by rfl)];simp[ht,hf]
theorem KF(e:Int)(w:World):(ReflectliteValue.unpack (.iface 49 (Ag e))).run prog w
 =.ok (.agg #[.pointer (some ⟨4,49,none⟩),.pointer (some ⟨w.heap.size,0,none⟩),.int .u64 130]) (w.alloc (.cells #[Ag e] 49)):=by kernel_rfl
theorem Ae(w:World):(ReflectliteType.relation "AssignableTo" ReflectliteType.assignableTo #[.agg #[.pointer (some ⟨4,178,none⟩)],.iface 278 (.agg #[.pointer (some ⟨4,49,none⟩)])]).run prog w=.ok (.bool false) w:=by kernel_rfl
theorem K9(v:Value)(xT:TypeId)(w:World):(Instr.typeAssert (.iface 178 v) xT 282 true).run prog w=.ok (.tuple #[.nilIface,.bool false]) w:=run_typeAssert_lacksB underlying282 (by kernel_rfl) (by kernel_rfl) v xT w
def iR(w:World):Prop:=w.cell? ⟨0,0,none⟩=some (.iface 278 (.agg #[.pointer (some ⟨4,26,none⟩)]))
def Put(w w':World)(t:Nat)(v:Value)(T:Nat):Prop:=w'.os=w.os∧w'.tape=w.tape∧w'.output=w.output∧w.heap.size<=w'.heap.size∧(∀k,k<w.heap.size->k≠t->w'.heap[k]? =w.heap[k]?)∧w'.heap[t]? =some (.cells #[v] T (0,0))
theorem R9{w:World}{t T:Nat}{old v:Value}(ht:w.heap[t]? =some (.cells #[old] T (0,0)))(A B:Obj):Put w (((w.setCell ⟨t,0,none⟩ v).alloc A).alloc B) t v T:=by
 have hlt:t<w.heap.size:=(Array.getElem?_eq_some_iff.1 ht).1;have hz:(w.setCell ⟨t,0,none⟩ v).heap.size=w.heap.size:=by simp[World.setCell]
 refine⟨rfl,rfl,rfl,by simp[World.setCell];omega,fun k hk hn=> ?_, ?_⟩
 ·rw[Below.heap_alloc _ _ _ (by simp;omega),Below.heap_alloc _ _ _ (by rw[hz];exact hk),Below.heap_setCell _ _ _ _ hn]
 ·rw[Below.heap_alloc _ _ _ (by simp;omega),Below.heap_alloc _ _ _ (by rw[hz];exact hlt)];simp[World.setCell,Array.getElem?_modify,ht]
theorem Put.weaken{w w1 w2:World}{t T:Nat}{v:Value}(h1:Below w.heap.size w w1)(h2:Put w1 w2 t v T):Put w w2 t v T:=
 ⟨h2.1.trans h1.os,h2.2.1.trans h1.tape,h2.2.2.1.trans h1.output,Nat.le_trans h1.size h2.2.2.2.1,fun k hk hn=>(h2.2.2.2.2.1 k (Nat.lt_of_lt_of_le hk h1.size) hn).trans (h1.block k hk),h2.2.2.2.2.2⟩
structure jo(p:Prop):Prop where mk::(out:p)
theorem SN(c:Int)(n:Nat)(v:Value)(a:Addr)(t:Nat)(old:Value)(w:World)(h:eX w c n v)(ha:w.cell? a=some (.pointer (some ⟨t,0,none⟩)))(ht:w.heap[t]? =some (.cells #[old] 49 (0,0))):
 Calls prog 112 #[v,.iface 146 (.pointer (some ⟨t,0,none⟩)),.agg #[.pointer (some ⟨4,146,none⟩),.pointer (some a),.int .u64 150],.iface 278 (.agg #[.pointer (some ⟨4,49,none⟩)])] w
  fun ev w'=>ev=.returned (.bool true)∧Put w w' t (Ag c) 49:=by
 have tO:=PI;have tF:=Q8;have a25:=D5;have a26:=Ae;have v25:=KF;have nA:=K9;have e5:=wC;have e8:=Bn;have e9:=uh;have hlt:t<w.heap.size:=(Array.getElem?_eq_some_iff.1 ht).1;have hal:a.block<w.heap.size:=by
  rcases Nat.lt_or_ge a.block w.heap.size with h|h
  ·exact h
  ·simp[World.cell?,Array.getElem?_eq_none h] at ha
 have hc0:w.cell? ⟨t,0,none⟩=some old:=cell_of_row w t 0 _ _ _ ht;have hf0:w.frozen? ⟨t,0,none⟩=false:=by simp[World.frozen?,ht]
 have el:=TQ a ⟨t,0,none⟩ (w.alloc (.cells #[.pointer (some ⟨4,146,none⟩),.pointer (some a),.int .u64 150] 215)) (by rw[World.cell?_alloc_lt _ _ a hal];exact ha);have st:=abm ⟨t,0,none⟩ ⟨w.heap.size+1,0,none⟩ c old ((w.alloc (.cells #[.pointer (some ⟨4,146,none⟩),.pointer (some a),.int .u64 150] 215)).alloc (.cells #[Ag c] 49))
  (by rw[World.cell?_alloc_at _ _ _ _ (by simp)];rfl)
  (by rw[World.cell?_alloc_lt _ _ ⟨t,0,none⟩ (by simp;omega),World.cell?_alloc_lt _ _ ⟨t,0,none⟩ hlt];exact hc0)
  (by rw[World.frozen?_alloc_old _ _ ⟨t,0,none⟩ (by simp;omega),World.frozen?_alloc_old _ _ ⟨t,0,none⟩ (Nat.ne_of_lt hlt)];exact hf0)
 have h10:= @run_callFunc_extern prog 150 _ (ReflectliteType.typeOf) func150 (by kernel_rfl) (by kernel_rfl) (by kernel_rfl) (by kernel_rfl);have h35:= @run_callFunc_extern prog 286 _ (ReflectliteType.relation "AssignableTo" ReflectliteType.assignableTo) func286 (by kernel_rfl) (by kernel_rfl) (by kernel_rfl) (by kernel_rfl);have h11:= @run_callFunc_extern prog 169 _ (ReflectliteValue.method (ReflectliteValue.valueError "reflectlite.Value.Elem" 0) ReflectliteValue.elem) func169 (by kernel_rfl) (by kernel_rfl) (by kernel_rfl) (by kernel_rfl);have h12:= @run_callFunc_extern prog 170 _ (ReflectliteValue.set) func170 (by kernel_rfl) (by kernel_rfl) (by kernel_rfl) (by kernel_rfl);have h6:= @run_callFunc_extern prog 109 _ (fun args=>ReflectliteValue.unpack (args.getD 0 (.tuple #[]))) func109 (by kernel_rfl) (by kernel_rfl) (by kernel_rfl) (by kernel_rfl);have mA:=sj;have HP:=jo.mk (fun A B:Obj=>R9 (v:=Ag c) ht A B);have HH:=jo.mk (show eX (w.alloc (.cells #[.pointer (some ⟨4,146,none⟩),.pointer (some a),.int .u64 150] 215)) c n v from h.below (fun b hb=>Below.heap_alloc _ _ _ hb));clear ht ha hc0 hf0 h;go_enter func112,ntmps112
 go_wp2;go_loopg [0] (n+1) (fun k v0 wr=>wr=w.alloc (.cells #[.pointer (some ⟨4,146,none⟩),.pointer (some a),.int .u64 150] 215)∧0<k∧jo (eX (w.alloc (.cells #[.pointer (some ⟨4,146,none⟩),.pointer (some a),.int .u64 150] 215)) c (k-1) v0))
 case atStart=>exact⟨rfl,by omega,HH⟩
 case round=>
  obtain⟨hw,hk,HE⟩:=hrel;subst hw;obtain⟨k,rfl⟩:∃k,gk=k+1:=⟨gk-1,by omega⟩
  simp only[Nat.add_sub_cancel] at HE;cases k with
  |zero=>
   have hv:u0=.iface 49 (Ag c):=HE.out;subst hv;go_wp2;go_ret;exact⟨rfl,HP.out _ _⟩
  |succ k=>
   obtain⟨b,wh,at_,x,hv,hb,hx⟩:=HE.out;subst hv;have hc':=jo.mk (cell_of_row _ b 2 _ _ _ hb);have HX:=jo.mk hx;obtain⟨tx,vx,hxv⟩:=hx.iface;have KA:=fun w=>run_eql_held_nil (P:=prog) w 26 tx vx underlying26
   subst hxv;clear hb hx;go_wp2_with (first|(go_at_call 280;refine(sJ b _ _ hc'.out).mono ?_;rintro e w' ⟨rfl,rfl⟩))
   go_roundg (k+1)
   case measure=>omega
   case rel=>exact⟨rfl,by omega,HX⟩
theorem Py(c:Int)(n:Nat)(v:Value)(t:Nat)(old:Value)(w:World)(h:eX w c n v)(hg:iR w)(ht:w.heap[t]? =some (.cells #[old] 49 (0,0))):
 Calls prog 57 #[v,.iface 146 (.pointer (some ⟨t,0,none⟩))] w fun ev w'=>ev=.returned (.bool true)∧Put w w' t (Ag c) 49:=by
 obtain⟨tx,vx,rfl⟩:=h.iface;have n1:=run_eql_held_nil (P:=prog) w 26 tx vx underlying26;have HH:=jo.mk (fun A B:Obj=>(h.below (w':=(w.alloc A).alloc B) (fun b hb=>by rw[Below.heap_alloc _ _ _ (by simp;omega),Below.heap_alloc _ _ _ hb])));clear h;have hlt:t<w.heap.size:=(Array.getElem?_eq_some_iff.1 ht).1;have h0:(0:Nat)<w.heap.size:=by
  rcases Nat.eq_zero_or_pos w.heap.size with h0|h
  ·simp[iR,World.cell?,h0] at hg
  ·exact h
 have hg2:((w.alloc (.cells #[.pointer (some ⟨t,0,none⟩)] 146)).alloc (.cells #[.pointer (some ⟨4,146,none⟩),.pointer (some ⟨w.heap.size,0,none⟩),.int .u64 150] 215)).cell? ⟨0,0,none⟩=some (.iface 278 (.agg #[.pointer (some ⟨4,26,none⟩)])):=by
  rw[World.cell?_alloc_lt _ _ ⟨0,0,none⟩ (by simp),World.cell?_alloc_lt _ _ ⟨0,0,none⟩ h0];exact hg
 have Sd:=Sw ⟨w.heap.size,0,none⟩ ⟨t,0,none⟩ ((w.alloc (.cells #[.pointer (some ⟨t,0,none⟩)] 146)).alloc (.cells #[.pointer (some ⟨4,146,none⟩),.pointer (some ⟨w.heap.size,0,none⟩),.int .u64 150] 215)) (by simp);have HT:=jo.mk (show ((w.alloc (.cells #[.pointer (some ⟨t,0,none⟩)] 146)).alloc (.cells #[.pointer (some ⟨4,146,none⟩),.pointer (some ⟨w.heap.size,0,none⟩),.int .u64 150] 215)).heap[t]? =some (.cells #[old] 49 (0,0)) by rw[Below.heap_alloc _ _ _ (by simp;omega),Below.heap_alloc _ _ _ hlt];exact ht);have HC:=jo.mk (show ((w.alloc (.cells #[.pointer (some ⟨t,0,none⟩)] 146)).alloc (.cells #[.pointer (some ⟨4,146,none⟩),.pointer (some ⟨w.heap.size,0,none⟩),.int .u64 150] 215)).cell? ⟨w.heap.size,0,none⟩=some (.pointer (some ⟨t,0,none⟩)) by simp);have K7:=jo.mk (show Below w.heap.size w ((w.alloc (.cells #[.pointer (some ⟨t,0,none⟩)] 146)).alloc (.cells #[.pointer (some ⟨4,146,none⟩),.pointer (some ⟨w.heap.size,0,none⟩),.int .u64 150] 215)) from((Below.refl _ _).alloc (Nat.le_refl _) _).alloc (by simp) _);clear ht hg h0;have v6:=Mc;have y7:=Xe;have k1:=V6;have k2:=Ug;have e2:=XG;have i2:=Fj;have h6:= @run_callFunc_extern prog 109 _ (fun args=>ReflectliteValue.unpack (args.getD 0 (.tuple #[]))) func109 (by kernel_rfl) (by kernel_rfl) (by kernel_rfl) (by kernel_rfl);have h7:= @run_callFunc_extern prog 110 _ (ReflectliteValue.methodAny (ReflectliteValue.valueError "reflectlite.Value.Type" 0) (fun t _ _ _=>ReflectliteType.toType t)) func110 (by kernel_rfl) (by kernel_rfl) (by kernel_rfl) (by kernel_rfl);have h8:= @run_callFunc_extern prog 111 _ (ReflectliteValue.method (ReflectliteValue.valueError "reflectlite.Value.IsNil" 0) ReflectliteValue.isNil) func111 (by kernel_rfl) (by kernel_rfl) (by kernel_rfl) (by kernel_rfl);have h27:= @run_callFunc_extern prog 271 _ (ReflectliteType.abiMethod fun t=>do pure (.int .u8 (<-Rtype.kind t))) func271 (by kernel_rfl) (by kernel_rfl) (by kernel_rfl) (by kernel_rfl);have h37:= @run_callFunc_extern prog 288 _ (ReflectliteType.method ReflectliteType.elem) func288 (by kernel_rfl) (by kernel_rfl) (by kernel_rfl) (by kernel_rfl);have h38:= @run_callFunc_extern prog 289 _ (ReflectliteType.relation "Implements" ReflectliteType.implements_) func289 (by kernel_rfl) (by kernel_rfl) (by kernel_rfl) (by kernel_rfl);have mK:=H6;have mE:=F4;have mI:=vY;go_enter func57,ntmps57
 go_wp2_with (go_at_call 112;refine(SN c n _ ⟨w.heap.size,0,none⟩ t old _ (HH.out _ _) HC.out HT.out).mono ?_;rintro ev w' ⟨rfl,hp⟩;have HPP:=jo.mk (Put.weaken K7.out hp);clear hp)
 go_ret;exact⟨rfl,HPP.out⟩
theorem OX(w:World)(o:Obj):(w.alloc o).heap[w.heap.size]? =some o:=by
 show (w.heap.push o)[w.heap.size]? =_;simp
theorem Put.back{w w':World}{T:Nat}{v:Value}{o:Obj}(h:Put (w.alloc o) w' w.heap.size v T):Below w.heap.size w w':=
 ⟨h.1,h.2.1,h.2.2.1,by have:=h.2.2.2.1;simp at this;omega,fun k hk=>(h.2.2.2.2.1 k (by simp;omega) (by omega)).trans (Below.heap_alloc _ _ _ hk)⟩
theorem iR.alloc{w:World}(h:iR w)(o:Obj):iR (w.alloc o):=by
 have h0:(0:Nat)<w.heap.size:=by
  rcases Nat.eq_zero_or_pos w.heap.size with h0|h1
  ·simp[iR,World.cell?,h0] at h
  ·exact h1
 unfold iR;rw[World.cell?_alloc_lt _ _ ⟨0,0,none⟩ h0];exact h
theorem of_nil(w:World):Calls prog 16 #[.nilIface] w fun ev w'=>ev=.returned (.int .i64 0)∧Below w.heap.size w w':=by
 go_enter func16,ntmps16
 go_wp2;go_ret;exact⟨rfl,Below.refl _ _⟩
theorem Ub(c:Int)(n:Nat)(v:Value)(w:World)(h:eX w c n v)(hg:iR w):Calls prog 16 #[v] w fun ev w'=>ev=.returned (.int .i64 c)∧Below w.heap.size w w':=by
 obtain⟨tx,vx,rfl⟩:=h.iface;have n1:=run_eql_held_nil (P:=prog) w 26 tx vx underlying26;have HH:=jo.mk (h.below (w':=w.alloc (.cells #[.int .i64 0] 49)) (fun b hb=>Below.heap_alloc _ _ _ hb));have HG:=jo.mk (hg.alloc (.cells #[.int .i64 0] 49));clear h hg;go_enter func16,ntmps16
 go_wp2_with (go_at_call 57;refine(Py c n _ w.heap.size (.int .i64 0) _ HH.out HG.out (OX _ _)).mono ?_;rintro ev w' ⟨rfl,hp⟩;have HB:=jo.mk (Put.back hp);have hcc:=cell_of_row w' w.heap.size 0 _ _ _ hp.2.2.2.2.2;clear hp)
 go_ret;exact⟨rfl,HB.out⟩
attribute [local go_sem] o7
theorem iR.below{w w':World}(h:iR w)(hb:Below w.heap.size w w'):iR w':=av hb h
def qI(w:World)(c:Int)(v:Value):Prop:=(c=0∧v=.nilIface)∨∃n,eX w c n v
theorem qI.below{w w':World}{c:Int}{v:Value}(h:qI w c v)(hb:Below w.heap.size w w'):qI w' c v:=by
 rcases h with h|⟨n,h⟩
 ·exact .inl h
 ·exact .inr ⟨n,eX.below (fun k hk=>hb.block k hk) h⟩
theorem l6{c:Int}{v:Value}{w:World}(h:qI w c v)(hg:iR w):Calls prog 16 #[v] w fun ev w'=>ev=.returned (.int .i64 c)∧Below w.heap.size w w':=by
 rcases h with⟨rfl,rfl⟩|⟨n,h⟩
 ·exact of_nil w
 ·exact Ub c n v w h hg
def ru(S:List SA)(P:Nd)(t:ByteArray):Nd×Int×Int:=
 match fZ S t with
 | .inr c=>(P,0,c)
 | .inl xs=>if 16<=P.subs.length then (P,0,4) else (P.sub (xs.map toP),P.last+1,0)
open Classical in
noncomputable def vM(P:Nd)(id:Int):Nd×Int:=if ∃s∈P.subs,s.id=id then (P.nS id,0) else (P,9)
def ry(S:List SA)(P:Nd)(V:List SV)(pay:ByteArray):Nd×Int×Int:=
 match dV S V pay with
 |some _=>(P,0,3)
 |none=>if 8<=P.opn.length then (P,0,5) else (P.fG V pay,P.seq+1,0)
section
variable{base b g:Nat}{w0 w:World}{S:List SA}{lev:Int}{P:Nd}{h:Bc}
theorem Gb(al:Al base g w0 w S lev P)(t:ByteArray)(ht:t.size<=1000)(hl:P.last<1000000):
 Calls prog 11 #[ptr g,.string t] w fun e w'=>∃v,e=.returned (.tuple #[.int .i64 (ru S P t).2.1,v])∧qI w' (ru S P t).2.2 v∧Al base g w0 w' S lev (ru S P t).1∧iW w w':=by
 unfold ru;cases hx:fZ S t with
 |inr c=>
  refine(Ku al t c ht hx).mono ?_;rintro e w' ⟨hb,h1,bb,n,rfl,he⟩;exact⟨_,rfl,.inr ⟨_,he⟩,h1,iW.of_below hb⟩
 |inl xs=>
  by_cases h16:16<=P.subs.length
  ·dsimp only;rw[if_pos h16];refine(Ei al t xs ht hx h16).mono ?_;rintro e w' ⟨hb,h1,bb,n,rfl,he⟩;exact⟨_,rfl,.inr ⟨_,he⟩,h1,iW.of_below hb⟩
  ·dsimp only;rw[if_neg h16];refine(wB al t xs ht hx (by omega) hl).mono ?_;rintro e w' ⟨rfl,h1,hk⟩;exact⟨_,rfl,.inl ⟨rfl,rfl⟩,h1,hk⟩
theorem GH(hI:iU b w S P h)(hb:b<=w.heap.size)(hS:S.length<=1000)(t:ByteArray)(ht:t.size<=1000)(hl0:0<=P.last)(hl:P.last<1000000000):
 Calls prog 26 #[nV h P,.string t] w fun e w'=>∃h',e=.returned (.tuple #[nV h' (ru S P t).1,.int .i64 (ru S P t).2.1,.int .i64 (ru S P t).2.2])∧iU b w' S (ru S P t).1 h'∧Below w.heap.size w w':=by
 unfold ru;cases hx:fZ S t with
 |inr c=>
  refine(Pz b S P h t c w hI hb hS ht hx).mono ?_;rintro e w' ⟨rfl,hbw⟩;exact⟨h,rfl,hI.below hbw,hbw⟩
 |inl xs=>
  by_cases h16:16<=P.subs.length
  ·dsimp only;rw[if_pos h16];refine(KV b S P h t xs w hI hb hS ht hx h16).mono ?_;rintro e w' ⟨rfl,hbw⟩;exact⟨h,rfl,hI.below hbw,hbw⟩
  ·dsimp only;rw[if_neg h16];exact Q6 b S P h t xs w hI hb hS ht hx (by omega) hl0 hl
theorem Im(al:Al base g w0 w S lev P)(id:Int)(hd:P.subs.Pairwise (fun a b=>a.id≠b.id)):
 Calls prog 18 #[ptr g,.int .i64 id] w fun e w'=>∃v,e=.returned v∧qI w' (vM P id).2 v∧Al base g w0 w' S lev (vM P id).1∧iW w w':=by
 unfold vM;by_cases hy:∃s∈P.subs,s.id=id
 ·rw[if_pos hy];refine(EG al id hy hd).mono ?_;rintro e w' ⟨rfl,h1,hk⟩;exact⟨_,rfl,.inl ⟨rfl,rfl⟩,h1,hk⟩
 ·rw[if_neg hy];refine(Eb al id (fun s hs he=>hy ⟨s,hs,he⟩)).mono ?_;rintro e w' ⟨hb,h1,bb,n,rfl,he⟩;exact⟨_,rfl,.inr ⟨_,he⟩,h1,iW.of_below hb⟩
theorem GR(hI:iU b w S P h)(hb:b<=w.heap.size)(hl:P.subs.length<=16)(hl6:P.inbox.length<=64)(id:Int):
 Calls prog 27 #[nV h P,.int .i64 id] w fun e w'=>∃h',e=.returned (.tuple #[nV h' (vM P id).1,.int .i64 (vM P id).2])∧iU b w' S (vM P id).1 h'∧Below w.heap.size w w':=by
 unfold vM;by_cases hy:∃s∈P.subs,s.id=id
 ·rw[if_pos hy];exact Nn b S P h id w hI hb hl hl6 hy
 ·rw[if_neg hy];refine(Q7 b S P h id w hI hb hl hl6 (fun s hs he=>hy ⟨s,hs,he⟩)).mono ?_;rintro e w' ⟨rfl,hbw⟩;exact⟨h,rfl,hI.below hbw,hbw⟩
theorem Iu(al:Al base g w0 w S lev P)(k c b1:Nat)(ok:Nat->Prop)(E:Option Addr)(V:List SV)(pay:ByteArray)(hk:V.length=k)(hrR:Kd.R pI tV w b1 ok (.slice E k c) V)(Oq:P.seq<1073741824):
 Calls prog 12 #[ptr g,kR E k c pay] w fun e w'=>∃v,e=.returned (.tuple #[.int .i64 (ry S P V pay).2.1,v])∧qI w' (ry S P V pay).2.2 v∧Al base g w0 w' S lev (ry S P V pay).1∧iW w w':=by
 have hC:=(Kd.bN hrR).2.2;rw[hk] at hC;unfold ry;cases hx:dV S V pay with
 |some i=>
  refine(Ik al k c E V pay hk hC i hx).mono ?_;rintro e w' ⟨hb,h1,bb,n,rfl,he⟩;exact⟨_,rfl,.inr ⟨_,he⟩,h1,iW.of_below hb⟩
 |none=>
  by_cases h8:8<=P.opn.length
  ·dsimp only;rw[if_pos h8];refine(EY al k c E V pay hk hC hx h8).mono ?_;rintro e w' ⟨hb,h1,bb,n,rfl,he⟩;exact⟨_,rfl,.inr ⟨_,he⟩,h1,iW.of_below hb⟩
  ·dsimp only;rw[if_neg h8];refine(wN al k c b1 ok E V pay hrR hx (by omega) Oq).mono ?_;rintro e w' ⟨rfl,h1,hkn⟩;exact⟨_,rfl,.inl ⟨rfl,rfl⟩,h1,hkn⟩
theorem Hy(hI:iU b w S P h)(hb:b<=w.heap.size)(hS:S.length<=1000)(E:Option Addr)(m e0:Nat)(V:List SV)(pay:ByteArray)(hm:V.length=m)(hV:Kd.R SI UJ w b (fun _=>True) (.slice E m e0) (V.map uE))(hsz:∀x∈V,x.f1.size<=1000000000)(hq0:0<=P.seq)(hq:P.seq<1073741824):
 Calls prog 29 #[nV h P,.slice E m e0,.string pay] w fun e w'=>∃h',e=.returned (.tuple #[nV h' (ry S P V pay).1,.int .i64 (ry S P V pay).2.1,.int .i64 (ry S P V pay).2.2])∧iU b w' S (ry S P V pay).1 h'∧Below w.heap.size w w':=by
 have hC:=(Kd.bN hV).2.2;rw[List.length_map,hm] at hC;unfold ry;cases hx:dV S V pay with
 |some i=>
  refine(M6 b S P h E m e0 V pay i w hI hb hS hm hC hsz hx).mono ?_;rintro e w' ⟨rfl,hbw⟩;exact⟨h,rfl,hI.below hbw,hbw⟩
 |none=>
  by_cases h8:8<=P.opn.length
  ·dsimp only;rw[if_pos h8];refine(KJ b S P h E m e0 V pay w hI hb hS hm hV hsz hx h8).mono ?_;rintro e w' ⟨rfl,hbw⟩;exact⟨h,rfl,hI.below hbw,hbw⟩
  ·dsimp only;rw[if_neg h8];exact Qu b S P h E m e0 V pay w hI hb hS hm hV hsz hx (by omega) hq0 hq
end
end Go.Proofs.YtnmpijbcajclgaaGreatDoor.Mine
end
