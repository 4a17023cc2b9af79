/- Texts of one claim, one behind the other, made short by a program. -/
import Derived.Test.YtnmpijbcajclgaaGreatDoorMA28
import Derived.Test.YtnmpijbcajclgaaGreatDoorCards
import Derived.Test.YtnmpijbcajclgaaGreatDoorTie
import Derived.WalkKit
import Derived.ProofKit
import Derived.OpenShut
import Derived.Deep.DeepHandedRow
import Derived.Lib.LaidTab
import Derived.LaidHandle
import Derived.LaidLaws
import Derived.ChangeVars
import Derived.Carry
import Derived.Stop.LaidErr
namespace Go.Proofs.YtnmpijbcajclgaaGreatDoor.rowAlone
open Go.ChangeShapes Go.WideShapes Go.ChangeAt Go.RowKit Go.Proofs.YtnmpijbcajclgaaGreatDoor.Mine
open Go.ChangeMaps (open_string shut_string)
set_option linter.unusedVariables false
set_option maxRecDepth 100000
theorem own:ownKnob Tryz.prog.godebug=none:=by kernel_rfl
theorem et:Tryz.prog.globalNamed "errors.errorType" =some 0:=by kernel_rfl
theorem rt:(Tryz.prog.cutTypes.find? (·.1== "internal/reflectlite.rtype")).map (·.2)=some 278:=by kernel_rfl
theorem Tf:((List.range 389).filter fun t=>Tryz.prog.rowNamed t [101,114,114,111,114])= [26]:=by kernel_rfl
theorem Xj:Tryz.prog.types.size=389:=by kernel_rfl
theorem zC{W:World}(h:laidMetH Tryz.prog Rows.nodeAloneRow.laid W):iR W:=by
 have h':laidMet Tryz.prog [("math/bits.deBruijn32tab",Rows.laid_math_bits_deBruijn32tab),("math/bits.deBruijn64tab",Rows.laid_math_bits_deBruijn64tab),("internal/strconv.uint64pow10",Rows.laid_internal_strconv_uint64pow10)] W∧handlesMet Tryz.prog [("errors.errorType",Rows.laid_errors_errorType)] W:=h;obtain⟨name,u,ty,e1,e2,e3,e4,e5⟩:=h'.2 _ (List.mem_singleton.2 rfl);have en:name= [101,114,114,111,114]:=(Option.some.inj e1).symm;subst en;obtain rfl:=Option.some.inj (rt.symm.trans e2);have hm:ty∈(List.range 389).filter fun t=>Tryz.prog.rowNamed t [101,114,114,111,114]:=List.mem_filter.2 ⟨List.mem_range.2 (by rw[<-Xj];exact e3),e4⟩
 rw[Tf] at hm;obtain rfl:=List.mem_singleton.1 hm;have hh:typeHandle Tryz.prog 26=.pointer (some ⟨4,26,none⟩):=by kernel_rfl
 rw[hh] at e5;unfold iR
 simpa using World.var?_cell et e5 0
theorem EK{W:World}(h:laidMetH Tryz.prog Rows.nodeAloneRow.laid W):gF W:=by
 have h':laidMet Tryz.prog [("math/bits.deBruijn32tab",Rows.laid_math_bits_deBruijn32tab),("math/bits.deBruijn64tab",Rows.laid_math_bits_deBruijn64tab),("internal/strconv.uint64pow10",Rows.laid_internal_strconv_uint64pow10)] W∧handlesMet Tryz.prog [("errors.errorType",Rows.laid_errors_errorType)] W:=h;have h3:=laidMet.tail (laidMet.tail h'.1);exact Lib.tabIs_of_head (g:=1) (t:=357) (e:=61) (n:=20) (by kernel_rfl) (by kernel_rfl) (by kernel_rfl) (by kernel_rfl) (by kernel_rfl) (by kernel_rfl) h3
def zF:DataW Unit->Array Value
 | .agg l=>(l.map fun| .lit (.int k n)=>Value.int k n|_=>undef).toArray
 |_=> #[]
noncomputable def uR(os:Os):World:=
 {World.holding Tryz.prog os ⟨#[],#[],[]⟩ with heap:=(((((World.holding Tryz.prog os ⟨#[],#[],[]⟩).heap.modify 0 (fun
  | .cells _ t frozen=>.cells #[.iface 278 (.agg #[.pointer (some ⟨4,26,none⟩)])] t frozen
  |o=>o)).modify 2 (fun
  | .cells _ t frozen=>.cells (zF Rows.laid_math_bits_deBruijn32tab) t frozen
  |o=>o)).modify 3 (fun
  | .cells _ t frozen=>.cells (zF Rows.laid_math_bits_deBruijn64tab) t frozen
  |o=>o)).modify 1 (fun
  | .cells _ t frozen=>.cells (zF Rows.laid_internal_strconv_uint64pow10) t frozen
  |o=>o))}
theorem zT(os:Os)(args:Array Value):laidMetH Tryz.prog Rows.nodeAloneRow.laid ((uR os).forCall (fun _ _=>0) ⟨#[],args,[]⟩).memory:=
 laidMetH_of_parts (laidMet_of_run' 40 (by kernel_rfl) (by kernel_rfl)) (by kernel_rfl)
theorem laidOut:laidOutB Tryz.prog=true:=by kernel_rfl
theorem contract(H:Type)(enc:TypeId×Value->H)(W:World)(base:Nat)(args:Array Value)(ds gs:List (DataW H))(before:List MemPlace)
 (hval:∀(j:Nat) t v,Tryz.f7.params[j]? =some t->args[j]? =some v->Value.okWide Tryz.prog W .any base t v)
 (hW:DataW.Whole enc Tryz.prog Tryz.f7.params.toList Rows.nodeAloneSpec.vars false W args.toList ds gs before) (hL:laidMetH Tryz.prog Rows.nodeAloneRow.laid W):
 Calls Tryz.prog 7 args W fun e W'=>∃v,e=.returned v∧Rows.nodeAloneSpec.post enc Tryz.prog Tryz.f7 false true false false W args v W':=by
 have hW':=hW;obtain⟨p,q,hA0,hV,rfl,hfz,hnd⟩:=hW;have hA:DataW.TrodAll enc Tryz.prog W 0 (fun _=>true) true Tryz.f7.params.toList args.toList ds p:=hA0;rw[Tryz.params7] at hA hval;obtain⟨v0,vs0,d0,ds0,p0,q0,hargs,rfl,rfl,h0,r0⟩:=trodAll_cons hA;obtain⟨v1,vs1,d1,ds1,p1,q1,rfl,rfl,rfl,h1,r1⟩:=trodAll_cons r0;obtain⟨v2,vs2,d2,ds2,p2,q2,rfl,rfl,rfl,h2,r2⟩:=trodAll_cons r1;obtain⟨v3,vs3,d3,ds3,p3,q3,rfl,rfl,rfl,h3,r3⟩:=trodAll_cons r2;obtain⟨rfl,rfl,rfl⟩:=trodAll_nil r3;obtain rfl:args= #[v0,v1,v2,v3]:=by cases args;simp_all
 obtain⟨rfl,rfl⟩:=trodVars_none hV;have lt1:∀x∈p1,x.block<W.heap.size:=by
  obtain⟨m,hm⟩:=h1;exact DataW.trod_lt m _ _ _ hm
 have lt3:∀x∈p3,x.block<W.heap.size:=by
  obtain⟨m,hm⟩:=h3;exact DataW.trod_lt m _ _ _ hm
 obtain⟨a,rfl,rfl,rfl,ha⟩:=open_int Tryz.underlying3 (hval 0 3 v0 rfl rfl) h0;obtain⟨A,n,c,L,rfl,hn,hnc,hcm,hC,hx⟩:=Eh (hval 1 32 v1 rfl rfl) h1;obtain⟨l,rfl,rfl,rfl,hl⟩:=open_int Tryz.underlying3 (hval 2 3 v2 rfl rfl) h2;obtain⟨AA,na,ca,acts,rfl,hna,hca,hac⟩:=KC (hval 3 65 v3 rfl rfl) h3;have hmx:maxLen=9223372036854775807:=rfl;refine(EN a l A AA n c na ca L acts W hn hC hnc (fun p hp=>by have:=(hx p hp).1;omega) (by omega) hac (EK hL) (zC hL)).mono fun e W' ⟨he,hb⟩=> ?_
 subst he;refine⟨_,rfl,_,_,_,[],[]++(p1++([]++(p3++ []))),[],hW', ?_, ?_, ?_,hb.frame _,fun h=>by cases h⟩
 ·exact trodAll_cons_mk (shut_bool Tryz.underlying4 true) trodAll_mk0
 ·exact trodAll_cons_mk (shut_int Tryz.underlying3 ha) (trodAll_cons_mk (Below.trod laidOut (by kernel_rfl) (of_decide_eq_true (by kernel_rfl)) h1 hb lt1) (trodAll_cons_mk (shut_int Tryz.underlying3 hl) (trodAll_cons_mk (Below.trod laidOut (by kernel_rfl) (of_decide_eq_true (by kernel_rfl)) h3 hb lt3) trodAll_mk0)))
 ·rfl
theorem j1:(Rows.nodeAloneRow.inPlace==Tryz.pinned.checked.prog.inPlace 7)=true:=by kernel_rfl
theorem j2:(Rows.nodeAloneRow.unfollowed==Tryz.pinned.checked.prog.unfollowed 7)=true:=by kernel_rfl
theorem j3:(Rows.nodeAloneRow.recurses==Tryz.pinned.checked.prog.recurses 7)=true:=by kernel_rfl
theorem j4:(Rows.nodeAloneRow.named==Tryz.pinned.checked.prog.varsNamed 7)=true:=by kernel_rfl
theorem j5:joinedFacts Tryz.pinned.checked.prog 7 Tryz.f7 (OpenSpec.ofChange Rows.nodeAloneSpec).bare Rows.nodeAloneRow=true:=by
 unfold joinedFacts
 repeat' (with_reducible refine Bool.and_eq_true_iff.2 ⟨?_, ?_⟩)
 all_goals first|(with_reducible exact j1)|(with_reducible exact j2)|(with_reducible exact j3)|(with_reducible exact j4)|kernel_rfl
theorem reads(os:Os){H:Type}(enc:TypeId×Value->H):∃places,DataW.whole enc Tryz.prog ((uR os).forCall (fun _ _=>0) ⟨#[],#[.int .i64 0,.slice none 0 0,.int .i64 0,.slice none 0 0],[]⟩).memory Tryz.f7.params.toList Rows.nodeAloneSpec.vars false (#[.int .i64 0,.slice none 0 0,.int .i64 0,.slice none 0 0]).toList 8=some ([.lit (.int .i64 0),.nil,.lit (.int .i64 0),.nil],[],places):=
 ⟨[],by kernel_rfl⟩
theorem lifted(os:Os)(started:os.Started)(H:Type)(enc:TypeId×Value->H)(F:Stop.Interp):
 ReturnsInHanded {} Tryz.checked os 7 .any ((OpenSpec.ofChange Rows.nodeAloneSpec).preRow enc Tryz.prog Tryz.f7 Rows.nodeAloneRow.domain false Rows.nodeAloneRow.laid) (((OpenSpec.ofChange Rows.nodeAloneSpec).at F).post enc Tryz.prog Tryz.f7 false true false false):=by
 obtain⟨places,hx⟩:=reads os enc;refine returnsInHanded_of_row (C:=Tryz.checked) (s:=OpenSpec.ofChange Rows.nodeAloneSpec) own started (by kernel_rfl) Tryz.func7
  (witness_row_at (enc:=enc) (C:=Tryz.checked) false (uR os) #[.int .i64 0,.slice none 0 0,.int .i64 0,.slice none 0 0] rfl (by kernel_rfl) (by kernel_rfl) (by kernel_rfl)
   (OpenSpec.preRow_of_cond 8 hx (by kernel_rfl) (fun k hk=>by cases hk) (by kernel_rfl) (zT os _))) ?_
 intro W base args ds gs before hval hW _ _ _ hL _ _;exact contract H enc W base args ds gs before hval hW hL
theorem said:Rows.NodeAloneSaid:=
 OpenClaim.holds_of_cond 7 Tryz.f7 rfl rfl rfl rfl rfl rfl rfl ⟨rfl,rfl,rfl,rfl,rfl⟩ rfl rfl rfl rfl rfl (by kernel_rfl) Tryz.func7 j5
  (of_decide_eq_true (by kernel_rfl)) (by unfold Func.isWrapper;first|(rw[if_pos (by decide+kernel)];kernel_rfl)|(rw[if_neg (by decide+kernel)];exact⟨rfl,rfl⟩))
  (fun os started H enc _ F=>by rw[OpenClaim.pre_eq_preRow];exact lifted os started H enc F)
theorem plain(f:FuncId)(fn:Func)(hf:Tryz.pinned.checked.prog.funcNamed "wigwag/wigwaglaw16.NodeAlone" =some f)(hfn:Tryz.pinned.checked.prog.funcs[f]? =some fn):
 true=Tryz.pinned.checked.prog.looks []∧∀(j:Nat) t,fn.params[j]? =some t->Tryz.pinned.checked.prog.wantsStandIn t=false:=by
 obtain rfl:f=7:=Option.some.inj ((show Tryz.prog.funcNamed "wigwag/wigwaglaw16.NodeAlone" =some 7 by kernel_rfl).symm.trans hf) |>.symm
 obtain rfl:fn=Tryz.f7:=(Option.some.inj (Tryz.func7.symm.trans hfn)).symm;refine⟨by kernel_rfl,fun j t ht=> ?_⟩;rw[Tryz.params7] at ht;have ht':=Array.mem_of_getElem? ht;simp at ht';have h9:Tryz.prog.wantsStandIn 65=false:=(by kernel_rfl);have h5:Tryz.prog.wantsStandIn 32=false:=(by kernel_rfl);have h3:Tryz.prog.wantsStandIn 3=false:=(by kernel_rfl);rcases ht' with rfl|rfl|rfl|rfl;exact h3;exact h5;exact h3;exact h9
theorem card:Rows.NodeAloneCardSaid:=
 Claim7.holds_tied_plain_at .later [] _ _ _ _ said (fun _ h=>by cases h) (by kernel_rfl) (fun _ h=>by cases h) nodeAlone_row_tie rfl ⟨rfl,rfl⟩ (by kernel_rfl) rfl plain (by kernel_rfl)
end Go.Proofs.YtnmpijbcajclgaaGreatDoor.rowAlone
