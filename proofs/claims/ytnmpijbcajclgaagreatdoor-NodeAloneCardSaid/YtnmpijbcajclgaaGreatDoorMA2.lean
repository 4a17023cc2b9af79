/- Texts of one claim, one behind the other, made short by a program. -/
import Derived.Test.YtnmpijbcajclgaaGreatDoorMA1
import Derived.OrdersHeld
import Derived.Laws.BitsLemmas
import Derived.Laws.StructEq
set_option linter.unusedSimpArgs false
set_option linter.unusedVariables false
section
namespace Go.Proofs.YtnmpijbcajclgaaGreatDoorW.PrintLast
section
variable{P:Program}{ops:Array Oper}{Q:Exit->Act->World->Prop}{md:Region.Mode}{S:World->Prop}{ds:List Nat}
def Region.LV(md:Region.Mode)(ops:Array Oper)(i:Nat):Nat->Nat->Bool
 |0,_=>false
 |fuel+1,d=>match ops[d]? with
  |some o=>o.after.any fun e=>Region.binds md e&&(e.on==i||Region.LV md ops i fuel e.on)
  |none=>false
def Region.lastB(md:Region.Mode)(ops:Array Oper)(listed:Array Bool)(ds:List Nat)(i:Nat):Bool:=
 ds.all fun d=>listed.getD d true||Region.LV md ops i ops.size d
def oH(md:Region.Mode)(ops:Array Oper)(listed:Array Bool):Prop:=
 ∀j oj,ops[j]? =some oj->listed.getD j false=true->∀e∈oj.after,Region.binds md e=true->listed.getD e.on false=true
theorem oH.set{listed:Array Bool}{i:Nat}(h:oH md ops listed)(hi:i∈Region.ready md ops listed):oH md ops (listed.setIfInBounds i true):=by
 obtain⟨_,oi,hoi,hall⟩:=mem_ready.1 hi;intro j oj hj hl e he hb;by_cases hij:i=j
 ·subst hij;have:oj=oi:=Option.some.inj (hj.symm.trans hoi);subst this;exact getD_set_true (hall e he hb)
 ·rw[getD_set_ne false hij] at hl;exact getD_set_true (h j oj hj hl e he hb)
def eB(P:Program)(md:Region.Mode)(ops:Array Oper)(Q:Exit->Act->World->Prop)(S:World->Prop)(ds:List Nat):Nat->Array Bool->Act->World->Prop
 |0,listed,a,w=>Region.ready md ops listed= []∧Q .normal a w
 |fuel+1,listed,a,w=>
  (Region.ready md ops listed= []->Q .normal a w)∧
  ∀i∈Region.ready md ops listed,wpOp P ops Q i (fun a' w'=>(i ∉ ds->S w->S w')∧eB P md ops Q S ds fuel (listed.setIfInBounds i true) a' w') a w
theorem zW{rs:List Nat}{fuel:Nat}{listed:Array Bool}{a:Act}{w:World}(hr:Region.ready md ops listed=rs)(hne:rs≠ [])
 (h:∀i∈rs,wpOp P ops Q i (fun a' w'=>(i ∉ ds->S w->S w')∧eB P md ops Q S ds fuel (listed.setIfInBounds i true) a' w') a w):eB P md ops Q S ds (fuel+1) listed a w:=
 ⟨fun h0=>absurd (hr▸h0) hne,hr▸h⟩
end
section
variable{P:Program}{ops:Array Oper}{Q:Exit->Act->World->Prop}{md:Region.Mode}{S:World->Prop}{ds:List Nat}
def fK(P:Program)(md:Region.Mode)(ops:Array Oper)(Q:Exit->Act->World->Prop)(S:World->Prop)(ds:List Nat)(fuel:Nat)(listed:Array Bool)(a:Act)(w:World)(rs:List Nat):Prop:=
 ∀i∈rs,wpOp P ops Q i (fun a' w'=>(i ∉ ds->S w->S w')∧eB P md ops Q S ds fuel (listed.setIfInBounds i true) a' w') a w
theorem fK.nil{fuel:Nat}{listed:Array Bool}{a:Act}{w:World}:fK P md ops Q S ds fuel listed a w []:=fun _ h=>by cases h
theorem fK.cons{fuel:Nat}{listed:Array Bool}{a:Act}{w:World}{i:Nat}{o:Oper}{rs:List Nat}(ho:ops[i]? =some o)(hd:i ∉ ds)
 (h:∀K':Act->World->Prop,Shut (∀a w,S w->(S w->eB P md ops Q S ds fuel (listed.setIfInBounds i true) a w)->K' a w)->if Region.wanted o (yielded ops a.tmps)=true then Oper.wp P o a w K' Q else K' (a.put o.dst undef) w)
 (hs:fK P md ops Q S ds fuel listed a w rs):fK P md ops Q S ds fuel listed a w (i::rs):=fun j hj=>by
 rcases List.mem_cons.1 hj with rfl|hj
 ·exact wpOp_step ho (fun K' hK=>h K' (fun a w hS hW=>hK a w ⟨fun _ _=>hS,hW hS⟩))
 ·exact hs j hj
theorem lU{rs:List Nat}{fuel:Nat}{listed:Array Bool}{a:Act}{w:World}(hr:Region.ready md ops listed=rs)(hne:rs≠ [])
 (h:fK P md ops Q S ds fuel listed a w rs):eB P md ops Q S ds (fuel+1) listed a w:=zW hr hne h
def O8(md:Region.Mode)(ops:Array Oper)(l l':Array Bool)(i:Nat):Bool:=(Region.ready md ops l== [i])&&(l.setIfInBounds i true==l')
theorem ad5{i:Nat}{N:Option Tmp}{oi:Oper}{fuel:Nat}{l:Array Bool}{a:Act}{w:World}(l':Array Bool)(hi:ops[i]? =some oi)(hN:oi.dst=N)(hc:O8 md ops l l' i=true)(hd:i ∉ ds)
 (h:∀K:Act->World->Prop,Shut (∀a' w',S w'->(S w'->eB P md ops Q S ds fuel l' a' w')->K a' w')->if Region.wanted oi (yielded ops a.tmps)=true then Oper.wp P oi a w K Q else K (a.put N undef) w):
 eB P md ops Q S ds (fuel+1) l a w:=by
 subst hN;simp only[O8,Bool.and_eq_true,beq_iff_eq] at hc;obtain⟨h1,h2⟩:=hc;subst h2;exact lU h1 (by simp) (fK.cons hi hd (fun K hK=>h K hK) fK.nil)
theorem adr{i j:Nat}{Ni Nj:Option Tmp}{oi oj:Oper}{fuel:Nat}{l:Array Bool}{a:Act}{w:World}(li lj:Array Bool)(hi:ops[i]? =some oi)(hj:ops[j]? =some oj)(hNi:oi.dst=Ni)(hNj:oj.dst=Nj)
 (hc:(Region.ready md ops l== [i,j]&&l.setIfInBounds i true==li&&l.setIfInBounds j true==lj)=true) (hdi:i ∉ ds) (hdj:j ∉ ds)
 (h1:∀K:Act->World->Prop,Shut (∀a' w',S w'->(S w'->eB P md ops Q S ds fuel li a' w')->K a' w')->if Region.wanted oi (yielded ops a.tmps)=true then Oper.wp P oi a w K Q else K (a.put Ni undef) w)
 (h2:∀K:Act->World->Prop,Shut (∀a' w',S w'->(S w'->eB P md ops Q S ds fuel lj a' w')->K a' w')->if Region.wanted oj (yielded ops a.tmps)=true then Oper.wp P oj a w K Q else K (a.put Nj undef) w):
 eB P md ops Q S ds (fuel+1) l a w:=by
 subst hNi;subst hNj;simp only[Bool.and_eq_true,beq_iff_eq] at hc;obtain⟨⟨h3,h4⟩,h5⟩:=hc;subst h4;subst h5;exact lU h3 (by simp) (fK.cons hi hdi (fun K hK=>h1 K hK) (fK.cons hj hdj (fun K hK=>h2 K hK) fK.nil))
theorem ZZ{i j k:Nat}{Ni Nj Nk:Option Tmp}{oi oj ok:Oper}{fuel:Nat}{l:Array Bool}{a:Act}{w:World}(li lj lk:Array Bool)(hi:ops[i]? =some oi)(hj:ops[j]? =some oj)(hk:ops[k]? =some ok)(hNi:oi.dst=Ni)(hNj:oj.dst=Nj)(hNk:ok.dst=Nk)
 (hc:(Region.ready md ops l== [i,j,k]&&l.setIfInBounds i true==li&&l.setIfInBounds j true==lj&&l.setIfInBounds k true==lk)=true) (hdi:i ∉ ds) (hdj:j ∉ ds) (hdk:k ∉ ds)
 (h1:∀K:Act->World->Prop,Shut (∀a' w',S w'->(S w'->eB P md ops Q S ds fuel li a' w')->K a' w')->if Region.wanted oi (yielded ops a.tmps)=true then Oper.wp P oi a w K Q else K (a.put Ni undef) w)
 (h2:∀K:Act->World->Prop,Shut (∀a' w',S w'->(S w'->eB P md ops Q S ds fuel lj a' w')->K a' w')->if Region.wanted oj (yielded ops a.tmps)=true then Oper.wp P oj a w K Q else K (a.put Nj undef) w)
 (h3:∀K:Act->World->Prop,Shut (∀a' w',S w'->(S w'->eB P md ops Q S ds fuel lk a' w')->K a' w')->if Region.wanted ok (yielded ops a.tmps)=true then Oper.wp P ok a w K Q else K (a.put Nk undef) w):
 eB P md ops Q S ds (fuel+1) l a w:=by
 subst hNi;subst hNj;subst hNk;simp only[Bool.and_eq_true,beq_iff_eq] at hc;obtain⟨⟨⟨h4,h5⟩,h6⟩,h7⟩:=hc;subst h5;subst h6;subst h7;exact lU h4 (by simp) (fK.cons hi hdi (fun K hK=>h1 K hK) (fK.cons hj hdj (fun K hK=>h2 K hK) (fK.cons hk hdk (fun K hK=>h3 K hK) fK.nil)))
def H9:Act->List (Tmp×Value)->Act
 |a,[]=>a
 |a,(n,v)::r=>H9 (a.put (some n) v) r
theorem aci{σ:Type}{fuel:Nat}{l:Array Bool}{a:Act}{w:World}(fuel':Nat)(l':Array Bool)(ns:σ->List (Tmp×Value))(F:σ->World->Prop)
 (hcont:∀s w',F s w'->eB P md ops Q S ds fuel' l' (H9 a (ns s)) w')
 (h:(∀s w',F s w'->eB P md ops Q S ds fuel' l' (H9 a (ns s)) w')->eB P md ops Q S ds fuel l a w):eB P md ops Q S ds fuel l a w:=h hcont
theorem QO{f:FuncId}{fn:Func}(hf:P.funcs[f]? =some fn)(hname:(fn.name== "runtime.NumGoroutine")=false)(hb:fn.body.isSome=true)(args:Array Value)(w:World):(callFunc f args).run P w=.ok (.enter f args) w:=by
 have h1:fn.name≠ "runtime.NumGoroutine" :=by simpa using hname
 obtain⟨c,hc⟩:=Option.isSome_iff_exists.1 hb;simp[callFunc,hf,h1,hc]
theorem TH{rest:List Oper}{oi:Oper}{a:Act}{w:World}(N:Option Tmp)(hd:oi.dst=N)(hg:oi.guard=none){f:FuncId}{fn:Func}{as:Array Operand}{ts:Array TypeId}(hf:P.funcs[f]? =some fn)(hname:(fn.name== "runtime.NumGoroutine")=false)(hb:fn.body.isSome=true)(args:Array Value)
 (hop:oi.op=.call {callee:=.value (.func f),args:=as,argTypes:=ts}) (hargs:as.map a.eval=args)
 (h:Calls P f args w fun e w'=>∃v,e=.returned v∧wpList P ops Q rest (a.put N v) w'):wpList P ops Q (oi::rest) a w:=by
 refine wpList_plain hg fun K hK=> ?_
 have he:=QO hf hname hb args w;have hrun:(execOp a.eval oi).run P w=.ok (.enter f args) w:=by
  unfold execOp;simp[hop,resolve,Deferred.ofValue,invoke,Act.eval,hargs,he]
 unfold Oper.wp;rw[hrun,Oper.upon_enter];refine h.mono fun e w'' hh=> ?_
 obtain⟨v,rfl,hk⟩:=hh;subst hd;exact hK _ _ hk
theorem JB(n:Int):IntKind.i64.wrap n=Go.RowKit.wrap64 n:=by unfold Go.RowKit.wrap64;exact IntKind.wrap_i64 n
theorem JC(n:Int):IntKind.i32.wrap n=Go.RowKit.wrap32 n:=by unfold Go.RowKit.wrap32;exact IntKind.wrap_i32 n
end
open Go.Proofs.YtnmpijbcajclgaaGreatDoorW.PrintWords (ay ai)
section
variable{md:Region.Mode}{ops:Array Oper}{T:Bool×List (List Nat×List Nat)}{l l' li lj lk:Array Bool}{ds:List Nat}{i j k:Nat}
theorem gd(l:Array Bool)(j:Nat)(b:Bool):l.getD j b=l.toList.getD j b:=by simp[Array.getD_eq_getD_getElem?,List.getD_eq_getElem?_getD]
end
section
variable{P:Program}{ops:Array Oper}{Q:Exit->Act->World->Prop}{md:Region.Mode}{S:World->Prop}{ds:List Nat}{T:Bool×List (List Nat×List Nat)}
end
end Go.Proofs.YtnmpijbcajclgaaGreatDoorW.PrintLast
end
section
namespace Go.Proofs.YtnmpijbcajclgaaGreatDoorW.PrintWords
open Go.RowKit
namespace Kd
section
variable{α:Type}{d:Kd α}{e base g o n cap:Nat}{ok okp:Nat->Prop}{w W:World}{v:Value}{xs:List α}
theorem aaO(h:d.Q e w base ok v xs)(hp:0<xs.length):∃g o cap,v=.slice (some ⟨g,o,none⟩) xs.length cap∧base<=g∧g<w.heap.size∧∃cells,w.heap[g]? =some (.cells cells e (0,0)):=by
 obtain⟨h0,inner,hq,hr⟩:=h;rcases hq.2 with⟨h1,_⟩|⟨g,off,cap,cur,rfl,hb,hh,r⟩
 ·omega
 ·exact⟨g,off*d.sz,cap,rfl,hb,aI hh,cur,hh⟩
theorem Mw(h:d.Q e W base ok (.slice (some ⟨g,o,none⟩) n cap) xs)(z:α)(i:Int)(h0:0<=i)(h1:i<n):
 ∃c,c.length=d.sz∧d.M W base (fun k=>ok k∧k≠g) (xs.getD i.toNat z) c∧(∀j u,c[j]? =some u->W.cell? ⟨g,o+i.toNat*d.sz+j,none⟩=some u)∧∀j,W.frozen? ⟨g,o+i.toNat*d.sz+j,none⟩=false:=by
 obtain⟨hn,hnc,hC⟩:=ze h;obtain⟨_,inner,ho,hr⟩:=h;have hil:i.toNat<xs.length:=by omega
 have hseg:i.toNat*d.sz+d.sz<=inner.length:=by rw[hr.1,<-Nat.succ_mul];exact Nat.mul_le_mul_right _ hil
 have hM:=hr.2 i.toNat _ (List.getElem?_eq_getElem hil);refine⟨(inner.drop (i.toNat*d.sz)).take d.sz,by rw[List.length_take,List.length_drop];omega, ?_,fun j u hu=> ?_,fun j=> ?_⟩
 ·rw[List.getD_eq_getElem?_getD,List.getElem?_eq_getElem hil];exact d.M_mono (fun k hk=>⟨hk.1,fun he=>hk.2 (by rw[he];simp[Value.ownBlock])⟩) hM
 ·rw[List.getElem?_take] at hu;split at hu
  ·rw[List.getElem?_drop] at hu;subst hn;obtain⟨ad,he,hc⟩:=Ju ho (by omega);injection he with he;subst he;have:=hc _ u hu
   rwa [MQ,<-Nat.add_assoc] at this
  ·cases hu
 ·obtain⟨_,cells,hc⟩:=PM ho g (by simp[Value.ownBlock]);exact af hc _
theorem Ws(h:d.Q e W base ok (.slice (some ⟨g,o,none⟩) n cap) xs)(i:Int)(h0:0<=i)(h1:i<n){c seg:List Value}{j:Nat}(hcl:c.length=d.sz)(hcc:∀j u,c[j]? =some u->W.cell? ⟨g,o+i.toNat*d.sz+j,none⟩=some u)
 (hj:j+seg.length<=d.sz) {x':α} (hM:d.M W base okp x' (c.take j++seg++c.drop (j+seg.length))) (hokp:∀k,okp k->ok k∧k≠g):
 d.Q e (W.setCells g (o+i.toNat*d.sz+j) seg) base ok (.slice (some ⟨g,o,none⟩) n cap) (xs.set i.toNat x')∧W.grownBy (W.setCells g (o+i.toNat*d.sz+j) seg) (some g):=by
 obtain⟨hn,hnc,_⟩:=ze h;obtain⟨hok,inner,ho,hr⟩:=h;have hil:i.toNat<xs.length:=by omega
 have hseg:i.toNat*d.sz+d.sz<=inner.length:=by rw[hr.1,<-Nat.succ_mul];exact Nat.mul_le_mul_right _ hil
 have hin:inner.length=n*d.sz:=by rw[hr.1,hn]
 obtain⟨ho1,ho2⟩:=ho;rcases ho2 with⟨hz,_⟩|⟨g',off,cap',cur,hv,hb,hh,hnc',hcm,hcs,ht⟩
 ·omega
 injection hv with ha _ hc;injection ha with ha;injection ha with hg hoff;subst hg;subst hc;subst hoff;have hcap:n*d.sz<=cap*d.sz:=Nat.mul_le_mul_right _ hnc;have hcs':cur.size=off*d.sz+cap*d.sz:=by rw[hcs,Nat.add_mul]
 have hfit:off*d.sz+i.toNat*d.sz+j+seg.length<=cur.size:=by omega
 obtain⟨cur',h3,h4,h5⟩:=kH seg (off*d.sz+i.toNat*d.sz+j) W cur hh hfit;obtain⟨s1,s2,s3,s4⟩:=jG g seg (off*d.sz+i.toNat*d.sz+j) W;have Hf:∀k,k≠g->(W.setCells g (off*d.sz+i.toNat*d.sz+j) seg).heap[k]? =W.heap[k]? :=fun k hk=>ic seg _ k hk
 rw[<-hn] at ht;have hat:∀q,q<n*d.sz->cur.toList[off*d.sz+q]? =inner[q]? :=by
  intro q hq;rw[<-ht,List.getElem?_take,if_pos hq,List.getElem?_drop]
 have Ta:∀q,q<d.sz->c[q]? =inner[i.toNat*d.sz+q]? :=by
  intro q hq;have hq':q<c.length:=by omega
  have h6:=hcc q _ (List.getElem?_eq_getElem hq');rw[cell_of_row W g _ cur e (0,0) hh] at h6;rw[List.getElem?_eq_getElem hq',<-h6,<-hat _ (by omega),Array.getElem?_toList,Nat.add_assoc]
 refine⟨⟨hok,inner.take (i.toNat*d.sz+j)++seg++inner.drop (i.toNat*d.sz+j+seg.length),⟨?_,.inr ⟨g,off,cap,cur',by rw[List.length_set,hn],hb,h3,by rw[List.length_set,<-hn];exact hnc,hcm,by rw[h4,hcs], ?_⟩⟩, ?_⟩,
  ⟨s1,s2,s3,by rw[s4];exact Nat.le_refl _,fun k _ hk=>Hf k (fun he=>hk (by rw[he]))⟩⟩
 ·rw[List.length_set];simp only[List.length_append,List.length_take,List.length_drop];rw[hr.1] at hseg|-;omega
 ·rw[List.length_set,<-hn];apply List.ext_getElem?;intro q;rw[List.getElem?_take,List.getElem?_drop,h5];rw[kW cur.toList seg (off*d.sz+i.toNat*d.sz+j) (by rw[Array.length_toList];omega) (off*d.sz+q),kW inner seg (i.toNat*d.sz+j) (by omega) q];by_cases hq:q<n*d.sz
  ·rw[if_pos hq];by_cases hq1:q<i.toNat*d.sz+j
   ·rw[if_pos (by omega),if_pos hq1,hat q hq]
   ·rw[if_neg (by omega),if_neg hq1];by_cases hq2:q<i.toNat*d.sz+j+seg.length
    ·rw[if_pos (by omega),if_pos hq2]
     congr 1
     omega
    ·rw[if_neg (by omega),if_neg hq2,hat q hq]
  ·rw[if_neg hq,if_neg (by omega),if_neg (by omega),List.getElem?_eq_none (by omega)]
 ·refine⟨?_,fun m p hm=> ?_⟩
  ·rw[List.length_set];simp only[List.length_append,List.length_take,List.length_drop];rw[hr.1] at hseg|-;omega
  ·have Kn:m<xs.length:=by
    have:=(List.getElem?_eq_some_iff.1 hm).1
    rwa [List.length_set] at this
   have WY:m*d.sz+d.sz<=inner.length:=by rw[hr.1,<-Nat.succ_mul];exact Nat.mul_le_mul_right _ Kn
   have hgo:some g=(Value.slice (some ⟨g,off*d.sz,none⟩) n cap).ownBlock:=by simp[Value.ownBlock]
   by_cases zP:m=i.toNat
   ·subst zP;rw[List.getElem?_set_self (by omega)] at hm;injection hm with hm;subst hm;have hcells:((inner.take (i.toNat*d.sz+j)++seg++inner.drop (i.toNat*d.sz+j+seg.length)).drop (i.toNat*d.sz)).take d.sz=c.take j++seg++c.drop (j+seg.length):=by
     apply List.ext_getElem?;intro q;rw[List.getElem?_take,List.getElem?_drop,kW inner seg _ (by omega),kW c seg j (by omega) q];by_cases hq:q<d.sz
     ·rw[if_pos hq,Ta q hq];by_cases hq1:q<j
      ·rw[if_pos (by omega),if_pos hq1]
      ·rw[if_neg (by omega),if_neg hq1];by_cases hq2:q<j+seg.length
       ·rw[if_pos (by omega),if_pos hq2]
        congr 1
        omega
       ·rw[if_neg (by omega),if_neg hq2]
     ·rw[if_neg hq,if_neg (by omega),if_neg (by omega),List.getElem?_eq_none (by omega)]
    rw[hcells];refine d.M_mono (fun k hk=> ?_) (d.M_move (w1:=W.setCells g (off*d.sz+i.toNat*d.sz+j) seg) (fun k hk=>Hf k (hokp k hk).2) hM);exact⟨(hokp k hk).1,fun he=>(hokp k hk).2 (by rw[<-hgo] at he;injection he)⟩
   ·rw[List.getElem?_set_ne (by omega)] at hm;have hold:=hr.2 m p hm;have hcells:((inner.take (i.toNat*d.sz+j)++seg++inner.drop (i.toNat*d.sz+j+seg.length)).drop (m*d.sz)).take d.sz=(inner.drop (m*d.sz)).take d.sz:=by
     apply List.ext_getElem?;intro q;rw[List.getElem?_take,List.getElem?_take,List.getElem?_drop,List.getElem?_drop,kW inner seg _ (by omega)];by_cases hq:q<d.sz
     ·rw[if_pos hq,if_pos hq];rcases Nat.lt_or_gt_of_ne zP with hlt|hgt
      ·have:m*d.sz+d.sz<=i.toNat*d.sz:=by rw[<-Nat.succ_mul];exact Nat.mul_le_mul_right _ hlt
       rw[if_pos (by omega)]
      ·have:i.toNat*d.sz+d.sz<=m*d.sz:=by rw[<-Nat.succ_mul];exact Nat.mul_le_mul_right _ hgt
       rw[if_neg (by omega),if_neg (by omega)]
     ·rw[if_neg hq,if_neg hq]
    rw[hcells];refine d.M_move (fun k hk=>Hf k (fun he=>hk.2 (by rw[he];exact hgo))) hold
end
section
variable{α:Type}{enc:α->Value}{h1:∀x,(enc x).oneCell'=true}{e base g o n cap:Nat}{ok:Nat->Prop}{W:World}{xs:List α}
theorem abo(d:α)(h:(scalar enc h1).Q e W base ok (.slice (some ⟨g,o,none⟩) n cap) xs)(i:Int)(h0:0<=i)(hi:i<n):W.cell? ⟨g,o+i.toNat,none⟩=some (enc (Wd d xs i))∧W.frozen? ⟨g,o+i.toNat,none⟩=false:=by
 obtain⟨c,_,hM,hcc,hf⟩:=Mw h d i h0 hi;have hM':c= [enc (xs.getD i.toNat d)]:=hM;subst hM';have h2:=hcc 0 _ rfl;have h3:=hf 0;rw[show (scalar enc h1).sz=1 from rfl,Nat.mul_one,Nat.add_zero] at h2 h3;exact⟨h2,h3⟩
theorem aaw(h:(scalar enc h1).Q e W base ok (.slice (some ⟨g,o,none⟩) n cap) xs)(i:Int)(h0:0<=i)(hi:i<n)(x:α):(scalar enc h1).Q e (W.setCell ⟨g,o+i.toNat,none⟩ (enc x)) base ok (.slice (some ⟨g,o,none⟩) n cap) (xs.set i.toNat x)∧W.grownBy (W.setCell ⟨g,o+i.toNat,none⟩ (enc x)) (some g):=by
 have hp:0<xs.length:=by have:=(ze h).1;omega
 obtain⟨c,hcl,_,hcc,_⟩:=Mw h (xs[0]'hp) i h0 hi;have h2:=Ws h i h0 hi (c:=c) (seg:= [enc x]) (j:=0) (okp:=fun _=>False) (x':=x) hcl hcc (Nat.le_refl 1) (by
  have hl:c.length=1:=hcl;show c.take 0++ [enc x]++c.drop (0+1)= [enc x];rw[List.drop_eq_nil_of_le (by omega)];rfl) (fun _ hk=>hk.elim)
 rw[show (scalar enc h1).sz=1 from rfl,Nat.mul_one,Nat.add_zero] at h2;exact h2
end
end Kd
end Go.Proofs.YtnmpijbcajclgaaGreatDoorW.PrintWords
end
section
namespace Go.Proofs.YtnmpijbcajclgaaGreatDoorW.PrintWords
open Go.RowKit
namespace Kd
def tag{α:Type}(f:Nat->Nat)(d:Kd α):Kd (α×Nat) where
 sz:=d.sz
 E:=d.E
 K:=fun w x cs=>d.K w x.1 cs
 M:=fun w base ok x cs=>d.M w base (fun k=>ok k∧f k=x.2) x.1 cs
 K_len:=fun h=>d.K_len h
 K_one:=fun h=>d.K_one h
 K_below:=fun hb h=>d.K_below hb h
 K_of_M:=fun h=>d.K_of_M h
 M_mono:=fun hok h=>d.M_mono (fun k hk=>⟨hok k hk.1,hk.2⟩) h
 M_bound:=fun h=>d.M_mono (fun _ hk=>⟨⟨hk.1.1,hk.2⟩,hk.1.2⟩) (d.M_bound h)
 M_move:=fun hm h=>d.M_move (fun k hk=>hm k hk.1) h
 M_lower:=fun hb h=>d.M_lower hb h
def bare{α:Type}(d:Kd α):Kd α where
 sz:=d.sz
 E:=d.E
 K:=d.K
 M:=fun w base _ x cs=>d.M w base (fun _=>False) x cs
 K_len:=fun h=>d.K_len h
 K_one:=fun h=>d.K_one h
 K_below:=fun hb h=>d.K_below hb h
 K_of_M:=fun h=>d.K_of_M h
 M_mono:=fun _ h=>h
 M_bound:=fun h=>h
 M_move:=fun _ h=>d.M_move (fun _ hk=>hk.elim) h
 M_lower:=fun hb h=>d.M_lower hb h
def raw(sz:Nat):Kd (List Value) where
 sz:=sz
 E:= []
 K:=fun _ x cs=>cs=x∧cs.length=sz∧∀u∈cs,u.oneCell'=true
 M:=fun _ _ _ x cs=>cs=x∧cs.length=sz∧∀u∈cs,u.oneCell'=true
 K_len:=fun h=>h.2.1
 K_one:=fun h=>h.2.2
 K_below:=fun _ h=>h
 K_of_M:=fun h=>h
 M_mono:=fun _ h=>h
 M_bound:=fun h=>h
 M_move:=fun _ h=>h
 M_lower:=fun _ h=>h
def S{α:Type}(d:Kd α)(e:Nat)(w:World)(base:Nat)(ok:Nat->Prop)(v:Value)(xs:List α):Prop:=∃f,(tag f d).R e w base ok v xs.zipIdx
section
variable{α β:Type}{d:Kd α}{d':Kd β}{e e':Nat}{w w1 W:World}{base b:Nat}{ok ok' okv oku:Nat->Prop}{u v:Value}{xs:List α}{ys:List β}
end
section
variable{α β:Type}{d:Kd α}{d':Kd β}{e e' g:Nat}{w w1 W:World}{base b:Nat}{ok ok' okv oku:Nat->Prop}{u v:Value}{xs:List α}{ys:List β}
end
section
open Classical in
variable{P:Program}{ops:Array Oper}{rest:List Oper}{o:Oper}{a:Act}{Q:Exit->Act->World->Prop}{Kc:Act->World->Prop}{α:Type}
end
def gap{α:Type}(f:Nat->Nat)(d:Kd α)(i:Nat)(c:List Value):Kd (α×Nat) where
 sz:=d.sz
 E:=d.E
 K:=fun w x cs=>(x.2=i->cs=c∧cs.length=d.sz∧∀u∈cs,u.oneCell'=true)∧(x.2≠i->d.K w x.1 cs)
 M:=fun w base ok x cs=>(x.2=i->cs=c∧cs.length=d.sz∧∀u∈cs,u.oneCell'=true)∧(x.2≠i->d.M w base (fun k=>ok k∧f k=x.2) x.1 cs)
 K_len:=fun {w x cs} h=>by
  by_cases hx:x.2=i
  ·exact(h.1 hx).2.1
  ·exact d.K_len (h.2 hx)
 K_one:=fun {w x cs} h=>by
  by_cases hx:x.2=i
  ·exact(h.1 hx).2.2
  ·exact d.K_one (h.2 hx)
 K_below:=fun hb h=>⟨h.1,fun hx=>d.K_below hb (h.2 hx)⟩
 K_of_M:=fun h=>⟨h.1,fun hx=>d.K_of_M (h.2 hx)⟩
 M_mono:=fun hok h=>⟨h.1,fun hx=>d.M_mono (fun k hk=>⟨hok k hk.1,hk.2⟩) (h.2 hx)⟩
 M_bound:=fun h=>⟨h.1,fun hx=>d.M_mono (fun _ hk=>⟨⟨hk.1.1,hk.2⟩,hk.1.2⟩) (d.M_bound (h.2 hx))⟩
 M_move:=fun hm h=>⟨h.1,fun hx=>d.M_move (fun k hk=>hm k hk.1) (h.2 hx)⟩
 M_lower:=fun hb h=>⟨h.1,fun hx=>d.M_lower hb (h.2 hx)⟩
def H{α:Type}(d:Kd α)(e:Nat)(w:World)(base:Nat)(ok:Nat->Prop)(v:Value)(xs:List α)(i:Int)(oki:Nat->Prop)(c:List Value):Prop:=
 (∀k,oki k->ok k)∧∃f,(gap f d i.toNat c).R e w base (fun k=>ok k∧¬oki k) v xs.zipIdx
section
variable{α β:Type}{d:Kd α}{e e' g n cap:Nat}{w w1 W:World}{base:Nat}{ok ok' oki okp:Nat->Prop}{u v:Value}{xs:List α}{i:Int}{c:List Value}
open Classical in
end
section
variable{P:Program}{ops:Array Oper}{rest:List Oper}{o:Oper}{a:Act}{Q:Exit->Act->World->Prop}{α:Type}
end
end Kd
end Go.Proofs.YtnmpijbcajclgaaGreatDoorW.PrintWords
end
section
namespace Go.Proofs.YtnmpijbcajclgaaGreatDoorW.PrintWords
open Go.RowKit
namespace Kd
theorem Oa{α:Type}{R:α->List Value->Prop}{size:Nat}{ps:List α}{cs:List Value}(h:dN R size ps cs)(hs0:0<size)(hR:∀p c,R p c->∀u∈c,u.oneCell'=true):∀u∈cs,u.oneCell'=true:=by
 intro u hu;obtain⟨q,hq,rfl⟩:=List.mem_iff_getElem.1 hu;have Zy:q/size<ps.length:=by
  rw[Nat.div_lt_iff_lt_mul hs0,<-h.1];exact hq
 refine hR _ _ (h.2 (q/size) _ (List.getElem?_eq_getElem Zy)) _ ?_;rw[List.mem_iff_getElem?];refine⟨q%size, ?_⟩;rw[List.getElem?_take,if_pos (Nat.mod_lt _ hs0),List.getElem?_drop,Nat.mul_comm,Nat.div_add_mod,List.getElem?_eq_getElem hq]
def arr{α:Type}(n:Nat)(d:Kd α)(hs:0<d.sz):Kd (List α) where
 sz:=n*d.sz
 E:=d.E
 K:=fun w xs cs=>xs.length=n∧dN (d.K w) d.sz xs cs
 M:=fun w base ok xs cs=>xs.length=n∧dN (d.M w base ok) d.sz xs cs
 K_len:=fun h=>by rw[<-h.1];exact h.2.1
 K_one:=fun h=>Oa h.2 hs (fun _ _ hk=>d.K_one hk)
 K_below:=fun hb h=>⟨h.1,h.2.j6 (fun _ _ hk=>d.K_below hb hk)⟩
 K_of_M:=fun h=>⟨h.1,h.2.j6 (fun _ _ hk=>d.K_of_M hk)⟩
 M_mono:=fun hok h=>⟨h.1,h.2.j6 (fun _ _ hk=>d.M_mono hok hk)⟩
 M_bound:=fun h=>⟨h.1,h.2.j6 (fun _ _ hk=>d.M_bound hk)⟩
 M_move:=fun hm h=>⟨h.1,h.2.j6 (fun _ _ hk=>d.M_move hm hk)⟩
 M_lower:=fun hb h=>⟨h.1,h.2.j6 (fun _ _ hk=>d.M_lower hb hk)⟩
section
variable{α:Type}{n:Nat}{d:Kd α}{hs:0<d.sz}{w:World}{base:Nat}{ok:Nat->Prop}{xs:List α}{cs:List Value}
end
section
variable{α:Type}{n:Nat}{enc:α->Value}{h1:∀x,(enc x).oneCell'=true}{hs:0<(scalar enc h1).sz}{w:World}{base:Nat}{ok:Nat->Prop}{xs:List α}{cs:List Value}
end
end Kd
end Go.Proofs.YtnmpijbcajclgaaGreatDoorW.PrintWords
end
section
namespace Go.Proofs.YtnmpijbcajclgaaGreatDoorW.PrintWords
open Go.RowKit
section
variable{P:Program}
end
namespace Kd
section
variable{P:Program}{ops:Array Oper}{rest:List Oper}{o:Oper}{a:Act}{Q:Exit->Act->World->Prop}{Kc:Act->World->Prop}{α:Type}
end
section
variable{α:Type}{d:Kd α}{e:Nat}{w:World}{base:Nat}{ok:Nat->Prop}{v:Value}{xs:List α}
end
section
variable{P:Program}{ops:Array Oper}{rest:List Oper}{o:Oper}{a:Act}{Q:Exit->Act->World->Prop}{Kc:Act->World->Prop}{α:Type}
end
end Kd
end Go.Proofs.YtnmpijbcajclgaaGreatDoorW.PrintWords
end
section
namespace Go.Proofs.YtnmpijbcajclgaaGreatDoorW.PrintWords
open Go.RowKit
namespace Kd
structure Heap{α:Type}(d:Kd α):Prop where
 K:∀ {w w1:World} {x:α} {cs:List Value},(∀k,k<w.heap.size->w1.heap[k]? =w.heap[k]?)->d.K w x cs->d.K w1 x cs
theorem KR{w w1:World}(hb:∀k,k<w.heap.size->w1.heap[k]? =w.heap[k]?){a:Addr}{v:Value}(h:w.cell? a=some v):w1.cell? a=some v:=by
 have:=hb a.block (World.block_lt_of_cell? w a h)
 simpa [World.cell?,this] using h
theorem Heap.C{α:Type}{d:Kd α}(hd:Heap d){w w1:World}{A:Option Addr}{n:Nat}{xs:List α}(hb:∀k,k<w.heap.size->w1.heap[k]? =w.heap[k]?)(h:d.C w A n xs):d.C w1 A n xs:=
 ⟨h.1,h.2.1,fun hn=>by
  obtain⟨ad,e,hc⟩:=h.2.2 hn;refine⟨ad,e,fun j p hj=> ?_⟩;obtain⟨c,hs,hr,hcell⟩:=hc j p hj;exact⟨c,hs,hd.K hb hr,fun i u hu=>KR hb (hcell i u hu)⟩⟩
section
variable{α:Type}{d:Kd α}{e base g n c:Nat}{ok:Nat->Prop}{w w0 W:World}{A:Option Addr}{xs:List α}
end
end Kd
end Go.Proofs.YtnmpijbcajclgaaGreatDoorW.PrintWords
end
section
namespace Go.Proofs.YtnmpijbcajclgaaGreatDoorW.PrintWords
open Go.RowKit
def Kept(w W:World)(S:Nat->Prop):Prop:=w.heap.size<=W.heap.size∧∀i,i<w.heap.size->¬S i->W.heap[i]? =w.heap[i]?
section
variable{w W W2:World}{S S2 S':Nat->Prop}
theorem Kept.refl(w:World)(S:Nat->Prop):Kept w w S:=⟨Nat.le_refl _,fun _ _ _=>rfl⟩
theorem Kept.of_below(h:Below w.heap.size w W)(S:Nat->Prop):Kept w W S:=⟨h.size,fun i hi _=>h.block i hi⟩
theorem Kept.mono(h:Kept w W S)(hs:∀k,S k->S' k):Kept w W S':=⟨h.1,fun i hi hn=>h.2 i hi (fun hk=>hn (hs i hk))⟩
theorem Kept.Nu(h:Kept w W S)(k:Kept W W2 S2)(hs:∀k,S2 k->S k∨w.heap.size<=k):Kept w W2 S:=
 ⟨Nat.le_trans h.1 k.1,fun i hi hn=>(k.2 i (Nat.lt_of_lt_of_le hi h.1) (fun h2=>(hs i h2).elim hn (fun h3=>by omega))).trans (h.2 i hi hn)⟩
theorem Kept.lH{row:Option Nat}(hg:W.grownBy W2 row)(h:Kept w W S)(hr:∀k,row=some k->S k∨w.heap.size<=k):Kept w W2 S:=
 h.Nu (S2:=fun k=>row=some k) ⟨hg.size,fun i hi hn=>hg.block i hi (fun he=>hn he.symm)⟩ hr
theorem Kept.below(h:Kept w W S)(hb:Below W.heap.size W W2):Kept w W2 S:=h.Nu (Kept.of_below hb (fun _=>False)) (fun _ hk=>hk.elim)
theorem Kept.alloc(h:Kept w W S)(o:Obj):Kept w (W.alloc o) S:=h.below (ae (Below.refl _ _) o)
theorem Kept.drew(h:Kept w W S):Kept w W.drew S:=h
theorem Kept.drewN(h:Kept w W S)(m:Nat):Kept w (W.drewN m) S:=h
theorem Kept.setCell(h:Kept w W S){p:Addr}(hp:S p.block∨w.heap.size<=p.block)(u:Value):Kept w (W.setCell p u) S:=
 h.Nu (S2:=fun k=>k=p.block) ⟨by simp[World.setCell],fun i _ hn=>Below.heap_setCell W p u i hn⟩ (fun k hk=>by rw[hk];exact hp)
theorem Kept.keep{g:Nat}(h:az w W g none)(k:Kept W W2 S2)(hs:∀k,S2 k->w.heap.size<=k):az w W2 g none:=
 ⟨Nat.le_trans h.1 k.1,fun i hi hg hr=>(k.2 i (Nat.lt_of_lt_of_le hi h.1) (fun h2=>by have:=hs i h2;omega)).trans (h.2 i hi hg hr)⟩
theorem Fp{g:Nat}{o:Obj}(hb:W.heap[g]? =some o)(hk:Kept W W2 S)(hne:¬S g):W2.heap[g]? =some o:=(hk.2 g (aI hb) hne).trans hb
end
namespace Kd
section
variable{α:Type}{d:Kd α}{e base n c:Nat}{ok oki S S2:Nat->Prop}{w w0 W W1 W2:World}{v:Value}{A:Option Addr}{xs:List α}{i:Int}{cs:List Value}
end
end Kd
end Go.Proofs.YtnmpijbcajclgaaGreatDoorW.PrintWords
end
section
namespace Go.Proofs.YtnmpijbcajclgaaGreatDoorW.PrintWords
open Go.RowKit
def vR(P:World->Prop)(W:World)(ok:Nat->Prop):Prop:=∀W':World,(∀k,ok k->k<W.heap.size->W'.heap[k]? =W.heap[k]?)->P W'
theorem Qa{W W1:World}{k:Nat}(h:W1.heap[k]? =W.heap[k]?)(hlt:k<W.heap.size):k<W1.heap.size:=by
 rw[Array.getElem?_eq_getElem hlt] at h;exact(Array.getElem?_eq_some_iff.1 h).1
namespace vR
variable{P Q:World->Prop}{W W1:World}{ok ok':Nat->Prop}
theorem now(h:vR P W ok):P W:=h W (fun _ _ _=>rfl)
theorem mono(h:vR P W ok)(hok:∀k,ok k->ok' k):vR P W ok':=fun W' hW=>h W' (fun k hk hlt=>hW k (hok k hk) hlt)
theorem bound(h:vR P W ok):vR P W (fun k=>ok k∧k<W.heap.size):=fun W' hW=>h W' (fun k hk hlt=>hW k ⟨hk,hlt⟩ hlt)
theorem step(h:vR P W ok)(hm:∀k,ok k->k<W.heap.size->W1.heap[k]? =W.heap[k]?):vR P W1 ok:=fun W' hW=>h W' (fun k hk hlt=>(hW k hk (Qa (hm k hk hlt) hlt)).trans (hm k hk hlt))
theorem old(h:vR P W ok)(hb:Below W.heap.size W W1):vR P W1 (fun k=>ok k∧k<W.heap.size):=(h.bound).step (fun k _ hlt=>hb.block k hlt)
end vR
namespace Kd
def F{α:Type}(d:Kd α)(W:World)(ok:Nat->Prop)(A:Option Addr)(n:Nat)(xs:List α):Prop:=vR (fun W=>d.C W A n xs) W ok
def FK{α:Type}(d:Kd α)(W:World)(ok:Nat->Prop)(x:α)(c:List Value):Prop:=vR (fun W=>d.K W x c) W ok
section
variable{α β:Type}{d:Kd α}{e base n n' cc g N:Nat}{ok ok' okp S:Nat->Prop}{w w0 w1 W W1:World}{A A':Option Addr}{u v v1:Value}{xs:List α}{xs':List β}{d':Kd β}{x:α}{c:List Value}
end
end Kd
end Go.Proofs.YtnmpijbcajclgaaGreatDoorW.PrintWords
end
section
namespace Go.Proofs.YtnmpijbcajclgaaGreatDoorW.PrintWords
open Go.RowKit
namespace Kd
section
variable{α:Type}{d:Kd α}{e base n cc g:Nat}{ok ok' okp S:Nat->Prop}{w w1 W W1:World}{A:Option Addr}{u v v1:Value}{xs:List α}{x:α}{c:List Value}
def N{α:Type}(d:Kd α)(e:Nat)(w:World)(base:Nat)(ok:Nat->Prop)(v:Value)(xs:List α):Prop:=
 (∀k,v.ownBlock=some k->ok k)∧∃rows:List (List Value),rows.length=xs.length∧(raw d.sz).R e w base (fun k=>some k=v.ownBlock) v rows∧∀(j:Nat) (x:α) (c:List Value),xs[j]? =some x->rows[j]? =some c->FK d w (fun k=>ok k∧some k≠v.ownBlock) x c
end
end Kd
end Go.Proofs.YtnmpijbcajclgaaGreatDoorW.PrintWords
end
section
namespace Go.Proofs.YtnmpijbcajclgaaGreatDoorW.PrintWords
open Go.RowKit
namespace Kd
section
variable{α:Type}{d:Kd α}{W:World}{g n:Nat}{S ok:Nat->Prop}{A:Option Addr}{ad:Addr}{xs:List α}
end
end Kd
end Go.Proofs.YtnmpijbcajclgaaGreatDoorW.PrintWords
end
section
namespace Go.Proofs.YtnmpijbcajclgaaGreatDoorW.PrintWords
open Go.RowKit
section
variable{w w' u:World}{m B g:Nat}{o:Obj}{row:Option Nat}{S:Nat->Prop}{a:Addr}{v:Value}
end
namespace Kd
section
variable{α:Type}{d:Kd α}{e base n m:Nat}{ok:Nat->Prop}{w w':World}{v:Value}{A:Option Addr}{xs:List α}
end
end Kd
end Go.Proofs.YtnmpijbcajclgaaGreatDoorW.PrintWords
end
section
namespace Go.Proofs.YtnmpijbcajclgaaGreatDoorW.PrintWords
open Go.RowKit
section
variable{P:Program}{d:Nat}{xs ys:Array Value}{f:Field}{fs:List Field}{a b:Value}{r s:Bool}{w:World}
theorem Ms(hn:(f.name== "_")=false)(ha:(part f.type xs f.offset).run P w=.ok a w)(hb:(part f.type ys f.offset).run P w=.ok b w)(he:(Op.equalIn d f.type a b).run P w=.ok r w):(Op.eqFields d xs ys [f]).run P w=.ok r w:=by
 have hn':f.name≠ "_" :=by simpa using hn
 simp only[Op.eqFields,if_pos hn',Sem.run_bind,ha,hb,he,Result.andThen_ok];cases r<;>simp
theorem DZ(hn:(f.name== "_")=false)(ha:(part f.type xs f.offset).run P w=.ok a w)(hb:(part f.type ys f.offset).run P w=.ok b w)(he:(Op.equalIn d f.type a b).run P w=.ok r w)(hr:(Op.eqFields d xs ys fs).run P w=.ok s w):(Op.eqFields d xs ys (f::fs)).run P w=.ok (r&&s) w:=by
 have hn':f.name≠ "_" :=by simpa using hn
 rw[Op.eqFields];simp only[if_pos hn',Sem.run_bind,ha,hb,he,Result.andThen_ok];cases r
 ·simp
 ·simpa using hr
theorem Tp{t:TypeId}{fs:Array Field}(hu:P.underlying t=some (.struct fs))(hp:P.stoodInHeld t=false)(h:(Op.eqFields d xs ys fs.toList).run P w=.ok r w):(Op.equalIn (d+1) t (.agg xs) (.agg ys)).run P w=.ok r w:=by
 have hf:P.fieldsOf t=fs:=by simp[Program.fieldsOf,hu]
 rw[run_equalIn_struct (P:=P) w d t xs ys (by rw[hf];exact hu) hp,hf];exact h
end
theorem dN.one{α:Type}{R:α->List Value->Prop}{ps:List α}{cs:List Value}{p:α}{v:Value}(hp:R p [v])(h:dN R 1 ps cs):dN R 1 (p::ps) (v::cs):=by
 refine⟨by simp[h.1],fun j q hq=> ?_⟩;cases j with
 |zero=>
  simp only[List.getElem?_cons_zero,Option.some.injEq] at hq;subst hq
  simpa using hp
 |succ j=>
  simp only[List.getElem?_cons_succ] at hq;have h1:=h.2 j q hq
  simpa [Nat.mul_one] using h1
theorem dN.front{α:Type}{R:α->List Value->Prop}{size:Nat}{ps:List α}{cs c all:List Value}{p:α}(hp:R p c)(hc:c.length=size)(h:dN R size ps cs)(ha:c++cs=all):dN R size (p::ps) all:=by
 subst ha;refine⟨by rw[List.length_append,hc,h.1,List.length_cons,Nat.succ_mul,Nat.add_comm],fun j q hq=> ?_⟩;cases j with
 |zero=>
  simp only[List.getElem?_cons_zero,Option.some.injEq] at hq;subst hq;rw[Nat.zero_mul,List.drop_zero,List.take_append_of_le_length (by omega),List.take_of_length_le (by omega)];exact hp
 |succ j=>
  simp only[List.getElem?_cons_succ] at hq;have h1:=h.2 j q hq;rw[Nat.succ_mul,List.drop_append,List.drop_of_length_le (by rw[hc];exact Nat.le_add_left _ _),List.nil_append,hc,Nat.add_sub_cancel];exact h1
theorem dN.c2{α:Type}{R:α->List Value->Prop}{ps:List α}{cs:List Value}{p:α}{va vb:Value}(hp:R p [va,vb])(h:dN R 2 ps cs):dN R 2 (p::ps) (va::vb::cs):=dN.front hp rfl h rfl
theorem dN.c3{α:Type}{R:α->List Value->Prop}{ps:List α}{cs:List Value}{p:α}{va vb vc:Value}(hp:R p [va,vb,vc])(h:dN R 3 ps cs):dN R 3 (p::ps) (va::vb::vc::cs):=dN.front hp rfl h rfl
theorem dN.c4{α:Type}{R:α->List Value->Prop}{ps:List α}{cs:List Value}{p:α}{va vb vc vd:Value}(hp:R p [va,vb,vc,vd])(h:dN R 4 ps cs):dN R 4 (p::ps) (va::vb::vc::vd::cs):=dN.front hp rfl h rfl
theorem dN.c5{α:Type}{R:α->List Value->Prop}{ps:List α}{cs:List Value}{p:α}{va vb vc vd ve:Value}(hp:R p [va,vb,vc,vd,ve])(h:dN R 5 ps cs):dN R 5 (p::ps) (va::vb::vc::vd::ve::cs):=dN.front hp rfl h rfl
theorem dN.c6{α:Type}{R:α->List Value->Prop}{ps:List α}{cs:List Value}{p:α}{va vb vc vd ve vf:Value}(hp:R p [va,vb,vc,vd,ve,vf])(h:dN R 6 ps cs):dN R 6 (p::ps) (va::vb::vc::vd::ve::vf::cs):=dN.front hp rfl h rfl
theorem dN.c7{α:Type}{R:α->List Value->Prop}{ps:List α}{cs:List Value}{p:α}{va vb vc vd ve vf vg:Value}(hp:R p [va,vb,vc,vd,ve,vf,vg])(h:dN R 7 ps cs):dN R 7 (p::ps) (va::vb::vc::vd::ve::vf::vg::cs):=dN.front hp rfl h rfl
theorem dN.c8{α:Type}{R:α->List Value->Prop}{ps:List α}{cs:List Value}{p:α}{va vb vc vd ve vf vg vh:Value}(hp:R p [va,vb,vc,vd,ve,vf,vg,vh])(h:dN R 8 ps cs):dN R 8 (p::ps) (va::vb::vc::vd::ve::vf::vg::vh::cs):=dN.front hp rfl h rfl
theorem dN.c9{α:Type}{R:α->List Value->Prop}{ps:List α}{cs:List Value}{p:α}{va vb vc vd ve vf vg vh vi:Value}(hp:R p [va,vb,vc,vd,ve,vf,vg,vh,vi])(h:dN R 9 ps cs):dN R 9 (p::ps) (va::vb::vc::vd::ve::vf::vg::vh::vi::cs):=dN.front hp rfl h rfl
theorem dN.c10{α:Type}{R:α->List Value->Prop}{ps:List α}{cs:List Value}{p:α}{va vb vc vd ve vf vg vh vi vj:Value}(hp:R p [va,vb,vc,vd,ve,vf,vg,vh,vi,vj])(h:dN R 10 ps cs):dN R 10 (p::ps) (va::vb::vc::vd::ve::vf::vg::vh::vi::vj::cs):=dN.front hp rfl h rfl
end Go.Proofs.YtnmpijbcajclgaaGreatDoorW.PrintWords
end
section
namespace Go.Proofs.YtnmpijbcajclgaaGreatDoorW.PrintLast
def up(b:Nat->Bool)(i:Nat):Nat->Bool:=fun j=>if j=i then true else b j
section
variable{P:Program}{ops:Array Oper}{Q:Exit->Act->World->Prop}{md:Region.Mode}{T:Bool×List (List Nat×List Nat)}{B:List Nat}{O:List Nat}{b:Nat->Bool}{i j n:Nat}
end
end Go.Proofs.YtnmpijbcajclgaaGreatDoorW.PrintLast
end
section
namespace Go.Proofs.YtnmpijbcajclgaaGreatDoorW.PrintWords
open Go.RowKit
end Go.Proofs.YtnmpijbcajclgaaGreatDoorW.PrintWords
namespace Go.Proofs.YtnmpijbcajclgaaGreatDoorW.PrintLast
section
variable{ops:Array Oper}{a:Act}{o og:Oper}{g:Nat}{t:Tmp}{u:Bool}
end
end Go.Proofs.YtnmpijbcajclgaaGreatDoorW.PrintLast
end
section
namespace Go.Proofs.YtnmpijbcajclgaaGreatDoorW.PrintWords
open Go.RowKit
section
variable{P:Program}{ops:Array Oper}{rest:List Oper}{o:Oper}{a:Act}{Q:Exit->Act->World->Prop}{W:World}
end
namespace Kd
section
variable{α:Type}{d:Kd α}{e base n cap g:Nat}{ok ok' okp:Nat->Prop}{w w1 W:World}{v v1:Value}{xs ys:List α}
end
section
variable{P:Program}{ops:Array Oper}{rest:List Oper}{o:Oper}{a:Act}{Q:Exit->Act->World->Prop}{Kc:Act->World->Prop}{α:Type}
end
end Kd
end Go.Proofs.YtnmpijbcajclgaaGreatDoorW.PrintWords
end
section
namespace Go.Proofs.YtnmpijbcajclgaaGreatDoorW.PrintMore
open Go.RowKit Go.Proofs.YtnmpijbcajclgaaGreatDoorW.PrintWords
namespace Kd
open Go.Proofs.YtnmpijbcajclgaaGreatDoorW.PrintWords.Kd
end Kd
namespace Kd
open Go.Proofs.YtnmpijbcajclgaaGreatDoorW.PrintWords.Kd
section
variable{α:Type}{d:Kd α}{e base g N:Nat}{ok:Nat->Prop}{W w1:World}{u v:Value}{xs:List α}
end
end Kd
theorem nQ(k k':IntKind)(x y:Int):Builtin.max2 (.int k x) (.int k' y)=pure (.int k (if x<y then y else x)):=by simp only[Builtin.max2,gt_iff_lt]
theorem nU(k k':IntKind)(x y:Int):Builtin.min2 (.int k x) (.int k' y)=pure (.int k (if y<x then y else x)):=by simp only[Builtin.min2]
theorem qM(ats:Array TypeId)(ty:TypeId)(a b:Value):Builtin.max_ ats ty #[a,b]=(Builtin.max2 a b >>= fun s=>pure s):=by simp only[Builtin.max_,List.foldlM_cons,List.foldlM_nil]
theorem o7(ats:Array TypeId)(ty:TypeId)(a b:Value):Builtin.min_ ats ty #[a,b]=(Builtin.min2 a b >>= fun s=>pure s):=by simp only[Builtin.min_,List.foldlM_cons,List.foldlM_nil]
theorem oz(ats:Array TypeId)(ty:TypeId)(a b c:Value):Builtin.max_ ats ty #[a,b,c]=(Builtin.max2 a b >>= fun s=>Builtin.max2 s c >>= fun s=>pure s):=by simp only[Builtin.max_,List.foldlM_cons,List.foldlM_nil]
theorem oC(ats:Array TypeId)(ty:TypeId)(a b c:Value):Builtin.min_ ats ty #[a,b,c]=(Builtin.min2 a b >>= fun s=>Builtin.min2 s c >>= fun s=>pure s):=by simp only[Builtin.min_,List.foldlM_cons,List.foldlM_nil]
theorem ql(ats:Array TypeId)(ty:TypeId)(a b c d:Value):Builtin.max_ ats ty #[a,b,c,d]=(Builtin.max2 a b >>= fun s=>Builtin.max2 s c >>= fun s=>Builtin.max2 s d >>= fun s=>pure s):=by simp only[Builtin.max_,List.foldlM_cons,List.foldlM_nil]
theorem qa(ats:Array TypeId)(ty:TypeId)(a b c d:Value):Builtin.min_ ats ty #[a,b,c,d]=(Builtin.min2 a b >>= fun s=>Builtin.min2 s c >>= fun s=>Builtin.min2 s d >>= fun s=>pure s):=by simp only[Builtin.min_,List.foldlM_cons,List.foldlM_nil]
end Go.Proofs.YtnmpijbcajclgaaGreatDoorW.PrintMore
namespace Go.Proofs.YtnmpijbcajclgaaGreatDoorW.PrintWords
open Go.RowKit
section
variable{P:Program}{ops:Array Oper}{rest:List Oper}{o:Oper}{a:Act}{Q:Exit->Act->World->Prop}{W:World}
theorem Dz{f:FuncId}{as:Array Operand}{ts:Array TypeId}(_ho:o.op=.call {callee:=.value (.func f),args:=as,argTypes:=ts})(h:wpList P ops Q (o::rest) a W):wpList P ops Q (o::rest) a W:=h
theorem bn{b:Builtin}{xs:Array Operand}{ts:Array TypeId}(_ho:o.op=.call {callee:=.builtin b,args:=xs,argTypes:=ts})(h:wpList P ops Q (o::rest) a W):wpList P ops Q (o::rest) a W:=h
end
def mx(a b:Int):Int:=if a<b then b else a
def mn(a b:Int):Int:=if b<a then b else a
theorem cell_grown{W w1:World}{row:Option Nat}(hg:W.grownBy w1 row){a:Addr}{v:Value}(h:W.cell? a=some v)(hne:some a.block≠row):w1.cell? a=some v:=by
 have:=hg.block a.block (World.block_lt_of_cell? W a h) hne
 simpa [World.cell?,this] using h
namespace Kd
section
variable{α:Type}{d:Kd α}{e base:Nat}{ok:Nat->Prop}{W w1:World}{v:Value}{xs:List α}
end
section
variable{α:Type}{d:Kd α}{e base g n cap:Nat}{ok oki okp:Nat->Prop}{W:World}{xs:List α}{i:Int}{c:List Value}
end
section
variable{α:Type}{d:Kd α}{e base b b' g N:Nat}{ok ok1:Nat->Prop}{W W2 w1:World}{u v:Value}{xs ys:List α}{S:Nat->Prop}
theorem uX{n size:Nat}{cs:List Value}(h:W.ownsRow b e size v n cs)(hb:∀k,v.ownBlock=some k->b'<=k):W.ownsRow b' e size v n cs:=by
 obtain⟨h1,h2⟩:=h;refine⟨h1, ?_⟩;rcases h2 with h2|⟨g,cap,cur,rfl,_,r⟩
 ·exact .inl h2
 ·exact .inr ⟨g,cap,cur,rfl,hb g (by simp[Value.ownBlock]),r⟩
theorem Ct(hM:∀w ok x cs,d.M w b ok x cs->d.M w b' ok x cs)(h:d.R e W b ok v xs)(hb:∀k,v.ownBlock=some k->b'<=k):d.R e W b' ok v xs:=by
 obtain⟨h0,inner,ho,hr⟩:=h;exact⟨h0,inner,uX ho hb,hr.j6 (fun _ _ hp=>hM _ _ _ _ hp)⟩
end
end Kd
end Go.Proofs.YtnmpijbcajclgaaGreatDoorW.PrintWords
namespace Go.Proofs.YtnmpijbcajclgaaGreatDoorW.PrintWords
open Go.RowKit
namespace Kd
def V{α:Type}(d:Kd α)(_e:Nat)(W:World)(_base:Nat)(ok:Nat->Prop)(v:Value)(xs:List α):Prop:=∃A c,v=.slice A xs.length c∧xs.length<=c∧F d W ok A xs.length xs
section
variable{α β:Type}{d:Kd α}{e base base' n m c g N' lo hi:Nat}{ok ok' S:Nat->Prop}{w W w1:World}{A:Option Addr}{ad:Addr}{u v v1:Value}{xs:List α}
end
end Kd
end Go.Proofs.YtnmpijbcajclgaaGreatDoorW.PrintWords
end
