/- Texts of one claim, one behind the other, made short by a program. -/
import Derived.Test.YtnmpijbcajclgaaGreatDoorMA25
import Derived.Deep.Slices
import Derived.Deep.Fields
import Derived.ChangeSame
set_option maxHeartbeats 8000000
set_option linter.unusedSimpArgs false
set_option linter.unusedVariables false
set_option maxRecDepth 100000
section
namespace Go.Proofs.YtnmpijbcajclgaaGreatDoor.Mine
open Tryz
open Go.Maps Go.RowKit YtnmpijbcajclgaaGreatDoorW.PrintWords YtnmpijbcajclgaaGreatDoorW.PrintLast YtnmpijbcajclgaaGreatDoorW.PrintMore
open PNodeAlone
structure NI(S:List SA)(i:Nat)(P:Nd):Prop where
 ids:P.subs.Pairwise (fun a b=>a.id≠b.id)
 top:∀s∈P.subs,s.id<=P.last
 sch:S.length<=1000
 wu:P.subs.length<=16
 zn:P.opn.length<=8
 pV:P.inbox.length<=64
 last:0<=P.last∧P.last<=(i:Int)
 seq:0<=P.seq∧P.seq<=(i:Int)
 lost:0<=P.lost∧P.lost<=128*(i:Int)
 flt:∀s∈P.subs,s.F.length<=1000∧∀p∈s.F,p.f4.size<=1000000000
 val:∀e∈P.opn,e.V.length<=1000∧∀x∈e.V,x.f1.size<=1000000000
theorem NI.fit{S:List SA}{i:Nat}{P:Nd}(n:NI S i P)(hi:i<=1000):Xm S P:=⟨n.sch,n.wu,n.zn,n.pV,⟨n.lost.1,by have:=n.lost.2;omega⟩,n.flt,n.val⟩
theorem NI.more{S:List SA}{i:Nat}{P:Nd}(n:NI S i P):NI S (i+1) P:=⟨n.ids,n.top,n.sch,n.wu,n.zn,n.pV,⟨n.last.1,by have:=n.last.2;omega⟩,⟨n.seq.1,by have:=n.seq.2;omega⟩,⟨n.lost.1,by have:=n.lost.2;omega⟩,n.flt,n.val⟩
theorem NI.new{S:List SA}(a:Int)(h:S.length<=1000):NI S 0 (Nd.new a):=
 ⟨List.Pairwise.nil,fun s hs=>(by cases hs),h,Nat.zero_le _,Nat.zero_le _,Nat.zero_le _,⟨Int.le_refl _,Int.le_refl _⟩,⟨Int.le_refl _,Int.le_refl _⟩,⟨Int.le_refl _,Int.le_refl _⟩,fun s hs=>(by cases hs),fun s hs=>(by cases hs)⟩
theorem NI.sub{S:List SA}{i:Nat}{P:Nd}(n:NI S i P)(t:ByteArray):NI S (i+1) (ru S P t).1:=by
 unfold ru;cases hx:fZ S t with
 |inr c=>exact n.more
 |inl xs=>
  dsimp only;by_cases h16:16<=P.subs.length
  ·rw[if_pos h16];exact n.more
  ·rw[if_neg h16];have hr:=(uY hx).1;have hc:=lG hr;have hz:=lY hr;have hl:=n.last;refine⟨?_, ?_,n.sch, ?_,n.zn,n.pV,⟨by show 0<=P.last+1;omega,by show P.last+1<=((i+1:Nat):Int);omega⟩,⟨n.seq.1,by have:=n.seq.2;show P.seq<=((i+1:Nat):Int);omega⟩,⟨n.lost.1,by have:=n.lost.2;show P.lost<=128*((i+1:Nat):Int);omega⟩, ?_,n.val⟩
   ·show (P.subs++ [_]).Pairwise _;rw[List.pairwise_append];refine⟨n.ids,List.pairwise_singleton _ _,fun a ha b hb=> ?_⟩;rw[List.mem_singleton.1 hb];have:=n.top a ha;show a.id≠P.last+1;omega
   ·intro s hs;rcases List.mem_append.1 hs with hs|hs
    ·have:=n.top s hs;show s.id<=P.last+1;omega
    ·rw[List.mem_singleton.1 hs];exact Int.le_refl _
   ·show (P.subs++ [_]).length<=16;rw[List.length_append];show P.subs.length+1<=16;omega
   ·intro s hs;rcases List.mem_append.1 hs with hs|hs
    ·exact n.flt s hs
    ·rw[List.mem_singleton.1 hs];exact⟨by show (xs.map toP).length<=1000;rw[List.length_map];omega,hz⟩
theorem NI.Sy{S:List SA}{i:Nat}{P:Nd}(n:NI S i P)(id:Int):NI S (i+1) (vM P id).1:=by
 unfold vM;split
 ·have m:=n.more;exact⟨m.ids.filter _,fun s hs=>m.top s (List.mem_filter.1 hs).1,m.sch,Nat.le_trans (List.length_filter_le _ _) m.wu,m.zn,Nat.le_trans (List.length_filter_le _ _) m.pV,m.last,m.seq,m.lost,fun s hs=>m.flt s (List.mem_filter.1 hs).1,m.val⟩
 ·exact n.more
theorem NI.fG{S:List SA}{i:Nat}{P:Nd}(n:NI S i P)(V:List SV)(pay:ByteArray)(hV:V.length<=1000∧∀x∈V,x.f1.size<=1000000000):NI S (i+1) (ry S P V pay).1:=by
 unfold ry;have m:=n.more;split
 ·exact m
 ·split
  ·exact m
  ·have hs:=n.seq;refine⟨m.ids,m.top,m.sch,m.wu, ?_,m.pV,m.last,⟨by show 0<=P.seq+1;omega,by show P.seq+1<=((i+1:Nat):Int);omega⟩,m.lost,m.flt, ?_⟩
   ·show (P.opn++ [_]).length<=8;rw[List.length_append];show P.opn.length+1<=8;omega
   ·intro e he;rcases List.mem_append.1 he with he|he
    ·exact m.val e he
    ·rw[List.mem_singleton.1 he];exact hV
theorem NT(S:List SA)(a:Int)(e:z8)(subs:List oN)(x:List wS×Int)(h:x.1.length<=64):(jQ S a e subs x).1.length<=64∧x.2<=(jQ S a e subs x).2∧(jQ S a e subs x).2<=x.2+(subs.length:Int):=by
 induction subs generalizing x with
 |nil=>exact⟨h,Int.le_refl _,by show x.2<=x.2+((0:Nat):Int);omega⟩
 |cons s r ih=>
  obtain⟨b,l⟩:=x;unfold jQ;have hc:((s::r).length:Int)=(r.length:Int)+1:=by simp
  split
  ·split
   ·next hl=>
    have:=ih (b++ [⟨s.id,a,e.seq,e.V,e.pay⟩],l) (by show (b++ [_]).length<=64;rw[List.length_append];show b.length+1<=64;omega);exact⟨this.1,this.2.1,by have h2:=this.2.2;rw[hc];dsimp only at h2|-;omega⟩
   ·have:=ih (b,l+1) h;exact⟨this.1,by have h2:=this.2.1;dsimp only at h2|-;omega,by have h2:=this.2.2;rw[hc];dsimp only at h2|-;omega⟩
  ·have:=ih (b,l) h;exact⟨this.1,this.2.1,by have h2:=this.2.2;rw[hc];dsimp only at h2|-;omega⟩
theorem J7(S:List SA)(a:Int)(subs:List oN)(hs:subs.length<=16)(es:List z8)(x:List wS×Int)(h:x.1.length<=64):(mX S a subs es x).1.length<=64∧x.2<=(mX S a subs es x).2∧(mX S a subs es x).2<=x.2+16*(es.length:Int):=by
 induction es generalizing x with
 |nil=>exact⟨h,Int.le_refl _,by show x.2<=x.2+16*((0:Nat):Int);omega⟩
 |cons e r ih=>
  have h1:=NT S a e subs x h;have h2:=ih (jQ S a e subs x) h1.1;have hc:((e::r).length:Int)=(r.length:Int)+1:=by simp
  refine⟨h2.1,Int.le_trans h1.2.1 h2.2.1, ?_⟩;rw[hc];have h3:=h2.2.2;have h4:=h1.2.2;show (mX S a subs r (jQ S a e subs x)).2<=_;omega
theorem NI.tick{S:List SA}{i:Nat}{P:Nd}(n:NI S i P):NI S (i+1) (P.tick S):=by
 have h:=J7 S P.addr P.subs n.wu P.opn (P.inbox,P.lost) n.pV;have m:=n.more;have ho:=n.zn;have hl:=n.lost;unfold Nd.tick;rw[CU];exact⟨m.ids,m.top,m.sch,m.wu,Nat.zero_le _,h.1,m.last,m.seq,⟨Int.le_trans hl.1 h.2.1,by have h3:=h.2.2;dsimp only at h3|-;omega⟩,m.flt,fun e he=>(by cases he)⟩
theorem NI.poll{S:List SA}{i:Nat}{P:Nd}(n:NI S i P)(most:Int):NI S (i+1) (P.poll most):=by
 have m:=n.more;exact⟨m.ids,m.top,m.sch,m.wu,m.zn,by show (P.inbox.drop _).length<=64;rw[List.length_drop];have:=m.pV;omega,m.last,m.seq,m.lost,m.flt,m.val⟩
structure NA(a:Int)(P:Nd):Prop where
 addr:P.addr=a
 pubs:∀d∈P.inbox,d.fG=a∧d.V.length<=1000
theorem NA.new(a:Int):NA a (Nd.new a):=⟨rfl,fun d hd=>(by cases hd)⟩
theorem NA.sub{S:List SA}{a:Int}{P:Nd}(n:NA a P)(t:ByteArray):NA a (ru S P t).1:=by
 unfold ru;split
 ·exact n
 ·split
  ·exact n
  ·exact⟨n.addr,n.pubs⟩
theorem NA.Sy{a:Int}{P:Nd}(n:NA a P)(id:Int):NA a (vM P id).1:=by
 unfold vM;split
 ·exact⟨n.addr,fun d hd=>n.pubs d (List.mem_filter.1 hd).1⟩
 ·exact n
theorem NA.fG{S:List SA}{a:Int}{P:Nd}(n:NA a P)(V:List SV)(pay:ByteArray):NA a (ry S P V pay).1:=by
 unfold ry;split
 ·exact n
 ·split
  ·exact n
  ·exact⟨n.addr,n.pubs⟩
theorem NA.poll{a:Int}{P:Nd}(n:NA a P)(most:Int):NA a (P.poll most):=⟨n.addr,fun d hd=>n.pubs d (List.mem_of_mem_drop hd)⟩
theorem KG(S:List SA)(a:Int)(e:z8)(he:e.V.length<=1000)(subs:List oN)(x:List wS×Int)(h:∀d∈x.1,d.fG=a∧d.V.length<=1000):∀d∈(jQ S a e subs x).1,d.fG=a∧d.V.length<=1000:=by
 induction subs generalizing x with
 |nil=>exact h
 |cons s r ih=>
  obtain⟨b,l⟩:=x;unfold jQ;split
  ·split
   ·refine ih _ (fun d hd=> ?_);rcases List.mem_append.1 hd with hd|hd
    ·exact h d hd
    ·rw[List.mem_singleton.1 hd];exact⟨rfl,he⟩
   ·exact ih _ h
  ·exact ih _ h
theorem GN(S:List SA)(a:Int)(subs:List oN)(es:List z8)(he:∀e∈es,e.V.length<=1000)(x:List wS×Int)(h:∀d∈x.1,d.fG=a∧d.V.length<=1000):∀d∈(mX S a subs es x).1,d.fG=a∧d.V.length<=1000:=by
 induction es generalizing x with
 |nil=>exact h
 |cons e r ih=>exact ih (fun e' he'=>he e' (List.mem_cons_of_mem _ he')) _ (KG S a e (he e List.mem_cons_self) subs x h)
theorem NA.tick{S:List SA}{a:Int}{i:Nat}{P:Nd}(n:NA a P)(m:NI S i P):NA a (P.tick S):=by
 have h:=GN S P.addr P.subs P.opn (fun e he=>(m.val e he).1) (P.inbox,P.lost) (fun d hd=>by rw[n.addr];exact n.pubs d hd);rw[n.addr] at h;unfold Nd.tick;rw[CU,n.addr];exact⟨rfl,h⟩
open Go.ChangeShapes Go.WideShapes Go.ChangeAt Go.Deep
section
variable{H:Type}{enc:TypeId×Value->H}{P:Program}{w:World}{base:Nat}{spare:Nat->Bool}{held:Bool}
theorem nK{t e:TypeId}{fs:Array Field}{fuel:Nat}{cs:List Value}{x:DataW H×List MemPlace}(ht:P.underlying t=some (.slice e))(he:P.underlying e=some (.struct fs))
 (hone:oneCellFields P fs=true) (hC:P.cellsOf e=fs.size) (h:DataW.trod enc P w base spare held fuel t cs=some x):
 (cs= [.slice none 0 0]∧x=(.nil,[]))∨
 ∃(a:Addr) (len cap m:Nat) (D:Nat->DataW H) (Pl:Nat->List MemPlace),cs= [.slice (some a) len cap]∧base<=a.block∧len<=cap∧cap<=maxLen∧m=(if spare a.block then cap else len)∧
  x=(.slice ((List.range len).map D) ((List.range (m-len)).map fun j=>D (len+j)),MemPlace.row a (m*fs.size)++(List.range m).flatMap Pl)∧
  ∀i,i<m->∃(ys:List (DataW H×List MemPlace)) (n:Nat),D i=.agg (ys.map (·.1))∧Pl i=ys.flatMap (·.2)∧ys.length=fs.size∧
   ∀(j:Nat) (f:Field),fs[j]? =some f->∃(v:Value) (y:DataW H×List MemPlace),w.cell? (a.add (i*fs.size+j))=some v∧ys[j]? =some y∧DataW.trod enc P w base spare held n f.type [v]=some y:=by
 rcases open_slice ht h with h0|⟨a,len,cap,m,n,D,Pl,hcs,hb,hl,hm,hmm,hx,hi⟩
 ·exact .inl h0
 ·refine .inr ⟨a,len,cap,m,D,Pl,hcs,hb,hl,hm,hmm,by rw[hC] at hx;exact hx,fun i him=> ?_⟩;obtain⟨cs',hc,ht'⟩:=hi i him;rw[hC] at hc;obtain⟨ys,n',hn',hy,hlen,hyl,hf⟩:=DataW.trod_struct he ht';obtain⟨_,hcl,hat⟩:=World.cells?_some hc;simp only[Prod.mk.injEq] at hy;refine⟨ys,n',hy.1,hy.2,hyl,fun j f hj=> ?_⟩;obtain⟨ho,hk⟩:=hone_of hone j f hj;have hjl:j<fs.size:=(Array.getElem?_eq_some_iff.1 hj).1;have hcell:=hat j hjl;have hv:cs'[j]? =some (cs'[j]'(by omega)):=List.getElem?_eq_getElem (by omega);have h1:=hf j f hj;rw[ho,hk] at h1;have hone':(cs'.drop j).take 1= [cs'[j]'(by omega)]:=by
   rw[List.drop_eq_getElem_cons (by omega)];rfl
  rw[hone'] at h1;have hys:ys[j]? =some (ys[j]'(by omega)):=List.getElem?_eq_getElem (by omega);refine⟨_,_, ?_,hys,h1.trans hys⟩;rw[<-Go.Deep.add_add,hcell,hv]
end
theorem pick{α:Type}(P:Nat->α->Prop)(n:Nat)(h:∀i,i<n->∃x,P i x):∃L:List α,L.length=n∧∀i x,L[i]? =some x->P i x:=by
 induction n with
 |zero=>exact⟨[],rfl,by simp⟩
 |succ n ih=>
  obtain⟨L,hl,hL⟩:=ih (fun i hi=>h i (by omega));obtain⟨x,hx⟩:=h n (by omega);refine⟨L++ [x],by simp[hl],fun i y hy=> ?_⟩;by_cases hi:i<n
  ·rw[List.getElem?_append_left (by omega)] at hy;exact hL i y hy
  ·have hlt:=(List.getElem?_eq_some_iff.1 hy).1;have hin:i=n:=by simp[hl] at hlt;omega
   subst hin;rw[List.getElem?_append_right (by omega),hl] at hy;simp at hy;subst hy;exact hx
theorem Lm{H:Type}{enc:TypeId×Value->H}{W:World}{v:Value}{fuel:Nat}{y:DataW H×List MemPlace}(hf:DataW.trod enc prog W 0 (fun _=>true) true fuel 38 [v]=some y):
 ∃(A:Option Addr) (n c:Nat) (L:List SV),v=.slice A n c∧L.length=n∧n<=c∧c<=maxLen∧Kd.C Ci W A n L∧∀x∈L,x.f1.size<=maxLen:=by
 rcases nK underlying38 underlying37 (by kernel_rfl) (by kernel_rfl) hf with⟨hcs,_⟩|⟨a,len,cap,m,D,Pl,hcs,_,hl,hm,hmm,hx,hi⟩
 ·simp at hcs;subst hcs;exact⟨none,0,0,[],rfl,rfl,Nat.le_refl _,Nat.zero_le _,Kd.RH _ _,by simp⟩
 ·simp at hcs;subst hcs;rw[if_pos rfl] at hmm;subst hmm;obtain⟨L,hL,hat⟩:=pick (fun i (x:SV)=>(x.f1.size<=maxLen)∧∀j u,([Value.int .i64 x.f0,.string x.f1])[j]? =some u->W.cell? (a.add (i*2+j))=some u) len (fun i hin=>by
   obtain⟨ys,q,_,_,_,hfl⟩:=hi i (by omega);obtain⟨v0,y0,c0,_,t0⟩:=hfl 0 _ rfl;obtain⟨v1,y1,c1,_,t1⟩:=hfl 1 _ rfl;obtain⟨s0,e0,_,z0⟩:=DataW.trod_int underlying3 t0;obtain⟨s1,e1,_,z1⟩:=DataW.trod_string underlying9 t1;obtain rfl:=List.singleton_inj.1 e0;obtain rfl:=List.singleton_inj.1 e1;refine⟨⟨s0,s1⟩,z1,fun j u hj=> ?_⟩
   match j,hj with
   |0,hj=>cases hj;exact c0
   |1,hj=>cases hj;exact c1)
  refine⟨some a,len,m,L,rfl,hL,hl,hm,⟨hL,by have:maxLen=9223372036854775807:=rfl;omega,fun _=>⟨a,rfl,fun j x hj=> ?_⟩⟩,fun x hx=> ?_⟩
  ·exact⟨[Value.int .i64 x.f0,.string x.f1],rfl,R6 W x,(hat j x hj).2⟩
  ·obtain⟨j,hj,rfl⟩:=List.getElem_of_mem hx;exact(hat j _ (List.getElem?_eq_getElem hj)).1
structure wY where
 kind:Int
 num:Int
 text:ByteArray
 A:Option Addr
 n:Nat
 c:Nat
 V:List SV
 pay:ByteArray
def Dr(a:wY):List Value:= [.int .i64 a.kind,.int .i64 a.num,.string a.text,.slice a.A a.n a.c,.string a.pay]
structure yM(w:World)(a:wY):Prop where
 kind:(Lit.int .i64 a.kind).wf=true
 num:(Lit.int .i64 a.num).wf=true
 text:a.text.size<=maxLen
 len:a.V.length=a.n
 cap:a.n<=a.c
 big:a.c<=maxLen
 vals:Kd.C Ci w a.A a.n a.V
 size:∀x∈a.V,x.f1.size<=maxLen
 pay:a.pay.size<=maxLen
theorem yM.below{w w':World}{a:wY}(h:yM w a)(hb:Below w.heap.size w w'):yM w' a:=⟨h.kind,h.num,h.text,h.len,h.cap,h.big,Kd.aY h.vals hb,h.size,h.pay⟩
def vN(w:World)(A:Option Addr)(n:Nat)(L:List wY):Prop:=
 L.length=n∧n<=maxLen∧(0<n->∃ad,A=some ad∧∀i a,L[i]? =some a->∀j u,(Dr a)[j]? =some u->w.cell? (ad.add (i*5+j))=some u)∧∀a∈L,yM w a
theorem cell_below{w w':World}(hb:Below w.heap.size w w'){a:Addr}{u:Value}(h:w.cell? a=some u):w'.cell? a=some u:=(hb.cell (World.block_lt_of_cell? w _ h)).trans h
theorem vN.below{w w':World}{A:Option Addr}{n:Nat}{L:List wY}(h:vN w A n L)(hb:Below w.heap.size w w'):vN w' A n L:=
 ⟨h.1,h.2.1,fun hn=>by
  obtain⟨ad,e,hc⟩:=h.2.2.1 hn;exact⟨ad,e,fun i a hi j u hj=>cell_below hb (hc i a hi j u hj)⟩,fun a ha=>(h.2.2.2 a ha).below hb⟩
theorem Tw{w:World}{A:Option Addr}{n:Nat}{L:List wY}(h:vN w A n L)(i:Nat)(hi:i<n):
 ∃ad a,A=some ad∧L[i]? =some a∧yM w a∧w.cell? (ad.add ((i:Int).toNat*5))=some (.int .i64 a.kind)∧w.cell? ⟨(ad.add ((i:Int).toNat*5)).block,(ad.add ((i:Int).toNat*5)).off+1,none⟩=some (.int .i64 a.num)∧w.cell? ⟨(ad.add ((i:Int).toNat*5)).block,(ad.add ((i:Int).toNat*5)).off+2,none⟩=some (.string a.text)∧w.cell? ⟨(ad.add ((i:Int).toNat*5)).block,(ad.add ((i:Int).toNat*5)).off+3,none⟩=some (.slice a.A a.n a.c)∧w.cell? ⟨(ad.add ((i:Int).toNat*5)).block,(ad.add ((i:Int).toNat*5)).off+4,none⟩=some (.string a.pay):=by
 obtain⟨ad,e,hc⟩:=h.2.2.1 (by omega);have hl:i<L.length:=by rw[h.1];exact hi
 have ha:L[i]? =some L[i]:=List.getElem?_eq_getElem hl;have hcs:=hc i _ ha;have e1:(i:Int).toNat=i:=rfl;rw[e1];exact⟨ad,L[i],e,ha,h.2.2.2 _ (List.getElem_mem hl),hcs 0 _ rfl,by rw[<-bC _ _ 1 (by omega)];exact hcs 1 _ rfl,by rw[<-bC _ _ 2 (by omega)];exact hcs 2 _ rfl,by rw[<-bC _ _ 3 (by omega)];exact hcs 3 _ rfl,by rw[<-bC _ _ 4 (by omega)];exact hcs 4 _ rfl⟩
theorem KC{H:Type}{enc:TypeId×Value->H}{W:World}{v:Value}{d:DataW H}{p:List MemPlace}{r:Reach}{b0:Nat}(hv:Value.okWide prog W r b0 65 v)(h:DataW.Trod enc prog W 0 (fun _=>true) true 65 v d p):
 ∃(A:Option Addr) (n c:Nat) (L:List wY),v=.slice A n c∧n<=c∧c<=maxLen∧vN W A n L:=by
 obtain⟨A,n,c,rfl⟩:=okWide_slice underlying65 hv;obtain⟨fuel,hf⟩:=h;rcases open_slice underlying65 hf with⟨hcs,_⟩|⟨a,len,cap,m,q,D,Pl,hcs,_,hl,hm,hmm,hx,hi⟩
 ·simp[Value.cells] at hcs;obtain⟨rfl,rfl,rfl⟩:=hcs;exact⟨none,0,0,[],rfl,Nat.le_refl _,Nat.zero_le _,rfl,Nat.zero_le _,fun h=>absurd h (by omega),by simp⟩
 ·simp[Value.cells] at hcs;obtain⟨rfl,rfl,rfl⟩:=hcs;rw[if_pos rfl] at hmm;subst hmm;have hC:prog.cellsOf 76=5:=by kernel_rfl
  have hCe:prog.cellsOf 40=2:=by kernel_rfl
  have Gp:prog.cellsOf 3=1:=by kernel_rfl
  have Pw:prog.cellsOf 9=1:=by kernel_rfl
  have hCv:prog.cellsOf 38=1:=by kernel_rfl
  obtain⟨L,hL,hat⟩:=pick (fun i (x:wY)=>yM W x∧∀j u,(Dr x)[j]? =some u->W.cell? (a.add (i*5+j))=some u) n (fun i hin=>by
   obtain⟨cs',hc,ht'⟩:=hi i (by omega);rw[hC] at hc;obtain⟨_,hcl,aaA⟩:=World.cells?_some hc;obtain⟨ys,n',hn',hy,hlen,hyl,X9⟩:=DataW.trod_struct underlying76 ht'
   match cs',hcl with
   | [u0,u1,u2,u3,u4],_=>
    have g0:DataW.trod enc prog W 0 (fun _=>true) true n' 3 (([u0,u1,u2,u3,u4].drop 0).take (prog.cellsOf 3))=ys[0]? :=X9 0 _ rfl;have g1:DataW.trod enc prog W 0 (fun _=>true) true n' 3 (([u0,u1,u2,u3,u4].drop 1).take (prog.cellsOf 3))=ys[1]? :=X9 1 _ rfl;have g2:DataW.trod enc prog W 0 (fun _=>true) true n' 9 (([u0,u1,u2,u3,u4].drop 2).take (prog.cellsOf 9))=ys[2]? :=X9 2 _ rfl;have g3:DataW.trod enc prog W 0 (fun _=>true) true n' 40 (([u0,u1,u2,u3,u4].drop 3).take (prog.cellsOf 40))=ys[3]? :=X9 3 _ rfl;rw[Gp,List.getElem?_eq_getElem (by rw[hyl];decide)] at g0 g1;rw[Pw,List.getElem?_eq_getElem (by rw[hyl];decide)] at g2;rw[hCe,List.getElem?_eq_getElem (by rw[hyl];decide)] at g3;obtain⟨s0,q0,_,z0⟩:=DataW.trod_int underlying3 g0;obtain⟨s1,q1,_,z1⟩:=DataW.trod_int underlying3 g1;obtain⟨s5,q5,_,z5⟩:=DataW.trod_string underlying9 g2;obtain⟨ys6,n6,_,_,_,Xy,Vp⟩:=DataW.trod_struct underlying40 g3;have g60:DataW.trod enc prog W 0 (fun _=>true) true n6 38 (([u3,u4].drop 0).take (prog.cellsOf 38))=ys6[0]? :=Vp 0 _ rfl;have g61:DataW.trod enc prog W 0 (fun _=>true) true n6 9 (([u3,u4].drop 1).take (prog.cellsOf 9))=ys6[1]? :=Vp 1 _ rfl;rw[hCv] at g60;rw[List.getElem?_eq_getElem (by rw[Xy];decide)] at g60;rw[Pw,List.getElem?_eq_getElem (by rw[Xy];decide)] at g61;obtain⟨A6,n7,c6,L6,q6,h1,h2,h3,h4,h5⟩:=Lm g60;obtain⟨s7,q7,_,z7⟩:=DataW.trod_string underlying9 g61;obtain rfl:=List.singleton_inj.1 q0;obtain rfl:=List.singleton_inj.1 q1;obtain rfl:=List.singleton_inj.1 q5;obtain rfl:=q6;obtain rfl:=List.singleton_inj.1 q7;refine⟨⟨s0,s1,s5,A6,n7,c6,L6,s7⟩,⟨z0,z1,z5,h1,h2,h3,h4,h5,z7⟩,fun j u hj=> ?_⟩;have hj8:j<5:=(List.getElem?_eq_some_iff.1 hj).1;have:=aaA j hj8;rw[Go.Deep.add_add] at this;exact this.trans hj)
  refine⟨some a,n,m,L,rfl,hl,hm,hL,by omega,fun _=>⟨a,rfl,fun i x hx=>(hat i x hx).2⟩,fun x hx=> ?_⟩;obtain⟨j,hj,rfl⟩:=List.getElem_of_mem hx;exact(hat j _ (List.getElem?_eq_getElem hj)).1
open Value renaming slice->Vs
theorem Qi(v:Value)(a l:Int)(w:World)(h:a<0∨32<=a∨l<0∨8<l):
 Calls prog 10 #[.int .i64 a,v,.int .i64 l] w fun e w'=>Below w.heap.size w w'∧∃b n,e=.returned (.tuple #[.pointer none,fw b])∧eX w' 1 n (fw b):=by
 unfold fw;by_cases h1:a<0
 ·have b1:decide (a<0)=true:=decide_eq_true h1;go_enter func10,ntmps10
  go_wp2_with fail
  refine(iN 1 w).mono ?_;rintro e w3 ⟨b,hb,rfl,Ee,hb3⟩;have fQ:=ai (And.intro Ee hb3);clear hb Ee hb3;go_wp2
  go_ret2
  exact⟨fQ.o.2,b,1,rfl,b,_,_,_,rfl,fQ.o.1,rfl⟩
 by_cases h2:32<=a
 ·have b1:decide (a<0)=false:=decide_eq_false h1;have b2:decide (32<=a)=true:=decide_eq_true h2;go_enter func10,ntmps10
  go_wp2_with fail
  refine(iN 1 w).mono ?_;rintro e w3 ⟨b,hb,rfl,Ee,hb3⟩;have fQ:=ai (And.intro Ee hb3);clear hb Ee hb3;go_wp2
  go_ret2
  exact⟨fQ.o.2,b,1,rfl,b,_,_,_,rfl,fQ.o.1,rfl⟩
 by_cases h3:l<0
 ·have b1:decide (a<0)=false:=decide_eq_false h1;have b2:decide (32<=a)=false:=decide_eq_false h2;have b3:decide (l<0)=true:=decide_eq_true h3;go_enter func10,ntmps10
  go_wp2_with fail
  refine(iN 1 w).mono ?_;rintro e w3 ⟨b,hb,rfl,Ee,hb3⟩;have fQ:=ai (And.intro Ee hb3);clear hb Ee hb3;go_wp2
  go_ret2
  exact⟨fQ.o.2,b,1,rfl,b,_,_,_,rfl,fQ.o.1,rfl⟩
 have b1:decide (a<0)=false:=decide_eq_false h1;have b2:decide (32<=a)=false:=decide_eq_false h2;have b3:decide (l<0)=false:=decide_eq_false h3;have b4:decide (8<l)=true:=decide_eq_true (by omega);clear h;go_enter func10,ntmps10
 go_wp2_with fail
 refine(iN 1 w).mono ?_;rintro e w3 ⟨b,hb,rfl,Ee,hb3⟩;have fQ:=ai (And.intro Ee hb3);clear hb Ee hb3;go_wp2
 go_ret2
 exact⟨fQ.o.2,b,1,rfl,b,_,_,_,rfl,fQ.o.1,rfl⟩
theorem QA(A:Option Addr)(n c:Nat)(S:List SA)(a l:Int)(i:Nat)(w:World)(ha:0<=a∧a<32)(h0:0<=l∧l<=8)(hn:S.length=n)(hC:Kd.C Pp w A n S)(hl:n<=100000)(hnc:n<=c)(hck:cB S=some i):
 Calls prog 10 #[.int .i64 a,.slice A n c,.int .i64 l] w fun e w'=>Below w.heap.size w w'∧∃b n,e=.returned (.tuple #[.pointer none,fw b])∧eX w' 3 n (fw b):=by
 unfold fw;have HC:=ai ((qy A n c S w hn hC hl hnc).mono (fun e w' hq=>fE.bad hq hck));have b1:decide (a<0)=false:=decide_eq_false (by omega);have b2:decide (32<=a)=false:=decide_eq_false (by omega);have b3:decide (l<0)=false:=decide_eq_false (by omega);have b4:decide (8<l)=false:=decide_eq_false (by omega);clear hn hC hl hnc hck ha h0;go_enter func10,ntmps10
 go_wp2_with fail
 refine HC.o.mono ?_;rintro e w1 ⟨b,hb,rfl,Ee,hb1⟩;have fQ:=ai (And.intro Ee hb1);clear hb Ee hb1 HC;go_wp2
 go_ret2
 exact⟨fQ.o.2,b,1,rfl,b,_,_,_,rfl,fQ.o.1,rfl⟩
theorem LG:(prog.info? 123).map (fun i=>(i.zero,i.size,i.bytes))=some (some (.agg #[(.int .i64 0),(.string ⟨#[]⟩),(.slice none 0 0),(.slice none 0 0)]),4,72):=by kernel_rfl
theorem clP:jm 71 168 5 56:=by
 have hinfo:(prog.info? 168).map (fun i=>(i.zero,i.size,i.bytes))=some (some (.agg #[(.string ⟨#[]⟩),(.int .i64 0),(.int .i64 0),(.int .i64 0),(.string ⟨#[]⟩)]),5,56):=by kernel_rfl
 obtain⟨i0,hi,hzz⟩:=Option.map_eq_some_iff.1 hinfo;simp only[Prod.mk.injEq] at hzz;exact⟨fun b off n c news w hl hn hbig hc h1=>AnyE.slices_Clone Tryz.NH i0 _ 5 56 hi hzz.1 hzz.2.1 hzz.2.2 rfl (by decide) sizeOf168 b off n c news w hl hn hbig hc h1,fun n c w=>AnyE.slices_Clone_nil Tryz.NH n c w⟩
theorem Gm{w:World}{base:Nat}{ok:Nat->Prop}{x:iY}{cs:List Value}(h:qJ.M w base ok x cs):∃v u,cs= [.int .i64 x.id,.string x.text,v,u]∧Kd.R Po tP w base ok v x.F∧Kd.R Kd.string tS w base ok u x.G:=by
 obtain⟨_,_,rfl,rfl,⟨_,_,rfl,rfl,⟨_,_,rfl,⟨v,rfl,h1⟩,⟨u,rfl,h2⟩⟩⟩⟩:=h;exact⟨v,u,rfl,h1,h2⟩
theorem Rc{w:World}{base:Nat}{ok:Nat->Prop}{A:Option Addr}{n c:Nat}{xs:List iY}(h:Kd.R qJ iw w base ok (.slice A n c) xs)(i:Nat)(hi:i<n):∃ad x B k b D l e,A=some ad∧xs[i]? =some x∧w.cell? (ad.add (i*4))=some (.int .i64 x.id)∧w.cell? ⟨(ad.add (i*4)).block,(ad.add (i*4)).off+1,none⟩=some (.string x.text)∧w.cell? ⟨(ad.add (i*4)).block,(ad.add (i*4)).off+2,none⟩=some (.slice B k b)∧w.cell? ⟨(ad.add (i*4)).block,(ad.add (i*4)).off+3,none⟩=some (.slice D l e)∧Kd.R Po tP w base ok (.slice B k b) x.F∧Kd.R Kd.string tS w base ok (.slice D l e) x.G:=by
 obtain⟨h0,inner,hown,hr⟩:=h;rcases hown.2 with⟨hv,hx⟩|⟨g,cap,cur,hv,hg,hh,hnc,hcm,hcs,ht⟩
 ·injection hv with _ hv _;omega
 ·injection hv with h1 h2 h3;subst h1 h2 h3;have hxi:xs[i]? =some xs[i]:=List.getElem?_eq_getElem hi;have hM:=hr.2 i xs[i] hxi;obtain⟨v,u,Tn,hV,hW⟩:=Gm hM;obtain⟨B,b,rfl⟩:=Kd.dE hV;obtain⟨D,e,rfl⟩:=Kd.dE hW;have hcell:∀j y,[Value.int .i64 xs[i].id,.string xs[i].text,.slice B xs[i].F.length b,.slice D xs[i].G.length e][j]? =some y->w.cell? ((⟨g,0,none⟩:Addr).add (i*4+j))=some y:=fun j y hj=>by
   rw[<-Tn,List.getElem?_take] at hj;split at hj
   ·rw[List.getElem?_drop] at hj;exact hown.cells (g:=g) rfl _ y hj
   ·cases hj
  refine⟨⟨g,0,none⟩,xs[i],B,_,b,D,_,e,rfl,hxi,hcell 0 _ rfl, ?_, ?_, ?_,Kd.dD hV (fun _ hk=>hk.1),Kd.dD hW (fun _ hk=>hk.1)⟩
  ·rw[<-bC _ _ 1 (by omega)];exact hcell 1 _ rfl
  ·rw[<-bC _ _ 2 (by omega)];exact hcell 2 _ rfl
  ·rw[<-bC _ _ 3 (by omega)];exact hcell 3 _ rfl
theorem DY{α:Type}{d:Kd α}{e b:Nat}{w:World}{ok ok':Nat->Prop}{v:Value}{xs:List α}(hE:d.E= [])(h:Kd.R d e w b ok v xs)(h0:∀k,v.ownBlock=some k->ok' k):Kd.R d e w b ok' v xs:=
 ⟨h0,h.2.j6 (fun _ _ hp=>d.M_mono (fun k hk=>by
  obtain⟨_,_,_,q,hq,_⟩:=hk;rw[hE] at hq;cases hq) (d.M_bound hp))⟩
theorem Ii(base g:Nat)(h:Hd)(N:eG)(w:World)(hI:cK base w g h N)(hbase:base<=w.heap.size)(hF:fV N):
 Calls prog 34 #[.pointer (some ⟨g,0,none⟩)] w fun e w'=>(∃A c,e=.returned (.slice A N.subs.length c))∧Below w.heap.size w w':=by
 obtain⟨A3,c3,hv3,_,_⟩:=Kd.bB hI.rows.sub;obtain⟨n,hn⟩:∃n,n=N.subs.length:=⟨_,rfl⟩
 have Kg:=hI.rows.sub;rw[hv3,<-hn] at Kg;have y3:=(hI.cell 3).trans (show _=some (Vs A3 n c3) from by rw[hn,<-hv3];rfl);have HR3:=ai Kg;have HF:=ai hF;have HL:=ai (show n<=16 from by rw[hn];exact hF.nSub);have kD:=ai hbase;rw[<-hn];clear hI hv3 Kg hn hbase hF;go_enter func34,ntmps34
 have HB0:=ai (Below.refl w.heap.size w);go_wp2_with fail
 go_loopg [3,5,11] (n+1) (fun kk v3 v5 v11 W=>∃(i:Nat) (acc:List iY),ay (i<=n∧kk+i=n+1∧acc.length=i)∧v11=.int .i64 (i:Int)∧ay (Below w.heap.size w W)∧ay (Kd.R qJ iw W base (fun _=>True) v3 acc)∧ay (∀k1,v3.ownBlock=some k1->w.heap.size<=k1))
 case atStart=>exact⟨0,[],⟨by omega,by omega,rfl⟩,rfl,HB0,⟨Kd.iF _ _ _ _ _⟩,⟨fun k1 hk1=>by simp[Value.ownBlock] at hk1⟩⟩
 case round=>
  obtain⟨i,acc,HM,rfl,HB,HO,kC⟩:=hrel;obtain⟨Ao,co,rfl,_,_⟩:=Kd.bB HO.o;by_cases hi:i<n
  ·have b1:decide ((i:Int)<(n:Int))=true:=decide_eq_true (by omega);have b2:decide (i<n)=true:=decide_eq_true (by omega);have p1:(0:Int)<=(i:Int):=by omega
   have p2:(i:Int)<(n:Int):=by omega
   obtain⟨ad,x,B,k,b,D,l,e,hA,hx,c0,c1,c2,c3',UC,WX⟩:=Rc (Kd.bJ HR3.o HB.o) i hi;cases hA
   have hin:=List.mem_of_getElem? hx;have hfl:=HF.o.flt x hin;have hgl:=HF.o.cz x hin;have hf4:=(VD HF.o.chk hfl).1;have HFG:=ai (And.intro UC WX);have Ls:=ai (show k<=1000∧l<=1000 from⟨by rw[(Kd.bN UC).1];omega,by rw[(Kd.bN WX).1];have:=hgl.1;omega⟩);clear hx UC WX hin hfl hgl hf4;go_upto_region 5 with (fail)
   have gZ:=ae (Below.refl wr.heap.size wr) (.cells #[.int .i64 x.id,.string x.text,.slice B k b,.slice D l e] iw);have lh:=heap_alloc_new wr (.cells #[.int .i64 x.id,.string x.text,.slice B k b,.slice D l e] iw);clear c0 c1 c2 c3';generalize wr.alloc (.cells #[.int .i64 x.id,.string x.text,.slice B k b,.slice D l e] iw)=W7 at gZ lh|-;obtain⟨gb,hgb⟩:∃q,q=wr.heap.size:=⟨_,rfl⟩
   rw[<-hgb] at lh|-;have U1:=ai (show w.heap.size<=gb∧gb<W7.heap.size from⟨by rw[hgb];exact HB.o.size,aI lh⟩);replace HB:=dW HB gZ;have Yw:=ai (fun (W:World) (hb:Below W7.heap.size W7 W)=>clP.row (w:=W) (base:=base) (Nat.le_trans kD.o (Nat.le_trans HB.o.size hb.size)) (Kd.bJ (Kd.bJ HFG.o.1 gZ) hb) (by have:=Ls.o.1;omega) (by decide));have HCS:=ai (fun (W:World) (hb:Below W7.heap.size W7 W)=>clS.row (w:=W) (base:=base) (Nat.le_trans kD.o (Nat.le_trans HB.o.size hb.size)) (Kd.bJ (Kd.bJ HFG.o.2 gZ) hb) (by have:=Ls.o.2;omega) (by decide));have e2:=dh lh;have e3:=dA lh;have z2:=af lh 2;have z3:=af lh 3;have Aa:=ai lh;have UM:=ai (show some gb≠(Vs Ao acc.length co).ownBlock from fun h0=>by have:=Kd.Qf HO.o gb h0.symm;omega);replace HO:=lV HO gZ;clear gZ lh hgb;have kP:=ai (Below.refl W7.heap.size W7);go_cut [] (fun wx=>∃(A8 A9:Option Addr) (c8 c9:Nat),ay (Below w.heap.size w wx)∧ay (Kd.R qJ iw wx base (fun _=>True) (.slice Ao acc.length co) acc)∧ay (wx.heap[gb]? =some (.cells #[.int .i64 x.id,.string x.text,.slice A8 k c8,.slice A9 l c9] iw (0,0)))∧ay (Kd.R Po tP wx base (fun k1=>True∧some k1≠(Vs Ao acc.length co).ownBlock) (.slice A8 k c8) x.F)∧ay (Kd.R Kd.string tS wx base (fun k1=>True∧some k1≠(Vs Ao acc.length co).ownBlock) (.slice A9 l c9) x.G))
   case first=>
    go_region_law (first|(go_simp;go_at_call 71;(with_reducible refine(Yw.o _ ?tb).mono ?_);(case tb=>(with_reducible repeat(first|exact kP.o|apply ah|apply ak|apply aK)));rintro e_ wx ⟨A8,c8,rfl,Xf,hg8,UU⟩;have dH:=ai (aD (by(with_reducible repeat(first|exact kP.o|apply ah|apply ak|apply aK))) (Below.size (by(with_reducible repeat(first|exact kP.o|apply ah|apply ak|apply aK)))) UU);replace Aa:=ai ((UU.block gb (aI Aa.o)).trans Aa.o);clear e2 e3 z2 z3;have e2:=dh Aa.o;have e3:=dA Aa.o;have z2:=af Aa.o 2;have z3:=af Aa.o 3;have Fw:=ai (And.intro Xf (fun (k1:Nat) (hk1:(Vs A8 k c8).ownBlock=some k1)=>Nat.le_trans (Below.size (by(with_reducible repeat(first|exact kP.o|apply ah|apply ak|apply aK)))) (hg8 k1 hk1)));clear kP Xf hg8 UU;have kP:=dH;clear dH)|(go_simp;go_at_call 72;(with_reducible refine(HCS.o _ ?tb).mono ?_);(case tb=>(with_reducible repeat(first|exact kP.o|apply ah|apply ak|apply aK)));rintro e_ wy ⟨A9,c9,rfl,hR9,hg9,oo⟩;have dH:=ai (aD (by(with_reducible repeat(first|exact kP.o|apply ah|apply ak|apply aK))) (Below.size (by(with_reducible repeat(first|exact kP.o|apply ah|apply ak|apply aK)))) oo);replace Aa:=ai ((oo.block gb (aI Aa.o)).trans Aa.o);clear e2 e3 z2 z3;have e2:=dh Aa.o;have e3:=dA Aa.o;have z2:=af Aa.o 2;have z3:=af Aa.o 3;replace Fw:=ai (And.intro (Kd.bJ Fw.o.1 oo) Fw.o.2);have HR9:=ai (And.intro hR9 (fun (k1:Nat) (hk1:(Vs A9 l c9).ownBlock=some k1)=>Nat.le_trans (Below.size (by(with_reducible repeat(first|exact kP.o|apply ah|apply ak|apply aK)))) (hg9 k1 hk1)));clear kP hR9 hg9 oo;have kP:=dH;clear dH))
    all_goals
     go_wp2_with fail
     go_meet;have hs2:(wy.setCell ⟨gb,2,none⟩ (.slice A8 k c8)).heap[gb]? =some (.cells #[.int .i64 x.id,.string x.text,.slice A8 k c8,.slice D l e] iw (0,0)):=by simpa using bg Aa.o 2 (.slice A8 k c8)
     have hs3:((wy.setCell ⟨gb,2,none⟩ (.slice A8 k c8)).setCell ⟨gb,3,none⟩ (.slice A9 l c9)).heap[gb]? =some (.cells #[.int .i64 x.id,.string x.text,.slice A8 k c8,.slice A9 l c9] iw (0,0)):=by simpa using bg hs2 3 (.slice A9 l c9)
     have hbw:=au (j:=3) (v:=.slice A9 l c9) (au (j:=2) (v:=.slice A8 k c8) (aD HB.o HB.o.size kP.o) U1.o.1) U1.o.1;have hO:=mO (mO (Kd.bJ HO.o kP.o) UM.o Aa.o (by decide+kernel) 2 (.slice A8 k c8)) UM.o hs2 (by decide+kernel) 3 (.slice A9 l c9);have hP:=Kd.jX (Kd.jX Fw.o.1 Aa.o (by decide+kernel) 2 (.slice A8 k c8)) hs2 (by decide+kernel) 3 (.slice A9 l c9);have hS:=Kd.jX (Kd.jX HR9.o.1 Aa.o (by decide+kernel) 2 (.slice A8 k c8)) hs2 (by decide+kernel) 3 (.slice A9 l c9);exact⟨A8,A9,c8,c9,⟨hbw⟩,⟨hO⟩,⟨hs3⟩,⟨DY rfl hP (fun k1 hk1=>⟨trivial,fun e1=>by have h1:W7.heap.size<=k1:=Fw.o.2 k1 hk1;have h2:=Kd.Qf HO.o k1 e1.symm;omega⟩)⟩,⟨DY rfl hS (fun k1 hk1=>⟨trivial,fun e1=>by have h1:W7.heap.size<=k1:=HR9.o.2 k1 hk1;have h2:=Kd.Qf HO.o k1 e1.symm;omega⟩)⟩⟩
   case rest=>
    obtain⟨A8,A9,c8,c9,HB,HO,HK,DX,wD⟩:=hcut;have e0:=bK HK.o;have e1:=bS HK.o;have e2:=dh HK.o;have e3:=dA HK.o;go_wp2_with ((with_reducible refine bn (b:=.append) (xs:= #[.tmp 23,.tmp 25]) rfl ?_);at_builtin;go_loud (refine Kd.di qJ (w0:=w) base rfl (.tmp 23) (.tmp 25) 94 iw (.agg #[(.int .i64 0),(.string ⟨#[]⟩),(.slice none 0 0),(.slice none 0 0)]) 72 rfl underlying94 LG rfl (by decide) (by omega) _ acc x [.int .i64 x.id,.string x.text,.slice A8 k c8,.slice A9 l c9] (fun _=>True) (fun k1=>True∧some k1≠(Vs Ao acc.length co).ownBlock) rfl ?aX ?aP (fun _ hk=>hk) ?aF HO.o (HB.o.mono kD.o) (Nat.le_trans kD.o HB.o.size) ?aL ?_;(case aX=>first|rfl|(go_simp;done)|(go_simp;rfl));(case aP=>exact Ep DX.o wD.o);(case aF=>exact(fun _ _=>trivial));(case aL=>have:=HM.o;have:=HL.o;omega);intro v9 w9 ho hb hg hat;have dH:=ai ho;have dU:=ai (HB.o.grown hg HB.o.size (fun k1 hk1=>kC.o k1 hk1));have dS:=ai (show ∀k1,v9.ownBlock=some k1->w.heap.size<=k1 from fun k1 hk1=>by rcases hat with h1|⟨b1,h1,h2⟩;exact kC.o k1 (h1.symm.trans hk1);(rw[h1] at hk1;injection hk1 with hk1;have:=HB.o.size;omega));clear HB HO kC ho hb hg hat;have kC:=dS;have HO:=dH;have HB:=dU;clear dH dU dS))
    obtain⟨A9,c9,rfl,_,_⟩:=Kd.bB HO.o;go_wp2_with fail
    go_roundg (gk-1)
    case measure=>have:=HM.o;omega
    case rel=>exact⟨i+1,_,⟨by omega,by have:=HM.o;omega,by have:=HM.o;rw[List.length_append];simp;omega⟩,by first|rfl|(rw[jK (by omega) (by have:=HL.o;omega)];rfl),HB,HO,kC⟩
  ·have b1:decide ((i:Int)<(n:Int))=false:=decide_eq_false (by omega);have b2:decide (i<n)=false:=decide_eq_false (by omega);have hal:acc.length=n:=by have:=HM.o;omega
   have qL:=ai hal;clear hal;go_wp2;go_ret;exact⟨⟨Ao,co,by(try rw[qL.o]);rfl⟩,HB.o⟩
theorem Ak(base g:Nat)(h:Hd)(N:eG)(w:World)(hI:cK base w g h N):Calls prog 21 #[.pointer (some ⟨g,0,none⟩)] w fun e w'=>e=.returned (.int .i64 0)∧w'=w:=by
 have y5:=(hI.cell 5).trans (show _=some (Vs none 0 0) from rfl);clear hI;go_enter func21,ntmps21
 go_wp2_with fail
 refine(show Calls prog 63 #[.pointer (some ⟨g,5,none⟩)] w fun e w'=>e=.returned (.int .i64 0)∧w'=w from ?_).mono ?_
 ·go_enter func63,ntmps63
  go_wp2;go_ret;exact⟨rfl,rfl⟩
 ·rintro e w2 ⟨rfl,rfl⟩;go_wp2;go_ret;exact⟨rfl,rfl⟩
theorem GZ(base g:Nat)(h:Hd)(N:eG)(w:World)(hI:cK base w g h N):Calls prog 35 #[.pointer (some ⟨g,0,none⟩)] w fun e w'=>e=.returned (.bool true)∧Below w.heap.size w w':=by
 obtain⟨D,hown,Er⟩:=hI.rows.lnk.1;have Wm:=(hI.cell 10).trans (show _=some (Value.map (some h.bl)) from rfl);clear hI Er;go_enter func35,ntmps35
 go_wp2_with (first
  |(at_range;refine wpList_range_own _ rfl _ 105 rfl 3 170 kU underlying105 _ h.bl 0 _ rfl hown ?_;intro w0 hrg0 hg0 hs0)
  |fail)
 go_frame;have hb0:Below w.heap.size w w0:=⟨hg0.os,hg0.tape,hg0.output,hg0.size,fun i hi=>hg0.block i hi (by simp)⟩
 have hcnt:=sw hrg0;have wD:=ai (And.intro hcnt hrg0);generalize Maps.size D=cnt0 at wD;generalize w.heap.size=r at wD|-;have HB0:=ai hb0;clear hrg0 hg0 hs0 hb0 hcnt hown;have Xi:ay (∀key kl,keyOf prog 3 key=some kl->∃x,key=kI x):=⟨fun key kl hkey=>by obtain⟨x,rfl,_⟩:=Maps.keyOf_int_inv underlying3 hkey;exact⟨x,rfl⟩⟩
 go_loopg [4] 1 (fun kk v4 W=>W=w0)
 case atStart=>exact rfl
 case round=>
  subst hrel;go_wp2_with (first
   |(at_next;go_loud (refine wpList_next_ranges _ rfl _ rfl 3 kU PT kI (fun c:Value=>c) Xi.o (fun v y hv=>⟨v,rfl⟩) h.bl r 0 D _ _ rfl wD.o.2 ?_ ?_))
   |fail)
  ·intro _ _;go_wp2;go_ret;exact⟨rfl,HB0.o⟩
  ·intro x c kl y w' cnt' _ _ _ _ _ hlt;have:=wD.o.1;omega
theorem MW(w:World):Calls prog 127 #[.int .u64 0] w fun e w'=>e=.returned (.int .i64 0)∧w'=w:=by
 go_enter func127,ntmps127
 go_wp2_with fail
 refine(show Calls prog 192 #[.int .u64 0] w fun e w'=>e=.returned (.int .i64 0)∧w'=w from ?_).mono ?_
 ·go_enter func192,ntmps192
  go_wp2;go_ret;exact⟨congrArg (fun x=>Ending.returned (Value.int .i64 x)) (show wrap64 (wrap64 (Lib.len8 0))=0 from by decide+kernel),rfl⟩
 ·rintro e w2 ⟨rfl,rfl⟩;go_wp2;go_ret;exact⟨rfl,rfl⟩
theorem Fg(w:World):Calls prog 182 #[.slice none 0 0,.int .i64 0,.int .i64 0] w fun e w'=>e=.returned (.tuple #[])∧Below w.heap.size w w':=by
 go_enter func182,ntmps182
 have HB0:=ai (Below.refl w.heap.size w);go_wp2_with fail
 go_loopg [6,7] 1 (fun kk v6 v7 W=>v6=.int .i64 1∧ay (Below w.heap.size w W))
 case atStart=>exact⟨rfl,HB0⟩
 case round=>
  obtain⟨rfl,HB⟩:=hrel;go_wp2
  first|go_end0|((try simp only[Exit.inBlock,Exit.then]);refine bodyPost_ret (results_none rfl _ _ _) rfl ?_)
  exact⟨rfl,HB.o⟩
theorem KN(w:World):Calls prog 74 #[.slice none 0 0] w fun e w'=>e=.returned (.tuple #[])∧Below w.heap.size w w':=by
 go_enter func74,ntmps74
 go_wp2_with fail
 refine(MW w).mono ?_;rintro e w2 ⟨rfl,rfl⟩;go_wp2_with fail
 refine(show Calls prog 126 #[.slice none 0 0,.int .i64 0,.int .i64 0,.int .i64 0] w2 fun e w'=>e=.returned (.tuple #[])∧Below w2.heap.size w2 w' from ?_).mono ?_
 ·go_enter func126,ntmps126
  have HB0:=ai (Below.refl w2.heap.size w2);go_wp2_with fail
  go_loopg [1,2,3] 1 (fun kk v1 v2 v3 W=>v1=.int .i64 0∧v2=.int .i64 0∧W=w2)
  case atStart=>exact⟨rfl,rfl,rfl⟩
  case round=>
   obtain⟨rfl,rfl,hrel⟩:=hrel;subst hrel;go_wp2_with fail
   refine(Fg wr).mono ?_;rintro e w3 ⟨rfl,hb⟩;have HB:=ai hb;clear hb;go_wp2
   first|go_end0|((try simp only[Exit.inBlock,Exit.then]);refine bodyPost_ret (results_none rfl _ _ _) rfl ?_)
   exact⟨rfl,HB.o⟩
 ·rintro e w3 ⟨rfl,hb⟩;have HB:=ai hb;clear hb;go_wp2
  first|go_end0|((try simp only[Exit.inBlock,Exit.then]);refine bodyPost_ret (results_none rfl _ _ _) rfl ?_)
  exact⟨rfl,HB.o⟩
theorem Ab(base g:Nat)(h:Hd)(N:eG)(w:World)(hI:cK base w g h N):Calls prog 36 #[.pointer (some ⟨g,0,none⟩)] w fun e w'=>e=.returned (.slice none 0 0)∧Below w.heap.size w w':=by
 obtain⟨D,hown,Er⟩:=hI.rows.lnk.1;have Wm:=(hI.cell 10).trans (show _=some (Value.map (some h.bl)) from rfl);clear hI Er;go_enter func36,ntmps36
 go_wp2_with (first
  |(at_range;refine wpList_range_own _ rfl _ 105 rfl 3 170 kU underlying105 _ h.bl 0 _ rfl hown ?_;intro w0 hrg0 hg0 hs0)
  |fail)
 go_frame;have hb0:Below w.heap.size w w0:=⟨hg0.os,hg0.tape,hg0.output,hg0.size,fun i hi=>hg0.block i hi (by simp)⟩
 have hcnt:=sw hrg0;have wD:=ai (And.intro hcnt hrg0);generalize Maps.size D=cnt0 at wD;generalize w.heap.size=r at wD|-;have HB0:=ai hb0;clear hrg0 hg0 hs0 hb0 hcnt hown;have Xi:ay (∀key kl,keyOf prog 3 key=some kl->∃x,key=kI x):=⟨fun key kl hkey=>by obtain⟨x,rfl,_⟩:=Maps.keyOf_int_inv underlying3 hkey;exact⟨x,rfl⟩⟩
 go_loopg [3,4] 1 (fun kk v3 v4 W=>v3=.slice none 0 0∧W=w0)
 case atStart=>exact⟨rfl,rfl⟩
 case round=>
  obtain⟨rfl,hrel⟩:=hrel;subst hrel;go_wp2_with (first
   |(at_next;go_loud (refine wpList_next_ranges _ rfl _ rfl 3 kU PT kI (fun c:Value=>c) Xi.o (fun v y hv=>⟨v,rfl⟩) h.bl r 0 D _ _ rfl wD.o.2 ?_ ?_))
   |fail)
  ·intro _ _;go_wp2_with fail
   refine(KN wr).mono ?_;rintro e w2 ⟨rfl,hb2⟩;have HB2:=dW HB0 hb2;clear HB0 hb2;go_wp2_with fail
   go_loopg [5,7,9,27] 1 (fun kk v5 v7 v9 v27 W=>v5=.slice none 0 0∧v27=.int .i64 0∧ay (Below w.heap.size w W))
   case atStart=>exact⟨rfl,rfl,HB2⟩
   case round=>
    obtain⟨rfl,rfl,HB⟩:=hrel;go_wp2;go_ret;exact⟨rfl,HB.o⟩
  ·intro x c kl y w' cnt' _ _ _ _ _ hlt;have:=wD.o.1;omega
section
variable{base g:Nat}{w0 w:World}{S:List SA}{lev:Int}{P:Nd}
theorem Gz(al:Al base g w0 w S lev P):Calls prog 21 #[ptr g] w fun e w'=>e=.returned (.int .i64 0)∧w'=w:=by
 obtain⟨h,N,h1,_⟩:=al.nd;exact Ak base g h N w h1
theorem P7(al:Al base g w0 w S lev P):Calls prog 35 #[ptr g] w fun e w'=>e=.returned (.bool true)∧Below w.heap.size w w':=by
 obtain⟨h,N,h1,_⟩:=al.nd;exact GZ base g h N w h1
theorem GU(al:Al base g w0 w S lev P):Calls prog 36 #[ptr g] w fun e w'=>e=.returned (.slice none 0 0)∧Below w.heap.size w w':=by
 obtain⟨h,N,h1,_⟩:=al.nd;exact Ab base g h N w h1
theorem Rb(al:Al base g w0 w S lev P):Calls prog 34 #[ptr g] w fun e w'=>(∃A c,e=.returned (.slice A P.subs.length c))∧Below w.heap.size w w':=by
 obtain⟨h,N,h1,h2,rfl,rfl,hF,hG⟩:=al.nd;have hlen:=eG.pR h2;have:=Ii base g h N w h1 al.size hF;rw[hlen.1] at this;exact this
end
def jA(i:Nat)(l:List UInt8):Bool:=(decide (i≠0)||wO (l.headD 0))&&l.all pX
theorem aak{i:Nat}{c:UInt8}{r:List UInt8}(h:wO c=true):jA i (c::r)=jA (i+1) r:=by
 unfold jA;have hA:pX c=true:=by unfold pX;rw[h];rfl
 simp[h,hA]
theorem ZI{i:Nat}{c:UInt8}{r:List UInt8}(hi:i≠0)(h:jF c=true):jA i (c::r)=jA (i+1) r:=by
 unfold jA;have hA:pX c=true:=by unfold pX;rw[h];simp
 simp[hi,hA]
theorem Vz{c:UInt8}{r:List UInt8}(h:wO c=false):jA 0 (c::r)=false:=by
 unfold jA;simp[h]
theorem Ow{i:Nat}{c:UInt8}{r:List UInt8}(h:wO c=false)(h2:jF c=false):jA i (c::r)=false:=by
 unfold jA;have hA:pX c=false:=by unfold pX;rw[h,h2];rfl
 simp[hA]
theorem Dv(s:ByteArray)(w:World)(hs:s.size<=1000000000):Calls prog 66 #[.string s] w fun e w'=>e=.returned (.bool (eQ s))∧w=w':=by
 by_cases h0:s.size=0
 ·have e0:s.toList= []:=by
   have e:s=ByteArray.empty:=by
    cases s with
    |mk d=>
     have h5:d.size=0:=h0;have:d= #[]:=Array.eq_empty_of_size_eq_zero h5;rw[this];rfl
   rw[e,btl];rfl
  have q0:((s.size:Int)==0)=true:=by rw[h0];rfl
  have HV:=ai (show eQ s=false by unfold eQ;rw[e0];rfl);generalize eQ s=z at HV|-;clear h0 e0;go_enter func66,ntmps66
  go_wp2;go_ret;exact⟨by rw[HV.o];rfl,rfl⟩
 ·have q0:((s.size:Int)==0)=false:=beq_eq_false_iff_ne.2 (by omega);have q0b:(s.toList== [])=false:=by
   cases hq:(s.toList== []) with
   |false=>rfl
   |true=>
    exfalso;have h5:s.toList= []:=of_decide_eq_true (by simpa using hq);have h6:s.data.toList.length=0:=by
     rw[<-btl,h5];rfl
    rw[Array.length_toList] at h6;exact h0 h6
  by_cases h12:12<s.size
  ·have q2:decide ((12:Int)<(s.size:Int))=true:=decide_eq_true (by omega);have HV:=ai (show eQ s=false by unfold eQ;rw[q0b,decide_eq_false (by omega:¬s.size<=12)];rfl);generalize eQ s=z at HV|-;clear h0 h12;go_enter func66,ntmps66
   go_wp2;go_ret;exact⟨by rw[HV.o];rfl,rfl⟩
  ·have q2:decide ((12:Int)<(s.size:Int))=false:=decide_eq_false (by omega);have hV:eQ s=(wO (s.data.toList.headD 0)&&(!(s.toList== [105,110])&&(!(s.toList== [97,110,100])&&s.data.toList.all pX))):=by unfold eQ;rw[q0b,decide_eq_true (by omega:s.size<=12)];rfl
   cases q3:(s.toList== [105,110]) with
   |true=>
    have HV:=ai (show eQ s=false by rw[hV,q3];simp);generalize eQ s=z at HV|-;clear h0 h12 hV;go_enter func66,ntmps66
    go_wp2;go_ret;exact⟨by rw[HV.o];rfl,rfl⟩
   |false=>
    cases q4:(s.toList== [97,110,100]) with
    |true=>
     have HV:=ai (show eQ s=false by rw[hV,q3,q4];simp);generalize eQ s=z at HV|-;clear h0 h12 hV;go_enter func66,ntmps66
     go_wp2;go_ret;exact⟨by rw[HV.o];rfl,rfl⟩
    |false=>
     have HV:=ai (show eQ s=jA 0 (bu s 0) by rw[hV,q3,q4];unfold jA bu;simp);generalize eQ s=z at HV|-;have H12:=ai h12;have H0:=ai h0;clear h0 h12 hV;go_enter func66,ntmps66
     go_wp2_with fail
     go_loopg [3,4,5] (s.size+1) (fun k v3 v4 v5 W=>∃i:Nat,ay (i<=s.size∧k+i=s.size+1∧z=jA i (bu s i))∧v3=.int .i64 (i:Int)∧W=w)
     case atStart=>exact⟨0,⟨by omega,by omega,HV.o⟩,rfl,rfl⟩
     case round=>
      obtain⟨i,HM,rfl,rfl⟩:=hrel;by_cases hi:i<s.size
      ·have b1:decide ((i:Int)<(s.size:Int))=true:=decide_eq_true (by omega);have b2:decide (i<s.size)=true:=decide_eq_true (by omega);have p1:(0:Int)<=(i:Int):=by omega
       have p2:(i:Int)<(s.size:Int):=by omega
       obtain⟨c,hc⟩:∃c,s[i]'hi=c:=⟨_,rfl⟩
       have Bo:=dP hi;rw[hc] at Bo;have HD:=ai Bo;have hx:∀h:i<s.size,s[i]'h=c:=fun _=>hc
       clear hc Bo;have hL:wO c=(decide (97<=(c.toNat:Int))&&decide ((c.toNat:Int)<=122)):=by
        unfold wO;rw[Bool.eq_iff_iff];simp only[decide_eq_true_eq,Bool.and_eq_true,UInt8.le_iff_toNat_le];have e1:(97:UInt8).toNat=97:=rfl;have e2:(122:UInt8).toNat=122:=rfl;rw[e1,e2];omega
       have hD:jF c=(decide (48<=(c.toNat:Int))&&decide ((c.toNat:Int)<=57)):=by
        unfold jF;rw[Bool.eq_iff_iff];simp only[decide_eq_true_eq,Bool.and_eq_true,UInt8.le_iff_toNat_le];have e1:(48:UInt8).toNat=48:=rfl;have e2:(57:UInt8).toNat=57:=rfl;rw[e1,e2];omega
       have FB:=ai (And.intro hL hD);clear hL hD;cases g1:decide (97<=(c.toNat:Int)) with
       |true=>
        cases g2:decide ((c.toNat:Int)<=122) with
        |true=>
         have g4:decide ((c.toNat:Int)<=57)=false:=decide_eq_false (by have:=of_decide_eq_true g1;omega);have g3:decide (48<=(c.toNat:Int))=true:=decide_eq_true (by have:=of_decide_eq_true g1;omega);have HQ:=ai (show z=jA (i+1) (bu s (i+1)) by rw[HM.o.2.2,HD.o];exact aak (by rw[FB.o.1,g1,g2];rfl));go_wp2_with fail
         go_roundg (gk-1)
         case measure=>have:=HM.o;omega
         case rel=>exact⟨i+1,⟨by omega,by have:=HM.o;omega,HQ.o⟩,rfl,rfl⟩
        |false=>
         have g4:decide ((c.toNat:Int)<=57)=false:=decide_eq_false (by have:=of_decide_eq_false g2;omega);have g3:decide (48<=(c.toNat:Int))=true:=decide_eq_true (by have:=of_decide_eq_true g1;omega);have HQ:=ai (show z=false by rw[HM.o.2.2,HD.o];exact Ow (by rw[FB.o.1,g1,g2];rfl) (by rw[FB.o.2,g3,g4];rfl));cases g5:((i:Int)==0) with
         |true=>
          go_wp2;go_ret;exact⟨by rw[HQ.o];rfl,rfl⟩
         |false=>
          go_wp2;go_ret;exact⟨by rw[HQ.o];rfl,rfl⟩
       |false=>
        cases g3:decide (48<=(c.toNat:Int)) with
        |false=>
         have HQ:=ai (show z=false by rw[HM.o.2.2,HD.o];exact Ow (by rw[FB.o.1,g1];rfl) (by rw[FB.o.2,g3];rfl));cases g5:((i:Int)==0) with
         |true=>
          go_wp2;go_ret;exact⟨by rw[HQ.o];rfl,rfl⟩
         |false=>
          go_wp2;go_ret;exact⟨by rw[HQ.o];rfl,rfl⟩
        |true=>
         cases g4:decide ((c.toNat:Int)<=57) with
         |false=>
          have HQ:=ai (show z=false by rw[HM.o.2.2,HD.o];exact Ow (by rw[FB.o.1,g1];rfl) (by rw[FB.o.2,g3,g4];rfl));cases g5:((i:Int)==0) with
          |true=>
           go_wp2;go_ret;exact⟨by rw[HQ.o];rfl,rfl⟩
          |false=>
           go_wp2;go_ret;exact⟨by rw[HQ.o];rfl,rfl⟩
         |true=>
          cases g5:((i:Int)==0) with
          |true=>
           have HQ:=ai (show z=false by
            rw[HM.o.2.2,HD.o];have hi0:i=0:=by have:(i:Int)=0:=of_decide_eq_true (by simpa using g5);omega
            rw[hi0];exact Vz (by rw[FB.o.1,g1];rfl))
           go_wp2;go_ret;exact⟨by rw[HQ.o];rfl,rfl⟩
          |false=>
           have HQ:=ai (show z=jA (i+1) (bu s (i+1)) by rw[HM.o.2.2,HD.o];exact ZI (fun hi0=>by rw[hi0] at g5;revert g5;decide) (by rw[FB.o.2,g3,g4];rfl));go_wp2_with fail
           go_roundg (gk-1)
           case measure=>have:=HM.o;omega
           case rel=>exact⟨i+1,⟨by omega,by have:=HM.o;omega,HQ.o⟩,rfl,rfl⟩
      ·have b1:decide ((i:Int)<(s.size:Int))=false:=decide_eq_false (by omega);have b2:decide (i<s.size)=false:=decide_eq_false (by omega);have HQ:=ai (show z=true by
        rw[HM.o.2.2,gP (by omega)];have h1:i≠0:=by have:=H0.o;omega
        simp[jA,h1])
       clear hi;go_wp2;go_ret;exact⟨by rw[HQ.o];rfl,rfl⟩
theorem zX(A:Option Addr)(n c:Nat)(S:List iZ)(w:World)(hn:S.length=n)(hr:Kd.C ui w A n (S.map toA))(hl:n<=100000)(hcd:n<=c)(hst:∀a∈S,a.f0.size<=1000000000):
 Calls prog 25 #[.slice A n c] w fun e w'=>e=.returned (.int .i64 (lv (cB S)))∧Below w.heap.size w w':=by
 have nO:=ai hr;have HN:=ai hn;have xe:=ai hst;clear hr hn hst;obtain⟨z,hz⟩:∃z,z=lv (cB S):=⟨_,rfl⟩
 rw[<-hz];have HZ:=ai hz;clear hz;by_cases hlen:n<1∨4<n
 ·have HB:=ai (show z=0 by rw[HZ.o];unfold cB;rw[if_pos (by have:=HN.o;omega)];rfl);by_cases h1:n<1
  ·have q1:decide ((n:Int)<1)=true:=decide_eq_true (by omega);clear hlen;obtain rfl:n=0:=by omega
   go_enter func25,ntmps25
   go_wp2;go_ret;exact⟨by rw[HB.o];rfl,Below.refl _ _⟩
  ·have q1:decide ((n:Int)<1)=false:=decide_eq_false (by omega);have q2:decide (4<(n:Int))=true:=decide_eq_true (by omega);clear hlen;go_enter func25,ntmps25
   go_wp2;go_ret;exact⟨by rw[HB.o];rfl,Below.refl _ _⟩
 ·have q1:decide ((n:Int)<1)=false:=decide_eq_false (by omega);have q2:decide (4<(n:Int))=false:=decide_eq_false (by omega);have FE:=ai (show cB S=iA S n 0 by unfold cB;rw[if_neg (by have:=HN.o;omega),HN.o]);clear hlen;go_enter func25,ntmps25
  go_wp2_with fail
  go_loopg [3,4,5,7,18,30] (n+1) (fun k v3 v4 v5 v7 v18 v30 W=>∃i:Nat,ay (i<=n∧k+i=n+1∧cB S=iA S (n-i) i)∧v18=.int .i64 (i:Int)∧ay (Below w.heap.size w W))
  case atStart=>exact⟨0,⟨by omega,by omega,FE.o⟩,rfl,⟨Below.refl _ _⟩⟩
  case round=>
   obtain⟨i,HI,rfl,HB⟩:=hrel;by_cases hi:i<n
   ·have b1:decide ((i:Int)<(n:Int))=true:=decide_eq_true (by omega);have b2:decide (i<n)=true:=decide_eq_true (by omega);have p1:(0:Int)<=(i:Int):=by omega
    have p2:(i:Int)<(n:Int):=by omega
    have hstep:iA S (n-i) i=if iM S i then iA S (n-(i+1)) (i+1) else some i:=by
     rw[show n-i=(n-(i+1))+1 by omega];rfl
    have HST:=ai hstep;clear hstep;obtain⟨ad,e,h0,h1,h2,h3⟩:=sM nO.o i p1 p2;cases e
    rw[Int.toNat_natCast] at h0 h1 h2 h3;replace h0:=(HB.o.cell (World.block_lt_of_cell? w _ h0)).trans h0;replace h1:=(HB.o.cell (World.block_lt_of_cell? w _ h1)).trans h1;replace h2:=(HB.o.cell (World.block_lt_of_cell? w _ h2)).trans h2;replace h3:=(HB.o.cell (World.block_lt_of_cell? w _ h3)).trans h3;have hrd:lZ (S.map toA) (i:Int)=toA (S.getD i z30):=sZ S i;rw[hrd] at h0 h1 h2 h3;have hps:(S.getD i z30).f0.size<=1000000000:=by
     rw[List.getD_eq_getElem?_getD,List.getElem?_eq_getElem (by have:=HN.o;omega)];exact xe.o _ (List.getElem_mem _)
    have hat:iM S i=(eQ (S.getD i z30).f0&&(!((S.take i).any fun x=>x.f0.toList==(S.getD i z30).f0.toList)&&kindOk (S.getD i z30))):=rfl;generalize S.getD i z30=p at h0 h1 h2 h3 hps hat;have HAT:=ai hat;clear hrd hat;change wr.cell? _=some (.string p.f0) at h0;change wr.cell? _=some (.int .i64 p.f1) at h1;change wr.cell? _=some (.int .i64 p.f2) at h2;change wr.cell? _=some (.int .i64 p.f3) at h3;go_wp2_with fail
    refine(Dv p.f0 _ hps).mono ?_;rintro e w1 ⟨rfl,rfl⟩;have fI:=ai (heap_alloc_new wr (.cells #[.string p.f0,.int .i64 p.f1,.int .i64 p.f2,.int .i64 p.f3] 155 (0,0)));replace HB:=ai (ae HB.o (.cells #[.string p.f0,.int .i64 p.f1,.int .i64 p.f2,.int .i64 p.f3] 155));clear h0 h1 h2 h3;generalize wr.heap.size=g6 at fI|-;generalize wr.alloc (.cells #[.string p.f0,.int .i64 p.f1,.int .i64 p.f2,.int .i64 p.f3] 155)=wq at fI HB|-;obtain⟨b0,hb0⟩:∃b,b=eQ p.f0:=⟨_,rfl⟩
    rw[<-hb0] at HAT|-;have p3:(i:Int)<=(c:Int):=by omega
    clear hb0;go_wp2_with fail
    obtain⟨UN,rfl⟩:∃g,g=gk:=⟨gk,rfl⟩
    go_loopg [5,7,30] (i+1) (fun k v5 v7 v30 W=>∃(j:Nat) (bj:Bool),ay (j<=i∧k+j=i+1∧bj=(b0&& !((S.take j).any fun x=>x.f0.toList==p.f0.toList)))∧v5=.bool bj∧v30=.int .i64 (j:Int)∧ay (W.heap[g6]? =some (.cells #[.string p.f0,.int .i64 p.f1,.int .i64 p.f2,.int .i64 p.f3] 155 (0,0)))∧ay (Below w.heap.size w W))
    case atStart=>exact⟨0,b0,⟨by omega,by omega,by simp⟩,rfl,rfl,fI,HB⟩
    case round=>
     clear fI HB;obtain⟨j,bj,HJ,rfl,rfl,fI,HB⟩:=hrel;have y0:=bK fI.o;have y1:=bS fI.o;have y2:=dh fI.o;have y3:=dA fI.o;by_cases hj:j<i
     ·have d1:decide ((j:Int)<(i:Int))=true:=decide_eq_true (by omega);have d2:decide (j<i)=true:=decide_eq_true (by omega);have s1:(0:Int)<=(j:Int):=by omega
      have s2:(j:Int)<(i:Int):=by omega
      obtain⟨Uv,e,h0,h1,h2,h3⟩:=sM nO.o j s1 (by omega);cases e
      rw[Int.toNat_natCast] at h0 h1 h2 h3;replace h0:=(HB.o.cell (World.block_lt_of_cell? w _ h0)).trans h0;replace h1:=(HB.o.cell (World.block_lt_of_cell? w _ h1)).trans h1;replace h2:=(HB.o.cell (World.block_lt_of_cell? w _ h2)).trans h2;replace h3:=(HB.o.cell (World.block_lt_of_cell? w _ h3)).trans h3;have hrd:lZ (S.map toA) (j:Int)=toA (S.getD j z30):=sZ S j;rw[hrd] at h0 h1 h2 h3;have hany:=DJ S z30 (fun x=>x.f0.toList==p.f0.toList) j (by have:=HN.o;omega);have Ch:=ai hany;clear hany hrd;generalize S.getD j z30=x at h0 h1 h2 h3 Ch;change wr.cell? _=some (.string x.f0) at h0;change wr.cell? _=some (.int .i64 x.f1) at h1;change wr.cell? _=some (.int .i64 x.f2) at h2;change wr.cell? _=some (.int .i64 x.f3) at h3;have ln:=aI fI.o;have ln2:¬(g6=wr.heap.size):=by omega
      have pg:=ai ((Below.heap_alloc wr (.cells #[.string x.f0,.int .i64 x.f1,.int .i64 x.f2,.int .i64 x.f3] 155) _ ln).trans fI.o);have Uj:=ai (ae HB.o (.cells #[.string x.f0,.int .i64 x.f1,.int .i64 x.f2,.int .i64 x.f3] 155));cases bj with
      |false=>
       have HF:=ai (show false=(b0&& !((S.take (j+1)).any fun x=>x.f0.toList==p.f0.toList)) by
        have h:=HJ.o.2.2;rw[Ch.o];cases hA:b0 with
        |false=>rfl
        |true=>
         rw[hA] at h;cases hC:((S.take j).any fun x=>x.f0.toList==p.f0.toList) with
         |true=>rfl
         |false=>rw[hC] at h;cases h)
       go_wp2_with fail
       go_roundg (gk-1)
       case measure=>have:=HJ.o;omega
       case rel=>exact⟨j+1,false,⟨by omega,by have:=HJ.o;omega,HF.o⟩,rfl,rfl,pg,Uj⟩
      |true=>
       cases hq:(p.f0.toList==x.f0.toList) with
       |true=>
        have HF:=ai (show false=(b0&& !((S.take (j+1)).any fun x=>x.f0.toList==p.f0.toList)) by
         rw[Ch.o,show (x.f0.toList==p.f0.toList)=true by rw[beq_iff_eq] at hq|-;exact hq.symm];simp)
        go_wp2_with fail
        go_roundg (gk-1)
        case measure=>have:=HJ.o;omega
        case rel=>exact⟨j+1,false,⟨by omega,by have:=HJ.o;omega,HF.o⟩,rfl,rfl,pg,Uj⟩
       |false=>
        have HF:=ai (show true=(b0&& !((S.take (j+1)).any fun x=>x.f0.toList==p.f0.toList)) by
         rw[Ch.o,show (x.f0.toList==p.f0.toList)=false by rw[beq_eq_false_iff_ne] at hq|-;exact fun h=>hq h.symm,Bool.or_false];exact HJ.o.2.2)
        go_wp2_with fail
        go_roundg (gk-1)
        case measure=>have:=HJ.o;omega
        case rel=>exact⟨j+1,true,⟨by omega,by have:=HJ.o;omega,HF.o⟩,rfl,rfl,pg,Uj⟩
     ·have d1:decide ((j:Int)<(i:Int))=false:=decide_eq_false (by omega);have d2:decide (j<i)=false:=decide_eq_false (by omega);have hji:j=i:=by have:=HJ.o;omega
      have hbj:=HJ.o.2.2;rw[hji] at hbj;have gI:=ai (show iM S i=(bj&&kindOk p) by rw[HAT.o,hbj,Bool.and_assoc]);clear hji hbj;cases bj with
      |false=>
       have FL:=ai (show iM S i=false by rw[gI.o];rfl);cases o1:(p.f1==1) with
       |true=>
        have HV:=ai (show iM S i=false from FL.o);have HE:=ai (show z=(i:Int) by rw[HZ.o,HI.o.2.2,HST.o,HV.o];rfl);go_wp2;go_ret;exact⟨by rw[HE.o];rfl,HB.o⟩
       |false=>
        have HV:=ai (show iM S i=false from FL.o);have HE:=ai (show z=(i:Int) by rw[HZ.o,HI.o.2.2,HST.o,HV.o];rfl);go_wp2;go_ret;exact⟨by rw[HE.o];rfl,HB.o⟩
      |true=>
       rw[Bool.true_and] at gI;cases o1:(p.f1==1) with
       |true=>
        have jy:=ai (show kindOk p=(!decide (p.f2< -2147483648)&&(!decide (2147483648<p.f3)&& !decide (p.f3<p.f2))) by unfold kindOk;rw[if_pos (by simpa using o1)]);cases e2:decide (-2147483648<=p.f2) with
        |false=>
         have HV:=ai (show iM S i=false from by rw[gI.o,jy.o,show decide (p.f2< -2147483648)=true from decide_eq_true (by have:=of_decide_eq_false e2;omega)];rfl);have HE:=ai (show z=(i:Int) by rw[HZ.o,HI.o.2.2,HST.o,HV.o];rfl);go_wp2;go_ret;exact⟨by rw[HE.o];rfl,HB.o⟩
        |true=>
         have HE2:=ai (show decide (p.f2< -2147483648)=false from decide_eq_false (by have:=of_decide_eq_true e2;omega));cases e3:decide (p.f3<=2147483648) with
         |false=>
          have HV:=ai (show iM S i=false from by rw[gI.o,jy.o,HE2.o,show decide (2147483648<p.f3)=true from decide_eq_true (by have:=of_decide_eq_false e3;omega)];rfl);have HE:=ai (show z=(i:Int) by rw[HZ.o,HI.o.2.2,HST.o,HV.o];rfl);go_wp2;go_ret;exact⟨by rw[HE.o];rfl,HB.o⟩
         |true=>
          have HE3:=ai (show decide (2147483648<p.f3)=false from decide_eq_false (by have:=of_decide_eq_true e3;omega));cases e4:decide (p.f2<=p.f3) with
          |false=>
           have HV:=ai (show iM S i=false from by rw[gI.o,jy.o,HE2.o,HE3.o,show decide (p.f3<p.f2)=true from decide_eq_true (by have:=of_decide_eq_false e4;omega)];rfl);have HE:=ai (show z=(i:Int) by rw[HZ.o,HI.o.2.2,HST.o,HV.o];rfl);go_wp2;go_ret;exact⟨by rw[HE.o];rfl,HB.o⟩
          |true=>
           have HE4:=ai (show decide (p.f3<p.f2)=false from decide_eq_false (by have:=of_decide_eq_true e4;omega));have HV:=ai (show kindOk p=true from by rw[jy.o,HE2.o,HE3.o,HE4.o];rfl);have Dt:=ai (show cB S=iA S (n-(i+1)) (i+1) by rw[HI.o.2.2,HST.o,show iM S i=true by rw[gI.o,HV.o]];rfl);go_wp2_with fail
           first|go_roundg (UN-1)|go_roundg (gk-1)
           case measure=>have:=HI.o;omega
           case rel=>exact⟨i+1,⟨by omega,by have:=HI.o;omega,Dt.o⟩,(by first|rfl|(rw[iy (by omega) (by omega),show (i:Int)+1=((i+1:Nat):Int) by omega])),HB⟩
       |false=>
        have jy:=ai (show kindOk p=((p.f1==2)&&((p.f2==0)&&(p.f3==0))) by unfold kindOk;rw[if_neg (by simpa using o1)]);cases e1:(p.f1==2) with
        |false=>
         have HV:=ai (show iM S i=false from by rw[gI.o,jy.o,e1];rfl);have HE:=ai (show z=(i:Int) by rw[HZ.o,HI.o.2.2,HST.o,HV.o];rfl);go_wp2;go_ret;exact⟨by rw[HE.o];rfl,HB.o⟩
        |true=>
         cases e2:(p.f2==0) with
         |false=>
          have HV:=ai (show iM S i=false from by rw[gI.o,jy.o,e1,e2];rfl);have HE:=ai (show z=(i:Int) by rw[HZ.o,HI.o.2.2,HST.o,HV.o];rfl);go_wp2;go_ret;exact⟨by rw[HE.o];rfl,HB.o⟩
         |true=>
          cases e3:(p.f3==0) with
          |false=>
           have HV:=ai (show iM S i=false from by rw[gI.o,jy.o,e1,e2,e3];rfl);have HE:=ai (show z=(i:Int) by rw[HZ.o,HI.o.2.2,HST.o,HV.o];rfl);go_wp2;go_ret;exact⟨by rw[HE.o];rfl,HB.o⟩
          |true=>
           have HV:=ai (show kindOk p=true from by rw[jy.o,e1,e2,e3];rfl);have Dt:=ai (show cB S=iA S (n-(i+1)) (i+1) by rw[HI.o.2.2,HST.o,show iM S i=true by rw[gI.o,HV.o]];rfl);go_wp2_with fail
           first|go_roundg (UN-1)|go_roundg (gk-1)
           case measure=>have:=HI.o;omega
           case rel=>exact⟨i+1,⟨by omega,by have:=HI.o;omega,Dt.o⟩,(by first|rfl|(rw[iy (by omega) (by omega),show (i:Int)+1=((i+1:Nat):Int) by omega])),HB⟩
   ·have b1:decide ((i:Int)<(n:Int))=false:=decide_eq_false (by omega);have b2:decide (i<n)=false:=decide_eq_false (by omega);have HE:=ai (show z= -1 by rw[HZ.o,HI.o.2.2,show n-i=0 by omega];rfl);clear hi;go_wp2;go_ret;exact⟨by rw[HE.o];rfl,HB.o⟩
end Go.Proofs.YtnmpijbcajclgaaGreatDoor.Mine
end
