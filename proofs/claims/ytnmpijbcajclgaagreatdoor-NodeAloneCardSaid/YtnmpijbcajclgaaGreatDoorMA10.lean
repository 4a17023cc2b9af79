/- Texts of one claim, one behind the other, made short by a program. -/
import Derived.Test.YtnmpijbcajclgaaGreatDoorMA9
import Derived.Lib.SliceRun
import Derived.Shelf.SlGeneric
import Derived.Shelf.SlicesE.Clone
import Derived.Shelf.Sort.Plain
import Derived.Shelf.Slices.CompactS
import Derived.Ground.SlgnProg
import Derived.Ground.NamesProg
import Derived.Shelf.Strconv.Itoa3
set_option linter.unusedSimpArgs false
set_option linter.unusedVariables false
section
namespace Go.Proofs.YtnmpijbcajclgaaGreatDoor.Mine
open Go.Maps Go.RowKit YtnmpijbcajclgaaGreatDoorW.PrintWords YtnmpijbcajclgaaGreatDoorW.PrintLast YtnmpijbcajclgaaGreatDoorW.PrintMore
open PNodeAlone
structure iY where
 id:Int
 text:ByteArray
 F:List SP
 G:List ByteArray
structure iJ where
 seq:Int
 V:List SV
 pay:ByteArray
 want:List ByteArray
structure kY where
 sub:Int
 fG:Int
 seq:Int
 V:List SV
 pay:ByteArray
structure rz where
 cz:ByteArray
 fG:Int
 seq:Int
abbrev Po:=pG
abbrev pI:=Ci
abbrev Pp:=uM
abbrev tP:Nat:=168
abbrev tV:Nat:=37
abbrev tA:Nat:=30
abbrev tS:Nat:=9
abbrev tN:Nat:=114
abbrev iw:Nat:=123
abbrev nM:Nat:=127
abbrev ny:Nat:=46
abbrev vD:Nat:=272
def qJ:Kd iY:=Kd.GV (Kd.pair (Kd.int .i64) (Kd.pair Kd.string (Kd.pair (Kd.slice tP Po) (Kd.slice tS Kd.string)))) (fun x=>(x.id,x.text,x.F,x.G))
def zO:Kd iJ:=Kd.GV (Kd.pair (Kd.int .i64) (Kd.pair (Kd.slice tV pI) (Kd.pair Kd.string (Kd.slice tS Kd.string)))) (fun x=>(x.seq,x.V,x.pay,x.want))
def zL:Kd kY:=Kd.GV (Kd.pair (Kd.int .i64) (Kd.pair (Kd.int .i64) (Kd.pair (Kd.int .i64) (Kd.pair (Kd.slice tV pI) Kd.string)))) (fun x=>(x.sub,x.fG,x.seq,x.V,x.pay))
def Lv:Kd rz:=Kd.GV (Kd.pair Kd.string (Kd.pair (Kd.int .i64) (Kd.int .i64))) (fun x=>(x.cz,x.fG,x.seq))
theorem JN{w:World}{x:iY}{cs:List Value}(h:qJ.K w x cs):∃A c B d,cs= [.int .i64 x.id,.string x.text,.slice A x.F.length c,.slice B x.G.length d]∧x.F.length<=c∧Kd.C Po w A x.F.length x.F∧x.G.length<=d∧Kd.C Kd.string w B x.G.length x.G:=by
 obtain⟨_,_,rfl,rfl,⟨_,_,rfl,rfl,⟨_,_,rfl,⟨A,c,rfl,h1,h2⟩,⟨B,d,rfl,h3,h4⟩⟩⟩⟩:=h;exact⟨A,c,B,d,rfl,h1,h2,h3,h4⟩
theorem Ep{w:World}{base:Nat}{ok:Nat->Prop}{x:iY}{v u:Value}(h:Kd.R Po tP w base ok v x.F)(h2:Kd.R Kd.string tS w base ok u x.G):qJ.M w base ok x [.int .i64 x.id,.string x.text,v,u]:=
 ⟨[.int .i64 x.id],[.string x.text,v,u],rfl,rfl,⟨[.string x.text],[v,u],rfl,rfl,⟨[v],[u],rfl,⟨v,rfl,h⟩,⟨u,rfl,h2⟩⟩⟩⟩
theorem O1{w:World}{x:iJ}{cs:List Value}(h:zO.K w x cs):∃A c B d,cs= [.int .i64 x.seq,.slice A x.V.length c,.string x.pay,.slice B x.want.length d]∧x.V.length<=c∧Kd.C pI w A x.V.length x.V∧x.want.length<=d∧Kd.C Kd.string w B x.want.length x.want:=by
 obtain⟨_,_,rfl,rfl,⟨_,_,rfl,⟨A,c,rfl,h1,h2⟩,⟨_,_,rfl,rfl,⟨B,d,rfl,h3,h4⟩⟩⟩⟩:=h;exact⟨A,c,B,d,rfl,h1,h2,h3,h4⟩
theorem qW{w:World}{base:Nat}{ok:Nat->Prop}{x:iJ}{cs:List Value}(h:zO.M w base ok x cs):∃v u,cs= [.int .i64 x.seq,v,.string x.pay,u]∧Kd.R pI tV w base ok v x.V∧Kd.R Kd.string tS w base ok u x.want:=by
 obtain⟨_,_,rfl,rfl,⟨_,_,rfl,⟨v,rfl,h1⟩,⟨_,_,rfl,rfl,⟨u,rfl,h3⟩⟩⟩⟩:=h;exact⟨v,u,rfl,h1,h3⟩
theorem I9{w:World}{base:Nat}{ok:Nat->Prop}{x:iJ}{v u:Value}(h:Kd.R pI tV w base ok v x.V)(h2:Kd.R Kd.string tS w base ok u x.want):zO.M w base ok x [.int .i64 x.seq,v,.string x.pay,u]:=
 ⟨[.int .i64 x.seq],[v,.string x.pay,u],rfl,rfl,⟨[v],[.string x.pay,u],rfl,⟨v,rfl,h⟩,⟨[.string x.pay],[u],rfl,rfl,⟨u,rfl,h2⟩⟩⟩⟩
theorem ML{w:World}{x:kY}{cs:List Value}(h:zL.K w x cs):∃A c,cs= [.int .i64 x.sub,.int .i64 x.fG,.int .i64 x.seq,.slice A x.V.length c,.string x.pay]∧x.V.length<=c∧Kd.C pI w A x.V.length x.V:=by
 obtain⟨_,_,rfl,rfl,⟨_,_,rfl,rfl,⟨_,_,rfl,rfl,⟨_,_,rfl,⟨A,c,rfl,h1,h2⟩,rfl⟩⟩⟩⟩:=h;exact⟨A,c,rfl,h1,h2⟩
theorem Qq{w:World}{base:Nat}{ok:Nat->Prop}{x:kY}{v:Value}(h:Kd.R pI tV w base ok v x.V):zL.M w base ok x [.int .i64 x.sub,.int .i64 x.fG,.int .i64 x.seq,v,.string x.pay]:=
 ⟨[.int .i64 x.sub],[.int .i64 x.fG,.int .i64 x.seq,v,.string x.pay],rfl,rfl,⟨[.int .i64 x.fG],[.int .i64 x.seq,v,.string x.pay],rfl,rfl,⟨[.int .i64 x.seq],[v,.string x.pay],rfl,rfl,⟨[v],[.string x.pay],rfl,⟨v,rfl,h⟩,rfl⟩⟩⟩⟩
theorem E9{w:World}{x:rz}{cs:List Value}(h:Lv.K w x cs):cs= [.string x.cz,.int .i64 x.fG,.int .i64 x.seq]:=by
 obtain⟨_,_,rfl,rfl,⟨_,_,rfl,rfl,rfl⟩⟩:=h;rfl
theorem Qn{w:World}{base:Nat}{ok:Nat->Prop}(x:rz):Lv.M w base ok x [.string x.cz,.int .i64 x.fG,.int .i64 x.seq]:=
 ⟨[.string x.cz],[.int .i64 x.fG,.int .i64 x.seq],rfl,rfl,⟨[.int .i64 x.fG],[.int .i64 x.seq],rfl,rfl,rfl⟩⟩
structure eG where
 addr:Int
 levels:Int
 S:List SA
 subs:List iY
 last:Int
 seen:Option Int
 inbox:List kY
 opn:List iJ
 seq:Int
 sent:List rz
 lost:Int
 tick:Int
structure Hd where
 vS:Value
 vsub:Value
 vm:Value
 vbox:Value
 vopn:Value
 bl:Nat
 vsent:Value
def xz(h:Hd)(N:eG):Array Value:= #[.int .i64 N.addr,.int .i64 N.levels,h.vS,h.vsub,.int .i64 N.last,.slice none 0 0,h.vm,h.vbox,h.vopn,.int .i64 N.seq,.map (some h.bl),h.vsent,.int .i64 N.lost,.int .i64 N.tick]
def kI(x:Int):Value:=.int .i64 x
structure TS(w:World)(base:Nat)(v:Value)(fG q:Int):Prop where
 is:∃b c n,v=.map (some b)∧base<=b∧fP Tryz.prog 3 kI w b n (fun x=>if x=fG then some (.agg #[.int .i64 q,.int .u64 c]) else none)∧((n:Nat):Int)<=q∧Go.bits .and .u64 c 1=1
structure Ck(w:World)(base:Nat)(v:Value)(fG:Int)(s:Option Int):Prop where
 no:s=none->v=.map none
 yes:∀q,s=some q->TS w base v fG q
structure eZ(base:Nat)(w:World)(h:Hd)(N:eG):Prop where
 sch:Kd.R Pp tA w base (fun _=>True) h.vS N.S
 sub:Kd.R qJ iw w base (fun _=>True) h.vsub N.subs
 seen:Ck w base h.vm N.addr N.seen
 box:Kd.R zL ny w base (fun _=>True) h.vbox N.inbox
 opn:Kd.R zO nM w base (fun _=>True) h.vopn N.opn
 lnk:fP Tryz.prog 3 kI w h.bl 0 (fun _=>none)∧base<=h.bl∧h.vm≠.map (some h.bl)
 sent:Kd.R Lv vD w base (fun _=>True) h.vsent N.sent
structure cK(base:Nat)(w:World)(g:Nat)(h:Hd)(N:eG):Prop where
 blk:w.heap[g]? =some (.cells (xz h N) tN (0,0))
 gb:base<=g
 rows:eZ base w h N
def Hd.own(h:Hd)(g k:Nat):Prop:=k=g∨some k=h.vsub.ownBlock∨some k=h.vbox.ownBlock∨some k=h.vopn.ownBlock∨some k=h.vsent.ownBlock∨h.vm=.map (some k)
theorem fP.step{α:Type}{P:Program}{k:TypeId}{kv:α->Value}{w w':World}{b n:Nat}{f:α->Option Value}(h:fP P k kv w b n f)(hm:∀(k:Nat) (es:Array MapEntry) (cl:Nat),w.heap[k]? =some (Obj.map es cl)->w'.heap[k]? =w.heap[k]?):fP P k kv w' b n f:=by
 obtain⟨D,⟨es,cl,h7,h8⟩,h6⟩:=h;exact⟨D,⟨es,cl,(hm b es cl h7).trans h7,h8⟩,h6⟩
theorem Ck.step{w w':World}{base:Nat}{v:Value}{fG:Int}{s:Option Int}(h:Ck w base v fG s)(hm:∀(k:Nat) (es:Array MapEntry) (cl:Nat),w.heap[k]? =some (Obj.map es cl)->w'.heap[k]? =w.heap[k]?):Ck w' base v fG s:=
 ⟨h.no,fun q hq=>by
  obtain⟨b,c,n,h1,h2,h3,h4⟩:=(h.yes q hq).is;exact⟨b,c,n,h1,h2,h3.step hm,h4⟩⟩
theorem fP.at{α:Type}{P:Program}{k:TypeId}{kv:α->Value}{w:World}{b n:Nat}{f:α->Option Value}(h:fP P k kv w b n f):∃es cl,w.heap[b]? =some (.map es cl):=by
 obtain⟨D,⟨es,cl,h1,_⟩,_⟩:=h;exact⟨es,cl,h1⟩
theorem eZ.below{base:Nat}{w w':World}{h:Hd}{N:eG}(r:eZ base w h N)(hb:Below w.heap.size w w'):eZ base w' h N:=
 ⟨Kd.bJ r.sch hb,Kd.bJ r.sub hb,r.seen.step (fun k es cl e=>hb.block k (Array.getElem?_eq_some_iff.1 e).1),Kd.bJ r.box hb,Kd.bJ r.opn hb,⟨r.lnk.1.below hb,r.lnk.2⟩,Kd.bJ r.sent hb⟩
theorem cK.below{base:Nat}{w w':World}{g:Nat}{h:Hd}{N:eG}(r:cK base w g h N)(hb:Below w.heap.size w w'):cK base w' g h N:=
 ⟨(hb.block g (aI r.blk)).trans r.blk,r.gb,r.rows.below hb⟩
theorem xD{w:World}{g:Nat}{cs:Array Value}{t:TypeId}(hg:w.heap[g]? =some (.cells cs t (0,0)))(j:Nat)(u:Value)(k:Nat)(es:Array MapEntry)(cl:Nat)(e:w.heap[k]? =some (.map es cl)):(w.setCell ⟨g,j,none⟩ u).heap[k]? =w.heap[k]? :=
 Below.heap_setCell w ⟨g,j,none⟩ u k (fun e2=>by
  rw[e2,hg] at e;cases e)
theorem eZ.set{base:Nat}{w:World}{h:Hd}{N:eG}(r:eZ base w h N){g:Nat}{cs:Array Value}{t:Nat}(hg:w.heap[g]? =some (.cells cs t (0,0)))(ht:∀q,q∈ [tA,iw,tP,tS,ny,tV,nM,vD]->q≠t)(j:Nat)(u:Value):eZ base (w.setCell ⟨g,j,none⟩ u) h N:=
 ⟨Kd.jX r.sch hg (fun q hq=>ht q ((by exact(by decide+kernel):∀q,q∈tA::Pp.E->q∈ [tA,iw,tP,tS,ny,tV,nM,vD]) q hq)) j u,Kd.jX r.sub hg (fun q hq=>ht q ((by exact(by decide+kernel):∀q,q∈iw::qJ.E->q∈ [tA,iw,tP,tS,ny,tV,nM,vD]) q hq)) j u,r.seen.step (xD hg j u),Kd.jX r.box hg (fun q hq=>ht q ((by exact(by decide+kernel):∀q,q∈ny::zL.E->q∈ [tA,iw,tP,tS,ny,tV,nM,vD]) q hq)) j u,Kd.jX r.opn hg (fun q hq=>ht q ((by exact(by decide+kernel):∀q,q∈nM::zO.E->q∈ [tA,iw,tP,tS,ny,tV,nM,vD]) q hq)) j u,⟨r.lnk.1.step (xD hg j u),r.lnk.2⟩,Kd.jX r.sent hg (fun q hq=>ht q ((by exact(by decide+kernel):∀q,q∈vD::Lv.E->q∈ [tA,iw,tP,tS,ny,tV,nM,vD]) q hq)) j u⟩
theorem zz{α:Type}{d:Kd α}{w:World}{A:Option Addr}{n:Nat}{xs:List α}(h:Kd.C d w A n xs)(i:Nat)(hi:i<n):∃ad x cs,A=some ad∧xs[i]? =some x∧d.K w x cs∧∀j u,cs[j]? =some u->w.cell? (ad.add (i*d.sz+j))=some u:=by
 obtain⟨ad,e,hc⟩:=h.2.2 (by omega);have hl:i<xs.length:=by rw[h.1];exact hi
 have hx:xs[i]? =some xs[i]:=List.getElem?_eq_getElem hl;obtain⟨cs,_,h2,h3⟩:=hc i _ hx;exact⟨ad,_,cs,e,hx,h2,h3⟩
theorem GI{w:World}{A:Option Addr}{n:Nat}{xs:List iY}(h:Kd.C qJ w A n xs)(i:Nat)(hi:i<n):∃ad x B b D e,A=some ad∧xs[i]? =some x∧w.cell? (ad.add (i*4))=some (.int .i64 x.id)∧w.cell? ⟨(ad.add (i*4)).block,(ad.add (i*4)).off+1,none⟩=some (.string x.text)∧w.cell? ⟨(ad.add (i*4)).block,(ad.add (i*4)).off+2,none⟩=some (.slice B x.F.length b)∧w.cell? ⟨(ad.add (i*4)).block,(ad.add (i*4)).off+3,none⟩=some (.slice D x.G.length e)∧(x.F.length<=b∧Kd.C Po w B x.F.length x.F)∧(x.G.length<=e∧Kd.C Kd.string w D x.G.length x.G):=by
 obtain⟨ad,x,cs,e1,hx,hK,hc⟩:=zz h i hi;obtain⟨B,b,D,e,rfl,h1,h2,h3,h4⟩:=JN hK;have hc:∀j u,_->w.cell? (ad.add (i*4+j))=some u:=hc;exact⟨ad,x,B,b,D,e,e1,hx,hc 0 _ rfl,by rw[<-bC _ _ 1 (by omega)];exact hc 1 _ rfl,by rw[<-bC _ _ 2 (by omega)];exact hc 2 _ rfl,by rw[<-bC _ _ 3 (by omega)];exact hc 3 _ rfl,⟨h1,h2⟩,h3,h4⟩
theorem RQ{w:World}{A:Option Addr}{n:Nat}{xs:List iJ}(h:Kd.C zO w A n xs)(i:Nat)(hi:i<n):∃ad x B b D e,A=some ad∧xs[i]? =some x∧w.cell? (ad.add (i*4))=some (.int .i64 x.seq)∧w.cell? ⟨(ad.add (i*4)).block,(ad.add (i*4)).off+1,none⟩=some (.slice B x.V.length b)∧w.cell? ⟨(ad.add (i*4)).block,(ad.add (i*4)).off+2,none⟩=some (.string x.pay)∧w.cell? ⟨(ad.add (i*4)).block,(ad.add (i*4)).off+3,none⟩=some (.slice D x.want.length e)∧(x.V.length<=b∧Kd.C pI w B x.V.length x.V)∧(x.want.length<=e∧Kd.C Kd.string w D x.want.length x.want):=by
 obtain⟨ad,x,cs,e1,hx,hK,hc⟩:=zz h i hi;obtain⟨B,b,D,e,rfl,h1,h2,h3,h4⟩:=O1 hK;have hc:∀j u,_->w.cell? (ad.add (i*4+j))=some u:=hc;exact⟨ad,x,B,b,D,e,e1,hx,hc 0 _ rfl,by rw[<-bC _ _ 1 (by omega)];exact hc 1 _ rfl,by rw[<-bC _ _ 2 (by omega)];exact hc 2 _ rfl,by rw[<-bC _ _ 3 (by omega)];exact hc 3 _ rfl,⟨h1,h2⟩,h3,h4⟩
theorem Om{w:World}{A:Option Addr}{n:Nat}{xs:List kY}(h:Kd.C zL w A n xs)(i:Nat)(hi:i<n):∃ad x B b,A=some ad∧xs[i]? =some x∧w.cell? (ad.add (i*5))=some (.int .i64 x.sub)∧w.cell? ⟨(ad.add (i*5)).block,(ad.add (i*5)).off+1,none⟩=some (.int .i64 x.fG)∧w.cell? ⟨(ad.add (i*5)).block,(ad.add (i*5)).off+2,none⟩=some (.int .i64 x.seq)∧w.cell? ⟨(ad.add (i*5)).block,(ad.add (i*5)).off+3,none⟩=some (.slice B x.V.length b)∧w.cell? ⟨(ad.add (i*5)).block,(ad.add (i*5)).off+4,none⟩=some (.string x.pay)∧x.V.length<=b∧Kd.C pI w B x.V.length x.V:=by
 obtain⟨ad,x,cs,e1,hx,hK,hc⟩:=zz h i hi;obtain⟨B,b,rfl,h1,h2⟩:=ML hK;have hc:∀j u,_->w.cell? (ad.add (i*5+j))=some u:=hc;exact⟨ad,x,B,b,e1,hx,hc 0 _ rfl,by rw[<-bC _ _ 1 (by omega)];exact hc 1 _ rfl,by rw[<-bC _ _ 2 (by omega)];exact hc 2 _ rfl,by rw[<-bC _ _ 3 (by omega)];exact hc 3 _ rfl,by rw[<-bC _ _ 4 (by omega)];exact hc 4 _ rfl,h1,h2⟩
theorem Cq{w:World}{A:Option Addr}{n:Nat}{xs:List ByteArray}(h:Kd.C Kd.string w A n xs)(i:Nat)(hi:i<n):∃ad x,A=some ad∧xs[i]? =some x∧w.cell? (ad.add i)=some (.string x):=by
 obtain⟨ad,x,cs,e1,hx,hK,hc⟩:=zz h i hi;obtain rfl:cs= [.string x]:=hK;have:=hc 0 _ rfl;exact⟨ad,x,e1,hx,by rwa [show i*Kd.string.sz+0=i from by show i*1+0=i;omega] at this⟩
theorem lD{α:Type}{d:Kd α}{e b:Nat}{ok:Nat->Prop}{W w1:World}{v:Value}{ys:List α}(hv:Kd.R d e W b ok v ys)(hg:W.grownBy w1 v.ownBlock)(k:Nat)(es:Array MapEntry)(cl:Nat)(h:W.heap[k]? =some (.map es cl)):w1.heap[k]? =W.heap[k]? :=
 hg.block k (Array.getElem?_eq_some_iff.1 h).1 (fun e2=>by
  obtain⟨cells,hc⟩:=Kd.sS hv k e2.symm;rw[hc] at h;cases h)
section
variable{base:Nat}{w w1:World}{h:Hd}{N:eG}{v1:Value}
theorem eZ.Md(r:eZ base w h N)(hg:w.grownBy w1 h.vsub.ownBlock){L:List iY}(hR:Kd.R qJ iw w1 base (fun _=>True) v1 L):eZ base w1 {h with vsub:=v1} {N with subs:=L}:=
 ⟨Kd.gq r.sch r.sub (by exact(by decide+kernel)) hg,hR,r.seen.step (lD r.sub hg),Kd.gq r.box r.sub (by exact(by decide+kernel)) hg,Kd.gq r.opn r.sub (by exact(by decide+kernel)) hg,⟨r.lnk.1.step (lD r.sub hg),r.lnk.2⟩,Kd.gq r.sent r.sub (by exact(by decide+kernel)) hg⟩
theorem eZ.MG(r:eZ base w h N)(hg:w.grownBy w1 h.vbox.ownBlock){L:List kY}(hR:Kd.R zL ny w1 base (fun _=>True) v1 L):eZ base w1 {h with vbox:=v1} {N with inbox:=L}:=
 ⟨Kd.gq r.sch r.box (by exact(by decide+kernel)) hg,Kd.gq r.sub r.box (by exact(by decide+kernel)) hg,r.seen.step (lD r.box hg),hR,Kd.gq r.opn r.box (by exact(by decide+kernel)) hg,⟨r.lnk.1.step (lD r.box hg),r.lnk.2⟩,Kd.gq r.sent r.box (by exact(by decide+kernel)) hg⟩
theorem eZ.Gw(r:eZ base w h N)(hg:w.grownBy w1 h.vopn.ownBlock){L:List iJ}(hR:Kd.R zO nM w1 base (fun _=>True) v1 L):eZ base w1 {h with vopn:=v1} {N with opn:=L}:=
 ⟨Kd.gq r.sch r.opn (by exact(by decide+kernel)) hg,Kd.gq r.sub r.opn (by exact(by decide+kernel)) hg,r.seen.step (lD r.opn hg),Kd.gq r.box r.opn (by exact(by decide+kernel)) hg,hR,⟨r.lnk.1.step (lD r.opn hg),r.lnk.2⟩,Kd.gq r.sent r.opn (by exact(by decide+kernel)) hg⟩
theorem eZ.Ml(r:eZ base w h N)(hg:w.grownBy w1 h.vsent.ownBlock){L:List rz}(hR:Kd.R Lv vD w1 base (fun _=>True) v1 L):eZ base w1 {h with vsent:=v1} {N with sent:=L}:=
 ⟨Kd.gq r.sch r.sent (by exact(by decide+kernel)) hg,Kd.gq r.sub r.sent (by exact(by decide+kernel)) hg,r.seen.step (lD r.sent hg),Kd.gq r.box r.sent (by exact(by decide+kernel)) hg,Kd.gq r.opn r.sent (by exact(by decide+kernel)) hg,⟨r.lnk.1.step (lD r.sent hg),r.lnk.2⟩,hR⟩
end
theorem cK.of{base:Nat}{w:World}{g:Nat}{h:Hd}{N:eG}{cs:Array Value}(hb:w.heap[g]? =some (.cells cs tN (0,0)))(he:cs=xz h N)(hg:base<=g)(r:eZ base w h N):cK base w g h N:=⟨by rw[hb,he],hg,r⟩
section
variable{base g:Nat}{w w':World}{h:Hd}{N:eG}
theorem cK.O7(r:cK base w g h N){k:Nat}(ho:h.own g k):(∃cs t,w.heap[k]? =some (.cells cs t (0,0))∧(t=tN∨t=iw∨t=ny∨t=nM∨t=vD))∨∃es cl,w.heap[k]? =some (.map es cl):=by
 rcases ho with rfl|ho|ho|ho|ho|ho
 ·exact .inl ⟨_,_,r.blk,.inl rfl⟩
 ·obtain⟨cs,hc⟩:=Kd.sS r.rows.sub k ho.symm;exact .inl ⟨_,_,hc,.inr (.inl rfl)⟩
 ·obtain⟨cs,hc⟩:=Kd.sS r.rows.box k ho.symm;exact .inl ⟨_,_,hc,.inr (.inr (.inl rfl))⟩
 ·obtain⟨cs,hc⟩:=Kd.sS r.rows.opn k ho.symm;exact .inl ⟨_,_,hc,.inr (.inr (.inr (.inl rfl)))⟩
 ·obtain⟨cs,hc⟩:=Kd.sS r.rows.sent k ho.symm;exact .inl ⟨_,_,hc,.inr (.inr (.inr (.inr rfl)))⟩
 ·have hs:=r.rows.seen;cases hq:N.seen with
  |none=>
   rw[hs.no hq] at ho;cases ho
  |some q=>
   obtain⟨b,_,_,h1,_,h3,_⟩:=(hs.yes q hq).is;rw[ho] at h1;injection h1 with h1;injection h1 with h1;subst h1;exact .inr h3.at
theorem cK.C8(r:cK base w g h N){k:Nat}(ho:h.own g k):k<w.heap.size:=by
 rcases r.O7 ho with⟨_,_,hc,_⟩|⟨_,_,hc⟩
 ·exact(Array.getElem?_eq_some_iff.1 hc).1
 ·exact(Array.getElem?_eq_some_iff.1 hc).1
theorem cK.kE(r:cK base w g h N){k:Nat}(ho:h.own g k):base<=k:=by
 rcases ho with rfl|ho|ho|ho|ho|ho
 ·exact r.gb
 ·exact Kd.jU r.rows.sub k ho.symm
 ·exact Kd.jU r.rows.box k ho.symm
 ·exact Kd.jU r.rows.opn k ho.symm
 ·exact Kd.jU r.rows.sent k ho.symm
 ·have hs:=r.rows.seen;cases hq:N.seen with
  |none=>
   rw[hs.no hq] at ho;cases ho
  |some q=>
   obtain⟨b,_,_,h1,h2,_,_⟩:=(hs.yes q hq).is;rw[ho] at h1;injection h1 with h1;injection h1 with h1;subst h1;exact h2
theorem cK.other(r:cK base w g h N){k:Nat}{cs:Array Value}{t:TypeId}{fr:Nat×Nat}(hc:w.heap[k]? =some (.cells cs t fr))(ht:t≠tN∧t≠iw∧t≠ny∧t≠nM∧t≠vD):¬h.own g k:=fun ho=>by
 rcases r.O7 ho with⟨_,_,h2,h3⟩|⟨_,_,h2⟩
 ·rw[hc] at h2;injection h2 with h2;injection h2 with _ h2 _;subst h2;rcases h3 with e|e|e|e|e
  ·exact ht.1 e
  ·exact ht.2.1 e
  ·exact ht.2.2.1 e
  ·exact ht.2.2.2.1 e
  ·exact ht.2.2.2.2 e
 ·rw[hc] at h2;cases h2
end
structure Fr(base g:Nat)(w:World)(h:Hd)(w':World)(h':Hd):Prop where
 below:Below base w w'
 keep:∀k,k<w.heap.size->¬h.own g k->w'.heap[k]? =w.heap[k]?
 own:∀k,h'.own g k->h.own g k∨w.heap.size<=k
section
variable{base g:Nat}{w w1 w2:World}{h h1 h2:Hd}{N:eG}
theorem Fr.refl(base g:Nat)(w:World)(h:Hd):Fr base g w h w h:=⟨Below.refl _ _,fun _ _ _=>rfl,fun _ hk=>.inl hk⟩
theorem Fr.trans(f:Fr base g w h w1 h1)(f2:Fr base g w1 h1 w2 h2):Fr base g w h w2 h2:=
 ⟨f.below.trans f2.below,fun k hk ho=>(f2.keep k (Nat.lt_of_lt_of_le hk f.below.size) (fun h3=>by
  rcases f.own k h3 with h3|h3
  ·exact ho h3
  ·omega)).trans (f.keep k hk ho),fun k hk=>by
  rcases f2.own k hk with h3|h3
  ·exact f.own k h3
  ·exact .inr (Nat.le_trans f.below.size h3)⟩
theorem Fr.of_below(hb:Below w.heap.size w w1)(hs:base<=w.heap.size):Fr base g w h w1 h:=⟨hb.mono hs,fun k hk _=>hb.block k hk,fun _ hk=>.inl hk⟩
theorem Fr.then(f:Fr base g w h w1 h1)(hb:Below w1.heap.size w1 w2)(hs:base<=w.heap.size):Fr base g w h w2 h1:=f.trans (Fr.of_below hb (Nat.le_trans hs f.below.size))
theorem Fr.set(hg:base<=g)(j:Nat)(u:Value):Fr base g w h (w.setCell ⟨g,j,none⟩ u) h:=
 ⟨(Below.refl base w).setCell (p:=⟨g,j,none⟩) hg u,fun k _ ho=>Below.heap_setCell w ⟨g,j,none⟩ u k (fun e=>ho (.inl e)),fun _ hk=>.inl hk⟩
theorem Fr.BV(f:Fr base g w h w1 h1)(hs:base<=w.heap.size){p:Addr}(hp:w.heap.size<=p.block)(u:Value):Fr base g w h (w1.setCell p u) h1:=
 ⟨f.below.setCell (Nat.le_trans hs hp) u,fun k hk ho=>(Below.heap_setCell w1 p u k (by omega)).trans (f.keep k hk ho),f.own⟩
theorem Fr.grown{row:Option Nat}(hgr:w.grownBy w1 row)(hs:base<=w.heap.size)(ho:∀k,row=some k->h.own g k∧base<=k):Fr base g w h w1 h:=
 ⟨(Below.refl base w).grown hgr hs (fun k hk=>(ho k hk).2),fun k hk hn=>hgr.block k hk (fun e=>hn (ho k e.symm).1),fun _ hk=>.inl hk⟩
theorem Fr.Md(r:eZ base w h N)(hgr:w.grownBy w1 h.vsub.ownBlock)(hs:base<=w.heap.size):Fr base g w h w1 h:=Fr.grown hgr hs (fun k hk=>⟨.inr (.inl hk.symm),Kd.jU r.sub k hk⟩)
theorem Fr.MG(r:eZ base w h N)(hgr:w.grownBy w1 h.vbox.ownBlock)(hs:base<=w.heap.size):Fr base g w h w1 h:=Fr.grown hgr hs (fun k hk=>⟨.inr (.inr (.inl hk.symm)),Kd.jU r.box k hk⟩)
theorem Fr.Gw(r:eZ base w h N)(hgr:w.grownBy w1 h.vopn.ownBlock)(hs:base<=w.heap.size):Fr base g w h w1 h:=Fr.grown hgr hs (fun k hk=>⟨.inr (.inr (.inr (.inl hk.symm))),Kd.jU r.opn k hk⟩)
theorem Fr.Ml(r:eZ base w h N)(hgr:w.grownBy w1 h.vsent.ownBlock)(hs:base<=w.heap.size):Fr base g w h w1 h:=Fr.grown hgr hs (fun k hk=>⟨.inr (.inr (.inr (.inr (.inl hk.symm)))),Kd.jU r.sent k hk⟩)
def NewAt(w:World)(v v1:Value):Prop:=v1.ownBlock=v.ownBlock∨∀b,v1.ownBlock=some b->w.heap.size<=b
theorem NewAt.app{v v1:Value}(h:v1.ownBlock=v.ownBlock∨∃b,v1.ownBlock=some b∧w.heap.size<=b):NewAt w v v1:=by
 rcases h with h|⟨b,h,h2⟩
 ·exact .inl h
 ·exact .inr (fun c hc=>by rw[h] at hc;injection hc with hc;omega)
theorem NewAt.from{W:World}{v v1:Value}(hs:w.heap.size<=W.heap.size)(h:v1.ownBlock=v.ownBlock∨∃b,v1.ownBlock=some b∧W.heap.size<=b):NewAt w v v1:=by
 rcases h with h|⟨b,h,h2⟩
 ·exact .inl h
 ·exact .inr (fun c hc=>by rw[h] at hc;injection hc with hc;omega)
theorem Fr.wu{v1:Value}(f:Fr base g w h w1 h1)(hn:NewAt w h.vsub v1):Fr base g w h w1 {h1 with vsub:=v1}:=
 ⟨f.below,f.keep,fun k hk=>by
  rcases hk with hk|hk|hk
  ·exact f.own k (.inl hk)
  ·rcases hn with hn|hn
   ·exact .inl (.inr (.inl (hk.trans hn)))
   ·exact .inr (hn k hk.symm)
  ·exact f.own k (.inr (.inr hk))⟩
theorem Fr.pV{v1:Value}(f:Fr base g w h w1 h1)(hn:NewAt w h.vbox v1):Fr base g w h w1 {h1 with vbox:=v1}:=
 ⟨f.below,f.keep,fun k hk=>by
  rcases hk with hk|hk|hk|hk
  ·exact f.own k (.inl hk)
  ·exact f.own k (.inr (.inl hk))
  ·rcases hn with hn|hn
   ·exact .inl (.inr (.inr (.inl (hk.trans hn))))
   ·exact .inr (hn k hk.symm)
  ·exact f.own k (.inr (.inr (.inr hk)))⟩
theorem Fr.zn{v1:Value}(f:Fr base g w h w1 h1)(hn:NewAt w h.vopn v1):Fr base g w h w1 {h1 with vopn:=v1}:=
 ⟨f.below,f.keep,fun k hk=>by
  rcases hk with hk|hk|hk|hk|hk
  ·exact f.own k (.inl hk)
  ·exact f.own k (.inr (.inl hk))
  ·exact f.own k (.inr (.inr (.inl hk)))
  ·rcases hn with hn|hn
   ·exact .inl (.inr (.inr (.inr (.inl (hk.trans hn)))))
   ·exact .inr (hn k hk.symm)
  ·exact f.own k (.inr (.inr (.inr (.inr hk))))⟩
theorem Fr.RD{v1:Value}(f:Fr base g w h w1 h1)(hn:NewAt w h.vsent v1):Fr base g w h w1 {h1 with vsent:=v1}:=
 ⟨f.below,f.keep,fun k hk=>by
  rcases hk with hk|hk|hk|hk|hk|hk
  ·exact f.own k (.inl hk)
  ·exact f.own k (.inr (.inl hk))
  ·exact f.own k (.inr (.inr (.inl hk)))
  ·exact f.own k (.inr (.inr (.inr (.inl hk))))
  ·rcases hn with hn|hn
   ·exact .inl (.inr (.inr (.inr (.inr (.inl (hk.trans hn))))))
   ·exact .inr (hn k hk.symm)
  ·exact f.own k (.inr (.inr (.inr (.inr (.inr hk)))))⟩
theorem Fr.nvm{b:Nat}(f:Fr base g w h w1 h1)(hn:h.vm=.map (some b)∨w.heap.size<=b):Fr base g w h w1 {h1 with vm:=.map (some b)}:=
 ⟨f.below,f.keep,fun k hk=>by
  rcases hk with hk|hk|hk|hk|hk|hk
  ·exact f.own k (.inl hk)
  ·exact f.own k (.inr (.inl hk))
  ·exact f.own k (.inr (.inr (.inl hk)))
  ·exact f.own k (.inr (.inr (.inr (.inl hk))))
  ·exact f.own k (.inr (.inr (.inr (.inr (.inl hk)))))
  ·have hk:Value.map (some b)=.map (some k):=hk;injection hk with hk;injection hk with hk;subst hk;rcases hn with hn|hn
   ·exact .inl (.inr (.inr (.inr (.inr (.inr hn)))))
   ·exact .inr hn⟩
theorem Fr.cells(f:Fr base g w h w1 h1)(r:cK base w g h N){k:Nat}{cs:Array Value}{t:TypeId}{fr:Nat×Nat}(hc:w.heap[k]? =some (.cells cs t fr))(ht:t≠tN∧t≠iw∧t≠ny∧t≠nM∧t≠vD):w1.heap[k]? =some (.cells cs t fr):=
 (f.keep k (Array.getElem?_eq_some_iff.1 hc).1 (r.other hc ht)).trans hc
theorem Fr.R{α:Type}{d:Kd α}{e b:Nat}{ok:Nat->Prop}{v:Value}{xs:List α}(f:Fr base g w h w1 h1)(r:cK base w g h N)(hr:Kd.R d e w b ok v xs)(ht:∀q,q∈e::d.E->q≠tN∧q≠iw∧q≠ny∧q≠nM∧q≠vD):Kd.R d e w1 b ok v xs:=
 Kd.dD (Kd.pQ (Kd.iL hr) (fun k hk=>by
  obtain⟨_,_,hlt,q,hq,cells,hc⟩:=hk;exact f.keep k hlt (r.other hc (ht q hq)))) (fun _ hk=>hk.1)
theorem Fr.Rn{α:Type}{d:Kd α}{e b:Nat}{v:Value}{xs:List α}(f:Fr base g w h w1 h1)(hr:Kd.R d e w b (fun k=>¬h.own g k∧k<w.heap.size) v xs):Kd.R d e w1 b (fun k=>¬h1.own g k∧k<w1.heap.size) v xs:=
 Kd.dD (Kd.pQ hr (fun k hk=>f.keep k hk.2 hk.1)) (fun k hk=>⟨fun ho=>by
  rcases f.own k ho with h3|h3
  ·exact hk.1 h3
  ·exact absurd hk.2 (by omega),Nat.lt_of_lt_of_le hk.2 f.below.size⟩)
def Off(w:World)(h:Hd)(g k:Nat):Prop:=¬h.own g k∧k<w.heap.size
theorem Off.keep{k:Nat}(ho:Off w h g k)(f:Fr base g w h w1 h1):Off w1 h1 g k:=⟨fun hk=>by
 rcases f.own k hk with h3|h3
 ·exact ho.1 h3
 ·exact absurd ho.2 (by omega),Nat.lt_of_lt_of_le ho.2 f.below.size⟩
theorem Off.blk{k:Nat}{o:Obj}(ho:Off w h g k)(f:Fr base g w h w1 h1)(hc:w.heap[k]? =some o):w1.heap[k]? =some o:=(f.keep k ho.2 ho.1).trans hc
theorem Off.below{k:Nat}(ho:Off w h g k)(hb:Below w.heap.size w w1):Off w1 h g k:=⟨ho.1,Nat.lt_of_lt_of_le ho.2 hb.size⟩
theorem Off.new{k:Nat}(r:cK base w g h N)(hk:w.heap.size<=k)(hk1:k<w1.heap.size):Off w1 h g k:=⟨fun ho=>by have:=r.C8 ho;omega,hk1⟩
theorem mO{α:Type}{d:Kd α}{e b gd:Nat}{ok:Nat->Prop}{v:Value}{xs:List α}{cs:Array Value}{t:Nat}(hr:Kd.R d e w b ok v xs)(hv:some gd≠v.ownBlock)(hc:w.heap[gd]? =some (.cells cs t (0,0)))(ht:∀q,q∈d.E->q≠t)(j:Nat)(u:Value):Kd.R d e (w.setCell ⟨gd,j,none⟩ u) b ok v xs:=by
 obtain⟨h0,inner,ho,hM⟩:=hr;refine⟨h0,inner,wG ho (p:=⟨gd,j,none⟩) hv u,hM.j6 (fun p cs' hp=> ?_)⟩;refine d.M_mono (fun k hk=>hk.1) (d.M_move (fun k hk=>Below.heap_setCell w ⟨gd,j,none⟩ u k (fun e2=> ?_)) (d.M_bound hp));obtain⟨_,_,_,q,hq,cells,hcc⟩:=hk;have e3:k=gd:=e2;rw[e3,hc] at hcc;injection hcc with hcc;injection hcc with _ hcc _;exact ht q hq hcc.symm
theorem cK.offset(r:cK base w g h N){gd:Nat}(ho:Off w h g gd){cs:Array Value}{t:Nat}(hc:w.heap[gd]? =some (.cells cs t (0,0)))(ht:t≠tA∧t≠tP∧t≠tS∧t≠tV)(j:Nat)(u:Value):cK base (w.setCell ⟨gd,j,none⟩ u) g h N:=by
 have hg:g≠gd:=fun e=>ho.1 (.inl e.symm)
 refine⟨(Below.heap_setCell w ⟨gd,j,none⟩ u g hg).trans r.blk,r.gb,⟨mO r.rows.sch (Kd.kM r.rows.sch hc (Ne.symm ht.1)) hc (fun q hq=>by cases hq) j u,mO r.rows.sub (fun e=>ho.1 (.inr (.inl e))) hc (fun q hq=> ?_) j u,r.rows.seen.step (xD hc j u),mO r.rows.box (fun e=>ho.1 (.inr (.inr (.inl e)))) hc (fun q hq=> ?_) j u,mO r.rows.opn (fun e=>ho.1 (.inr (.inr (.inr (.inl e))))) hc (fun q hq=> ?_) j u,⟨r.rows.lnk.1.step (xD hc j u),r.rows.lnk.2⟩,mO r.rows.sent (fun e=>ho.1 (.inr (.inr (.inr (.inr (.inl e)))))) hc (fun q hq=>by cases hq) j u⟩⟩
 ·have hq:q∈ [tP,tS]:=hq;simp only[List.mem_cons,List.not_mem_nil,or_false] at hq;rcases hq with rfl|rfl
  ·exact Ne.symm ht.2.1
  ·exact Ne.symm ht.2.2.1
 ·have hq:q∈ [tV]:=hq;rw[List.mem_singleton.1 hq];exact Ne.symm ht.2.2.2
 ·have hq:q∈ [tV,tS]:=hq;simp only[List.mem_cons,List.not_mem_nil,or_false] at hq;rcases hq with rfl|rfl
  ·exact Ne.symm ht.2.2.2
  ·exact Ne.symm ht.2.2.1
end
section
variable{α:Type}
def dK(p:α->Bool)(l:List α):List α:=l.filter (fun x=> !p x)
theorem nW(p:α->Bool):∀(l:List α) (i:Nat),(idxFrom p l i= -1∧dK p l=l)∨∃k,idxFrom p l i=((i+k:Nat):Int)∧k<l.length∧dK p (l.take (k+1))=l.take k
 | [],i=>.inl ⟨rfl,rfl⟩
 |x::r,i=>by
  cases hx:p x with
  |true=>exact .inr ⟨0,by simp[idxFrom,hx],by simp,by simp[dK,hx]⟩
  |false=>
   rcases nW p r (i+1) with⟨h1,h2⟩|⟨k,h1,h2,h3⟩
   ·exact .inl ⟨by simp[idxFrom,hx,h1],by unfold dK at h2|-;rw[List.filter_cons_of_pos (by simp[hx]),h2]⟩
   ·refine .inr ⟨k+1,by simp only[idxFrom,hx];rw[if_neg (by simp),h1];omega,by simp;omega, ?_⟩;unfold dK at h3|-;rw[List.take_succ_cons,List.filter_cons_of_pos (by simp[hx]),h3,List.take_succ_cons]
structure iK(p:α->Bool)(L C:List α)(i j:Nat):Prop where
 len:C.length=L.length
 le:i<=j
 jle:j<=L.length
 kept:C.take i=dK p (L.take j)
 rest:C.drop j=L.drop j
theorem iK.at_{p:α->Bool}{L C:List α}{i j:Nat}(h:iK p L C i j){x:α}(hx:L[j]? =some x):C[j]? =some x:=by
 have h1:(C.drop j)[0]? =(L.drop j)[0]? :=by rw[h.rest]
 rw[List.getElem?_drop,List.getElem?_drop,Nat.add_zero] at h1;rw[h1,hx]
theorem iK.at'{p:α->Bool}{L C:List α}{i j:Nat}(h:iK p L C i j){x:α}(hx:C[j]? =some x):L[j]? =some x:=by
 have h1:(C.drop j)[0]? =(L.drop j)[0]? :=by rw[h.rest]
 rw[List.getElem?_drop,List.getElem?_drop,Nat.add_zero] at h1;rw[<-h1,hx]
theorem oq{L:List α}{j:Nat}{x:α}(hx:L[j]? =some x):L.take (j+1)=L.take j++ [x]:=by
 rw[List.take_add_one,hx];rfl
theorem iK.skip{p:α->Bool}{L C:List α}{i j:Nat}(h:iK p L C i j){x:α}(hx:L[j]? =some x)(hp:p x=true):iK p L C i (j+1):=by
 have hj:=(List.getElem?_eq_some_iff.1 hx).1;refine⟨h.len,Nat.le_succ_of_le h.le,hj, ?_, ?_⟩
 ·rw[h.kept,oq hx];simp[dK,hp]
 ·rw[<-List.drop_drop,h.rest,List.drop_drop]
theorem iK.keep{p:α->Bool}{L C:List α}{i j:Nat}(h:iK p L C i j){x:α}(hx:L[j]? =some x)(hp:p x=false):iK p L (C.set i x) (i+1) (j+1):=by
 have hj:=(List.getElem?_eq_some_iff.1 hx).1;have hi:i<C.length:=by rw[h.len];have:=h.le;omega
 refine⟨by rw[List.length_set,h.len],Nat.succ_le_succ h.le,hj, ?_, ?_⟩
 ·have h2:(C.set i x)[i]? =some x:=by simp[hi]
  rw[oq h2,oq hx,List.take_set_of_le (Nat.le_refl _),h.kept];simp[dK,hp]
 ·rw[List.drop_set_of_lt (by have:=h.le;omega),<-List.drop_drop,h.rest,List.drop_drop]
theorem iK.done{p:α->Bool}{L C:List α}{i:Nat}(h:iK p L C i L.length):C.take i=dK p L:=by
 rw[h.kept,List.take_length]
theorem iK.start{p:α->Bool}{L:List α}{k:Nat}(hk:k<L.length)(h:dK p (L.take (k+1))=L.take k):iK p L L k (k+1):=⟨rfl,Nat.le_succ _,hk,h.symm,rfl⟩
end
theorem iB{a w w':World}{row:Option Nat}(h:a.grownBy w row)(hb:Below w.heap.size w w'):a.grownBy w' row:=
 ⟨hb.os.trans h.os,hb.tape.trans h.tape,hb.output.trans h.output,Nat.le_trans h.size hb.size,fun k hk hne=>(hb.block k (Nat.lt_of_lt_of_le hk h.size)).trans (h.block k hk hne)⟩
theorem jh{a w w':World}{row:Option Nat}(h:a.grownBy w row)(k:w.grownBy w' row):a.grownBy w' row:=
 ⟨k.os.trans h.os,k.tape.trans h.tape,k.output.trans h.output,Nat.le_trans h.size k.size,fun b hb hne=>(k.block b (Nat.lt_of_lt_of_le hb h.size) hne).trans (h.block b hb hne)⟩
theorem rO{P:Program}(w:World)(t e ty:TypeId)(z:Value)(ht:P.underlying t=some (.slice e))(hv:∀w,(zeroValue e).run P w=.ok z w)(b o n c:Nat)(hn:0<n)(h1:∀u∈(Builtin.zeroCells z.cells n).toList,u.oneCell'=true)
 (hc:∀j,j<(Builtin.zeroCells z.cells n).toList.length->(w.cell? ⟨b,o+j,none⟩).isSome=true) (hf:∀j,j<(Builtin.zeroCells z.cells n).toList.length->w.frozen? ⟨b,o+j,none⟩=false):
 (Builtin.clear_ #[t] ty #[.slice (some ⟨b,o,none⟩) n c]).run P w=.ok (.tuple #[]) (w.setCells b o (Builtin.zeroCells z.cells n).toList):=by
 have hst:=run_storeCells_cells (P:=P) b o (Builtin.zeroCells z.cells n).toList 0 w (by simpa using hc) (by simpa using hf) h1;simp only[Nat.add_zero] at hst;obtain⟨m,rfl⟩:∃m,n=m+1:=⟨n-1,by omega⟩
 simp[Builtin.clear_,run_underlying ht,hv,hst]
theorem ym{α:Type}{d:Kd α}{e base g i c m n:Nat}{ok:Nat->Prop}{w:World}{xs ys:List α}(h:Kd.R d e w base ok (.slice (some ⟨g,0,none⟩) n c) ys)(hi:i<=n)(hx:ys.take i=xs)(vs:List Value)(hm:vs.length=m*d.sz)(hin:i+m<=n):
 Kd.R d e (w.setCells g (i*d.sz) vs) base ok (.slice (some ⟨g,0,none⟩) i c) xs∧w.grownBy (w.setCells g (i*d.sz) vs) (some g):=by
 obtain⟨hn,_,_⟩:=Kd.bN h;obtain⟨h0,inner,ho,hr⟩:=h;have hsame:=jG g vs (i*d.sz) w;have hgr:w.grownBy (w.setCells g (i*d.sz) vs) (some g):=⟨hsame.1,hsame.2.1,hsame.2.2.1,Nat.le_of_eq hsame.2.2.2.symm,fun k hk hne=>ic vs _ k (fun e=>hne (by rw[e]))⟩
 refine⟨⟨h0,(inner.take (i*d.sz)), ?_, ?_⟩,hgr⟩
 ·rcases ho.2 with⟨hv,_⟩|⟨g',cap,cur,hv,hg,hh,hnc,hcm,hcs,ht⟩
  ·cases hv
  ·injection hv with e1 e2 e3;injection e1 with e1;injection e1 with e1 _ _;subst e1 e2 e3;have hmul:(i+m)*d.sz<=cur.size:=by rw[hcs];exact Nat.mul_le_mul_right _ (by omega)
   rw[Nat.add_mul] at hmul;obtain⟨cur',h1,h2,h3⟩:=kH vs (i*d.sz) w cur hh (by rw[hm];exact hmul);have hxl:xs.length=i:=by rw[<-hx,List.length_take];omega
   have zP:i*d.sz<=ys.length*d.sz:=Nat.mul_le_mul_right _ hi;refine⟨by rw[List.length_take,ho.1,hxl];rw[<-hn];omega,.inr ⟨g,c,cur',by rw[hxl],hg,h1,by omega,hcm,by rw[h2,hcs], ?_⟩⟩;rw[h3,hxl,List.append_assoc,List.take_append_of_le_length (by rw[List.length_take,Array.length_toList];omega),List.take_take,Nat.min_self,<-ht,List.take_take,Nat.min_eq_left (by rw[<-hn];exact zP)]
 ·rw[<-hx];refine(Kd.Ay hr (by omega)).j6 (fun p cs hp=>d.M_mono (fun k hk=>⟨hk.1.1,hk.1.2⟩) (d.M_move (fun k hk=>ic vs _ k (fun e=>hk.1.2 (by rw[e];rfl))) (d.M_bound hp)))
theorem rT{z:Array Value}(h0:0<z.size)(h1:∀u∈z.toList,u.oneCell'=true)(n:Nat):∀u∈(Builtin.zeroCells z n).toList,u.oneCell'=true:=by
 intro u hu;simp only[Builtin.zeroCells,Array.toList_map,List.mem_map] at hu;obtain⟨i,_,rfl⟩:=hu;have hm:=Nat.mod_lt i h0;rw[getElem!_pos z (i%z.size) hm];exact h1 _ (by rw[Array.mem_toList_iff];exact Array.getElem_mem hm)
theorem Od{α:Type}{d:Kd α}{e base g n c:Nat}{ok:Nat->Prop}{w:World}{ys:List α}(h:Kd.R d e w base ok (.slice (some ⟨g,0,none⟩) n c) ys):∃cur,w.heap[g]? =some (.cells cur e (0,0))∧n*d.sz<=cur.size:=by
 obtain⟨h0,inner,ho,hr⟩:=h;rcases ho.2 with⟨hv,_⟩|⟨g',cap,cur,hv,hg,hh,hnc,hcm,hcs,ht⟩
 ·cases hv
 ·injection hv with e1 e2 e3;injection e1 with e1;injection e1 with e1 _ _;subst e1 e2 e3;exact⟨cur,hh,by rw[hcs];exact Nat.mul_le_mul_right _ (by omega)⟩
theorem mh{P:Program}{α:Type}{d:Kd α}{e base g n c:Nat}{ok:Nat->Prop}{w:World}{ys:List α}(h:Kd.R d e w base ok (.slice (some ⟨g,0,none⟩) n c) ys)(i:Nat)(hi:i<n)(t ty:TypeId)(z:Value)(c':Nat)(ht:P.underlying t=some (.slice e))(hv:∀w,(zeroValue e).run P w=.ok z w)(hz:z.cells.size=d.sz)(h0:0<d.sz)(h1:∀u∈z.cells.toList,u.oneCell'=true):
 (Builtin.clear_ #[t] ty #[.slice (some ⟨g,i*d.sz,none⟩) (n-i) c']).run P w=.ok (.tuple #[]) (w.setCells g (i*d.sz) (Builtin.zeroCells z.cells (n-i)).toList)∧(Builtin.zeroCells z.cells (n-i)).toList.length=(n-i)*d.sz:=by
 have hl:(Builtin.zeroCells z.cells (n-i)).toList.length=(n-i)*d.sz:=by rw[Array.length_toList,size_zeroCells,hz]
 obtain⟨cur,hb,hs⟩:=Od h;have hsz:i*d.sz+(n-i)*d.sz<=cur.size:=by rw[<-Nat.add_mul,show i+(n-i)=n by omega];exact hs
 refine⟨rO w t e ty z ht hv g (i*d.sz) (n-i) c' (by omega) (rT (by omega) h1 _) (fun j hj=> ?_) (fun j hj=>af hb _),hl⟩;rw[hl] at hj;rw[cell_of_row w g _ cur e (0,0) hb,Array.getElem?_eq_getElem (by omega)];rfl
theorem kS{P:Program}{t:TypeId}{z:Value}{s b:Nat}(h:(P.info? t).map (fun i=>(i.zero,i.size,i.bytes))=some (some z,s,b)):∃i,P.info? t=some i∧i.size=s∧∀w,(zeroValue t).run P w=.ok z w:=by
 obtain⟨i,hi,h2⟩:=Option.map_eq_some_iff.1 h;injection h2 with hz h3;injection h3 with hs _;exact⟨i,hi,hs,fun w=>by simp[zeroValue,typeInfo,hi,hz]⟩
end Go.Proofs.YtnmpijbcajclgaaGreatDoor.Mine
end
section
namespace Go.Proofs
open Go.Shelf
def Tryz.Hz:Go.Shelf.Ren:=⟨fun|41=>40|n=>n,fun|22=>32|23=>30|4=>4|n=>n,fun|n=>n⟩
theorem Tryz.M7:Go.Proofs.SlLaysE0.n41 Tryz.prog Tryz.Hz:={
 mixed:=by kernel_rfl
 f41:=⟨Tryz.f40.name,by decide,Tryz.func40.trans (congrArg some (by kernel_rfl))⟩
 t4:=Tryz.underlying4
 a4:=Tryz.isAgg4
 z4:=Tryz.sizeOf4
 v4:=Tryz.zeroValue4
 t22:=Tryz.underlying32
 a22:=Tryz.isAgg32
 z22:=Tryz.sizeOf32
 v22:=Tryz.zeroValue32}
def Tryz.Ig:Go.Shelf.Ren:=⟨fun|41=>45|n=>n,fun|22=>38|23=>37|4=>4|n=>n,fun|n=>n⟩
theorem Tryz.OY:Go.Proofs.SlLaysE0.n41 Tryz.prog Tryz.Ig:={
 mixed:=by kernel_rfl
 f41:=⟨Tryz.f45.name,by decide,Tryz.func45.trans (congrArg some (by kernel_rfl))⟩
 t4:=Tryz.underlying4
 a4:=Tryz.isAgg4
 z4:=Tryz.sizeOf4
 v4:=Tryz.zeroValue4
 t22:=Tryz.underlying38
 a22:=Tryz.isAgg38
 z22:=Tryz.sizeOf38
 v22:=Tryz.zeroValue38}
def Tryz.Ex:Go.Shelf.Ren:=⟨fun|41=>54|n=>n,fun|22=>111|23=>127|4=>4|n=>n,fun|n=>n⟩
theorem Tryz.I1:Go.Proofs.SlLaysE0.n41 Tryz.prog Tryz.Ex:={
 mixed:=by kernel_rfl
 f41:=⟨Tryz.f54.name,by decide,Tryz.func54.trans (congrArg some (by kernel_rfl))⟩
 t4:=Tryz.underlying4
 a4:=Tryz.isAgg4
 z4:=Tryz.sizeOf4
 v4:=Tryz.zeroValue4
 t22:=Tryz.underlying111
 a22:=Tryz.isAgg111
 z22:=Tryz.sizeOf111
 v22:=Tryz.zeroValue111}
def Tryz.ES:Go.Shelf.Ren:=⟨fun|41=>56|n=>n,fun|22=>43|23=>46|4=>4|n=>n,fun|n=>n⟩
theorem Tryz.Jg:Go.Proofs.SlLaysE0.n41 Tryz.prog Tryz.ES:={
 mixed:=by kernel_rfl
 f41:=⟨Tryz.f56.name,by decide,Tryz.func56.trans (congrArg some (by kernel_rfl))⟩
 t4:=Tryz.underlying4
 a4:=Tryz.isAgg4
 z4:=Tryz.sizeOf4
 v4:=Tryz.zeroValue4
 t22:=Tryz.underlying43
 a22:=Tryz.isAgg43
 z22:=Tryz.sizeOf43
 v22:=Tryz.zeroValue43}
def Tryz.Fe:Go.Shelf.Ren:=⟨fun|41=>164|n=>n,fun|22=>112|23=>272|4=>4|n=>n,fun|n=>n⟩
theorem Tryz.I5:Go.Proofs.SlLaysE0.n41 Tryz.prog Tryz.Fe:={
 mixed:=by kernel_rfl
 f41:=⟨Tryz.f164.name,by decide,Tryz.func164.trans (congrArg some (by kernel_rfl))⟩
 t4:=Tryz.underlying4
 a4:=Tryz.isAgg4
 z4:=Tryz.sizeOf4
 v4:=Tryz.zeroValue4
 t22:=Tryz.underlying112
 a22:=Tryz.isAgg112
 z22:=Tryz.sizeOf112
 v22:=Tryz.zeroValue112}
def Tryz.F8:Go.Shelf.Ren:=⟨fun|41=>72|n=>n,fun|22=>99|23=>9|4=>4|n=>n,fun|n=>n⟩
theorem Tryz.Nl:Go.Proofs.SlLaysE0.n41 Tryz.prog Tryz.F8:={
 mixed:=by kernel_rfl
 f41:=⟨Tryz.f72.name,by decide,Tryz.func72.trans (congrArg some (by kernel_rfl))⟩
 t4:=Tryz.underlying4
 a4:=Tryz.isAgg4
 z4:=Tryz.sizeOf4
 v4:=Tryz.zeroValue4
 t22:=Tryz.underlying99
 a22:=Tryz.isAgg99
 z22:=Tryz.sizeOf99
 v22:=Tryz.zeroValue99}
def Tryz.Gy:Go.Shelf.Ren:=⟨fun|41=>71|n=>n,fun|22=>116|23=>168|4=>4|n=>n,fun|n=>n⟩
theorem Tryz.NH:Go.Proofs.SlLaysE0.n41 Tryz.prog Tryz.Gy:={
 mixed:=by kernel_rfl
 f41:=⟨Tryz.f71.name,by decide,Tryz.func71.trans (congrArg some (by kernel_rfl))⟩
 t4:=Tryz.underlying4
 a4:=Tryz.isAgg4
 z4:=Tryz.sizeOf4
 v4:=Tryz.zeroValue4
 t22:=Tryz.underlying116
 a22:=Tryz.isAgg116
 z22:=Tryz.sizeOf116
 v22:=Tryz.zeroValue116}
def Tryz.Kb:Go.Shelf.Ren:=⟨fun|190=>102|125=>127|258=>158|128=>191|129=>192|302=>211|303=>212|304=>213|305=>214|306=>215|307=>216|308=>217|309=>218|310=>219|333=>242|329=>231|330=>232|334=>243|335=>244|336=>245|344=>253|n=>n,fun|31=>99|9=>9|3=>3|46=>242|0=>0|51=>307|53=>61|4=>4|183=>301|182=>300|131=>226|5=>5|218=>338|222=>341|228=>354|229=>188|n=>n,fun|n=>n⟩
theorem Tryz.Rm:Go.Proofs.Lays.n190 Tryz.prog Tryz.Kb:={
 mixed:=by kernel_rfl
 f125:=Tryz.func127.trans (congrArg some (by kernel_rfl))
 f128:=Tryz.func191.trans (congrArg some (by kernel_rfl))
 f129:=Tryz.func192.trans (congrArg some (by kernel_rfl))
 f190:=Tryz.func102.trans (congrArg some (by kernel_rfl))
 f258:=Tryz.func158.trans (congrArg some (by kernel_rfl))
 f302:=Tryz.func211.trans (congrArg some (by kernel_rfl))
 f303:=Tryz.func212.trans (congrArg some (by kernel_rfl))
 f304:=Tryz.func213.trans (congrArg some (by kernel_rfl))
 f305:=Tryz.func214.trans (congrArg some (by kernel_rfl))
 f306:=Tryz.func215.trans (congrArg some (by kernel_rfl))
 f307:=Tryz.func216.trans (congrArg some (by kernel_rfl))
 f308:=Tryz.func217.trans (congrArg some (by kernel_rfl))
 f309:=Tryz.func218.trans (congrArg some (by kernel_rfl))
 f310:=Tryz.func219.trans (congrArg some (by kernel_rfl))
 f329:=Tryz.func231.trans (congrArg some (by kernel_rfl))
 f330:=Tryz.func232.trans (congrArg some (by kernel_rfl))
 f333:=Tryz.func242.trans (congrArg some (by kernel_rfl))
 f334:=Tryz.func243.trans (congrArg some (by kernel_rfl))
 f335:=Tryz.func244.trans (congrArg some (by kernel_rfl))
 f336:=Tryz.func245.trans (congrArg some (by kernel_rfl))
 f344:=Tryz.func253.trans (congrArg some (by kernel_rfl))
 t0:=Tryz.underlying0
 a0:=Tryz.isAgg0
 z0:=Tryz.sizeOf0
 v0:=Tryz.zeroValue0
 t3:=Tryz.underlying3
 a3:=Tryz.isAgg3
 z3:=Tryz.sizeOf3
 v3:=Tryz.zeroValue3
 t4:=Tryz.underlying4
 a4:=Tryz.isAgg4
 z4:=Tryz.sizeOf4
 v4:=Tryz.zeroValue4
 t5:=Tryz.underlying5
 a5:=Tryz.isAgg5
 z5:=Tryz.sizeOf5
 v5:=Tryz.zeroValue5
 t9:=Tryz.underlying9
 a9:=Tryz.isAgg9
 z9:=Tryz.sizeOf9
 v9:=Tryz.zeroValue9
 t31:=Tryz.underlying99
 a31:=Tryz.isAgg99
 z31:=Tryz.sizeOf99
 v31:=Tryz.zeroValue99
 t46:=Tryz.underlying242
 a46:=Tryz.isAgg242
 z46:=Tryz.sizeOf242
 v46:=Tryz.zeroValue242
 t51:=Tryz.underlying307
 a51:=Tryz.isAgg307
 z51:=Tryz.sizeOf307
 v51:=Tryz.zeroValue307
 t53:=Tryz.underlying61
 a53:=Tryz.isAgg61
 z53:=Tryz.sizeOf61
 v53:=Tryz.zeroValue61
 t131:=Tryz.underlying226
 a131:=Tryz.isAgg226
 z131:=Tryz.sizeOf226
 v131:=Tryz.zeroValue226
 t182:=Tryz.underlying300
 a182:=Tryz.isAgg300
 z182:=Tryz.sizeOf300
 v182:=Tryz.zeroValue300
 t183:=Tryz.underlying301
 a183:=Tryz.isAgg301
 z183:=Tryz.sizeOf301
 v183:=Tryz.zeroValue301
 t218:=Tryz.underlying338
 a218:=Tryz.isAgg338
 z218:=Tryz.sizeOf338
 v218:=Tryz.zeroValue338
 t222:=Tryz.underlying341
 a222:=Tryz.isAgg341
 z222:=Tryz.sizeOf341
 v222:=Tryz.zeroValue341
 t228:=Tryz.underlying354
 a228:=Tryz.isAgg354
 z228:=Tryz.sizeOf354
 v228:=Tryz.zeroValue354
 t229:=Tryz.underlying188
 a229:=Tryz.isAgg188
 z229:=Tryz.sizeOf188
 v229:=Tryz.zeroValue188}
def Tryz.CR:Go.Shelf.Ren:=⟨fun|194=>99|n=>n,fun|31=>99|9=>9|3=>3|4=>4|0=>0|n=>n,fun|n=>n⟩
theorem Tryz.yn:Go.Proofs.Lays.n194 Tryz.prog Tryz.CR:={
 mixed:=by kernel_rfl
 f194:=Tryz.func99.trans (congrArg some (by kernel_rfl))
 t0:=Tryz.underlying0
 a0:=Tryz.isAgg0
 z0:=Tryz.sizeOf0
 v0:=Tryz.zeroValue0
 t3:=Tryz.underlying3
 a3:=Tryz.isAgg3
 z3:=Tryz.sizeOf3
 v3:=Tryz.zeroValue3
 t4:=Tryz.underlying4
 a4:=Tryz.isAgg4
 z4:=Tryz.sizeOf4
 v4:=Tryz.zeroValue4
 t9:=Tryz.underlying9
 a9:=Tryz.isAgg9
 z9:=Tryz.sizeOf9
 v9:=Tryz.zeroValue9
 t31:=Tryz.underlying99
 a31:=Tryz.isAgg99
 z31:=Tryz.sizeOf99
 v31:=Tryz.zeroValue99}
def Tryz.Cb:Go.Shelf.Ren:=⟨fun|171=>91|243=>154|246=>209|283=>238|284=>239|285=>240|286=>241|129=>192|317=>249|318=>250|319=>251|320=>252|337=>255|338=>256|n=>n,fun|3=>3|9=>9|2=>2|4=>4|171=>345|0=>0|53=>61|37=>263|5=>5|173=>347|212=>357|51=>307|20=>20|213=>358|46=>242|232=>360|233=>361|n=>n,fun|17=>1|18=>2|19=>3|n=>n⟩
theorem Tryz.Nz:Go.Proofs.LaysM.n171 Tryz.prog Tryz.Cb:={
 mixed:=by kernel_rfl
 f129:=Tryz.func192.trans (congrArg some (by kernel_rfl))
 f171:=Tryz.func91.trans (congrArg some (by kernel_rfl))
 f243:=Tryz.func154.trans (congrArg some (by kernel_rfl))
 f246:=Tryz.func209.trans (congrArg some (by kernel_rfl))
 f283:=Tryz.func238.trans (congrArg some (by kernel_rfl))
 f284:=Tryz.func239.trans (congrArg some (by kernel_rfl))
 f285:=Tryz.func240.trans (congrArg some (by kernel_rfl))
 f286:=Tryz.func241.trans (congrArg some (by kernel_rfl))
 f317:=Tryz.func249.trans (congrArg some (by kernel_rfl))
 f318:=Tryz.func250.trans (congrArg some (by kernel_rfl))
 f319:=Tryz.func251.trans (congrArg some (by kernel_rfl))
 f320:=Tryz.func252.trans (congrArg some (by kernel_rfl))
 f337:=Tryz.func255.trans (congrArg some (by kernel_rfl))
 f338:=Tryz.func256.trans (congrArg some (by kernel_rfl))
 t0:=Tryz.underlying0
 a0:=Tryz.isAgg0
 z0:=Tryz.sizeOf0
 v0:=Tryz.zeroValue0
 t2:=Tryz.underlying2
 a2:=Tryz.isAgg2
 z2:=Tryz.sizeOf2
 v2:=Tryz.zeroValue2
 t3:=Tryz.underlying3
 a3:=Tryz.isAgg3
 z3:=Tryz.sizeOf3
 v3:=Tryz.zeroValue3
 t4:=Tryz.underlying4
 a4:=Tryz.isAgg4
 z4:=Tryz.sizeOf4
 v4:=Tryz.zeroValue4
 t5:=Tryz.underlying5
 a5:=Tryz.isAgg5
 z5:=Tryz.sizeOf5
 v5:=Tryz.zeroValue5
 t9:=Tryz.underlying9
 a9:=Tryz.isAgg9
 z9:=Tryz.sizeOf9
 v9:=Tryz.zeroValue9
 t20:=Tryz.underlying20
 a20:=Tryz.isAgg20
 z20:=Tryz.sizeOf20
 v20:=Tryz.zeroValue20
 t37:=Tryz.underlying263
 a37:=Tryz.isAgg263
 z37:=Tryz.sizeOf263
 v37:=Tryz.zeroValue263
 t46:=Tryz.underlying242
 a46:=Tryz.isAgg242
 z46:=Tryz.sizeOf242
 v46:=Tryz.zeroValue242
 t51:=Tryz.underlying307
 a51:=Tryz.isAgg307
 z51:=Tryz.sizeOf307
 v51:=Tryz.zeroValue307
 t53:=Tryz.underlying61
 a53:=Tryz.isAgg61
 z53:=Tryz.sizeOf61
 v53:=Tryz.zeroValue61
 t171:=Tryz.underlying345
 a171:=Tryz.isAgg345
 z171:=Tryz.sizeOf345
 v171:=Tryz.zeroValue345
 t173:=Tryz.underlying347
 a173:=Tryz.isAgg347
 z173:=Tryz.sizeOf347
 v173:=Tryz.zeroValue347
 t212:=Tryz.underlying357
 a212:=Tryz.isAgg357
 z212:=Tryz.sizeOf357
 v212:=Tryz.zeroValue357
 t213:=Tryz.underlying358
 a213:=Tryz.isAgg358
 z213:=Tryz.sizeOf358
 t232:=Tryz.underlying360
 a232:=Tryz.isAgg360
 z232:=Tryz.sizeOf360
 v232:=Tryz.zeroValue360
 t233:=Tryz.underlying361
 a233:=Tryz.isAgg361
 z233:=Tryz.sizeOf361
 v233:=Tryz.zeroValue361
 g17:=by kernel_rfl
 g18:=by kernel_rfl
 g19:=by kernel_rfl
 i0:=by kernel_rfl
 i2:=by kernel_rfl
 i3:=by kernel_rfl
 i4:=by kernel_rfl
 i5:=by kernel_rfl
 i9:=by kernel_rfl
 i20:=by kernel_rfl
 i37:=by kernel_rfl
 i46:=by kernel_rfl
 i51:=by kernel_rfl
 i53:=by kernel_rfl
 i171:=by kernel_rfl
 i173:=by kernel_rfl
 i212:=by kernel_rfl
 i232:=by kernel_rfl
 i233:=by kernel_rfl
 m17:=by kernel_rfl
 m18:=by kernel_rfl
 m19:=by kernel_rfl}
end Go.Proofs
end
section
namespace Go.Proofs.YtnmpijbcajclgaaGreatDoor.Mine
open Tryz
open Go.Maps Go.RowKit YtnmpijbcajclgaaGreatDoorW.PrintWords YtnmpijbcajclgaaGreatDoorW.PrintLast YtnmpijbcajclgaaGreatDoorW.PrintMore
open PNodeAlone
structure jm(f e sz bytes:Nat):Prop where
 at_:∀(b off n c:Nat) (news:List Value) (w:World),news.length=n*sz->n<=maxLen->n*bytes<=140737488355328->(∀j u,news[j]? =some u->w.cell? ⟨b,off+j,none⟩=some u)->(∀u∈news,u.oneCell'=true)->
  Calls prog f #[.slice (some ⟨b,off,none⟩) n c] w fun e' w'=>∃v',e'=.returned v'∧w'.ownsRow w.heap.size e sz v' n news∧v'≠.slice none 0 0∧Below w.heap.size w w'
 nil_:∀(n c:Nat) (w:World),Calls prog f #[.slice none n c] w fun e' w'=>e'=.returned (.slice none 0 0)∧w'=w
theorem clA:jm 40 30 4 40:=by
 have hinfo:(prog.info? 30).map (fun i=>(i.zero,i.size,i.bytes))=some (some (.agg #[(.string ⟨#[]⟩),(.int .i64 0),(.int .i64 0),(.int .i64 0)]),4,40):=by kernel_rfl
 obtain⟨i0,hi,hzz⟩:=Option.map_eq_some_iff.1 hinfo;simp only[Prod.mk.injEq] at hzz;exact⟨fun b off n c news w hl hn hbig hc h1=>AnyE.slices_Clone Tryz.M7 i0 _ 4 40 hi hzz.1 hzz.2.1 hzz.2.2 rfl (by decide) sizeOf30 b off n c news w hl hn hbig hc h1,fun n c w=>AnyE.slices_Clone_nil Tryz.M7 n c w⟩
theorem clV:jm 45 37 2 24:=by
 have hinfo:(prog.info? 37).map (fun i=>(i.zero,i.size,i.bytes))=some (some (.agg #[(.int .i64 0),(.string ⟨#[]⟩)]),2,24):=by kernel_rfl
 obtain⟨i0,hi,hzz⟩:=Option.map_eq_some_iff.1 hinfo;simp only[Prod.mk.injEq] at hzz;exact⟨fun b off n c news w hl hn hbig hc h1=>AnyE.slices_Clone Tryz.OY i0 _ 2 24 hi hzz.1 hzz.2.1 hzz.2.2 rfl (by decide) sizeOf37 b off n c news w hl hn hbig hc h1,fun n c w=>AnyE.slices_Clone_nil Tryz.OY n c w⟩
theorem ZG:jm 54 127 4 72:=by
 have hinfo:(prog.info? 127).map (fun i=>(i.zero,i.size,i.bytes))=some (some (.agg #[(.int .i64 0),(.slice none 0 0),(.string ⟨#[]⟩),(.slice none 0 0)]),4,72):=by kernel_rfl
 obtain⟨i0,hi,hzz⟩:=Option.map_eq_some_iff.1 hinfo;simp only[Prod.mk.injEq] at hzz;exact⟨fun b off n c news w hl hn hbig hc h1=>AnyE.slices_Clone Tryz.I1 i0 _ 4 72 hi hzz.1 hzz.2.1 hzz.2.2 rfl (by decide) sizeOf127 b off n c news w hl hn hbig hc h1,fun n c w=>AnyE.slices_Clone_nil Tryz.I1 n c w⟩
theorem WV:jm 56 46 5 64:=by
 have hinfo:(prog.info? 46).map (fun i=>(i.zero,i.size,i.bytes))=some (some (.agg #[(.int .i64 0),(.int .i64 0),(.int .i64 0),(.slice none 0 0),(.string ⟨#[]⟩)]),5,64):=by kernel_rfl
 obtain⟨i0,hi,hzz⟩:=Option.map_eq_some_iff.1 hinfo;simp only[Prod.mk.injEq] at hzz;exact⟨fun b off n c news w hl hn hbig hc h1=>AnyE.slices_Clone Tryz.Jg i0 _ 5 64 hi hzz.1 hzz.2.1 hzz.2.2 rfl (by decide) sizeOf46 b off n c news w hl hn hbig hc h1,fun n c w=>AnyE.slices_Clone_nil Tryz.Jg n c w⟩
theorem aaS:jm 164 272 3 32:=by
 have hinfo:(prog.info? 272).map (fun i=>(i.zero,i.size,i.bytes))=some (some (.agg #[(.string ⟨#[]⟩),(.int .i64 0),(.int .i64 0)]),3,32):=by kernel_rfl
 obtain⟨i0,hi,hzz⟩:=Option.map_eq_some_iff.1 hinfo;simp only[Prod.mk.injEq] at hzz;exact⟨fun b off n c news w hl hn hbig hc h1=>AnyE.slices_Clone Tryz.I5 i0 _ 3 32 hi hzz.1 hzz.2.1 hzz.2.2 rfl (by decide) sizeOf272 b off n c news w hl hn hbig hc h1,fun n c w=>AnyE.slices_Clone_nil Tryz.I5 n c w⟩
theorem clS:jm 72 9 1 16:=by
 have hinfo:(prog.info? 9).map (fun i=>(i.zero,i.size,i.bytes))=some (some (.string ⟨#[]⟩),1,16):=by kernel_rfl
 obtain⟨i0,hi,hzz⟩:=Option.map_eq_some_iff.1 hinfo;simp only[Prod.mk.injEq] at hzz;exact⟨fun b off n c news w hl hn hbig hc h1=>AnyE.slices_Clone Tryz.Nl i0 _ 1 16 hi hzz.1 hzz.2.1 hzz.2.2 rfl (by decide) sizeOf9 b off n c news w hl hn hbig hc h1,fun n c w=>AnyE.slices_Clone_nil Tryz.Nl n c w⟩
section
variable{f e bytes:Nat}{α:Type}{d:Kd α}{w:World}{base:Nat}{ok:Nat->Prop}{xs:List α}
theorem jm.cells(C:jm f e d.sz bytes)(hb:base<=w.heap.size){g off n c:Nat}{news:List Value}(hx:xs.length=n)(hnews:news.length=n*d.sz)(hc:∀j u,news[j]? =some u->w.cell? ⟨g,off+j,none⟩=some u)(h1:∀u∈news,u.oneCell'=true)(hr:dN (d.M w base ok) d.sz xs news)(hl:n<=1000000)(hby:bytes<=1000):
 Calls prog f #[.slice (some ⟨g,off,none⟩) n c] w fun e' w'=>∃A' c',e'=.returned (.slice A' n c')∧Kd.R d e w' base (fun _=>True) (.slice A' n c') xs∧(∀k,(Value.slice A' n c').ownBlock=some k->w.heap.size<=k)∧Below w.heap.size w w':=by
 refine(C.at_ g off n c news w hnews (by unfold maxLen;omega) (Nat.le_trans (Nat.mul_le_mul hl hby) (by decide)) hc h1).mono ?_;rintro e' w' ⟨v',rfl,hown,_,hbl⟩;have hge:∀k,v'.ownBlock=some k->w.heap.size<=k:=kE hown;obtain⟨A',c',rfl⟩:=Bi hown;refine⟨A',c',rfl,⟨fun _ _=>trivial,news,by rw[hx];exact yQ hown hb,hr.j6 (fun p cs hp=> ?_)⟩,hge,hbl⟩;exact d.M_mono (fun k hk=>⟨trivial,fun he=>by have:=hge k he.symm;have:=hk.2.2.1;omega⟩) (d.M_move (fun k hk=>hbl.block k hk.2.2.1) (d.M_bound hp))
theorem Cm{v:Value}{n:Nat}{inner:List Value}(hr:dN (d.M w base ok) d.sz xs inner)(hn:xs.length=n)(hl:inner.length=n*d.sz):∀u∈inner,u.oneCell'=true:=by
 intro u hu;obtain⟨j,hj,rfl⟩:=List.getElem_of_mem hu;rcases Nat.eq_zero_or_pos d.sz with h0|h0
 ·rw[hl,h0] at hj;omega
 ·have hq:j/d.sz<xs.length:=by
   rw[hn];exact Nat.div_lt_of_lt_mul (by rw[Nat.mul_comm];omega)
  have hM:=hr.2 (j/d.sz) xs[j/d.sz] (List.getElem?_eq_getElem hq);have h1:=d.K_one (d.K_of_M hM);refine h1 _ ?_;refine List.mem_of_getElem? (i:=j%d.sz) ?_;have hm:j%d.sz<d.sz:=Nat.mod_lt _ h0;rw[List.getElem?_take,if_pos hm,List.getElem?_drop,show j/d.sz*d.sz+j%d.sz=j from by rw[Nat.mul_comm];exact Nat.div_add_mod j d.sz];exact List.getElem?_eq_getElem hj
theorem jm.row(C:jm f e d.sz bytes)(hb:base<=w.heap.size){A:Option Addr}{n c:Nat}(h:Kd.R d e w base ok (.slice A n c) xs)(hl:n<=1000000)(hby:bytes<=1000):
 Calls prog f #[.slice A n c] w fun e' w'=>∃A' c',e'=.returned (.slice A' n c')∧Kd.R d e w' base (fun _=>True) (.slice A' n c') xs∧(∀k,(Value.slice A' n c').ownBlock=some k->w.heap.size<=k)∧Below w.heap.size w w':=by
 obtain⟨h0,inner,hown,hr⟩:=h;rcases hown.2 with⟨hv,hx⟩|⟨g,cap,cur,hv,hg,hh,hnc,hcm,hcs,ht⟩
 ·injection hv with h1 h2 h3;subst h1 h2 h3;obtain rfl:xs= []:=List.eq_nil_of_length_eq_zero hx;refine(C.nil_ 0 0 w).mono ?_;rintro e' w' ⟨rfl,rfl⟩;exact⟨none,0,rfl,Kd.iF _ _ _ _ _,fun k hk=>by simp[Value.ownBlock] at hk,Below.refl _ _⟩
 ·injection hv with h1 h2 h3;subst h1 h2 h3;refine C.cells hb (off:=0) rfl hown.1 (fun j u hj=> ?_) (Cm (v:=.slice none 0 0) hr rfl hown.1) hr hl hby;have:=hown.cells (g:=g) rfl j u hj
  rwa [add_plain,show j=0+j by omega] at this
theorem jm.drop(C:jm f e d.sz bytes)(hb:base<=w.heap.size){A:Option Addr}{n c k:Nat}(h:Kd.R d e w base ok (.slice A n c) xs)(hk:k<=n)(hl:n<=1000000)(hby:bytes<=1000):
 Calls prog f #[.slice (if c=k then A else A.map (·.add (k*d.sz))) (n-k) (c-k)] w fun e' w'=>∃A' c',e'=.returned (.slice A' (n-k) c')∧Kd.R d e w' base (fun _=>True) (.slice A' (n-k) c') (xs.drop k)∧(∀k',(Value.slice A' (n-k) c').ownBlock=some k'->w.heap.size<=k')∧Below w.heap.size w w':=by
 obtain⟨h0,inner,hown,hr⟩:=h;rcases hown.2 with⟨hv,hx⟩|⟨g,cap,cur,hv,hg,hh,hnc,hcm,hcs,ht⟩
 ·injection hv with h1 h2 h3;subst h1 h2 h3;obtain rfl:k=0:=by omega
  obtain rfl:xs= []:=List.eq_nil_of_length_eq_zero hx;rw[if_pos rfl];refine(C.nil_ 0 0 w).mono ?_;rintro e' w' ⟨rfl,rfl⟩;exact⟨none,0,rfl,Kd.iF _ _ _ _ _,fun k hk=>by simp[Value.ownBlock] at hk,Below.refl _ _⟩
 ·injection hv with h1 h2 h3;subst h1 h2 h3;have hr2:=Kd.AV (m:=k) hr;have hln:(inner.drop (k*d.sz)).length=(xs.length-k)*d.sz:=by rw[List.length_drop,hown.1,Nat.sub_mul]
  have hcell:∀j u,(inner.drop (k*d.sz))[j]? =some u->w.cell? ⟨g,k*d.sz+j,none⟩=some u:=fun j u hj=>by
   rw[List.getElem?_drop] at hj;have:=hown.cells (g:=g) rfl _ u hj
   rwa [add_plain] at this
  have hone:=Cm (v:=.slice none 0 0) hr2 (List.length_drop) hln;by_cases hck:c=k
  ·rw[if_pos hck];have hz:xs.length-k=0:=by omega
   have e0:inner.drop (k*d.sz)= []:=List.eq_nil_of_length_eq_zero (by rw[hln,hz,Nat.zero_mul]);refine C.cells hb (off:=0) (news:=inner.drop (k*d.sz)) List.length_drop hln (fun j u hj=> ?_) hone hr2 (by omega) hby;rw[e0] at hj;cases hj
  ·rw[if_neg hck];show Calls _ _ #[.slice (some ((⟨g,0,none⟩:Addr).add (k*d.sz))) _ _] _ _;rw[add_plain];exact C.cells hb List.length_drop hln hcell hone hr2 (by omega) hby
theorem uX{w:World}{b b':Nat}{e:TypeId}{size n:Nat}{v:Value}{xs:List Value}(h:w.ownsRow b e size v n xs)(hk:∀k,v.ownBlock=some k->b'<=k):w.ownsRow b' e size v n xs:=by
 obtain⟨h1,h2⟩:=h;refine⟨h1, ?_⟩;rcases h2 with h2|⟨g,cap,cur,rfl,hg,r⟩
 ·exact .inl h2
 ·exact .inr ⟨g,cap,cur,rfl,hk g rfl,r⟩
theorem Ct{w:World}{b b':Nat}{ok:Nat->Prop}{v:Value}{xs:List α}{e:Nat}(h:Kd.R d e w b ok v xs)(hM:∀x cs,d.M w b (fun k=>ok k∧some k≠v.ownBlock) x cs->d.M w b' (fun k=>ok k∧some k≠v.ownBlock) x cs)(hk:∀k,v.ownBlock=some k->b'<=k):Kd.R d e w b' ok v xs:=by
 obtain⟨h0,inner,ho,hr⟩:=h;exact⟨h0,inner,uX ho hk,hr.j6 hM⟩
end
theorem MJ{w:World}{b b':Nat}{ok:Nat->Prop}{v:Value}{xs:List SA}(h:Kd.R Pp tA w b ok v xs)(hk:∀k,v.ownBlock=some k->b'<=k):Kd.R Pp tA w b' ok v xs:=
 Ct h (fun x cs hm=>by
  obtain rfl:=J2 hm;exact Di _ _ _ x) hk
theorem Ol{w:World}{b b':Nat}{ok:Nat->Prop}{v:Value}{xs:List SV}(h:Kd.R pI tV w b ok v xs)(hk:∀k,v.ownBlock=some k->b'<=k):Kd.R pI tV w b' ok v xs:=
 Ct h (fun x cs hm=>by
  obtain rfl:=Lj hm;exact CO _ _ _ x) hk
open Go.Lib
def De(r:Nat):Bool:=(decide (r<97)||decide (122<r))&&(decide (r<48)||decide (57<r))
theorem IU(bad:Nat->Bool)(ok:UInt8->Bool)(h1:∀c:UInt8,c.toNat<128->bad c.toNat= !(ok c))(h2:∀r,128<=r->bad r=true)(h3:∀c:UInt8,128<=c.toNat->ok c=false)(s:ByteArray):∀(f i:Nat),s.size-i<=f->i<=s.size->(decide (0<=idxFuncFrom bad true s f i)= !((s.data.toList.drop i).all ok))
 |0,i,hf,hi=>by
  have:i=s.size:=by omega
  have hd:s.data.toList.drop i= []:=List.drop_eq_nil_iff.2 (by rw[Array.length_toList];exact Nat.le_of_eq this.symm);rw[hd];rfl
 |f+1,i,hf,hi=>by
  by_cases hlt:i<s.size
  ·have hd:s.data.toList.drop i=(s[i]'hlt)::s.data.toList.drop (i+1):=by
    rw[List.drop_eq_getElem_cons (by rw[Array.length_toList];exact hlt)];rfl
   rw[hd,List.all_cons];unfold idxFuncFrom;rw[if_pos hlt];by_cases ha:(s[i]'hlt).toNat<128
   ·rw[decode_ascii s i hlt ha];have hc:=h1 _ ha;simp only[hc];cases hx:ok (s[i]'hlt) with
    |false=>simp
    |true=>
     simp only[Bool.not_true,Bool.true_and];rw[if_neg (by simp)];exact IU bad ok h1 h2 h3 s f (i+1) (by omega) (by omega)
   ·have hd:=Bh s i hlt (by omega);rw[if_pos (h2 _ hd),h3 _ (by omega)];simp
  ·have:i=s.size:=by omega
   have hd:s.data.toList.drop i= []:=List.drop_eq_nil_iff.2 (by rw[Array.length_toList];exact Nat.le_of_eq this.symm);rw[hd,idxFuncFrom_end _ _ _ _ _ hlt];rfl
theorem JS(w:World):PredAt prog 141 #[] encR De w:=fun W r _=>by
 unfold FnGives;by_cases h1:r<97<;>by_cases h2:122<r<;>by_cases h3:r<48<;>by_cases h4:57<r
 all_goals
  have z1:(r:Int)<97↔r<97:=by omega
  have z2:(122:Int)<(r:Int)↔122<r:=by omega
  have z3:(r:Int)<48↔r<48:=by omega
  have z4:(57:Int)<(r:Int)↔57<r:=by omega
  go_enter func141,ntmps141
  go_wp2
  all_goals first|(exfalso;omega)|(go_ret;exact⟨by simp[De,h1,h2,h3,h4],0,rfl⟩)
def eQ(s:ByteArray):Bool:= !(s.toList== [])&&(decide (s.size<=12)&&(wO (s.data.toList.headD 0)&&(!(s.toList== [105,110])&&(!(s.toList== [97,110,100])&&s.data.toList.all pX))))
theorem Jq(c:UInt8):pX c= !De c.toNat:=by
 unfold pX wO jF De;simp only[UInt8.le_iff_toNat_le];have e1:(97:UInt8).toNat=97:=rfl;have e2:(122:UInt8).toNat=122:=rfl;have e3:(48:UInt8).toNat=48:=rfl;have e4:(57:UInt8).toNat=57:=rfl;rw[e1,e2,e3,e4,Bool.eq_iff_iff];simp only[Bool.or_eq_true,Bool.and_eq_true,decide_eq_true_eq,Bool.not_eq_true',Bool.and_eq_false_iff,Bool.or_eq_false_iff,decide_eq_false_iff_not];omega
theorem F9(s:ByteArray)(w:World):Calls prog 80 #[.string s] w fun e w'=>e=.returned (.bool (eQ s))∧Below w.heap.size w w':=by
 have hC:=fun W=>Tryz.strings_ContainsFunc 141 #[] (enters_of func141 (by kernel_rfl) rfl) De s W (JS W)
 have hX:decide (0<=Lib.idxFunc De true s)= !(s.data.toList.all pX):=IU De pX (fun c _=>by rw[Jq];simp) (fun r hr=>by simp only[De,Bool.and_eq_true,Bool.or_eq_true,decide_eq_true_eq];omega) (fun c hc=>by rw[Jq];simp only[De,Bool.not_eq_false',Bool.and_eq_true,Bool.or_eq_true,decide_eq_true_eq];omega) s s.size 0 (by omega) (by omega);have HX:=ai hX;have HC:=ai hC;clear hX hC;cases q1:(s.toList== []) with
 |true=>
  have HV:=ai (show eQ s=false by unfold eQ;rw[q1];rfl);generalize eQ s=z at HV|-;go_enter func80,ntmps80
  go_wp2;go_ret;exact⟨by rw[HV.o];rfl,Below.refl _ _⟩
 |false=>
  have hpos:0<s.size:=by
   rcases Nat.eq_zero_or_pos s.size with h0|h0
   ·have:s.toList= []:=by
     have e:s=ByteArray.empty:=by
      cases s with
      |mk d=>
       have h5:d.size=0:=h0;have:d= #[]:=Array.eq_empty_of_size_eq_zero h5;rw[this];rfl
     rw[e,btl];rfl
    rw[this] at q1;cases q1
   ·exact h0
  by_cases h12:s.size<=12
  ·have q2:decide ((12:Int)<(s.size:Int))=false:=decide_eq_false (by omega);have V9:decide (12<s.size)=false:=decide_eq_false (by omega);obtain⟨c,hc⟩:∃c,s[0]'hpos=c:=⟨_,rfl⟩
   have hhd:s.data.toList.headD 0=c:=by
    have h0:0<s.data.toList.length:=by rw[Array.length_toList];exact hpos
    have:s.data.toList=s.data.toList[0]::s.data.toList.drop 1:=by
     have:=List.drop_eq_getElem_cons h0
     rwa [List.drop_zero] at this
    rw[this];exact hc
   have hx:∀h:0<s.size,s[0]'h=c:=fun _=>hc
   have p1:(0:Int)<(s.size:Int):=by omega
   have HV:=ai (show eQ s=(wO c&&(!(s.toList== [105,110])&&(!(s.toList== [97,110,100])&&s.data.toList.all pX))) by unfold eQ;rw[q1,decide_eq_true h12,hhd];rfl);generalize eQ s=z at HV|-;clear hc hhd;have hL:wO c=(!decide ((c.toNat:Int)<97)&& !decide (122<(c.toNat:Int))):=by
    unfold wO;rw[Bool.eq_iff_iff];simp only[decide_eq_true_eq,Bool.and_eq_true,Bool.not_eq_true',decide_eq_false_iff_not,UInt8.le_iff_toNat_le];have e1:(97:UInt8).toNat=97:=rfl;have e2:(122:UInt8).toNat=122:=rfl;rw[e1,e2];omega
   by_cases g0:(c.toNat:Int)<97
   ·have g1:=decide_eq_true g0;have HZ:=ai (show z=false by rw[HV.o,hL,g1];rfl);clear hL g0;go_enter func80,ntmps80
    go_wp2;go_ret;exact⟨by rw[HZ.o];rfl,Below.refl _ _⟩
   ·have g1:=decide_eq_false g0;by_cases g2:122<(c.toNat:Int)
    ·have g3:=decide_eq_true g2;have HZ:=ai (show z=false by rw[HV.o,hL,g1,g3];rfl);clear hL g0 g2;go_enter func80,ntmps80
     go_wp2;go_ret;exact⟨by rw[HZ.o];rfl,Below.refl _ _⟩
    ·have g3:=decide_eq_false g2;cases q3:(s.toList== [105,110]) with
     |true=>
      have HZ:=ai (show z=false by rw[HV.o,hL,g1,g3,q3];rfl);clear hL g0 g2;go_enter func80,ntmps80
      go_wp2;go_ret;exact⟨by rw[HZ.o];rfl,Below.refl _ _⟩
     |false=>
      cases q4:(s.toList== [97,110,100]) with
      |true=>
       have HZ:=ai (show z=false by rw[HV.o,hL,g1,g3,q3,q4];rfl);clear hL g0 g2;go_enter func80,ntmps80
       go_wp2;go_ret;exact⟨by rw[HZ.o];rfl,Below.refl _ _⟩
      |false=>
       have HZ:=ai (show z=s.data.toList.all pX by rw[HV.o,hL,g1,g3,q3,q4];rfl);clear hL g0 g2;go_enter func80,ntmps80
       go_wp2_with fail
       refine(HC.o _).mono ?_;rintro e w1 ⟨rfl,hb⟩;rw[HX.o];go_wp2;go_ret;exact⟨by rw[HZ.o];simp,hb⟩
  ·have q2:decide ((12:Int)<(s.size:Int))=true:=decide_eq_true (by omega);have V9:decide (12<s.size)=true:=decide_eq_true (by omega);have HV:=ai (show eQ s=false by unfold eQ;rw[q1,decide_eq_false h12];rfl);generalize eQ s=z at HV|-;go_enter func80,ntmps80
   go_wp2;go_ret;exact⟨by rw[HV.o];rfl,Below.refl _ _⟩
end Go.Proofs.YtnmpijbcajclgaaGreatDoor.Mine
end
