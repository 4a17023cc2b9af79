/- Texts of one claim, one behind the other, made short by a program. -/
import Derived.Test.YtnmpijbcajclgaaGreatDoorMA2
import Derived.Test.YtnmpijbcajclgaaGreatDoorProg
set_option maxHeartbeats 8000000
set_option linter.unusedSimpArgs false
set_option linter.unusedVariables false
set_option maxRecDepth 100000
section
namespace Go.Proofs.YtnmpijbcajclgaaGreatDoor.PNodeAlone
open Go.RowKit Go.Proofs.YtnmpijbcajclgaaGreatDoorW.PrintWords Go.Proofs.YtnmpijbcajclgaaGreatDoorW.PrintLast Go.Proofs.YtnmpijbcajclgaaGreatDoorW.PrintMore
attribute [local go_sem] nQ nU qM o7 oz oC ql qa
def XA:Option Int->Value
 |none=>.nilIface
 |some c=>.iface 49 (.int .i64 c)
theorem bO:XA none=.nilIface:=rfl
theorem bP(c:Int):XA (some c)=.iface 49 (.int .i64 c):=rfl
theorem info5:(Tryz.prog.info? 5).map (fun i=>(i.zero,i.size,i.bytes))=some (some (.int .u8 0),1,1):=by kernel_rfl
theorem Tc:(Tryz.prog.info? 30).map (fun i=>(i.zero,i.size,i.bytes))=some (some (.agg #[(.string ⟨#[]⟩),(.int .i64 0),(.int .i64 0),(.int .i64 0)]),4,40):=by kernel_rfl
theorem TJ:(Tryz.prog.info? 37).map (fun i=>(i.zero,i.size,i.bytes))=some (some (.agg #[(.int .i64 0),(.string ⟨#[]⟩)]),2,24):=by kernel_rfl
theorem Qx:(Tryz.prog.info? 155).map (fun i=>(i.zero,i.size,i.bytes))=some (some (.agg #[(.string ⟨#[]⟩),(.int .i64 0),(.int .i64 0),(.int .i64 0)]),4,40):=by kernel_rfl
theorem QX:(Tryz.prog.info? 163).map (fun i=>(i.zero,i.size,i.bytes))=some (some (.agg #[(.int .i64 0),(.string ⟨#[]⟩)]),2,24):=by kernel_rfl
theorem Jy:(Tryz.prog.info? 231).map (fun i=>(i.zero,i.size,i.bytes))=some (some (.agg #[(.string ⟨#[]⟩),(.int .i64 0),(.int .i64 0),(.int .i64 0),(.string ⟨#[]⟩)]),5,56):=by kernel_rfl
structure jl where
 f0:Int
 f1:Int
def z194:jl:=⟨(0:Int),(0:Int)⟩
def MC:Kd jl:=Kd.GV (Kd.pair (Kd.int .i64) (Kd.int .i64)) (fun x:jl=>(x.f0,x.f1))
theorem KX{w:World}{x:jl}{cs:List Value}(h:MC.K w x cs):cs= [.int .i64 x.f0,.int .i64 x.f1]:=by
 obtain⟨_,_,rfl,rfl,rfl⟩:=h;exact rfl
theorem tu(w:World)(base:Nat)(ok:Nat->Prop)(x:jl):MC.M w base ok x [.int .i64 x.f0,.int .i64 x.f1]:=⟨[.int .i64 x.f0],[.int .i64 x.f1],rfl,rfl,rfl⟩
def xu(xs:List jl)(i:Int):jl:=xs.getD i.toNat z194
theorem Ja{w:World}{A:Option Addr}{n:Nat}{xs:List jl}(h:Kd.C MC w A n xs)(i:Int)(h0:0<=i)(h1:i<n):∃ad,A=some ad∧w.cell? (ad.add (i.toNat*2))=some (.int .i64 (xu xs i).f0)∧w.cell? ⟨(ad.add (i.toNat*2)).block,(ad.add (i.toNat*2)).off+1,none⟩=some (.int .i64 (xu xs i).f1):=by
 obtain⟨ad,c,e,_,hK,hc0⟩:=Kd.wP h z194 i h0 h1;have hc:∀j u,c[j]? =some u->w.cell? (ad.add (i.toNat*2+j))=some u:=hc0;obtain rfl:=KX hK;exact⟨ad,e,hc 0 _ rfl,by rw[<-bC _ _ 1 (by omega)];exact hc 1 _ rfl⟩
structure iI where
 f0:ByteArray
 f1:Int
 f2:Int
 f3:Int
 f4:ByteArray
def z168:iI:=⟨(⟨#[]⟩:ByteArray),(0:Int),(0:Int),(0:Int),(⟨#[]⟩:ByteArray)⟩
def pG:Kd iI:=Kd.GV (Kd.pair Kd.string (Kd.pair (Kd.int .i64) (Kd.pair (Kd.int .i64) (Kd.pair (Kd.int .i64) Kd.string)))) (fun x:iI=>(x.f0,x.f1,x.f2,x.f3,x.f4))
theorem K8{w:World}{x:iI}{cs:List Value}(h:pG.K w x cs):cs= [.string x.f0,.int .i64 x.f1,.int .i64 x.f2,.int .i64 x.f3,.string x.f4]:=by
 obtain⟨_,_,rfl,rfl,⟨_,_,rfl,rfl,⟨_,_,rfl,rfl,⟨_,_,rfl,rfl,rfl⟩⟩⟩⟩:=h;exact rfl
theorem Nq(w:World)(base:Nat)(ok:Nat->Prop)(x:iI):pG.M w base ok x [.string x.f0,.int .i64 x.f1,.int .i64 x.f2,.int .i64 x.f3,.string x.f4]:=⟨[.string x.f0],[.int .i64 x.f1,.int .i64 x.f2,.int .i64 x.f3,.string x.f4],rfl,rfl,⟨[.int .i64 x.f1],[.int .i64 x.f2,.int .i64 x.f3,.string x.f4],rfl,rfl,⟨[.int .i64 x.f2],[.int .i64 x.f3,.string x.f4],rfl,rfl,⟨[.int .i64 x.f3],[.string x.f4],rfl,rfl,rfl⟩⟩⟩⟩
def kZ(xs:List iI)(i:Int):iI:=xs.getD i.toNat z168
theorem tL{w:World}{A:Option Addr}{n:Nat}{xs:List iI}(h:Kd.C pG w A n xs)(i:Int)(h0:0<=i)(h1:i<n):∃ad,A=some ad∧w.cell? (ad.add (i.toNat*5))=some (.string (kZ xs i).f0)∧w.cell? ⟨(ad.add (i.toNat*5)).block,(ad.add (i.toNat*5)).off+1,none⟩=some (.int .i64 (kZ xs i).f1)∧w.cell? ⟨(ad.add (i.toNat*5)).block,(ad.add (i.toNat*5)).off+2,none⟩=some (.int .i64 (kZ xs i).f2)∧w.cell? ⟨(ad.add (i.toNat*5)).block,(ad.add (i.toNat*5)).off+3,none⟩=some (.int .i64 (kZ xs i).f3)∧w.cell? ⟨(ad.add (i.toNat*5)).block,(ad.add (i.toNat*5)).off+4,none⟩=some (.string (kZ xs i).f4):=by
 obtain⟨ad,c,e,_,hK,hc0⟩:=Kd.wP h z168 i h0 h1;have hc:∀j u,c[j]? =some u->w.cell? (ad.add (i.toNat*5+j))=some u:=hc0;obtain rfl:=K8 hK;exact⟨ad,e,hc 0 _ rfl,by rw[<-bC _ _ 1 (by omega)];exact hc 1 _ rfl,by rw[<-bC _ _ 2 (by omega)];exact hc 2 _ rfl,by rw[<-bC _ _ 3 (by omega)];exact hc 3 _ rfl,by rw[<-bC _ _ 4 (by omega)];exact hc 4 _ rfl⟩
structure aeq where
 f0:ByteArray
 f1:Int
 f2:(List ByteArray)
 f3:Bool
 f4:Int
structure rq where
 f0:ByteArray
 f1:Int
 f2:Int
def Vr:rq:=⟨(⟨#[]⟩:ByteArray),(0:Int),(0:Int)⟩
def Ic:Kd rq:=Kd.GV (Kd.pair Kd.string (Kd.pair (Kd.int .i64) (Kd.int .i64))) (fun x:rq=>(x.f0,x.f1,x.f2))
theorem JR{w:World}{x:rq}{cs:List Value}(h:Ic.K w x cs):cs= [.string x.f0,.int .i64 x.f1,.int .i64 x.f2]:=by
 obtain⟨_,_,rfl,rfl,⟨_,_,rfl,rfl,rfl⟩⟩:=h;exact rfl
theorem IA(w:World)(x:rq):Ic.K w x [.string x.f0,.int .i64 x.f1,.int .i64 x.f2]:=⟨[.string x.f0],[.int .i64 x.f1,.int .i64 x.f2],rfl,rfl,⟨[.int .i64 x.f1],[.int .i64 x.f2],rfl,rfl,rfl⟩⟩
def dG(xs:List rq)(i:Int):rq:=xs.getD i.toNat Vr
theorem Js{w:World}{A:Option Addr}{n:Nat}{xs:List rq}(h:Kd.C Ic w A n xs)(i:Int)(h0:0<=i)(h1:i<n):∃ad,A=some ad∧w.cell? (ad.add (i.toNat*3))=some (.string (dG xs i).f0)∧w.cell? ⟨(ad.add (i.toNat*3)).block,(ad.add (i.toNat*3)).off+1,none⟩=some (.int .i64 (dG xs i).f1)∧w.cell? ⟨(ad.add (i.toNat*3)).block,(ad.add (i.toNat*3)).off+2,none⟩=some (.int .i64 (dG xs i).f2):=by
 obtain⟨ad,c,e,_,hK,hc0⟩:=Kd.wP h Vr i h0 h1;have hc:∀j u,c[j]? =some u->w.cell? (ad.add (i.toNat*3+j))=some u:=hc0;obtain rfl:=JR hK;exact⟨ad,e,hc 0 _ rfl,by rw[<-bC _ _ 1 (by omega)];exact hc 1 _ rfl,by rw[<-bC _ _ 2 (by omega)];exact hc 2 _ rfl⟩
structure LJ where
 f0:Int
 f1:ByteArray
def z37:LJ:=⟨(0:Int),(⟨#[]⟩:ByteArray)⟩
def Ci:Kd LJ:=Kd.GV (Kd.pair (Kd.int .i64) Kd.string) (fun x:LJ=>(x.f0,x.f1))
theorem Dw{w:World}{x:LJ}{cs:List Value}(h:Ci.K w x cs):cs= [.int .i64 x.f0,.string x.f1]:=by
 obtain⟨_,_,rfl,rfl,rfl⟩:=h;exact rfl
theorem Lj{w:World}{base:Nat}{ok:Nat->Prop}{x:LJ}{cs:List Value}(h:Ci.M w base ok x cs):cs= [.int .i64 x.f0,.string x.f1]:=by
 obtain⟨_,_,rfl,rfl,rfl⟩:=h;exact rfl
theorem R6(w:World)(x:LJ):Ci.K w x [.int .i64 x.f0,.string x.f1]:=⟨[.int .i64 x.f0],[.string x.f1],rfl,rfl,rfl⟩
theorem CO(w:World)(base:Nat)(ok:Nat->Prop)(x:LJ):Ci.M w base ok x [.int .i64 x.f0,.string x.f1]:=⟨[.int .i64 x.f0],[.string x.f1],rfl,rfl,rfl⟩
def uJ(xs:List LJ)(i:Int):LJ:=xs.getD i.toNat z37
theorem C9{w:World}{A:Option Addr}{n:Nat}{xs:List LJ}(h:Kd.C Ci w A n xs)(i:Int)(h0:0<=i)(h1:i<n):∃ad,A=some ad∧w.cell? (ad.add (i.toNat*2))=some (.int .i64 (uJ xs i).f0)∧w.cell? ⟨(ad.add (i.toNat*2)).block,(ad.add (i.toNat*2)).off+1,none⟩=some (.string (uJ xs i).f1):=by
 obtain⟨ad,c,e,_,hK,hc0⟩:=Kd.wP h z37 i h0 h1;have hc:∀j u,c[j]? =some u->w.cell? (ad.add (i.toNat*2+j))=some u:=hc0;obtain rfl:=Dw hK;exact⟨ad,e,hc 0 _ rfl,by rw[<-bC _ _ 1 (by omega)];exact hc 1 _ rfl⟩
structure iZ where
 f0:ByteArray
 f1:Int
 f2:Int
 f3:Int
def z30:iZ:=⟨(⟨#[]⟩:ByteArray),(0:Int),(0:Int),(0:Int)⟩
def uM:Kd iZ:=Kd.GV (Kd.pair Kd.string (Kd.pair (Kd.int .i64) (Kd.pair (Kd.int .i64) (Kd.int .i64)))) (fun x:iZ=>(x.f0,x.f1,x.f2,x.f3))
theorem N7{w:World}{x:iZ}{cs:List Value}(h:uM.K w x cs):cs= [.string x.f0,.int .i64 x.f1,.int .i64 x.f2,.int .i64 x.f3]:=by
 obtain⟨_,_,rfl,rfl,⟨_,_,rfl,rfl,⟨_,_,rfl,rfl,rfl⟩⟩⟩:=h;exact rfl
theorem J2{w:World}{base:Nat}{ok:Nat->Prop}{x:iZ}{cs:List Value}(h:uM.M w base ok x cs):cs= [.string x.f0,.int .i64 x.f1,.int .i64 x.f2,.int .i64 x.f3]:=by
 obtain⟨_,_,rfl,rfl,⟨_,_,rfl,rfl,⟨_,_,rfl,rfl,rfl⟩⟩⟩:=h;exact rfl
theorem Tg(w:World)(x:iZ):uM.K w x [.string x.f0,.int .i64 x.f1,.int .i64 x.f2,.int .i64 x.f3]:=⟨[.string x.f0],[.int .i64 x.f1,.int .i64 x.f2,.int .i64 x.f3],rfl,rfl,⟨[.int .i64 x.f1],[.int .i64 x.f2,.int .i64 x.f3],rfl,rfl,⟨[.int .i64 x.f2],[.int .i64 x.f3],rfl,rfl,rfl⟩⟩⟩
theorem Di(w:World)(base:Nat)(ok:Nat->Prop)(x:iZ):uM.M w base ok x [.string x.f0,.int .i64 x.f1,.int .i64 x.f2,.int .i64 x.f3]:=⟨[.string x.f0],[.int .i64 x.f1,.int .i64 x.f2,.int .i64 x.f3],rfl,rfl,⟨[.int .i64 x.f1],[.int .i64 x.f2,.int .i64 x.f3],rfl,rfl,⟨[.int .i64 x.f2],[.int .i64 x.f3],rfl,rfl,rfl⟩⟩⟩
def lS(xs:List iZ)(i:Int):iZ:=xs.getD i.toNat z30
theorem qB{w:World}{A:Option Addr}{n:Nat}{xs:List iZ}(h:Kd.C uM w A n xs)(i:Int)(h0:0<=i)(h1:i<n):∃ad,A=some ad∧w.cell? (ad.add (i.toNat*4))=some (.string (lS xs i).f0)∧w.cell? ⟨(ad.add (i.toNat*4)).block,(ad.add (i.toNat*4)).off+1,none⟩=some (.int .i64 (lS xs i).f1)∧w.cell? ⟨(ad.add (i.toNat*4)).block,(ad.add (i.toNat*4)).off+2,none⟩=some (.int .i64 (lS xs i).f2)∧w.cell? ⟨(ad.add (i.toNat*4)).block,(ad.add (i.toNat*4)).off+3,none⟩=some (.int .i64 (lS xs i).f3):=by
 obtain⟨ad,c,e,_,hK,hc0⟩:=Kd.wP h z30 i h0 h1;have hc:∀j u,c[j]? =some u->w.cell? (ad.add (i.toNat*4+j))=some u:=hc0;obtain rfl:=N7 hK;exact⟨ad,e,hc 0 _ rfl,by rw[<-bC _ _ 1 (by omega)];exact hc 1 _ rfl,by rw[<-bC _ _ 2 (by omega)];exact hc 2 _ rfl,by rw[<-bC _ _ 3 (by omega)];exact hc 3 _ rfl⟩
structure qE where
 f0:ByteArray
 f1:Int
 f2:Int
 f3:Int
def JP:qE:=⟨(⟨#[]⟩:ByteArray),(0:Int),(0:Int),(0:Int)⟩
def ui:Kd qE:=Kd.GV (Kd.pair Kd.string (Kd.pair (Kd.int .i64) (Kd.pair (Kd.int .i64) (Kd.int .i64)))) (fun x:qE=>(x.f0,x.f1,x.f2,x.f3))
theorem KY{w:World}{x:qE}{cs:List Value}(h:ui.K w x cs):cs= [.string x.f0,.int .i64 x.f1,.int .i64 x.f2,.int .i64 x.f3]:=by
 obtain⟨_,_,rfl,rfl,⟨_,_,rfl,rfl,⟨_,_,rfl,rfl,rfl⟩⟩⟩:=h;exact rfl
theorem Nc(w:World)(base:Nat)(ok:Nat->Prop)(x:qE):ui.M w base ok x [.string x.f0,.int .i64 x.f1,.int .i64 x.f2,.int .i64 x.f3]:=⟨[.string x.f0],[.int .i64 x.f1,.int .i64 x.f2,.int .i64 x.f3],rfl,rfl,⟨[.int .i64 x.f1],[.int .i64 x.f2,.int .i64 x.f3],rfl,rfl,⟨[.int .i64 x.f2],[.int .i64 x.f3],rfl,rfl,rfl⟩⟩⟩
def lZ(xs:List qE)(i:Int):qE:=xs.getD i.toNat JP
theorem sM{w:World}{A:Option Addr}{n:Nat}{xs:List qE}(h:Kd.C ui w A n xs)(i:Int)(h0:0<=i)(h1:i<n):∃ad,A=some ad∧w.cell? (ad.add (i.toNat*4))=some (.string (lZ xs i).f0)∧w.cell? ⟨(ad.add (i.toNat*4)).block,(ad.add (i.toNat*4)).off+1,none⟩=some (.int .i64 (lZ xs i).f1)∧w.cell? ⟨(ad.add (i.toNat*4)).block,(ad.add (i.toNat*4)).off+2,none⟩=some (.int .i64 (lZ xs i).f2)∧w.cell? ⟨(ad.add (i.toNat*4)).block,(ad.add (i.toNat*4)).off+3,none⟩=some (.int .i64 (lZ xs i).f3):=by
 obtain⟨ad,c,e,_,hK,hc0⟩:=Kd.wP h JP i h0 h1;have hc:∀j u,c[j]? =some u->w.cell? (ad.add (i.toNat*4+j))=some u:=hc0;obtain rfl:=KY hK;exact⟨ad,e,hc 0 _ rfl,by rw[<-bC _ _ 1 (by omega)];exact hc 1 _ rfl,by rw[<-bC _ _ 2 (by omega)];exact hc 2 _ rfl,by rw[<-bC _ _ 3 (by omega)];exact hc 3 _ rfl⟩
structure zJ where
 f0:ByteArray
 f1:Int
 f2:Int
 f3:Int
 f4:ByteArray
def SS:zJ:=⟨(⟨#[]⟩:ByteArray),(0:Int),(0:Int),(0:Int),(⟨#[]⟩:ByteArray)⟩
def vI:Kd zJ:=Kd.GV (Kd.pair Kd.string (Kd.pair (Kd.int .i64) (Kd.pair (Kd.int .i64) (Kd.pair (Kd.int .i64) Kd.string)))) (fun x:zJ=>(x.f0,x.f1,x.f2,x.f3,x.f4))
theorem Li{w:World}{x:zJ}{cs:List Value}(h:vI.K w x cs):cs= [.string x.f0,.int .i64 x.f1,.int .i64 x.f2,.int .i64 x.f3,.string x.f4]:=by
 obtain⟨_,_,rfl,rfl,⟨_,_,rfl,rfl,⟨_,_,rfl,rfl,⟨_,_,rfl,rfl,rfl⟩⟩⟩⟩:=h;exact rfl
theorem EP(w:World)(base:Nat)(ok:Nat->Prop)(x:zJ):vI.M w base ok x [.string x.f0,.int .i64 x.f1,.int .i64 x.f2,.int .i64 x.f3,.string x.f4]:=⟨[.string x.f0],[.int .i64 x.f1,.int .i64 x.f2,.int .i64 x.f3,.string x.f4],rfl,rfl,⟨[.int .i64 x.f1],[.int .i64 x.f2,.int .i64 x.f3,.string x.f4],rfl,rfl,⟨[.int .i64 x.f2],[.int .i64 x.f3,.string x.f4],rfl,rfl,⟨[.int .i64 x.f3],[.string x.f4],rfl,rfl,rfl⟩⟩⟩⟩
def nG(xs:List zJ)(i:Int):zJ:=xs.getD i.toNat SS
theorem Cn{w:World}{A:Option Addr}{n:Nat}{xs:List zJ}(h:Kd.C vI w A n xs)(i:Int)(h0:0<=i)(h1:i<n):∃ad,A=some ad∧w.cell? (ad.add (i.toNat*5))=some (.string (nG xs i).f0)∧w.cell? ⟨(ad.add (i.toNat*5)).block,(ad.add (i.toNat*5)).off+1,none⟩=some (.int .i64 (nG xs i).f1)∧w.cell? ⟨(ad.add (i.toNat*5)).block,(ad.add (i.toNat*5)).off+2,none⟩=some (.int .i64 (nG xs i).f2)∧w.cell? ⟨(ad.add (i.toNat*5)).block,(ad.add (i.toNat*5)).off+3,none⟩=some (.int .i64 (nG xs i).f3)∧w.cell? ⟨(ad.add (i.toNat*5)).block,(ad.add (i.toNat*5)).off+4,none⟩=some (.string (nG xs i).f4):=by
 obtain⟨ad,c,e,_,hK,hc0⟩:=Kd.wP h SS i h0 h1;have hc:∀j u,c[j]? =some u->w.cell? (ad.add (i.toNat*5+j))=some u:=hc0;obtain rfl:=Li hK;exact⟨ad,e,hc 0 _ rfl,by rw[<-bC _ _ 1 (by omega)];exact hc 1 _ rfl,by rw[<-bC _ _ 2 (by omega)];exact hc 2 _ rfl,by rw[<-bC _ _ 3 (by omega)];exact hc 3 _ rfl,by rw[<-bC _ _ 4 (by omega)];exact hc 4 _ rfl⟩
structure yw where
 f0:Int
 f1:(List zJ)
def Sl:Kd yw:=Kd.GV (Kd.pair (Kd.int .i64) (Kd.slice 231 vI)) (fun x:yw=>(x.f0,x.f1))
theorem su{w:World}{base:Nat}{ok:Nat->Prop}{x:yw}{cs:List Value}(h:Sl.M w base ok x cs):∃v1,cs= [.int .i64 x.f0,v1]∧vI.R 231 w base ok v1 x.f1:=by
 obtain⟨_,_,rfl,rfl,⟨v1,rfl,g1⟩⟩:=h;exact⟨v1,rfl,g1⟩
theorem yg(w:World)(base:Nat)(ok:Nat->Prop)(x:yw){v1:Value}(g1:vI.R 231 w base ok v1 x.f1):Sl.M w base ok x [.int .i64 x.f0,v1]:=⟨[.int .i64 x.f0],[v1],rfl,rfl,⟨v1,rfl,g1⟩⟩
structure Ai where
 f0:Int
 f1:ByteArray
def TT:Ai:=⟨(0:Int),(⟨#[]⟩:ByteArray)⟩
def qC:Kd Ai:=Kd.GV (Kd.pair (Kd.int .i64) Kd.string) (fun x:Ai=>(x.f0,x.f1))
theorem BA{w:World}{x:Ai}{cs:List Value}(h:qC.K w x cs):cs= [.int .i64 x.f0,.string x.f1]:=by
 obtain⟨_,_,rfl,rfl,rfl⟩:=h;exact rfl
theorem NC(w:World)(base:Nat)(ok:Nat->Prop)(x:Ai):qC.M w base ok x [.int .i64 x.f0,.string x.f1]:=⟨[.int .i64 x.f0],[.string x.f1],rfl,rfl,rfl⟩
def xK(xs:List Ai)(i:Int):Ai:=xs.getD i.toNat TT
theorem IP{w:World}{A:Option Addr}{n:Nat}{xs:List Ai}(h:Kd.C qC w A n xs)(i:Int)(h0:0<=i)(h1:i<n):∃ad,A=some ad∧w.cell? (ad.add (i.toNat*2))=some (.int .i64 (xK xs i).f0)∧w.cell? ⟨(ad.add (i.toNat*2)).block,(ad.add (i.toNat*2)).off+1,none⟩=some (.string (xK xs i).f1):=by
 obtain⟨ad,c,e,_,hK,hc0⟩:=Kd.wP h TT i h0 h1;have hc:∀j u,c[j]? =some u->w.cell? (ad.add (i.toNat*2+j))=some u:=hc0;obtain rfl:=BA hK;exact⟨ad,e,hc 0 _ rfl,by rw[<-bC _ _ 1 (by omega)];exact hc 1 _ rfl⟩
structure NJ where
 f0:Int
 f1:(List Ai)
 f2:ByteArray
def U4:Kd NJ:=Kd.GV (Kd.pair (Kd.int .i64) (Kd.pair (Kd.slice 163 qC) Kd.string)) (fun x:NJ=>(x.f0,x.f1,x.f2))
theorem Mh{w:World}{x:NJ}{cs:List Value}(h:U4.K w x cs):∃A1 c1,cs= [.int .i64 x.f0,.slice A1 x.f1.length c1,.string x.f2]∧x.f1.length<=c1∧qC.C w A1 x.f1.length x.f1:=by
 obtain⟨_,_,rfl,rfl,⟨_,_,rfl,⟨A1,c1,rfl,l1,g1⟩,rfl⟩⟩:=h;exact⟨A1,c1,rfl,l1,g1⟩
theorem AB{w:World}{base:Nat}{ok:Nat->Prop}{x:NJ}{cs:List Value}(h:U4.M w base ok x cs):∃v1,cs= [.int .i64 x.f0,v1,.string x.f2]∧qC.R 163 w base ok v1 x.f1:=by
 obtain⟨_,_,rfl,rfl,⟨_,_,rfl,⟨v1,rfl,g1⟩,rfl⟩⟩:=h;exact⟨v1,rfl,g1⟩
theorem Ji(w:World)(base:Nat)(ok:Nat->Prop)(x:NJ){v1:Value}(g1:qC.R 163 w base ok v1 x.f1):U4.M w base ok x [.int .i64 x.f0,v1,.string x.f2]:=⟨[.int .i64 x.f0],[v1,.string x.f2],rfl,rfl,⟨[v1],[.string x.f2],rfl,⟨v1,rfl,g1⟩,rfl⟩⟩
structure NS where
 f0:Int
 f1:NJ
def Zh:Kd NS:=Kd.GV (Kd.pair (Kd.int .i64) U4) (fun x:NS=>(x.f0,x.f1))
theorem MI{w:World}{x:NS}{cs:List Value}(h:Zh.K w x cs):∃A2 c2,cs= [.int .i64 x.f0,.int .i64 x.f1.f0,.slice A2 x.f1.f1.length c2,.string x.f1.f2]∧x.f1.f1.length<=c2∧qC.C w A2 x.f1.f1.length x.f1.f1:=by
 obtain⟨_,_,rfl,rfl,s1⟩:=h;obtain⟨A2,c2,rfl,l2,g2⟩:=Mh s1;exact⟨A2,c2,rfl,l2,g2⟩
theorem KO{w:World}{base:Nat}{ok:Nat->Prop}{x:NS}{cs:List Value}(h:Zh.M w base ok x cs):∃v2,cs= [.int .i64 x.f0,.int .i64 x.f1.f0,v2,.string x.f1.f2]∧qC.R 163 w base ok v2 x.f1.f1:=by
 obtain⟨_,_,rfl,rfl,s1⟩:=h;obtain⟨v2,rfl,g2⟩:=AB s1;exact⟨v2,rfl,g2⟩
theorem JF(w:World)(base:Nat)(ok:Nat->Prop)(x:NS){v2:Value}(g2:qC.R 163 w base ok v2 x.f1.f1):Zh.M w base ok x [.int .i64 x.f0,.int .i64 x.f1.f0,v2,.string x.f1.f2]:=⟨[.int .i64 x.f0],[.int .i64 x.f1.f0,v2,.string x.f1.f2],rfl,rfl,(Ji w base ok x.f1 g2)⟩
attribute [local go_sem] nQ nU qM o7 oz oC ql qa
def pz.f(a0:ByteArray)(a1:Int):Option (ByteArray):=if (a0.size:Int)>a1 then (if 0<=a1 then (if a1<=(a0.size:Int) then (some (a0.extract 0 (a1:Int).toNat)) else (none)) else (none)) else (some a0)
theorem pz.calls(a0:ByteArray)(a1:Int)(r:ByteArray)(w:World)(h:pz.f a0 a1=some r):
 Calls Tryz.prog 19 #[.string a0,.int .i64 a1] w fun e w'=>e=.returned (.string r)∧gM w w':=by
 have H:(if (a0.size:Int)>a1 then (if 0<=a1 then (if a1<=(a0.size:Int) then (some (a0.extract 0 (a1:Int).toNat)) else (none)) else (none)) else (some a0))=some r:=h;clear h;by_cases c3:(a0.size:Int)>a1
 ·rw[if_pos c3] at H;have zD:decide (a1<(a0.size:Int))=true:=decide_eq_true c3;clear c3;by_cases c4:0<=a1
  ·rw[if_pos c4] at H;have O5:=eq_true c4;have ad8:decide (0<=a1)=true:=decide_eq_true c4;clear c4;by_cases c5:a1<=(a0.size:Int)
   ·rw[if_pos c5] at H;have aaJ:=eq_true c5;have aes:decide (a1<=(a0.size:Int))=true:=decide_eq_true c5;clear c5;obtain rfl:=Option.some.inj H;go_enter Tryz.func19,Tryz.ntmps19
    go_wp2;go_ret;exact⟨by first|rfl|(simp;done)|(simp[*];done),by repeat(first|exact gM.refl _|apply gM.step)⟩
   ·rw[if_neg c5] at H;exact absurd H (by simp)
  ·rw[if_neg c4] at H;exact absurd H (by simp)
 ·rw[if_neg c3] at H;have zD:decide (a1<(a0.size:Int))=false:=decide_eq_false c3;clear c3;obtain rfl:=Option.some.inj H;go_enter Tryz.func19,Tryz.ntmps19
  go_wp2;go_ret;exact⟨by first|rfl|(simp;done)|(simp[*];done),by repeat(first|exact gM.refl _|apply gM.step)⟩
def ag(w0 W:World)(g:Nat)(f0:ByteArray)(f1:Int)(f2:Int):Prop:=W.heap[g]? =some (.cells #[.string f0,.int .i64 f1,.int .i64 f2] 254 (0,0))∧w0.heap.size<=g
theorem ag.grown{w0 W:World}{g:Nat}{f0:ByteArray}{f1:Int}{f2:Int}{W1:World}{row:Option Nat}(h:ag w0 W g f0 f1 f2)(hw:W.grownBy W1 row)(hne:some g≠row):ag w0 W1 g f0 f1 f2:=by
 obtain⟨hb,hg⟩:=h;exact⟨dB hb hw hne,hg⟩
theorem ag.kept{w0 W:World}{g:Nat}{f0:ByteArray}{f1:Int}{f2:Int}{W1:World}{S:Nat->Prop}(h:ag w0 W g f0 f1 f2)(hk:Kept W W1 S)(hne:¬S g):ag w0 W1 g f0 f1 f2:=by
 obtain⟨hb,hg⟩:=h;exact⟨Fp hb hk hne,hg⟩
theorem ag.below{w0 W:World}{g:Nat}{f0:ByteArray}{f1:Int}{f2:Int}{W1:World}(h:ag w0 W g f0 f1 f2)(hw:Below W.heap.size W W1):ag w0 W1 g f0 f1 f2:=h.grown (kK hw none) (by simp)
theorem ag.alloc{w0 W:World}{g:Nat}{f0:ByteArray}{f1:Int}{f2:Int}(h:ag w0 W g f0 f1 f2)(o:Obj):ag w0 (W.alloc o) g f0 f1 f2:=h.below (ae (Below.refl _ _) o)
theorem ag.drewN{w0 W:World}{g:Nat}{f0:ByteArray}{f1:Int}{f2:Int}(h:ag w0 W g f0 f1 f2)(m:Nat):ag w0 (W.drewN m) g f0 f1 f2:=h
theorem ag.drew{w0 W:World}{g:Nat}{f0:ByteArray}{f1:Int}{f2:Int}(h:ag w0 W g f0 f1 f2):ag w0 W.drew g f0 f1 f2:=h
theorem ag.at_{w0 W:World}{g:Nat}{f0:ByteArray}{f1:Int}{f2:Int}{w':World}{m:Nat}(hq:W.drewN m=w')(h:ag w0 W g f0 f1 f2):ag w0 w' g f0 f1 f2:=by subst hq;exact ag.drewN h m
theorem ag.apart{w0 W:World}{g:Nat}{f0:ByteArray}{f1:Int}{f2:Int}{α:Type}{d:Kd α}{e:Nat}{base:Nat}{ok:Nat->Prop}{v:Value}{xs:List α}(h:ag w0 W g f0 f1 f2)(ho:d.R e W base ok v xs)(ht:∀q,q∈e::d.E->q≠254):d.R e W base (fun k=>ok k∧k≠g) v xs:=by
 obtain⟨hb,hg⟩:=h;exact Kd.xJ ho hb ht
theorem ag.own_ne{w0 W:World}{g:Nat}{f0:ByteArray}{f1:Int}{f2:Int}{α:Type}{d:Kd α}{e:Nat}{base:Nat}{ok:Nat->Prop}{v:Value}{xs:List α}(h:ag w0 W g f0 f1 f2)(ho:d.R e W base ok v xs)(ht:e≠254):some g≠v.ownBlock:=by
 obtain⟨hb,hg⟩:=h;exact Kd.kM ho hb ht
theorem ag.lt{w0 W:World}{g:Nat}{f0:ByteArray}{f1:Int}{f2:Int}(h:ag w0 W g f0 f1 f2):g<W.heap.size:=by
 obtain⟨hb,hg⟩:=h;exact aI hb
theorem ag.ge{w0 W:World}{g:Nat}{f0:ByteArray}{f1:Int}{f2:Int}(h:ag w0 W g f0 f1 f2):w0.heap.size<=g:=by
 obtain⟨hb,hg⟩:=h;exact hg
theorem ag.far{w0 W:World}{g:Nat}{f0:ByteArray}{f1:Int}{f2:Int}{p:Addr}(h:ag w0 W g f0 f1 f2)(hne:g≠p.block)(u:Value):ag w0 (W.setCell p u) g f0 f1 f2:=by
 obtain⟨hb,hg⟩:=h;exact⟨lu hb hne u,hg⟩
theorem aT{W:World}{g:Nat}{f0:ByteArray}{f1:Int}{f2:Int}(h:W.heap[g]? =some (.cells #[.string f0,.int .i64 f1,.int .i64 f2] 254 (0,0))):W.cell? ⟨g,0,none⟩=some (.string f0):=bK h
theorem ag.bG{w0 W:World}{g:Nat}{f0:ByteArray}{f1:Int}{f2:Int}(h:ag w0 W g f0 f1 f2)(x:ByteArray):ag w0 (W.setCell ⟨g,0,none⟩ (.string x)) g x f1 f2:=by
 obtain⟨hb,hg⟩:=h;exact⟨by simpa using bg hb 0 (.string x),hg⟩
theorem aR{W:World}{g:Nat}{f0:ByteArray}{f1:Int}{f2:Int}(h:W.heap[g]? =some (.cells #[.string f0,.int .i64 f1,.int .i64 f2] 254 (0,0))):W.cell? ⟨g,1,none⟩=some (.int .i64 f1):=bS h
theorem ag.bE{w0 W:World}{g:Nat}{f0:ByteArray}{f1:Int}{f2:Int}(h:ag w0 W g f0 f1 f2)(x:Int):ag w0 (W.setCell ⟨g,1,none⟩ (.int .i64 x)) g f0 x f2:=by
 obtain⟨hb,hg⟩:=h;exact⟨by simpa using bg hb 1 (.int .i64 x),hg⟩
theorem aU{W:World}{g:Nat}{f0:ByteArray}{f1:Int}{f2:Int}(h:W.heap[g]? =some (.cells #[.string f0,.int .i64 f1,.int .i64 f2] 254 (0,0))):W.cell? ⟨g,2,none⟩=some (.int .i64 f2):=dh h
theorem ag.bF{w0 W:World}{g:Nat}{f0:ByteArray}{f1:Int}{f2:Int}(h:ag w0 W g f0 f1 f2)(x:Int):ag w0 (W.setCell ⟨g,2,none⟩ (.int .i64 x)) g f0 f1 x:=by
 obtain⟨hb,hg⟩:=h;exact⟨by simpa using bg hb 2 (.int .i64 x),hg⟩
theorem ag.new(w0 W:World)(f0:ByteArray)(f1:Int)(f2:Int)(hB:Below w0.heap.size w0 W):ag w0 (W.alloc (.cells #[.string f0,.int .i64 f1,.int .i64 f2] 254)) W.heap.size f0 f1 f2:=⟨by simpa using heap_alloc_new W _,hB.size⟩
def dL(w0 W:World)(g:Nat)(f0:List ByteArray)(f1:Int)(f2:Int)(f3:Bool):Prop:=∃A0 c0,W.heap[g]? =some (.cells #[.slice A0 f0.length c0,.int .i64 f1,.int .i64 f2,.bool f3] 173 (0,0))∧w0.heap.size<=g∧Kd.C Kd.string w0 A0 f0.length f0
theorem dL.grown{w0 W:World}{g:Nat}{f0:List ByteArray}{f1:Int}{f2:Int}{f3:Bool}{W1:World}{row:Option Nat}(h:dL w0 W g f0 f1 f2 f3)(hw:W.grownBy W1 row)(hne:some g≠row):dL w0 W1 g f0 f1 f2 f3:=by
 obtain⟨A0,c0,hb,hg,hr0⟩:=h;exact⟨A0,c0,dB hb hw hne,hg,hr0⟩
theorem dL.kept{w0 W:World}{g:Nat}{f0:List ByteArray}{f1:Int}{f2:Int}{f3:Bool}{W1:World}{S:Nat->Prop}(h:dL w0 W g f0 f1 f2 f3)(hk:Kept W W1 S)(hne:¬S g):dL w0 W1 g f0 f1 f2 f3:=by
 obtain⟨A0,c0,hb,hg,hr0⟩:=h;exact⟨A0,c0,Fp hb hk hne,hg,hr0⟩
theorem dL.below{w0 W:World}{g:Nat}{f0:List ByteArray}{f1:Int}{f2:Int}{f3:Bool}{W1:World}(h:dL w0 W g f0 f1 f2 f3)(hw:Below W.heap.size W W1):dL w0 W1 g f0 f1 f2 f3:=h.grown (kK hw none) (by simp)
theorem dL.alloc{w0 W:World}{g:Nat}{f0:List ByteArray}{f1:Int}{f2:Int}{f3:Bool}(h:dL w0 W g f0 f1 f2 f3)(o:Obj):dL w0 (W.alloc o) g f0 f1 f2 f3:=h.below (ae (Below.refl _ _) o)
theorem dL.drewN{w0 W:World}{g:Nat}{f0:List ByteArray}{f1:Int}{f2:Int}{f3:Bool}(h:dL w0 W g f0 f1 f2 f3)(m:Nat):dL w0 (W.drewN m) g f0 f1 f2 f3:=h
theorem dL.drew{w0 W:World}{g:Nat}{f0:List ByteArray}{f1:Int}{f2:Int}{f3:Bool}(h:dL w0 W g f0 f1 f2 f3):dL w0 W.drew g f0 f1 f2 f3:=h
theorem dL.at_{w0 W:World}{g:Nat}{f0:List ByteArray}{f1:Int}{f2:Int}{f3:Bool}{w':World}{m:Nat}(hq:W.drewN m=w')(h:dL w0 W g f0 f1 f2 f3):dL w0 w' g f0 f1 f2 f3:=by subst hq;exact dL.drewN h m
theorem dL.apart{w0 W:World}{g:Nat}{f0:List ByteArray}{f1:Int}{f2:Int}{f3:Bool}{α:Type}{d:Kd α}{e:Nat}{base:Nat}{ok:Nat->Prop}{v:Value}{xs:List α}(h:dL w0 W g f0 f1 f2 f3)(ho:d.R e W base ok v xs)(ht:∀q,q∈e::d.E->q≠173):d.R e W base (fun k=>ok k∧k≠g) v xs:=by
 obtain⟨A0,c0,hb,hg,hr0⟩:=h;exact Kd.xJ ho hb ht
theorem dL.own_ne{w0 W:World}{g:Nat}{f0:List ByteArray}{f1:Int}{f2:Int}{f3:Bool}{α:Type}{d:Kd α}{e:Nat}{base:Nat}{ok:Nat->Prop}{v:Value}{xs:List α}(h:dL w0 W g f0 f1 f2 f3)(ho:d.R e W base ok v xs)(ht:e≠173):some g≠v.ownBlock:=by
 obtain⟨A0,c0,hb,hg,hr0⟩:=h;exact Kd.kM ho hb ht
theorem dL.lt{w0 W:World}{g:Nat}{f0:List ByteArray}{f1:Int}{f2:Int}{f3:Bool}(h:dL w0 W g f0 f1 f2 f3):g<W.heap.size:=by
 obtain⟨A0,c0,hb,hg,hr0⟩:=h;exact aI hb
theorem dL.ge{w0 W:World}{g:Nat}{f0:List ByteArray}{f1:Int}{f2:Int}{f3:Bool}(h:dL w0 W g f0 f1 f2 f3):w0.heap.size<=g:=by
 obtain⟨A0,c0,hb,hg,hr0⟩:=h;exact hg
theorem dL.far{w0 W:World}{g:Nat}{f0:List ByteArray}{f1:Int}{f2:Int}{f3:Bool}{p:Addr}(h:dL w0 W g f0 f1 f2 f3)(hne:g≠p.block)(u:Value):dL w0 (W.setCell p u) g f0 f1 f2 f3:=by
 obtain⟨A0,c0,hb,hg,hr0⟩:=h;exact⟨A0,c0,lu hb hne u,hg,hr0⟩
theorem dL.bE{w0 W:World}{g:Nat}{f0:List ByteArray}{f1:Int}{f2:Int}{f3:Bool}(h:dL w0 W g f0 f1 f2 f3)(x:Int):dL w0 (W.setCell ⟨g,1,none⟩ (.int .i64 x)) g f0 x f2 f3:=by
 obtain⟨A0,c0,hb,hg,hr0⟩:=h;exact⟨A0,c0,by simpa using bg hb 1 (.int .i64 x),hg,hr0⟩
theorem dL.bF{w0 W:World}{g:Nat}{f0:List ByteArray}{f1:Int}{f2:Int}{f3:Bool}(h:dL w0 W g f0 f1 f2 f3)(x:Int):dL w0 (W.setCell ⟨g,2,none⟩ (.int .i64 x)) g f0 f1 x f3:=by
 obtain⟨A0,c0,hb,hg,hr0⟩:=h;exact⟨A0,c0,by simpa using bg hb 2 (.int .i64 x),hg,hr0⟩
theorem dL.new(w0 W:World)(A0:Option Addr)(c0:Nat)(f0:List ByteArray)(f1:Int)(f2:Int)(f3:Bool)(hB:Below w0.heap.size w0 W)(hr0:Kd.C Kd.string w0 A0 f0.length f0):dL w0 (W.alloc (.cells #[.slice A0 f0.length c0,.int .i64 f1,.int .i64 f2,.bool f3] 173)) W.heap.size f0 f1 f2 f3:=⟨A0,c0,by simpa using heap_alloc_new W _,hB.size,hr0⟩
def aA.l0:Nat->ByteArray->Int->Int->Option (ByteArray×Int×Int)
 |0,_,_,_=>none
 |k+1,x1000,x1001,x1002=>if x1002<0 then (if x1001<(x1000.size:Int) then (if 0<=x1001 then (if (bt x1000 x1001)=32 then (aA.l0 k x1000 (wrap64 (x1001+1)) x1002) else (some (x1000,x1001,x1002))) else (none)) else (some (x1000,x1001,x1002))) else (some (x1000,x1001,x1002))
def aA.f(k:Nat)(s0_0:ByteArray)(s0_1:Int)(s0_2:Int):Option (ByteArray×Int×Int):=aA.l0 k s0_0 s0_1 s0_2
theorem aA.qF:∀k,(∀y0 y1 y2,fJ (aA.l0 k y0 y1 y2) (aA.l0 (k+1) y0 y1 y2))
 |0=>fun _ _ _ r h=>by simp[aA.l0] at h
 |k+1=>by
  have yH:=aA.qF k
  ·intro y0 y1 y2;unfold aA.l0
   repeat' first
   |(with_reducible exact yH _ _ _)
   |(with_reducible exact fJ.refl _)
   |(with_reducible exact fJ.none _)
   |(with_reducible refine fJ.ite ?_ ?_)
   |(with_reducible refine fJ.bind ?_ (fun _=> ?_))
   |exact yH _ _ _
   |exact fJ.none _
   |refine fJ.ite ?_ ?_
   |refine fJ.bind ?_ (fun _=> ?_)
theorem aA.mono:∀a0 a1 a2 k,fJ (aA.f k a0 a1 a2) (aA.f (k+1) a0 a1 a2):=by
 intro a0 a1 a2 k;have yH:=aA.qF k;unfold aA.f
 repeat' first
  |(with_reducible exact yH _ _ _)
  |(with_reducible exact fJ.refl _)
  |(with_reducible exact fJ.none _)
  |(with_reducible refine fJ.ite ?_ ?_)
  |(with_reducible refine fJ.bind ?_ (fun _=> ?_))
  |exact yH _ _ _
  |exact fJ.none _
  |refine fJ.ite ?_ ?_
  |refine fJ.bind ?_ (fun _=> ?_)
theorem aA.calls(k:Nat)(g:Nat)(s0_0:ByteArray)(s0_1:Int)(s0_2:Int)(r1:ByteArray)(r2:Int)(r3:Int)(w0 w:World)(hI:ag w0 w g s0_0 s0_1 s0_2)(hB:Below w0.heap.size w0 w)(h:aA.f k s0_0 s0_1 s0_2=some (r1,r2,r3)):
 Calls Tryz.prog 144 #[.pointer (some ⟨g,0,none⟩)] w fun e w'=>e=.returned (.tuple #[])∧ag w0 w' g r1 r2 r3∧Below w0.heap.size w0 w'∧az w w' g none:=by
 have HI0:=ai hI;have HK:=ai (az.refl w g none);have HL:=ai hB.size;clear hI;have HW0:=ai hB.size;have HB:=ai hB;clear hB;have H:(aA.l0 k s0_0 s0_1 s0_2)=some (r1,r2,r3):=h;clear h;have H':=ai H;clear H;go_enter Tryz.func144,Tryz.ntmps144
 go_wp2
 repeat(go_quiet (fail);try go_wp2)
 go_loopg [] k (fun kq w'=>∃(gz:Int),ay (aA.l0 kq s0_0 gz s0_2=some (r1,r2,r3))∧ay (kq<=k)∧ay (ag w0 w' g s0_0 gz s0_2)∧ay (az w w' g none)∧ay (Below w0.heap.size w0 w'))
 case atStart=>exact⟨(s0_1),H',⟨Nat.le_refl _⟩,⟨by repeat(first|(with_reducible first|exact HI0.o|apply ag.alloc|apply ag.drewN|apply ag.drew|apply ag.bG|apply ag.bE|apply ag.bF)|exact HI0.o)⟩,⟨by repeat(first|(with_reducible first|exact HK.o|apply az.cO|apply aC|apply aJ|apply aG)|exact HK.o)⟩,⟨by repeat(first|(with_reducible first|exact HB.o|apply ae|apply ah|apply ak|refine au ?_ (ag.ge HI0.o))|exact HB.o)⟩⟩
 case round=>
  clear H'
  try clear c1
  obtain⟨gz,HA,rW,HI0,HK,HB⟩:=hrel;cases gk with
  |zero=>exact absurd HA.o (by simp[aA.l0])
  |succ k1=>
   have H:=HA.o;clear HA;simp only[aA.l0] at H;by_cases c2:s0_2<0
   ·rw[if_pos c2] at H;have Na:decide (s0_2<0)=true:=decide_eq_true c2;clear c2;by_cases c3:gz<(s0_0.size:Int)
    ·rw[if_pos c3] at H;have zD:decide (gz<(s0_0.size:Int))=true:=decide_eq_true c3;clear c3;by_cases c4:0<=gz
     ·rw[if_pos c4] at H;have O5:decide (0<=gz)=true:=decide_eq_true c4;clear c4;by_cases c6:(bt s0_0 gz)=32
      ·rw[if_pos c6] at H;have Xv:((bt s0_0 gz)==32)=true:=beq_iff_eq.mpr c6;have aaZ:((bt s0_0 gz) != 32)=false:=bne_eq_false_iff_eq.mpr c6;clear c6;have H':=ai H;clear H;obtain⟨jP,Il⟩:=HI0.o;have Ir:=aT jP;have Gi:=aR jP;have Gg:=aU jP;have FV:=af jP 0;have FU:=af jP 1;have Gc:=af jP 2;clear jP Il;have p5:0<=(gz:Int):=of_decide_eq_true (by first|(with_reducible assumption)|assumption);have q5:gz<(s0_0.size:Int):=of_decide_eq_true (by first|(with_reducible assumption)|assumption);have hx5:=sO s0_0 gz;replace p5:=eq_true p5;replace q5:=eq_true q5;go_wp2
       repeat(go_quiet (fail);try go_wp2)
       go_roundg k1
       case measure=>have:=rW.o;omega
       case rel=>exact⟨(wrap64 (gz+1)),H',⟨by have:=rW.o;omega⟩,⟨by repeat(first|(with_reducible first|exact HI0.o|apply ag.alloc|apply ag.drewN|apply ag.drew|apply ag.bG|apply ag.bE|apply ag.bF)|exact HI0.o)⟩,⟨by repeat(first|(with_reducible first|exact HK.o|apply az.cO|apply aC|apply aJ|apply aG)|exact HK.o)⟩,⟨by repeat(first|(with_reducible first|exact HB.o|apply ae|apply ah|apply ak|refine au ?_ (ag.ge HI0.o))|exact HB.o)⟩⟩
      ·rw[if_neg c6] at H;have Xv:((bt s0_0 gz)==32)=false:=beq_eq_false_iff_ne.mpr c6;have aaZ:((bt s0_0 gz) != 32)=true:=bne_iff_ne.mpr c6;simp only[Option.some.injEq,Prod.mk.injEq] at H;obtain⟨rfl,rfl,rfl⟩:=H;obtain⟨jM,GL⟩:=HI0.o;have pY:=aT jM;have qb:=aR jM;have qf:=aU jM;have pU:=af jM 0;have pW:=af jM 1;have qg:=af jM 2;clear jM GL;have p5:0<=(gz:Int):=of_decide_eq_true (by first|(with_reducible assumption)|assumption);have q5:gz<(s0_0.size:Int):=of_decide_eq_true (by first|(with_reducible assumption)|assumption);have hx5:=sO s0_0 gz;replace p5:=eq_true p5;replace q5:=eq_true q5;go_wp2
       repeat(go_quiet (fail);try go_wp2)
       first|go_end0|((try simp only[Exit.inBlock,Exit.then]);refine bodyPost_ret (results_none rfl _ _ _) rfl ?_)
       exact⟨by first|rfl|(simp[bO,bP]<;>rfl)|(simp[*,bO,bP]<;>rfl),by repeat(first|(with_reducible first|exact HI0.o|apply ag.alloc|apply ag.drewN|apply ag.drew|apply ag.bG|apply ag.bE|apply ag.bF)|exact HI0.o),by repeat(first|(with_reducible first|exact HB.o|apply ae|apply ah|apply ak|refine au ?_ (ag.ge HI0.o))|exact HB.o),by repeat(first|(with_reducible first|exact HK.o|apply az.cO|apply aC|apply aJ|apply aG)|exact HK.o)⟩
     ·rw[if_neg c4] at H;exact absurd H (by simp)
    ·rw[if_neg c3] at H;have zD:decide (gz<(s0_0.size:Int))=false:=decide_eq_false c3;clear c3;simp only[Option.some.injEq,Prod.mk.injEq] at H;obtain⟨rfl,rfl,rfl⟩:=H;obtain⟨Gh,ZU⟩:=HI0.o;have SL:=aT Gh;have Tz:=aR Gh;have TM:=aU Gh;have SH:=af Gh 0;have Ux:=af Gh 1;have Tv:=af Gh 2;clear Gh ZU;go_wp2
     repeat(go_quiet (fail);try go_wp2)
     first|go_end0|((try simp only[Exit.inBlock,Exit.then]);refine bodyPost_ret (results_none rfl _ _ _) rfl ?_)
     exact⟨by first|rfl|(simp[bO,bP]<;>rfl)|(simp[*,bO,bP]<;>rfl),by repeat(first|(with_reducible first|exact HI0.o|apply ag.alloc|apply ag.drewN|apply ag.drew|apply ag.bG|apply ag.bE|apply ag.bF)|exact HI0.o),by repeat(first|(with_reducible first|exact HB.o|apply ae|apply ah|apply ak|refine au ?_ (ag.ge HI0.o))|exact HB.o),by repeat(first|(with_reducible first|exact HK.o|apply az.cO|apply aC|apply aJ|apply aG)|exact HK.o)⟩
   ·rw[if_neg c2] at H;have Na:decide (s0_2<0)=false:=decide_eq_false c2;clear c2;simp only[Option.some.injEq,Prod.mk.injEq] at H;obtain⟨rfl,rfl,rfl⟩:=H;obtain⟨yB,Xh⟩:=HI0.o;have Y1:=aT yB;have Ze:=aR yB;have YJ:=aU yB;have X4:=af yB 0;have Zv:=af yB 1;have Zu:=af yB 2;clear yB Xh;go_wp2
    repeat(go_quiet (fail);try go_wp2)
    first|go_end0|((try simp only[Exit.inBlock,Exit.then]);refine bodyPost_ret (results_none rfl _ _ _) rfl ?_)
    exact⟨by first|rfl|(simp[bO,bP]<;>rfl)|(simp[*,bO,bP]<;>rfl),by repeat(first|(with_reducible first|exact HI0.o|apply ag.alloc|apply ag.drewN|apply ag.drew|apply ag.bG|apply ag.bE|apply ag.bF)|exact HI0.o),by repeat(first|(with_reducible first|exact HB.o|apply ae|apply ah|apply ak|refine au ?_ (ag.ge HI0.o))|exact HB.o),by repeat(first|(with_reducible first|exact HK.o|apply az.cO|apply aC|apply aJ|apply aG)|exact HK.o)⟩
def aH.f(s0_0:ByteArray)(s0_1:Int)(s0_2:Int)(a1:Int):Option (ByteArray×Int×Int):=if s0_2<0 then (some (s0_0,s0_1,a1)) else (some (s0_0,s0_1,s0_2))
theorem aH.calls(g:Nat)(s0_0:ByteArray)(s0_1:Int)(s0_2:Int)(a1:Int)(r1:ByteArray)(r2:Int)(r3:Int)(w0 w:World)(hI:ag w0 w g s0_0 s0_1 s0_2)(hB:Below w0.heap.size w0 w)(h:aH.f s0_0 s0_1 s0_2 a1=some (r1,r2,r3)):
 Calls Tryz.prog 146 #[.pointer (some ⟨g,0,none⟩),.int .i64 a1] w fun e w'=>e=.returned (.tuple #[])∧ag w0 w' g r1 r2 r3∧Below w0.heap.size w0 w'∧az w w' g none:=by
 have HI0:=ai hI;have HK:=ai (az.refl w g none);have HL:=ai hB.size;clear hI;have HW0:=ai hB.size;have HB:=ai hB;clear hB;have H:(if s0_2<0 then (some (s0_0,s0_1,a1)) else (some (s0_0,s0_1,s0_2)))=some (r1,r2,r3):=h;clear h;by_cases c3:s0_2<0
 ·rw[if_pos c3] at H;have zD:decide (s0_2<0)=true:=decide_eq_true c3;clear c3;simp only[Option.some.injEq,Prod.mk.injEq] at H;obtain⟨rfl,rfl,rfl⟩:=H;obtain⟨Io,aaG⟩:=HI0.o;have aa4:=aT Io;have aaM:=aR Io;have abf:=aU Io;have ZV:=af Io 0;have aaU:=af Io 1;have aaT:=af Io 2;clear Io aaG;go_enter Tryz.func146,Tryz.ntmps146
  go_wp2
  first|go_end0|((try simp only[Exit.inBlock,Exit.then]);refine bodyPost_ret (results_none rfl _ _ _) rfl ?_)
  exact⟨by first|rfl|(simp[bO,bP]<;>rfl)|(simp[*,bO,bP]<;>rfl),by repeat(first|(with_reducible first|exact HI0.o|apply ag.alloc|apply ag.drewN|apply ag.drew|apply ag.bG|apply ag.bE|apply ag.bF)|exact HI0.o),by repeat(first|(with_reducible first|exact HB.o|apply ae|apply ah|apply ak|refine au ?_ (ag.ge HI0.o))|exact HB.o),by repeat(first|(with_reducible first|exact HK.o|apply az.cO|apply aC|apply aJ|apply aG)|exact HK.o)⟩
 ·rw[if_neg c3] at H;have zD:decide (s0_2<0)=false:=decide_eq_false c3;clear c3;simp only[Option.some.injEq,Prod.mk.injEq] at H;obtain⟨rfl,rfl,rfl⟩:=H;obtain⟨jO,Ie⟩:=HI0.o;have pO:=aT jO;have qw:=aR jO;have p9:=aU jO;have qc:=af jO 0;have pM:=af jO 1;have qK:=af jO 2;clear jO Ie;go_enter Tryz.func146,Tryz.ntmps146
  go_wp2
  first|go_end0|((try simp only[Exit.inBlock,Exit.then]);refine bodyPost_ret (results_none rfl _ _ _) rfl ?_)
  exact⟨by first|rfl|(simp[bO,bP]<;>rfl)|(simp[*,bO,bP]<;>rfl),by repeat(first|(with_reducible first|exact HI0.o|apply ag.alloc|apply ag.drewN|apply ag.drew|apply ag.bG|apply ag.bE|apply ag.bF)|exact HI0.o),by repeat(first|(with_reducible first|exact HB.o|apply ae|apply ah|apply ak|refine au ?_ (ag.ge HI0.o))|exact HB.o),by repeat(first|(with_reducible first|exact HK.o|apply az.cO|apply aC|apply aJ|apply aG)|exact HK.o)⟩
def rM.f(a0:Int):Option (Bool):=if a0≥97 then (some (decide (a0<=122))) else (some false)
theorem rM.calls(a0:Int)(r:Bool)(w:World)(h:rM.f a0=some r):
 Calls Tryz.prog 205 #[.int .u8 a0] w fun e w'=>e=.returned (.bool r)∧gM w w':=by
 have H:(if a0≥97 then (some (decide (a0<=122))) else (some false))=some r:=h;clear h;by_cases c2:a0≥97
 ·rw[if_pos c2] at H;have Na:decide (97<=a0)=true:=decide_eq_true c2;clear c2;obtain rfl:=Option.some.inj H;go_enter Tryz.func205,Tryz.ntmps205
  go_wp2;go_ret;exact⟨by first|rfl|(simp;done)|(simp[*];done),by repeat(first|exact gM.refl _|apply gM.step)⟩
 ·rw[if_neg c2] at H;have Na:decide (97<=a0)=false:=decide_eq_false c2;clear c2;obtain rfl:=Option.some.inj H;go_enter Tryz.func205,Tryz.ntmps205
  go_wp2;go_ret;exact⟨by first|rfl|(simp;done)|(simp[*];done),by repeat(first|exact gM.refl _|apply gM.step)⟩
def ig.f(a0:Int):Option (Bool):=if a0≥48 then (some (decide (a0<=57))) else (some false)
theorem ig.calls(a0:Int)(r:Bool)(w:World)(h:ig.f a0=some r):
 Calls Tryz.prog 206 #[.int .u8 a0] w fun e w'=>e=.returned (.bool r)∧gM w w':=by
 have H:(if a0≥48 then (some (decide (a0<=57))) else (some false))=some r:=h;clear h;by_cases c2:a0≥48
 ·rw[if_pos c2] at H;have Na:decide (48<=a0)=true:=decide_eq_true c2;clear c2;obtain rfl:=Option.some.inj H;go_enter Tryz.func206,Tryz.ntmps206
  go_wp2;go_ret;exact⟨by first|rfl|(simp;done)|(simp[*];done),by repeat(first|exact gM.refl _|apply gM.step)⟩
 ·rw[if_neg c2] at H;have Na:decide (48<=a0)=false:=decide_eq_false c2;clear c2;obtain rfl:=Option.some.inj H;go_enter Tryz.func206,Tryz.ntmps206
  go_wp2;go_ret;exact⟨by first|rfl|(simp;done)|(simp[*];done),by repeat(first|exact gM.refl _|apply gM.step)⟩
def bV.f(k:Nat)(s0_0:ByteArray)(s0_1:Int)(s0_2:Int)(a1:ByteArray):Option (ByteArray×Int×Int):=(aA.f k s0_0 s0_1 s0_2).bind fun bt118=>(if bt118.2.2≥0 then ((aH.f bt118.1 bt118.2.1 bt118.2.2 bt118.2.1).bind fun bt121=>(some (bt121.1,bt121.2.1,bt121.2.2))) else (if (wrap64 ((bt118.1.size:Int)-bt118.2.1))<(a1.size:Int) then ((aH.f bt118.1 bt118.2.1 bt118.2.2 bt118.2.1).bind fun bt124=>(some (bt124.1,bt124.2.1,bt124.2.2))) else (if 0<=bt118.2.1 then (if bt118.2.1<=(wrap64 (bt118.2.1+(a1.size:Int))) then (if (wrap64 (bt118.2.1+(a1.size:Int)))<=(bt118.1.size:Int) then (if (bt118.1.extract (bt118.2.1:Int).toNat ((wrap64 (bt118.2.1+(a1.size:Int))):Int).toNat).toList=a1.toList then (some (bt118.1,wrap64 (bt118.2.1+(a1.size:Int)),bt118.2.2)) else ((aH.f bt118.1 bt118.2.1 bt118.2.2 bt118.2.1).bind fun bt127=>(some (bt127.1,bt127.2.1,bt127.2.2)))) else (none)) else (none)) else (none))))
theorem bV.mono:∀a0 a1 a2 a3 k,fJ (bV.f k a0 a1 a2 a3) (bV.f (k+1) a0 a1 a2 a3):=by
 intro a0 a1 a2 a3 k;unfold bV.f
 repeat' first
  |(with_reducible exact aA.mono _ _ _ _)
  |(with_reducible exact fJ.refl _)
  |(with_reducible exact fJ.none _)
  |(with_reducible refine fJ.ite ?_ ?_)
  |(with_reducible refine fJ.bind ?_ (fun _=> ?_))
  |exact aA.mono _ _ _ _
  |exact fJ.none _
  |refine fJ.ite ?_ ?_
  |refine fJ.bind ?_ (fun _=> ?_)
theorem bV.calls(k:Nat)(g:Nat)(s0_0:ByteArray)(s0_1:Int)(s0_2:Int)(a1:ByteArray)(r1:ByteArray)(r2:Int)(r3:Int)(w0 w:World)(hI:ag w0 w g s0_0 s0_1 s0_2)(hB:Below w0.heap.size w0 w)(h:bV.f k s0_0 s0_1 s0_2 a1=some (r1,r2,r3)):
 Calls Tryz.prog 202 #[.pointer (some ⟨g,0,none⟩),.string a1] w fun e w'=>e=.returned (.tuple #[])∧ag w0 w' g r1 r2 r3∧Below w0.heap.size w0 w'∧az w w' g none:=by
 have HI0:=ai hI;have HK:=ai (az.refl w g none);have HL:=ai hB.size;clear hI;have HW0:=ai hB.size;have HB:=ai hB;clear hB;have H:((aA.f k s0_0 s0_1 s0_2).bind fun bt118=>(if bt118.2.2≥0 then ((aH.f bt118.1 bt118.2.1 bt118.2.2 bt118.2.1).bind fun bt121=>(some (bt121.1,bt121.2.1,bt121.2.2))) else (if (wrap64 ((bt118.1.size:Int)-bt118.2.1))<(a1.size:Int) then ((aH.f bt118.1 bt118.2.1 bt118.2.2 bt118.2.1).bind fun bt124=>(some (bt124.1,bt124.2.1,bt124.2.2))) else (if 0<=bt118.2.1 then (if bt118.2.1<=(wrap64 (bt118.2.1+(a1.size:Int))) then (if (wrap64 (bt118.2.1+(a1.size:Int)))<=(bt118.1.size:Int) then (if (bt118.1.extract (bt118.2.1:Int).toNat ((wrap64 (bt118.2.1+(a1.size:Int))):Int).toNat).toList=a1.toList then (some (bt118.1,wrap64 (bt118.2.1+(a1.size:Int)),bt118.2.2)) else ((aH.f bt118.1 bt118.2.1 bt118.2.2 bt118.2.1).bind fun bt127=>(some (bt127.1,bt127.2.1,bt127.2.2)))) else (none)) else (none)) else (none)))))=some (r1,r2,r3):=h;clear h;replace H:=Option.bind_eq_some_iff.mp H;obtain⟨⟨t118,t119,t120⟩,Vd,H⟩:=H;replace H:(if t120≥0 then ((aH.f t118 t119 t120 t119).bind fun bt121=>(some (bt121.1,bt121.2.1,bt121.2.2))) else (if (wrap64 ((t118.size:Int)-t119))<(a1.size:Int) then ((aH.f t118 t119 t120 t119).bind fun bt124=>(some (bt124.1,bt124.2.1,bt124.2.2))) else (if 0<=t119 then (if t119<=(wrap64 (t119+(a1.size:Int))) then (if (wrap64 (t119+(a1.size:Int)))<=(t118.size:Int) then (if (t118.extract (t119:Int).toNat ((wrap64 (t119+(a1.size:Int))):Int).toNat).toList=a1.toList then (some (t118,wrap64 (t119+(a1.size:Int)),t120)) else ((aH.f t118 t119 t120 t119).bind fun bt127=>(some (bt127.1,bt127.2.1,bt127.2.2)))) else (none)) else (none)) else (none))))=some (r1,r2,r3):=H;have A3:=ai Vd;clear Vd;by_cases c4:t120≥0
 ·rw[if_pos c4] at H;have O5:decide (0<=t120)=true:=decide_eq_true c4;clear c4;replace H:=Option.bind_eq_some_iff.mp H;obtain⟨⟨t121,t122,t123⟩,A50,H⟩:=H;replace H:(some (t121,t122,t123))=some (r1,r2,r3):=H;have A5:=ai A50;clear A50;simp only[Option.some.injEq,Prod.mk.injEq] at H;obtain⟨rfl,rfl,rfl⟩:=H;go_enter Tryz.func202,Tryz.ntmps202
  go_wp2_with (first|(go_at_call 144;(with_reducible refine(aA.calls k g s0_0 s0_1 s0_2 t118 t119 t120 w0 _ ?side1 ?side2 A3.o).mono ?_);(case side1=>repeat(first|(with_reducible first|exact HI0.o|apply ag.alloc|apply ag.drewN|apply ag.drew|apply ag.bG|apply ag.bE|apply ag.bF)|exact HI0.o));(case side2=>repeat(first|(with_reducible first|exact HB.o|apply ae|apply ah|apply ak|refine au ?_ (ag.ge HI0.o))|exact HB.o));rintro e w6 ⟨rfl,hi,hb,hk⟩;have dH:=ai (az.trans (by repeat(first|(with_reducible first|exact HK.o|apply az.cO|apply aC|apply aJ|apply aG)|exact HK.o)) hk (.inl rfl));have dU:=ai (hb);have dS:=ai (hi);clear HK;clear HB;clear HI0;have HK:=dH;have HB:=dU;have HI0:=dS;clear dH dU dS;(try clear hb);(try clear hb2);(try clear hk);(try clear hi);obtain⟨jP,Il⟩:=HI0.o;have Ir:=aT jP;have Gi:=aR jP;have Gg:=aU jP;have FV:=af jP 0;have FU:=af jP 1;have Gc:=af jP 2;clear jP Il)|(go_at_call 146;(with_reducible refine(aH.calls g t118 t119 t120 t119 t121 t122 t123 w0 _ ?side1 ?side2 A5.o).mono ?_);(case side1=>repeat(first|(with_reducible first|exact HI0.o|apply ag.alloc|apply ag.drewN|apply ag.drew|apply ag.bG|apply ag.bE|apply ag.bF)|exact HI0.o));(case side2=>repeat(first|(with_reducible first|exact HB.o|apply ae|apply ah|apply ak|refine au ?_ (ag.ge HI0.o))|exact HB.o));rintro e w8 ⟨rfl,hi,hb,hk⟩;have dH:=ai (az.trans (by repeat(first|(with_reducible first|exact HK.o|apply az.cO|apply aC|apply aJ|apply aG)|exact HK.o)) hk (.inl rfl));have dU:=ai (hb);have dS:=ai (hi);clear HK;clear HB;clear HI0;have HK:=dH;have HB:=dU;have HI0:=dS;clear dH dU dS;(try clear hb);(try clear hb2);(try clear hk);(try clear hi)))
  repeat(go_quiet (first|(go_at_call 144;(with_reducible refine(aA.calls k g s0_0 s0_1 s0_2 t118 t119 t120 w0 _ ?side1 ?side2 A3.o).mono ?_);(case side1=>repeat(first|(with_reducible first|exact HI0.o|apply ag.alloc|apply ag.drewN|apply ag.drew|apply ag.bG|apply ag.bE|apply ag.bF)|exact HI0.o));(case side2=>repeat(first|(with_reducible first|exact HB.o|apply ae|apply ah|apply ak|refine au ?_ (ag.ge HI0.o))|exact HB.o));rintro e w6 ⟨rfl,hi,hb,hk⟩;have dH:=ai (az.trans (by repeat(first|(with_reducible first|exact HK.o|apply az.cO|apply aC|apply aJ|apply aG)|exact HK.o)) hk (.inl rfl));have dU:=ai (hb);have dS:=ai (hi);clear HK;clear HB;clear HI0;have HK:=dH;have HB:=dU;have HI0:=dS;clear dH dU dS;(try clear hb);(try clear hb2);(try clear hk);(try clear hi);obtain⟨jP,Il⟩:=HI0.o;have Ir:=aT jP;have Gi:=aR jP;have Gg:=aU jP;have FV:=af jP 0;have FU:=af jP 1;have Gc:=af jP 2;clear jP Il)|(go_at_call 146;(with_reducible refine(aH.calls g t118 t119 t120 t119 t121 t122 t123 w0 _ ?side1 ?side2 A5.o).mono ?_);(case side1=>repeat(first|(with_reducible first|exact HI0.o|apply ag.alloc|apply ag.drewN|apply ag.drew|apply ag.bG|apply ag.bE|apply ag.bF)|exact HI0.o));(case side2=>repeat(first|(with_reducible first|exact HB.o|apply ae|apply ah|apply ak|refine au ?_ (ag.ge HI0.o))|exact HB.o));rintro e w8 ⟨rfl,hi,hb,hk⟩;have dH:=ai (az.trans (by repeat(first|(with_reducible first|exact HK.o|apply az.cO|apply aC|apply aJ|apply aG)|exact HK.o)) hk (.inl rfl));have dU:=ai (hb);have dS:=ai (hi);clear HK;clear HB;clear HI0;have HK:=dH;have HB:=dU;have HI0:=dS;clear dH dU dS;(try clear hb);(try clear hb2);(try clear hk);(try clear hi)));try go_wp2_with (first|(go_at_call 144;(with_reducible refine(aA.calls k g s0_0 s0_1 s0_2 t118 t119 t120 w0 _ ?side1 ?side2 A3.o).mono ?_);(case side1=>repeat(first|(with_reducible first|exact HI0.o|apply ag.alloc|apply ag.drewN|apply ag.drew|apply ag.bG|apply ag.bE|apply ag.bF)|exact HI0.o));(case side2=>repeat(first|(with_reducible first|exact HB.o|apply ae|apply ah|apply ak|refine au ?_ (ag.ge HI0.o))|exact HB.o));rintro e w6 ⟨rfl,hi,hb,hk⟩;have dH:=ai (az.trans (by repeat(first|(with_reducible first|exact HK.o|apply az.cO|apply aC|apply aJ|apply aG)|exact HK.o)) hk (.inl rfl));have dU:=ai (hb);have dS:=ai (hi);clear HK;clear HB;clear HI0;have HK:=dH;have HB:=dU;have HI0:=dS;clear dH dU dS;(try clear hb);(try clear hb2);(try clear hk);(try clear hi);obtain⟨jP,Il⟩:=HI0.o;have Ir:=aT jP;have Gi:=aR jP;have Gg:=aU jP;have FV:=af jP 0;have FU:=af jP 1;have Gc:=af jP 2;clear jP Il)|(go_at_call 146;(with_reducible refine(aH.calls g t118 t119 t120 t119 t121 t122 t123 w0 _ ?side1 ?side2 A5.o).mono ?_);(case side1=>repeat(first|(with_reducible first|exact HI0.o|apply ag.alloc|apply ag.drewN|apply ag.drew|apply ag.bG|apply ag.bE|apply ag.bF)|exact HI0.o));(case side2=>repeat(first|(with_reducible first|exact HB.o|apply ae|apply ah|apply ak|refine au ?_ (ag.ge HI0.o))|exact HB.o));rintro e w8 ⟨rfl,hi,hb,hk⟩;have dH:=ai (az.trans (by repeat(first|(with_reducible first|exact HK.o|apply az.cO|apply aC|apply aJ|apply aG)|exact HK.o)) hk (.inl rfl));have dU:=ai (hb);have dS:=ai (hi);clear HK;clear HB;clear HI0;have HK:=dH;have HB:=dU;have HI0:=dS;clear dH dU dS;(try clear hb);(try clear hb2);(try clear hk);(try clear hi))))
  first|go_end0|((try simp only[Exit.inBlock,Exit.then]);refine bodyPost_ret (results_none rfl _ _ _) rfl ?_)
  exact⟨by first|rfl|(simp[bO,bP]<;>rfl)|(simp[*,bO,bP]<;>rfl),by repeat(first|(with_reducible first|exact HI0.o|apply ag.alloc|apply ag.drewN|apply ag.drew|apply ag.bG|apply ag.bE|apply ag.bF)|exact HI0.o),by repeat(first|(with_reducible first|exact HB.o|apply ae|apply ah|apply ak|refine au ?_ (ag.ge HI0.o))|exact HB.o),by repeat(first|(with_reducible first|exact HK.o|apply az.cO|apply aC|apply aJ|apply aG)|exact HK.o)⟩
 ·rw[if_neg c4] at H;have O5:decide (0<=t120)=false:=decide_eq_false c4;clear c4;by_cases c9:(wrap64 ((t118.size:Int)-t119))<(a1.size:Int)
  ·rw[if_pos c9] at H;have yh:decide ((wrap64 ((t118.size:Int)-t119))<(a1.size:Int))=true:=decide_eq_true c9;clear c9;replace H:=Option.bind_eq_some_iff.mp H;obtain⟨⟨t124,t125,t126⟩,Wt,H⟩:=H;replace H:(some (t124,t125,t126))=some (r1,r2,r3):=H;have A10:=ai Wt;clear Wt;simp only[Option.some.injEq,Prod.mk.injEq] at H;obtain⟨rfl,rfl,rfl⟩:=H;go_enter Tryz.func202,Tryz.ntmps202
   go_wp2_with (first|(go_at_call 144;(with_reducible refine(aA.calls k g s0_0 s0_1 s0_2 t118 t119 t120 w0 _ ?side1 ?side2 A3.o).mono ?_);(case side1=>repeat(first|(with_reducible first|exact HI0.o|apply ag.alloc|apply ag.drewN|apply ag.drew|apply ag.bG|apply ag.bE|apply ag.bF)|exact HI0.o));(case side2=>repeat(first|(with_reducible first|exact HB.o|apply ae|apply ah|apply ak|refine au ?_ (ag.ge HI0.o))|exact HB.o));rintro e rC ⟨rfl,hi,hb,hk⟩;have dH:=ai (az.trans (by repeat(first|(with_reducible first|exact HK.o|apply az.cO|apply aC|apply aJ|apply aG)|exact HK.o)) hk (.inl rfl));have dU:=ai (hb);have dS:=ai (hi);clear HK;clear HB;clear HI0;have HK:=dH;have HB:=dU;have HI0:=dS;clear dH dU dS;(try clear hb);(try clear hb2);(try clear hk);(try clear hi);obtain⟨gU,yK⟩:=HI0.o;have oZ:=aT gU;have oM:=aR gU;have oL:=aU gU;have o6:=af gU 0;have oG:=af gU 1;have o5:=af gU 2;clear gU yK)|(go_at_call 146;(with_reducible refine(aH.calls g t118 t119 t120 t119 t124 t125 t126 w0 _ ?side1 ?side2 A10.o).mono ?_);(case side1=>repeat(first|(with_reducible first|exact HI0.o|apply ag.alloc|apply ag.drewN|apply ag.drew|apply ag.bG|apply ag.bE|apply ag.bF)|exact HI0.o));(case side2=>repeat(first|(with_reducible first|exact HB.o|apply ae|apply ah|apply ak|refine au ?_ (ag.ge HI0.o))|exact HB.o));rintro e yz ⟨rfl,hi,hb,hk⟩;have dH:=ai (az.trans (by repeat(first|(with_reducible first|exact HK.o|apply az.cO|apply aC|apply aJ|apply aG)|exact HK.o)) hk (.inl rfl));have dU:=ai (hb);have dS:=ai (hi);clear HK;clear HB;clear HI0;have HK:=dH;have HB:=dU;have HI0:=dS;clear dH dU dS;(try clear hb);(try clear hb2);(try clear hk);(try clear hi)))
   repeat(go_quiet (first|(go_at_call 144;(with_reducible refine(aA.calls k g s0_0 s0_1 s0_2 t118 t119 t120 w0 _ ?side1 ?side2 A3.o).mono ?_);(case side1=>repeat(first|(with_reducible first|exact HI0.o|apply ag.alloc|apply ag.drewN|apply ag.drew|apply ag.bG|apply ag.bE|apply ag.bF)|exact HI0.o));(case side2=>repeat(first|(with_reducible first|exact HB.o|apply ae|apply ah|apply ak|refine au ?_ (ag.ge HI0.o))|exact HB.o));rintro e rC ⟨rfl,hi,hb,hk⟩;have dH:=ai (az.trans (by repeat(first|(with_reducible first|exact HK.o|apply az.cO|apply aC|apply aJ|apply aG)|exact HK.o)) hk (.inl rfl));have dU:=ai (hb);have dS:=ai (hi);clear HK;clear HB;clear HI0;have HK:=dH;have HB:=dU;have HI0:=dS;clear dH dU dS;(try clear hb);(try clear hb2);(try clear hk);(try clear hi);obtain⟨gU,yK⟩:=HI0.o;have oZ:=aT gU;have oM:=aR gU;have oL:=aU gU;have o6:=af gU 0;have oG:=af gU 1;have o5:=af gU 2;clear gU yK)|(go_at_call 146;(with_reducible refine(aH.calls g t118 t119 t120 t119 t124 t125 t126 w0 _ ?side1 ?side2 A10.o).mono ?_);(case side1=>repeat(first|(with_reducible first|exact HI0.o|apply ag.alloc|apply ag.drewN|apply ag.drew|apply ag.bG|apply ag.bE|apply ag.bF)|exact HI0.o));(case side2=>repeat(first|(with_reducible first|exact HB.o|apply ae|apply ah|apply ak|refine au ?_ (ag.ge HI0.o))|exact HB.o));rintro e yz ⟨rfl,hi,hb,hk⟩;have dH:=ai (az.trans (by repeat(first|(with_reducible first|exact HK.o|apply az.cO|apply aC|apply aJ|apply aG)|exact HK.o)) hk (.inl rfl));have dU:=ai (hb);have dS:=ai (hi);clear HK;clear HB;clear HI0;have HK:=dH;have HB:=dU;have HI0:=dS;clear dH dU dS;(try clear hb);(try clear hb2);(try clear hk);(try clear hi)));try go_wp2_with (first|(go_at_call 144;(with_reducible refine(aA.calls k g s0_0 s0_1 s0_2 t118 t119 t120 w0 _ ?side1 ?side2 A3.o).mono ?_);(case side1=>repeat(first|(with_reducible first|exact HI0.o|apply ag.alloc|apply ag.drewN|apply ag.drew|apply ag.bG|apply ag.bE|apply ag.bF)|exact HI0.o));(case side2=>repeat(first|(with_reducible first|exact HB.o|apply ae|apply ah|apply ak|refine au ?_ (ag.ge HI0.o))|exact HB.o));rintro e rC ⟨rfl,hi,hb,hk⟩;have dH:=ai (az.trans (by repeat(first|(with_reducible first|exact HK.o|apply az.cO|apply aC|apply aJ|apply aG)|exact HK.o)) hk (.inl rfl));have dU:=ai (hb);have dS:=ai (hi);clear HK;clear HB;clear HI0;have HK:=dH;have HB:=dU;have HI0:=dS;clear dH dU dS;(try clear hb);(try clear hb2);(try clear hk);(try clear hi);obtain⟨gU,yK⟩:=HI0.o;have oZ:=aT gU;have oM:=aR gU;have oL:=aU gU;have o6:=af gU 0;have oG:=af gU 1;have o5:=af gU 2;clear gU yK)|(go_at_call 146;(with_reducible refine(aH.calls g t118 t119 t120 t119 t124 t125 t126 w0 _ ?side1 ?side2 A10.o).mono ?_);(case side1=>repeat(first|(with_reducible first|exact HI0.o|apply ag.alloc|apply ag.drewN|apply ag.drew|apply ag.bG|apply ag.bE|apply ag.bF)|exact HI0.o));(case side2=>repeat(first|(with_reducible first|exact HB.o|apply ae|apply ah|apply ak|refine au ?_ (ag.ge HI0.o))|exact HB.o));rintro e yz ⟨rfl,hi,hb,hk⟩;have dH:=ai (az.trans (by repeat(first|(with_reducible first|exact HK.o|apply az.cO|apply aC|apply aJ|apply aG)|exact HK.o)) hk (.inl rfl));have dU:=ai (hb);have dS:=ai (hi);clear HK;clear HB;clear HI0;have HK:=dH;have HB:=dU;have HI0:=dS;clear dH dU dS;(try clear hb);(try clear hb2);(try clear hk);(try clear hi))))
   first|go_end0|((try simp only[Exit.inBlock,Exit.then]);refine bodyPost_ret (results_none rfl _ _ _) rfl ?_)
   exact⟨by first|rfl|(simp[bO,bP]<;>rfl)|(simp[*,bO,bP]<;>rfl),by repeat(first|(with_reducible first|exact HI0.o|apply ag.alloc|apply ag.drewN|apply ag.drew|apply ag.bG|apply ag.bE|apply ag.bF)|exact HI0.o),by repeat(first|(with_reducible first|exact HB.o|apply ae|apply ah|apply ak|refine au ?_ (ag.ge HI0.o))|exact HB.o),by repeat(first|(with_reducible first|exact HK.o|apply az.cO|apply aC|apply aJ|apply aG)|exact HK.o)⟩
  ·rw[if_neg c9] at H;have yh:decide ((wrap64 ((t118.size:Int)-t119))<(a1.size:Int))=false:=decide_eq_false c9;clear c9;by_cases c14:0<=t119
   ·rw[if_pos c14] at H;have abS:=eq_true c14;have abJ:decide (0<=t119)=true:=decide_eq_true c14;clear c14;by_cases c15:t119<=(wrap64 (t119+(a1.size:Int)))
    ·rw[if_pos c15] at H;have acV:=eq_true c15;have abW:decide (t119<=(wrap64 (t119+(a1.size:Int))))=true:=decide_eq_true c15;by_cases c16:(wrap64 (t119+(a1.size:Int)))<=(t118.size:Int)
     ·rw[if_pos c16] at H;have acy:=eq_true c16;have acY:decide ((wrap64 (t119+(a1.size:Int)))<=(t118.size:Int))=true:=decide_eq_true c16;by_cases c17:(t118.extract (t119:Int).toNat ((wrap64 (t119+(a1.size:Int))):Int).toNat).toList=a1.toList
      ·rw[if_pos c17] at H;have Ve:((t118.extract (t119:Int).toNat ((wrap64 (t119+(a1.size:Int))):Int).toNat).toList==a1.toList)=true:=beq_iff_eq.mpr c17;have VK:((t118.extract (t119:Int).toNat ((wrap64 (t119+(a1.size:Int))):Int).toNat).toList != a1.toList)=false:=bne_eq_false_iff_eq.mpr c17;clear c17;simp only[Option.some.injEq,Prod.mk.injEq] at H;obtain⟨rfl,rfl,rfl⟩:=H;go_enter Tryz.func202,Tryz.ntmps202
       go_wp2_with (first|(go_at_call 144;(with_reducible refine(aA.calls k g s0_0 s0_1 s0_2 t118 t119 t120 w0 _ ?side1 ?side2 A3.o).mono ?_);(case side1=>repeat(first|(with_reducible first|exact HI0.o|apply ag.alloc|apply ag.drewN|apply ag.drew|apply ag.bG|apply ag.bE|apply ag.bF)|exact HI0.o));(case side2=>repeat(first|(with_reducible first|exact HB.o|apply ae|apply ah|apply ak|refine au ?_ (ag.ge HI0.o))|exact HB.o));rintro e w18 ⟨rfl,hi,hb,hk⟩;have dH:=ai (az.trans (by repeat(first|(with_reducible first|exact HK.o|apply az.cO|apply aC|apply aJ|apply aG)|exact HK.o)) hk (.inl rfl));have dU:=ai (hb);have dS:=ai (hi);clear HK;clear HB;clear HI0;have HK:=dH;have HB:=dU;have HI0:=dS;clear dH dU dS;(try clear hb);(try clear hb2);(try clear hk);(try clear hi);obtain⟨jd,Ez⟩:=HI0.o;have Jj:=aT jd;have JG:=aR jd;have JL:=aU jd;have IZ:=af jd 0;have IB:=af jd 1;have IY:=af jd 2;clear jd Ez))
       repeat(go_quiet (first|(go_at_call 144;(with_reducible refine(aA.calls k g s0_0 s0_1 s0_2 t118 t119 t120 w0 _ ?side1 ?side2 A3.o).mono ?_);(case side1=>repeat(first|(with_reducible first|exact HI0.o|apply ag.alloc|apply ag.drewN|apply ag.drew|apply ag.bG|apply ag.bE|apply ag.bF)|exact HI0.o));(case side2=>repeat(first|(with_reducible first|exact HB.o|apply ae|apply ah|apply ak|refine au ?_ (ag.ge HI0.o))|exact HB.o));rintro e w18 ⟨rfl,hi,hb,hk⟩;have dH:=ai (az.trans (by repeat(first|(with_reducible first|exact HK.o|apply az.cO|apply aC|apply aJ|apply aG)|exact HK.o)) hk (.inl rfl));have dU:=ai (hb);have dS:=ai (hi);clear HK;clear HB;clear HI0;have HK:=dH;have HB:=dU;have HI0:=dS;clear dH dU dS;(try clear hb);(try clear hb2);(try clear hk);(try clear hi);obtain⟨jd,Ez⟩:=HI0.o;have Jj:=aT jd;have JG:=aR jd;have JL:=aU jd;have IZ:=af jd 0;have IB:=af jd 1;have IY:=af jd 2;clear jd Ez));try go_wp2_with (first|(go_at_call 144;(with_reducible refine(aA.calls k g s0_0 s0_1 s0_2 t118 t119 t120 w0 _ ?side1 ?side2 A3.o).mono ?_);(case side1=>repeat(first|(with_reducible first|exact HI0.o|apply ag.alloc|apply ag.drewN|apply ag.drew|apply ag.bG|apply ag.bE|apply ag.bF)|exact HI0.o));(case side2=>repeat(first|(with_reducible first|exact HB.o|apply ae|apply ah|apply ak|refine au ?_ (ag.ge HI0.o))|exact HB.o));rintro e w18 ⟨rfl,hi,hb,hk⟩;have dH:=ai (az.trans (by repeat(first|(with_reducible first|exact HK.o|apply az.cO|apply aC|apply aJ|apply aG)|exact HK.o)) hk (.inl rfl));have dU:=ai (hb);have dS:=ai (hi);clear HK;clear HB;clear HI0;have HK:=dH;have HB:=dU;have HI0:=dS;clear dH dU dS;(try clear hb);(try clear hb2);(try clear hk);(try clear hi);obtain⟨jd,Ez⟩:=HI0.o;have Jj:=aT jd;have JG:=aR jd;have JL:=aU jd;have IZ:=af jd 0;have IB:=af jd 1;have IY:=af jd 2;clear jd Ez)))
       first|go_end0|((try simp only[Exit.inBlock,Exit.then]);refine bodyPost_ret (results_none rfl _ _ _) rfl ?_)
       exact⟨by first|rfl|(simp[bO,bP]<;>rfl)|(simp[*,bO,bP]<;>rfl),by repeat(first|(with_reducible first|exact HI0.o|apply ag.alloc|apply ag.drewN|apply ag.drew|apply ag.bG|apply ag.bE|apply ag.bF)|exact HI0.o),by repeat(first|(with_reducible first|exact HB.o|apply ae|apply ah|apply ak|refine au ?_ (ag.ge HI0.o))|exact HB.o),by repeat(first|(with_reducible first|exact HK.o|apply az.cO|apply aC|apply aJ|apply aG)|exact HK.o)⟩
      ·rw[if_neg c17] at H;have Ve:((t118.extract (t119:Int).toNat ((wrap64 (t119+(a1.size:Int))):Int).toNat).toList==a1.toList)=false:=beq_eq_false_iff_ne.mpr c17;have VK:((t118.extract (t119:Int).toNat ((wrap64 (t119+(a1.size:Int))):Int).toNat).toList != a1.toList)=true:=bne_iff_ne.mpr c17;replace H:=Option.bind_eq_some_iff.mp H;obtain⟨⟨t127,t128,t129⟩,XE,H⟩:=H;replace H:(some (t127,t128,t129))=some (r1,r2,r3):=H;have UG:=ai XE;clear XE;simp only[Option.some.injEq,Prod.mk.injEq] at H;obtain⟨rfl,rfl,rfl⟩:=H;go_enter Tryz.func202,Tryz.ntmps202
       go_wp2_with (first|(go_at_call 144;(with_reducible refine(aA.calls k g s0_0 s0_1 s0_2 t118 t119 t120 w0 _ ?side1 ?side2 A3.o).mono ?_);(case side1=>repeat(first|(with_reducible first|exact HI0.o|apply ag.alloc|apply ag.drewN|apply ag.drew|apply ag.bG|apply ag.bE|apply ag.bF)|exact HI0.o));(case side2=>repeat(first|(with_reducible first|exact HB.o|apply ae|apply ah|apply ak|refine au ?_ (ag.ge HI0.o))|exact HB.o));rintro e w21 ⟨rfl,hi,hb,hk⟩;have dH:=ai (az.trans (by repeat(first|(with_reducible first|exact HK.o|apply az.cO|apply aC|apply aJ|apply aG)|exact HK.o)) hk (.inl rfl));have dU:=ai (hb);have dS:=ai (hi);clear HK;clear HB;clear HI0;have HK:=dH;have HB:=dU;have HI0:=dS;clear dH dU dS;(try clear hb);(try clear hb2);(try clear hk);(try clear hi);obtain⟨je,Em⟩:=HI0.o;have Je:=aT je;have Jh:=aR je;have Jt:=aU je;have Jc:=af je 0;have IW:=af je 1;have IX:=af je 2;clear je Em)|(go_at_call 146;(with_reducible refine(aH.calls g t118 t119 t120 t119 t127 t128 t129 w0 _ ?side1 ?side2 UG.o).mono ?_);(case side1=>repeat(first|(with_reducible first|exact HI0.o|apply ag.alloc|apply ag.drewN|apply ag.drew|apply ag.bG|apply ag.bE|apply ag.bF)|exact HI0.o));(case side2=>repeat(first|(with_reducible first|exact HB.o|apply ae|apply ah|apply ak|refine au ?_ (ag.ge HI0.o))|exact HB.o));rintro e w23 ⟨rfl,hi,hb,hk⟩;have dH:=ai (az.trans (by repeat(first|(with_reducible first|exact HK.o|apply az.cO|apply aC|apply aJ|apply aG)|exact HK.o)) hk (.inl rfl));have dU:=ai (hb);have dS:=ai (hi);clear HK;clear HB;clear HI0;have HK:=dH;have HB:=dU;have HI0:=dS;clear dH dU dS;(try clear hb);(try clear hb2);(try clear hk);(try clear hi)))
       repeat(go_quiet (first|(go_at_call 144;(with_reducible refine(aA.calls k g s0_0 s0_1 s0_2 t118 t119 t120 w0 _ ?side1 ?side2 A3.o).mono ?_);(case side1=>repeat(first|(with_reducible first|exact HI0.o|apply ag.alloc|apply ag.drewN|apply ag.drew|apply ag.bG|apply ag.bE|apply ag.bF)|exact HI0.o));(case side2=>repeat(first|(with_reducible first|exact HB.o|apply ae|apply ah|apply ak|refine au ?_ (ag.ge HI0.o))|exact HB.o));rintro e w21 ⟨rfl,hi,hb,hk⟩;have dH:=ai (az.trans (by repeat(first|(with_reducible first|exact HK.o|apply az.cO|apply aC|apply aJ|apply aG)|exact HK.o)) hk (.inl rfl));have dU:=ai (hb);have dS:=ai (hi);clear HK;clear HB;clear HI0;have HK:=dH;have HB:=dU;have HI0:=dS;clear dH dU dS;(try clear hb);(try clear hb2);(try clear hk);(try clear hi);obtain⟨je,Em⟩:=HI0.o;have Je:=aT je;have Jh:=aR je;have Jt:=aU je;have Jc:=af je 0;have IW:=af je 1;have IX:=af je 2;clear je Em)|(go_at_call 146;(with_reducible refine(aH.calls g t118 t119 t120 t119 t127 t128 t129 w0 _ ?side1 ?side2 UG.o).mono ?_);(case side1=>repeat(first|(with_reducible first|exact HI0.o|apply ag.alloc|apply ag.drewN|apply ag.drew|apply ag.bG|apply ag.bE|apply ag.bF)|exact HI0.o));(case side2=>repeat(first|(with_reducible first|exact HB.o|apply ae|apply ah|apply ak|refine au ?_ (ag.ge HI0.o))|exact HB.o));rintro e w23 ⟨rfl,hi,hb,hk⟩;have dH:=ai (az.trans (by repeat(first|(with_reducible first|exact HK.o|apply az.cO|apply aC|apply aJ|apply aG)|exact HK.o)) hk (.inl rfl));have dU:=ai (hb);have dS:=ai (hi);clear HK;clear HB;clear HI0;have HK:=dH;have HB:=dU;have HI0:=dS;clear dH dU dS;(try clear hb);(try clear hb2);(try clear hk);(try clear hi)));try go_wp2_with (first|(go_at_call 144;(with_reducible refine(aA.calls k g s0_0 s0_1 s0_2 t118 t119 t120 w0 _ ?side1 ?side2 A3.o).mono ?_);(case side1=>repeat(first|(with_reducible first|exact HI0.o|apply ag.alloc|apply ag.drewN|apply ag.drew|apply ag.bG|apply ag.bE|apply ag.bF)|exact HI0.o));(case side2=>repeat(first|(with_reducible first|exact HB.o|apply ae|apply ah|apply ak|refine au ?_ (ag.ge HI0.o))|exact HB.o));rintro e w21 ⟨rfl,hi,hb,hk⟩;have dH:=ai (az.trans (by repeat(first|(with_reducible first|exact HK.o|apply az.cO|apply aC|apply aJ|apply aG)|exact HK.o)) hk (.inl rfl));have dU:=ai (hb);have dS:=ai (hi);clear HK;clear HB;clear HI0;have HK:=dH;have HB:=dU;have HI0:=dS;clear dH dU dS;(try clear hb);(try clear hb2);(try clear hk);(try clear hi);obtain⟨je,Em⟩:=HI0.o;have Je:=aT je;have Jh:=aR je;have Jt:=aU je;have Jc:=af je 0;have IW:=af je 1;have IX:=af je 2;clear je Em)|(go_at_call 146;(with_reducible refine(aH.calls g t118 t119 t120 t119 t127 t128 t129 w0 _ ?side1 ?side2 UG.o).mono ?_);(case side1=>repeat(first|(with_reducible first|exact HI0.o|apply ag.alloc|apply ag.drewN|apply ag.drew|apply ag.bG|apply ag.bE|apply ag.bF)|exact HI0.o));(case side2=>repeat(first|(with_reducible first|exact HB.o|apply ae|apply ah|apply ak|refine au ?_ (ag.ge HI0.o))|exact HB.o));rintro e w23 ⟨rfl,hi,hb,hk⟩;have dH:=ai (az.trans (by repeat(first|(with_reducible first|exact HK.o|apply az.cO|apply aC|apply aJ|apply aG)|exact HK.o)) hk (.inl rfl));have dU:=ai (hb);have dS:=ai (hi);clear HK;clear HB;clear HI0;have HK:=dH;have HB:=dU;have HI0:=dS;clear dH dU dS;(try clear hb);(try clear hb2);(try clear hk);(try clear hi))))
       first|go_end0|((try simp only[Exit.inBlock,Exit.then]);refine bodyPost_ret (results_none rfl _ _ _) rfl ?_)
       exact⟨by first|rfl|(simp[bO,bP]<;>rfl)|(simp[*,bO,bP]<;>rfl),by repeat(first|(with_reducible first|exact HI0.o|apply ag.alloc|apply ag.drewN|apply ag.drew|apply ag.bG|apply ag.bE|apply ag.bF)|exact HI0.o),by repeat(first|(with_reducible first|exact HB.o|apply ae|apply ah|apply ak|refine au ?_ (ag.ge HI0.o))|exact HB.o),by repeat(first|(with_reducible first|exact HK.o|apply az.cO|apply aC|apply aJ|apply aG)|exact HK.o)⟩
     ·rw[if_neg c16] at H;exact absurd H (by simp)
    ·rw[if_neg c15] at H;exact absurd H (by simp)
   ·rw[if_neg c14] at H;exact absurd H (by simp)
end Go.Proofs.YtnmpijbcajclgaaGreatDoor.PNodeAlone
end
section
end
