/-
  Texts in one (only what XmlWrites needs): RepP, RepW, XmlWP, XmlWW, LXmlWritesP, LXmlWritesW, XmA, PnTrim, PnPlainE, PnLoose, PnNum, PnSign, PnGone, PnLooseEq, PnLooseB, PnApp, XmP, XmQ, XmS, XmT, XmL, XmN, XmW, PnEnc, PnEncB, PnBackE, XmWr.
-/
import Derived.Test.YteokdkimegepoaaGreatDoorZXmlWrites4
import Derived.Lib.IndexMore
import Derived.Test.YteokdkimegepoaaGreatDoorShelf
import Derived.Lib.ItoaNum
import Derived.Lib.IndexLaws
import Derived.Test.YteokdkimegepoaaGreatDoorChecked
import Derived.Laws.RangeAny
set_option linter.unusedVariables false
set_option linter.unusedSimpArgs false
set_option linter.unusedSectionVars false
namespace Go.Pv
def yM (F:Nat) (a1:Bool):Option Int :=
bif a1 then
  some 1
else
  some 0
def ze (F:Nat) (a2:Int) (a3:Int):Option Bool :=
some (!decide (a2=0))
def xg (F:Nat) (a4:Bool):Option Int :=
bnd (yM F a4) fun x6 =>
some x6
def tj (F:Nat):Option Unit :=
some ()
def kV:Option Unit :=
some ()
def kU:Option Unit :=
kV
def pG (F:Nat) (a2:Int):Option Unit :=
kU
def zd (F:Nat):Option Unit :=
bnd (tj F) fun _ =>
some ()
def uv (F:Nat) (a2:Int):Option Unit :=
bnd (pG F a2) fun _ =>
some ()
def entOld:List (List UInt8):=[([38]:List UInt8),([38,97,109,112,59]:List UInt8),([60]:List UInt8),([38,108,116,59]:List UInt8),([62]:List UInt8),([38,103,116,59]:List UInt8),([34]:List UInt8),([38,113,117,111,116,59]:List UInt8)]
def lw:List (Option (List UInt8)):=(List.range 256).map fun k=>if k=38 then some ([38,97,109,112,59]:List UInt8) else if k=60 then some ([38,108,116,59]:List UInt8) else if k=62 then some ([38,103,116,59]:List UInt8) else if k=34 then some ([38,113,117,111,116,59]:List UInt8) else none
def entRep:List (List UInt8):=[[34],[62],[60],[38]]
def mA (y44:List (List UInt8)):Option ((List (List UInt8))) :=
some y44
def mz (y40:List (List UInt8)):Option ((List (List UInt8))) :=
grd (cI ([38,97,109,112,59]:List UInt8).length) <|
mA y40
def my (y32:List (List UInt8)):Option ((List (List UInt8))) :=
grd (cI ([38,108,116,59]:List UInt8).length) <|
grd (cI (y32.length+([([38]:List UInt8)]:List (List UInt8)).length)) <|
lt (y32++([([38]:List UInt8)]:List (List UInt8))) fun x38 =>
mz x38
def mx (y24:List (List UInt8)):Option ((List (List UInt8))) :=
grd (cI ([38,103,116,59]:List UInt8).length) <|
grd (cI (y24.length+([([60]:List UInt8)]:List (List UInt8)).length)) <|
lt (y24++([([60]:List UInt8)]:List (List UInt8))) fun x30 =>
my x30
def mw (y16:List (List UInt8)):Option ((List (List UInt8))) :=
grd (cI ([38,113,117,111,116,59]:List UInt8).length) <|
grd (cI (y16.length+([([62]:List UInt8)]:List (List UInt8)).length)) <|
lt (y16++([([62]:List UInt8)]:List (List UInt8))) fun x22 =>
mx x22
def mu:Option ((List (List UInt8))) :=
grd (kE 8 2) <|
grd (cI (([]:List (List UInt8)).length+([([34]:List UInt8)]:List (List UInt8)).length)) <|
lt (([]:List (List UInt8))++([([34]:List UInt8)]:List (List UInt8))) fun x14 =>
mw x14
def mr:Option ((List (List UInt8))) :=
mu
def mq:Option ((List (List UInt8))) :=
mr
def mo:Option ((List (List UInt8))) :=
mq
def lH:Option ((List (List UInt8))) :=
mo
def lG:Option ((List (List UInt8))) :=
lH
def xk (F:Nat):Option ((List (List UInt8))) :=
lG
def oT:Option Unit :=
grd (cI entOld.length) <|
some ()
def rp_New (F:Nat):Option Unit :=
grd (kE 8 2) <|
oT
def jq (y55:Int) (y93:List UInt8):Option ((List UInt8)) :=
grd (decide (y93.length=Int.toNat y55)) <|
some y93
def hC (y62:Int) (rec64:(Int×Int×(List UInt8))→Option ((List UInt8))) (y89:Int) (y90:List UInt8):Option ((List UInt8)) :=
grd (okI (y62+1)) <|
rec64 (y89,y62+1,y90)
def js (a2:List UInt8) (y55:Int) (rec64:(Int×Int×(List UInt8))→Option ((List UInt8))) (y61:Int) (y62:Int) (y63:List UInt8):Option ((List UInt8)) :=
bif decide (y62 < (a2.length:Int)) then
  grd (co y62 a2.length) <|
  lt (at_ a2 y62) fun x68 =>
  grd (co (x68.toNat:Int) 256) <|
  lt (at_ lw (x68.toNat:Int)) fun x71 =>
  grd (decide (x71≠some [])) <|
  bif !x71.isNone then
    grd (decide (0≤y61∧y61 < Int.toNat y55)) <|
    grd (co (x68.toNat:Int) 256) <|
    lt (at_ lw (x68.toNat:Int)) fun x77 =>
    grd (decide ((x77.getD []).length≤Int.toNat y55 - Int.toNat y61)) <|
    grd (decide (Int.toNat y61+(x77.getD []).length≤y63.length)) <|
    lt (List.take (Int.toNat y61) y63++(x77.getD [])++List.drop (Int.toNat y61+(x77.getD []).length) y63) fun x81 =>
    grd (okI (y61+((x77.getD []).length:Int))) <|
    hC y62 rec64 (y61+((x77.getD []).length:Int)) x81
  else
    grd (co y61 (Int.toNat y55)) <|
    grd (co y61 y63.length) <|
    lt (y63.set (Int.toNat y61) x68) fun x86 =>
    grd (okI (y61+1)) <|
    hC y62 rec64 (y61+1) x86
else
  jq y55 y63
def fT (a2:List UInt8) (y55:Int) (n:Nat):(Int×Int×(List UInt8))→Option ((List UInt8)) :=
  loop (fun rec x=>js a2 y55 rec x.1 x.2.1 x.2.2) n
def eh (F:Nat) (a2:List UInt8) (y55:Int) (y56:Bool):Option ((List UInt8)) :=
bif !y56 then
  some a2
else
  grd (co y55 1000000000) <|
  fT a2 y55 F (0,0,List.replicate (Int.toNat y55) 0)
def gZ (y8:Int) (rec9:(Int×Bool×Int)→Option ((List UInt8))) (y28:Int) (y29:Bool):Option ((List UInt8)) :=
grd (okI (y8+1)) <|
rec9 (y28,y29,y8+1)
def fU (F:Nat) (a2:List UInt8) (rec9:(Int×Bool×Int)→Option ((List UInt8))) (y6:Int) (y7:Bool) (y8:Int):Option ((List UInt8)) :=
bif decide (y8 < (entRep.length:Int)) then
  grd (co y8 entRep.length) <|
  lt (at_ entRep y8) fun x13 =>
  grd (decide (x13.length=1)) <|
  lt (Go.Lib.countByte a2 (at_ x13 0):Int) fun x16 =>
  bif !decide (x16=0) then
    grd (co 0 x13.length) <|
    lt (at_ x13 0) fun x20 =>
    grd (co (x20.toNat:Int) 256) <|
    lt (at_ lw (x20.toNat:Int)) fun x23 =>
    grd (okI (((x23.getD []).length:Int) - 1)) <|
    grd (okI (x16*(((x23.getD []).length:Int) - 1))) <|
    grd (okI (y6+(x16*(((x23.getD []).length:Int) - 1)))) <|
    gZ y8 rec9 (y6+(x16*(((x23.getD []).length:Int) - 1))) true
  else
    gZ y8 rec9 y6 y7
else
  eh F a2 y6 y7
def da (F:Nat) (a2:List UInt8) (n:Nat):(Int×Bool×Int)→Option ((List UInt8)) :=
  loop (fun rec x=>fU F a2 rec x.1 x.2.1 x.2.2) n
def gY (y34:Int) (rec35:(Int×Bool×Int)→Option ((List UInt8))) (y51:Int) (y52:Bool):Option ((List UInt8)) :=
grd (okI (y34+1)) <|
rec35 (y51,y52,y34+1)
def jr (F:Nat) (a2:List UInt8) (rec35:(Int×Bool×Int)→Option ((List UInt8))) (y32:Int) (y33:Bool) (y34:Int):Option ((List UInt8)) :=
bif decide (y34 < (a2.length:Int)) then
  grd (co y34 a2.length) <|
  lt (at_ a2 y34) fun x39 =>
  grd (co (x39.toNat:Int) 256) <|
  lt (at_ lw (x39.toNat:Int)) fun x42 =>
  grd (decide (x42≠some [])) <|
  bif !x42.isNone then
    grd (co (x39.toNat:Int) 256) <|
    lt (at_ lw (x39.toNat:Int)) fun x47 =>
    grd (okI (((x47.getD []).length:Int) - 1)) <|
    grd (okI (y32+(((x47.getD []).length:Int) - 1))) <|
    gY y34 rec35 (y32+(((x47.getD []).length:Int) - 1)) true
  else
    gY y34 rec35 y32 y33
else
  eh F a2 y32 y33
def fS (F:Nat) (a2:List UInt8) (n:Nat):(Int×Bool×Int)→Option ((List UInt8)) :=
  loop (fun rec x=>jr F a2 rec x.1 x.2.1 x.2.2) n
def iO (F:Nat) (a2:List UInt8):Option ((List UInt8)) :=
grd (okI ((entRep.length:Int)*8)) <|
bif decide ((entRep.length:Int)*8≤(a2.length:Int)) then
  da F a2 F ((a2.length:Int),false,0)
else
  fS F a2 F ((a2.length:Int),false,0)
end Go.Pv
namespace Go.Proofs.YteokdkimegepoaaGreatDoor
open Go.RowKit Go.Av Go.Pv
theorem Bv:∀ (args:Array Value) (w:World),(callFunc 127 args).run Tryz.prog w=.ok (.enter 127 args) w:=fun _ _=>by kernel_rfl
theorem Bu:∀ (args:Array Value) (w:World),(callFunc 128 args).run Tryz.prog w=.ok (.enter 128 args) w:=fun _ _=>by kernel_rfl
theorem Bq:∀ (args:Array Value) (w:World),(callFunc 130 args).run Tryz.prog w=.ok (.enter 130 args) w:=fun _ _=>by kernel_rfl
theorem Be:∀ (args:Array Value) (w:World),(callFunc 213 args).run Tryz.prog w=.ok (.enter 213 args) w:=fun _ _=>by kernel_rfl
set_option maxRecDepth 100000 in
set_option maxHeartbeats 1000000 in
theorem w_sy_b32 (F:Nat) (a1:Bool) (r2:Int) (H:yM F a1=some r2):ACalls Tryz.prog 130 [B a1] [] (Ret (.v (.int .u32 r2)) []):=by
 unfold yM at H
 refine az Tryz.func130 rfl rfl ?_;show AW _ _ 4 _ _ _;refine ac<|aa ?_;show AR _ _ _ _ _ [0] _;refine za rfl<|ag<|ac<|ac<|aa ?_;show AR _ _ _ _ _ [0] _;refine zm rfl<|ag<|ax rfl (fun c3=>?_) (fun c3=>?_)
 ·replace H:=be c3 H;refine ac<|aa ?_;show AR _ _ _ _ _ [0] _;refine za rfl<|ag<|aQ ?_;obtain rfl:=aq H;exact And.intro rfl (Exists.intro _ (Exists.intro _ ⟨aO rfl (.refl _),aK [] rfl,rfl,rfl⟩))
 ·replace H:=bf c3 H;refine aC<|ac<|aa ?_;show AR _ _ _ _ _ [0] _;refine za rfl<|ag<|aQ ?_;obtain rfl:=aq H;exact And.intro rfl (Exists.intro _ (Exists.intro _ ⟨aO rfl (.refl _),aK [] rfl,rfl,rfl⟩))
set_option maxRecDepth 100000 in
set_option maxHeartbeats 1000000 in
theorem uq (F:Nat) (o1:Nat) (a2:Int) (a3:Int) (v4:AV) (v5:AV) (r6:Bool) (H:ze F a2 a3=some r6):ACalls Tryz.prog 98 [.pt o1 0] [.obj o1 [.v (.int .u32 a2),.v (.int .i32 a3),.v (.int .u32 0),v4,v5]] (fun e A'=>e=.ret (B r6)∧A'=[.obj o1 [.v (.int .u32 a2),.v (.int .i32 a3),.v (.int .u32 0),v4,v5]]):=by
 unfold ze at H
 refine az Tryz.func98 rfl rfl ?_;show AW _ _ 8 _ _ _;refine ac<|aa ?_;show AR _ _ _ _ _ [0] _;refine za rfl<|ag<|ac<|aa ?_;show AR _ _ _ _ _ [0,1,2,3,4,5] _;refine zS rfl (ah (av:=.pt _ _) rfl)<|zS rfl (am rfl)<|zS rfl (ai (n:=0) (by kernel_rfl) rfl)<|zR rfl (vH (i:=0) (k:=.u32) ⟨Tryz.func114,by kernel_rfl,by kernel_rfl,by kernel_rfl,by kernel_rfl⟩ rfl rfl rfl)<|zS rfl (dD rfl rfl)<|za rfl<|ag<|aQ ?_;obtain rfl:=aq H;exact And.intro rfl (Exists.intro _ (Exists.intro _ ⟨aO rfl (.refl _),aK [0] rfl,rfl,rfl⟩))
set_option maxRecDepth 100000 in
set_option maxHeartbeats 1000000 in
theorem yH (u:FrameMode) (F:Nat) (o1:Nat) (v2:AV) (v3:AV) (a4:Bool) (r5:Int) (H:xg F a4=some r5):ADCalls Tryz.prog 117 [.pt o1 0,B a4] [.obj o1 [.v (.int .u32 0),.v (.int .i32 1),.v (.int .u32 0),v2,v3]] u (fun ae u' A'=>ae=.ret (.tup [])∧u'=u∧A'=[.obj o1 [.v (.int .u32 r5),.v (.int .i32 1),.v (.int .u32 0),v2,v3]]):=by
 unfold xg at H
 refine ADCalls.of_body Tryz.func117 rfl rfl ?_;show AW _ _ 10 _ _ _;obtain ⟨x6,e7,H⟩:=cm H;refine bn (by kernel_rfl) ?_;show AI _ _ _ _ _ 6 (Array.replicate 6 false) _;refine zk 0 rfl (ah (av:=.pt _ _) rfl) ?_;show zI 6 1;refine zk 1 rfl (am rfl) ?_;show zI 6 3;refine zk 2 rfl (ai (n:=0) (by kernel_rfl) rfl) ?_;show zI 6 7;refine zk 3 rfl (mv rfl) ?_;show zI 6 15;refine bj (i:=4) (by kernel_rfl) rfl rfl<|dV rfl Bq rfl (w_sy_b32 F a4 x6 e7) ?_;show zI 6 31;refine bj (i:=5) (by kernel_rfl) rfl rfl<|aJ rfl (ud (i:=0) ⟨Tryz.func129,by kernel_rfl,by kernel_rfl,by kernel_rfl,by kernel_rfl⟩ rfl rfl rfl rfl) ?_;show zI 6 63;refine bw rfl ?_;obtain rfl:=aq H;exact And.intro rfl (Exists.intro _ (Exists.intro _ ⟨bp rfl,aK [0] rfl,rfl,rfl,rfl⟩))
set_option maxRecDepth 100000 in
set_option maxHeartbeats 1000000 in
theorem xS (F:Nat) (o1:Nat) (v2:AV) (v3:AV) (H:tj F=some ()):ACalls Tryz.prog 127 [.pt o1 1] [.obj o1 [.v (.int .u32 0),.v (.int .i32 0),.v (.int .u32 0),v2,v3]] (fun e A'=>e=.ret (.tup [])∧A'=[.obj o1 [.v (.int .u32 0),.v (.int .i32 1),.v (.int .u32 0),v2,v3]]):=by
 unfold tj at H
 refine az Tryz.func127 rfl rfl ?_;show AW _ _ 13 _ _ _;refine ac<|aa ?_;show AR _ _ _ _ _ [0] _;refine zR rfl (oW .disable ⟨Tryz.func138,by kernel_rfl,by kernel_rfl,by kernel_rfl,by kernel_rfl⟩)<|ag<|ac<|ac<|aa ?_;show AR _ _ _ _ _ [0,1,2,3] _;refine zS rfl (ah (av:=.pt _ _) rfl)<|zS rfl (am rfl)<|zS rfl (ai (n:=0) (by kernel_rfl) rfl)<|zR rfl (wL (i:=0) (k:=.i32) ⟨Tryz.func139,by kernel_rfl,by kernel_rfl,by kernel_rfl,by kernel_rfl⟩ rfl rfl rfl rfl rfl)<|ag<|ax rfl (fun _=>?_) (fun hx=>bP rfl hx);refine ac<|ax rfl (fun _=>?_) (fun hx=>bP rfl hx);refine ac<|aa ?_;show AR _ _ _ _ _ [0] _;refine zR rfl (oW .enable ⟨Tryz.func140,by kernel_rfl,by kernel_rfl,by kernel_rfl,by kernel_rfl⟩)<|ag<|aa ?_;show AR _ _ _ _ _ [0,1,2] _;refine zS rfl (ah (av:=.pt _ _) rfl)<|zR rfl (qe (i:=0) Tryz.underlying169 fJ (by kernel_rfl) rfl rfl rfl)<|zR rfl (uC .acquire ⟨Tryz.func141,by kernel_rfl,by kernel_rfl,by kernel_rfl,by kernel_rfl⟩ rfl)<|ag<|aQ ?_;exact And.intro rfl (Exists.intro _ (Exists.intro _ ⟨bp rfl,aK [0] rfl,rfl,rfl⟩))
set_option maxRecDepth 100000 in
set_option maxHeartbeats 1000000 in
theorem vu (F:Nat) (o1:Nat) (a2:Int) (v3:AV) (v4:AV) (H:pG F a2=some ()):ACalls Tryz.prog 128 [.pt o1 1] [.obj o1 [.v (.int .u32 a2),.v (.int .i32 1),.v (.int .u32 0),v3,v4]] (fun e A'=>e=.ret (.tup [])∧A'=[.obj o1 [.v (.int .u32 a2),.v (.int .i32 0),.v (.int .u32 0),v3,v4]]):=by
 unfold pG at H
 refine az Tryz.func128 rfl rfl ?_;show AW _ _ 21 _ _ _;refine bq (X:=Unit) (fun _=>⟨[(0,.pt o1 1)],[],[.obj o1 [.v (.int .u32 a2),.v (.int .i32 1),.v (.int .u32 0),v3,v4]]⟩) (fun _=>kU=some ()) ?_ ?_
 ·refine ax rfl (fun _=>?_) (fun hx=>bP rfl hx);refine ac<|aa ?_;show AR _ _ _ _ _ [0,1,2,3] _;refine zS rfl (ah (av:=.pt _ _) rfl)<|zS rfl (am rfl)<|zS rfl (ai (n:=0) (by kernel_rfl) rfl)<|zR rfl (al (i:=0) fL rfl rfl rfl rfl)<|ag<|ac<|aa ?_;show AR _ _ _ _ _ [0,1,2] _;refine zS rfl (ah (av:=.pt _ _) rfl)<|zR rfl (qe (i:=0) Tryz.underlying169 fJ (by kernel_rfl) rfl rfl rfl)<|zR rfl (uC .releaseMerge ⟨Tryz.func143,by kernel_rfl,by kernel_rfl,by kernel_rfl,by kernel_rfl⟩ rfl)<|ag<|aa ?_;show AR _ _ _ _ _ [0] _;refine zR rfl (oW .disable ⟨Tryz.func138,by kernel_rfl,by kernel_rfl,by kernel_rfl,by kernel_rfl⟩)<|ag ?_;exact Exists.intro () ⟨H,aP [0] (.cons (.refl _) (.nil _)) rfl⟩
 rintro _ H;replace H:kU=some ():=H
 unfold kU at H
 refine ac<|aa ?_;show AR _ _ _ _ _ [0,1,2,3,4] _;refine zS rfl (ah (av:=.pt _ _) rfl)<|zS rfl (am rfl)<|zS rfl (ai (n:=0) (by kernel_rfl) rfl)<|zR rfl (wM (i:=0) (k:=.i32) (s:=0) ⟨Tryz.func144,by kernel_rfl,by kernel_rfl,by kernel_rfl,by kernel_rfl⟩ rfl rfl rfl rfl (by decide))<|za rfl<|ag<|bq (X:=Unit) (fun _=>⟨[],[],[.obj o1 [.v (.int .u32 a2),.v (.int .i32 0),.v (.int .u32 0),v3,v4]]⟩) (fun _=>kV=some ()) ?_ ?_
 ·refine ac<|aa ?_;show AR _ _ _ _ _ [0,1] _;refine zm rfl<|zS rfl (bo (av':=B false) (dD rfl rfl) (aw (by decide)))<|ag<|ax rfl (fun hx=>bP hx rfl) (fun _=>?_);refine aC ?_;exact Exists.intro () ⟨H,aP [0] (.nil _) rfl⟩
 rintro _ H;replace H:kV=some ():=H
 unfold kV at H
 refine aa ?_;show AR _ _ _ _ _ [0] _;refine zR rfl (oW .enable ⟨Tryz.func140,by kernel_rfl,by kernel_rfl,by kernel_rfl,by kernel_rfl⟩)<|ag ?_;exact And.intro rfl (Exists.intro _ (Exists.intro _ ⟨bp rfl,aK [0] rfl,rfl,rfl⟩))
set_option maxRecDepth 100000 in
set_option maxHeartbeats 1000000 in
theorem zW (F:Nat) (o1:Nat) (v2:AV) (v3:AV) (H:zd F=some ()):ACalls Tryz.prog 115 [.pt o1 1] [.obj o1 [.v (.int .u32 0),.v (.int .i32 0),.v (.int .u32 0),v2,v3]] (fun e A'=>e=.ret (.tup [])∧A'=[.obj o1 [.v (.int .u32 0),.v (.int .i32 1),.v (.int .u32 0),v2,v3]]):=by
 unfold zd at H
 refine az Tryz.func115 rfl rfl ?_;show AW _ _ 6 _ _ _;obtain ⟨_,e4,H⟩:=cm H;refine aa ?_;show AR _ _ _ _ _ [0,1,2,3] _;refine zS rfl (ah (av:=.pt _ _) rfl)<|zS rfl (am rfl)<|zS rfl (ai (n:=0) (by kernel_rfl) rfl)<|ar rfl rfl (aY [0] rfl Bv rfl (xS F o1 v2 v3 e4) rfl (fun c A' h=>by cases h.1) ?_)
 rintro av A' ⟨h,rfl⟩; cases h
 refine ag ?_;exact And.intro rfl (Exists.intro _ (Exists.intro _ ⟨bp rfl,aK [0] rfl,rfl,rfl⟩))
set_option maxRecDepth 100000 in
set_option maxHeartbeats 1000000 in
theorem wW (u:FrameMode) (F:Nat) (o1:Nat) (a2:Int) (v3:AV) (v4:AV) (H:uv F a2=some ()):ADCalls Tryz.prog 116 [.pt o1 1] [.obj o1 [.v (.int .u32 a2),.v (.int .i32 1),.v (.int .u32 0),v3,v4]] u (fun ae u' A'=>ae=.ret (.tup [])∧u'=u∧A'=[.obj o1 [.v (.int .u32 a2),.v (.int .i32 0),.v (.int .u32 0),v3,v4]]):=by
 unfold uv at H
 refine ADCalls.of_body Tryz.func116 rfl rfl ?_;show AW _ _ 6 _ _ _;obtain ⟨_,e5,H⟩:=cm H;refine aa ?_;show AR _ _ _ _ _ [0,1,2,3] _;refine zS rfl (ah (av:=.pt _ _) rfl)<|zS rfl (am rfl)<|zS rfl (ai (n:=0) (by kernel_rfl) rfl)<|ar rfl rfl (aY [0] rfl Bu rfl (vu F o1 a2 v3 v4 e5) rfl (fun c A' h=>by cases h.1) ?_)
 rintro av A' ⟨h,rfl⟩; cases h
 refine ag ?_;exact And.intro rfl (Exists.intro _ (Exists.intro _ ⟨bp rfl,aK [0] rfl,rfl,rfl,rfl⟩))
def gw (r:List (List UInt8)) (q:Option Nat):List AV:=Enc.ob.fl lw++[slE Enc.str r q]
theorem zA (q:Option Nat):AV.cp ((gw entRep q).drop 256)=.cp [slE Enc.str entRep q]:=by kernel_rfl
theorem entLe (q:Option Nat):256≤(gw entRep q).length:=by
 have:(gw entRep q).length=257:=by kernel_rfl
 omega
theorem yh (s c:List UInt8) (hc:c.length=1):ACalls Tryz.prog 213 [S s,S c] [] (Ret (i64 (Go.Lib.countByte s (at_ c 0):Int)) []):=by
 obtain ⟨b,rfl⟩:∃ b,c=[b]:=by
  match c,hc with
  | [b],_=>exact ⟨b,rfl⟩
 refine fF fun I A w vs hI hv=>?_
 obtain ⟨v1,r1,rfl,h1,hv⟩:=hv.out_cons;obtain ⟨v2,r2,rfl,h2,hv⟩:=hv.out_cons
 rw [hv.out_nil,kD h1,kD h2]
 refine (Tryz.strings_Count_one ⟨s.toArray⟩ b w).mono fun e w' ⟨he,hw⟩=>⟨by simpa [at_] using he,hw ▸ Below.refl _ _⟩
abbrev _root_.Go.Av.ck := @Tryz.underlying138
set_option maxRecDepth 100000 in
set_option maxHeartbeats 1000000 in
theorem xT (F:Nat) (o1:Nat) (q2:Option Nat) (r:List (List UInt8)) (H:xk F=some r):ACalls Tryz.prog 100 [.pt o1 0] [.obj o1 [.v (.int .u32 0),.v (.int .i32 1),.v (.int .u32 0),.v .nilIface,slE Enc.str entOld q2]] (fun e A'=>∃ t:Nat,e=.ret (.ifc 141 (.cp (gw r (some t))))∧A'=[.obj o1 [.v (.int .u32 0),.v (.int .i32 1),.v (.int .u32 0),.v .nilIface,slE Enc.str entOld q2]]):=by
 unfold xk at H
 refine az Tryz.func100 rfl rfl ?_;show AW _ _ 132 _ _ _;refine ac<|aa ?_;show AR _ _ _ _ _ [0] _;refine za rfl<|ag<|ac<|aa ?_;show AR _ _ _ _ _ [0,1,2,3,4] _;refine zS rfl (ah (av:=.pt _ _) rfl)<|zS rfl (am rfl)<|zS rfl (ai (n:=4) (by kernel_rfl) rfl)<|zR rfl (al (i:=0) ao rfl rfl rfl rfl)<|zS rfl (aZ (av:=slE _ _ _) rfl)<|ag<|ac<|ac<|aa ?_;show AR _ _ _ _ _ [0,1,2,3,4,5,6,7,8,9] _;refine zS rfl (ah (av:=slE _ _ _) rfl)<|zS rfl (bo (av':=i64 8) (bh ao rfl) rfl)<|zS rfl (bo (av':=B false) (bI rfl rfl) (aw (by decide)))<|zm rfl<|zF rfl rfl<|zF rfl rfl<|zF rfl rfl<|zF rfl rfl<|zF rfl rfl<|zS rfl (aF (av:=.v _) rfl rfl rfl)<|ag<|ax rfl (fun hx=>bP hx rfl) (fun _=>?_);refine aC<|ac<|aa ?_;show AR _ _ _ _ _ [0] _;refine za rfl<|ag<|bq (X:=Unit) (fun _=>⟨[(3,slE Enc.str entOld q2),(4,B false)],[],[.obj o1 [.v (.int .u32 0),.v (.int .i32 1),.v (.int .u32 0),.v .nilIface,slE Enc.str entOld q2]]⟩) (fun _=>mr=some r) ?_ ?_
 ·refine ac<|aa ?_;show AR _ _ _ _ _ [0] _;refine za rfl<|ag<|aR<|rd 6<|ac<|ac<|aa ?_;show AR _ _ _ _ _ [0,1,2,3] _;refine zm rfl<|zS rfl (ah (av:=slE _ _ _) rfl)<|zS rfl (bo (av':=i64 8) (bh ao rfl) rfl)<|zS rfl (bo (av':=B true) (bN rfl rfl) (aw (by decide)))<|ag<|ax rfl (fun _=>?_) (fun hx=>bP rfl hx);refine aC<|bq (X:=Unit) (fun _=>⟨[(3,slE Enc.str entOld q2),(4,B false),(5,i64 0)],[],[.obj o1 [.v (.int .u32 0),.v (.int .i32 1),.v (.int .u32 0),.v .nilIface,slE Enc.str entOld q2]]⟩) (fun _=>lG=some r) ?_ ?_
  ·refine aR<|ac<|ac<|aa ?_;show AR _ _ _ _ _ [0,1,2,3,4,5] _;refine zS rfl (ah (av:=slE _ _ _) rfl)<|zm rfl<|zS rfl (bH (E:=Enc.str) (m:=0) ao (by kernel_rfl) rfl rfl rfl rfl)<|zS rfl (aG ab rfl rfl)<|zS rfl (bo (av':=i64 1) (aW ab rfl) rfl)<|zS rfl (bo (av':=B false) (dD rfl rfl) (aw (by decide)))<|ag<|ax rfl (fun hx=>bP hx rfl) (fun _=>?_);refine aC<|ac<|aa ?_;show AR _ _ _ _ _ [0,1,2,3,4,5,6] _;refine zS rfl (ah (av:=slE _ _ _) rfl)<|zm rfl<|zS rfl (bo (av':=i64 1) (bB rfl rfl (by decide)) rfl)<|zS rfl (bH (E:=Enc.str) (m:=1) ao (by kernel_rfl) rfl rfl rfl rfl)<|zS rfl (aG ab rfl rfl)<|zS rfl (bo (av':=i64 5) (aW ab rfl) rfl)<|zS rfl (bo (av':=B true) (dD rfl rfl) (aw (by decide)))<|ag<|ax rfl (fun _=>?_) (fun hx=>bP rfl hx);refine aa ?_;show AR _ _ _ _ _ [0] _;refine za rfl<|ag ?_;exact Exists.intro () ⟨H,aP [0] (.cons (.refl _) (.cons (.refl _) (.cons (.refl _) (.nil _)))) rfl⟩
  rintro _ H;replace H:lG=some r:=H
  unfold lG at H
  refine aa ?_;show AR _ _ _ _ _ [0,1,2] _;refine zm rfl<|zS rfl (bo (av':=i64 2) (bB rfl rfl (by decide)) rfl)<|za rfl<|ag<|ac<|ac<|aa ?_;show AR _ _ _ _ _ [0,1,2,3] _;refine zm rfl<|zS rfl (ah (av:=slE _ _ _) rfl)<|zS rfl (bo (av':=i64 8) (bh ao rfl) rfl)<|zS rfl (bo (av':=B true) (bN rfl rfl) (aw (by decide)))<|ag<|ax rfl (fun _=>?_) (fun hx=>bP rfl hx);refine aC<|bq (X:=Unit) (fun _=>⟨[(3,slE Enc.str entOld q2),(4,B false),(5,i64 2)],[],[.obj o1 [.v (.int .u32 0),.v (.int .i32 1),.v (.int .u32 0),.v .nilIface,slE Enc.str entOld q2]]⟩) (fun _=>lH=some r) ?_ ?_
  ·refine aR<|ac<|ac<|aa ?_;show AR _ _ _ _ _ [0,1,2,3,4,5] _;refine zS rfl (ah (av:=slE _ _ _) rfl)<|zm rfl<|zS rfl (bH (E:=Enc.str) (m:=2) ao (by kernel_rfl) rfl rfl rfl rfl)<|zS rfl (aG ab rfl rfl)<|zS rfl (bo (av':=i64 1) (aW ab rfl) rfl)<|zS rfl (bo (av':=B false) (dD rfl rfl) (aw (by decide)))<|ag<|ax rfl (fun hx=>bP hx rfl) (fun _=>?_);refine aC<|ac<|aa ?_;show AR _ _ _ _ _ [0,1,2,3,4,5,6] _;refine zS rfl (ah (av:=slE _ _ _) rfl)<|zm rfl<|zS rfl (bo (av':=i64 3) (bB rfl rfl (by decide)) rfl)<|zS rfl (bH (E:=Enc.str) (m:=3) ao (by kernel_rfl) rfl rfl rfl rfl)<|zS rfl (aG ab rfl rfl)<|zS rfl (bo (av':=i64 4) (aW ab rfl) rfl)<|zS rfl (bo (av':=B true) (dD rfl rfl) (aw (by decide)))<|ag<|ax rfl (fun _=>?_) (fun hx=>bP rfl hx);refine aa ?_;show AR _ _ _ _ _ [0] _;refine za rfl<|ag ?_;exact Exists.intro () ⟨H,aP [0] (.cons (.refl _) (.cons (.refl _) (.cons (.refl _) (.nil _)))) rfl⟩
  rintro _ H;replace H:lH=some r:=H
  unfold lH at H
  refine aa ?_;show AR _ _ _ _ _ [0,1,2] _;refine zm rfl<|zS rfl (bo (av':=i64 4) (bB rfl rfl (by decide)) rfl)<|za rfl<|ag<|ac<|ac<|aa ?_;show AR _ _ _ _ _ [0,1,2,3] _;refine zm rfl<|zS rfl (ah (av:=slE _ _ _) rfl)<|zS rfl (bo (av':=i64 8) (bh ao rfl) rfl)<|zS rfl (bo (av':=B true) (bN rfl rfl) (aw (by decide)))<|ag<|ax rfl (fun _=>?_) (fun hx=>bP rfl hx);refine aC<|bq (X:=Unit) (fun _=>⟨[(3,slE Enc.str entOld q2),(4,B false),(5,i64 4)],[],[.obj o1 [.v (.int .u32 0),.v (.int .i32 1),.v (.int .u32 0),.v .nilIface,slE Enc.str entOld q2]]⟩) (fun _=>mo=some r) ?_ ?_
  ·refine aR<|ac<|ac<|aa ?_;show AR _ _ _ _ _ [0,1,2,3,4,5] _;refine zS rfl (ah (av:=slE _ _ _) rfl)<|zm rfl<|zS rfl (bH (E:=Enc.str) (m:=4) ao (by kernel_rfl) rfl rfl rfl rfl)<|zS rfl (aG ab rfl rfl)<|zS rfl (bo (av':=i64 1) (aW ab rfl) rfl)<|zS rfl (bo (av':=B false) (dD rfl rfl) (aw (by decide)))<|ag<|ax rfl (fun hx=>bP hx rfl) (fun _=>?_);refine aC<|ac<|aa ?_;show AR _ _ _ _ _ [0,1,2,3,4,5,6] _;refine zS rfl (ah (av:=slE _ _ _) rfl)<|zm rfl<|zS rfl (bo (av':=i64 5) (bB rfl rfl (by decide)) rfl)<|zS rfl (bH (E:=Enc.str) (m:=5) ao (by kernel_rfl) rfl rfl rfl rfl)<|zS rfl (aG ab rfl rfl)<|zS rfl (bo (av':=i64 4) (aW ab rfl) rfl)<|zS rfl (bo (av':=B true) (dD rfl rfl) (aw (by decide)))<|ag<|ax rfl (fun _=>?_) (fun hx=>bP rfl hx);refine aa ?_;show AR _ _ _ _ _ [0] _;refine za rfl<|ag ?_;exact Exists.intro () ⟨H,aP [0] (.cons (.refl _) (.cons (.refl _) (.cons (.refl _) (.nil _)))) rfl⟩
  rintro _ H;replace H:mo=some r:=H
  unfold mo at H
  refine aa ?_;show AR _ _ _ _ _ [0,1,2] _;refine zm rfl<|zS rfl (bo (av':=i64 6) (bB rfl rfl (by decide)) rfl)<|za rfl<|ag<|ac<|ac<|aa ?_;show AR _ _ _ _ _ [0,1,2,3] _;refine zm rfl<|zS rfl (ah (av:=slE _ _ _) rfl)<|zS rfl (bo (av':=i64 8) (bh ao rfl) rfl)<|zS rfl (bo (av':=B true) (bN rfl rfl) (aw (by decide)))<|ag<|ax rfl (fun _=>?_) (fun hx=>bP rfl hx);refine aC<|bq (X:=Unit) (fun _=>⟨[(3,slE Enc.str entOld q2),(4,B false),(5,i64 6)],[],[.obj o1 [.v (.int .u32 0),.v (.int .i32 1),.v (.int .u32 0),.v .nilIface,slE Enc.str entOld q2]]⟩) (fun _=>mq=some r) ?_ ?_
  ·refine aR<|ac<|ac<|aa ?_;show AR _ _ _ _ _ [0,1,2,3,4,5] _;refine zS rfl (ah (av:=slE _ _ _) rfl)<|zm rfl<|zS rfl (bH (E:=Enc.str) (m:=6) ao (by kernel_rfl) rfl rfl rfl rfl)<|zS rfl (aG ab rfl rfl)<|zS rfl (bo (av':=i64 1) (aW ab rfl) rfl)<|zS rfl (bo (av':=B false) (dD rfl rfl) (aw (by decide)))<|ag<|ax rfl (fun hx=>bP hx rfl) (fun _=>?_);refine aC<|ac<|aa ?_;show AR _ _ _ _ _ [0,1,2,3,4,5,6] _;refine zS rfl (ah (av:=slE _ _ _) rfl)<|zm rfl<|zS rfl (bo (av':=i64 7) (bB rfl rfl (by decide)) rfl)<|zS rfl (bH (E:=Enc.str) (m:=7) ao (by kernel_rfl) rfl rfl rfl rfl)<|zS rfl (aG ab rfl rfl)<|zS rfl (bo (av':=i64 6) (aW ab rfl) rfl)<|zS rfl (bo (av':=B true) (dD rfl rfl) (aw (by decide)))<|ag<|ax rfl (fun _=>?_) (fun hx=>bP rfl hx);refine aa ?_;show AR _ _ _ _ _ [0] _;refine za rfl<|ag ?_;exact Exists.intro () ⟨H,aP [0] (.cons (.refl _) (.cons (.refl _) (.cons (.refl _) (.nil _)))) rfl⟩
  rintro _ H;replace H:mq=some r:=H
  unfold mq at H
  refine aa ?_;show AR _ _ _ _ _ [0,1,2] _;refine zm rfl<|zS rfl (bo (av':=i64 8) (bB rfl rfl (by decide)) rfl)<|za rfl<|ag<|ac<|ac<|aa ?_;show AR _ _ _ _ _ [0,1,2,3] _;refine zm rfl<|zS rfl (ah (av:=slE _ _ _) rfl)<|zS rfl (bo (av':=i64 8) (bh ao rfl) rfl)<|zS rfl (bo (av':=B false) (bN rfl rfl) (aw (by decide)))<|ag<|ax rfl (fun hx=>bP hx rfl) (fun _=>?_);refine bU ?_;exact Exists.intro () ⟨H,aP [0] (.cons (.refl _) (.cons (.refl _) (.nil _))) rfl⟩
 rintro _ H;replace H:mr=some r:=H
 unfold mr at H
 refine bq (X:=Unit) (fun _=>⟨[(3,slE Enc.str entOld q2)],[],[.obj o1 [.v (.int .u32 0),.v (.int .i32 1),.v (.int .u32 0),.v .nilIface,slE Enc.str entOld q2]]⟩) (fun _=>mu=some r) ?_ ?_
 ·refine ac<|aa ?_;show AR _ _ _ _ _ [0] _;refine zm rfl<|ag<|ax rfl (fun hx=>bP hx rfl) (fun _=>?_);refine aC ?_;exact Exists.intro () ⟨H,aP [0] (.cons (.refl _) (.nil _)) rfl⟩
 rintro _ H;replace H:mu=some r:=H
 unfold mu at H
 refine ac ?_;obtain ⟨g9,H⟩:=aI H;refine aa ?_;show AR _ _ _ _ _ [0,1,2,3,4,5,6] _;refine zS rfl (ah (av:=slE _ _ _) rfl)<|zS rfl (bo (av':=i64 8) (bh ao rfl) rfl)<|zS rfl (bo (av':=i64 4) (tH rfl rfl g9) rfl)<|zX rfl (wH (k:=1) (bytes:=16) (cap:=4) ao (by kernel_rfl) rfl rfl rfl rfl (by decide) (by decide) (by decide)) ?_;rintro _ _ ⟨t10,rfl,rfl⟩
 refine zS rfl (eH (zs:=[.slice none 0 0,.slice none 0 0,.slice none 0 0,.slice none 0 0,.slice none 0 0,.slice none 0 0,.slice none 0 0,.slice none 0 0,.slice none 0 0,.slice none 0 0,.slice none 0 0,.slice none 0 0,.slice none 0 0,.slice none 0 0,.slice none 0 0,.slice none 0 0,.slice none 0 0,.slice none 0 0,.slice none 0 0,.slice none 0 0,.slice none 0 0,.slice none 0 0,.slice none 0 0,.slice none 0 0,.slice none 0 0,.slice none 0 0,.slice none 0 0,.slice none 0 0,.slice none 0 0,.slice none 0 0,.slice none 0 0,.slice none 0 0,.slice none 0 0,.slice none 0 0,.slice none 0 0,.slice none 0 0,.slice none 0 0,.slice none 0 0,.slice none 0 0,.slice none 0 0,.slice none 0 0,.slice none 0 0,.slice none 0 0,.slice none 0 0,.slice none 0 0,.slice none 0 0,.slice none 0 0,.slice none 0 0,.slice none 0 0,.slice none 0 0,.slice none 0 0,.slice none 0 0,.slice none 0 0,.slice none 0 0,.slice none 0 0,.slice none 0 0,.slice none 0 0,.slice none 0 0,.slice none 0 0,.slice none 0 0,.slice none 0 0,.slice none 0 0,.slice none 0 0,.slice none 0 0,.slice none 0 0,.slice none 0 0,.slice none 0 0,.slice none 0 0,.slice none 0 0,.slice none 0 0,.slice none 0 0,.slice none 0 0,.slice none 0 0,.slice none 0 0,.slice none 0 0,.slice none 0 0,.slice none 0 0,.slice none 0 0,.slice none 0 0,.slice none 0 0,.slice none 0 0,.slice none 0 0,.slice none 0 0,.slice none 0 0,.slice none 0 0,.slice none 0 0,.slice none 0 0,.slice none 0 0,.slice none 0 0,.slice none 0 0,.slice none 0 0,.slice none 0 0,.slice none 0 0,.slice none 0 0,.slice none 0 0,.slice none 0 0,.slice none 0 0,.slice none 0 0,.slice none 0 0,.slice none 0 0,.slice none 0 0,.slice none 0 0,.slice none 0 0,.slice none 0 0,.slice none 0 0,.slice none 0 0,.slice none 0 0,.slice none 0 0,.slice none 0 0,.slice none 0 0,.slice none 0 0,.slice none 0 0,.slice none 0 0,.slice none 0 0,.slice none 0 0,.slice none 0 0,.slice none 0 0,.slice none 0 0,.slice none 0 0,.slice none 0 0,.slice none 0 0,.slice none 0 0,.slice none 0 0,.slice none 0 0,.slice none 0 0,.slice none 0 0,.slice none 0 0,.slice none 0 0,.slice none 0 0,.slice none 0 0,.slice none 0 0,.slice none 0 0,.slice none 0 0,.slice none 0 0,.slice none 0 0,.slice none 0 0,.slice none 0 0,.slice none 0 0,.slice none 0 0,.slice none 0 0,.slice none 0 0,.slice none 0 0,.slice none 0 0,.slice none 0 0,.slice none 0 0,.slice none 0 0,.slice none 0 0,.slice none 0 0,.slice none 0 0,.slice none 0 0,.slice none 0 0,.slice none 0 0,.slice none 0 0,.slice none 0 0,.slice none 0 0,.slice none 0 0,.slice none 0 0,.slice none 0 0,.slice none 0 0,.slice none 0 0,.slice none 0 0,.slice none 0 0,.slice none 0 0,.slice none 0 0,.slice none 0 0,.slice none 0 0,.slice none 0 0,.slice none 0 0,.slice none 0 0,.slice none 0 0,.slice none 0 0,.slice none 0 0,.slice none 0 0,.slice none 0 0,.slice none 0 0,.slice none 0 0,.slice none 0 0,.slice none 0 0,.slice none 0 0,.slice none 0 0,.slice none 0 0,.slice none 0 0,.slice none 0 0,.slice none 0 0,.slice none 0 0,.slice none 0 0,.slice none 0 0,.slice none 0 0,.slice none 0 0,.slice none 0 0,.slice none 0 0,.slice none 0 0,.slice none 0 0,.slice none 0 0,.slice none 0 0,.slice none 0 0,.slice none 0 0,.slice none 0 0,.slice none 0 0,.slice none 0 0,.slice none 0 0,.slice none 0 0,.slice none 0 0,.slice none 0 0,.slice none 0 0,.slice none 0 0,.slice none 0 0,.slice none 0 0,.slice none 0 0,.slice none 0 0,.slice none 0 0,.slice none 0 0,.slice none 0 0,.slice none 0 0,.slice none 0 0,.slice none 0 0,.slice none 0 0,.slice none 0 0,.slice none 0 0,.slice none 0 0,.slice none 0 0,.slice none 0 0,.slice none 0 0,.slice none 0 0,.slice none 0 0,.slice none 0 0,.slice none 0 0,.slice none 0 0,.slice none 0 0,.slice none 0 0,.slice none 0 0,.slice none 0 0,.slice none 0 0,.slice none 0 0,.slice none 0 0,.slice none 0 0,.slice none 0 0,.slice none 0 0,.slice none 0 0,.slice none 0 0,.slice none 0 0,.slice none 0 0,.slice none 0 0,.slice none 0 0,.slice none 0 0,.slice none 0 0,.slice none 0 0,.slice none 0 0,.slice none 0 0,.slice none 0 0,.slice none 0 0,.slice none 0 0,.slice none 0 0,.slice none 0 0,.slice none 0 0,.slice none 0 0,.slice none 0 0]) (ps:=[(0,256),(256,1)]) (cs:=[aj,aj,aj,aj,aj,aj,aj,aj,aj,aj,aj,aj,aj,aj,aj,aj,aj,aj,aj,aj,aj,aj,aj,aj,aj,aj,aj,aj,aj,aj,aj,aj,aj,aj,aj,aj,aj,aj,aj,aj,aj,aj,aj,aj,aj,aj,aj,aj,aj,aj,aj,aj,aj,aj,aj,aj,aj,aj,aj,aj,aj,aj,aj,aj,aj,aj,aj,aj,aj,aj,aj,aj,aj,aj,aj,aj,aj,aj,aj,aj,aj,aj,aj,aj,aj,aj,aj,aj,aj,aj,aj,aj,aj,aj,aj,aj,aj,aj,aj,aj,aj,aj,aj,aj,aj,aj,aj,aj,aj,aj,aj,aj,aj,aj,aj,aj,aj,aj,aj,aj,aj,aj,aj,aj,aj,aj,aj,aj,aj,aj,aj,aj,aj,aj,aj,aj,aj,aj,aj,aj,aj,aj,aj,aj,aj,aj,aj,aj,aj,aj,aj,aj,aj,aj,aj,aj,aj,aj,aj,aj,aj,aj,aj,aj,aj,aj,aj,aj,aj,aj,aj,aj,aj,aj,aj,aj,aj,aj,aj,aj,aj,aj,aj,aj,aj,aj,aj,aj,aj,aj,aj,aj,aj,aj,aj,aj,aj,aj,aj,aj,aj,aj,aj,aj,aj,aj,aj,aj,aj,aj,aj,aj,aj,aj,aj,aj,aj,aj,aj,aj,aj,aj,aj,aj,aj,aj,aj,aj,aj,aj,aj,aj,aj,aj,aj,aj,aj,aj,aj,aj,aj,aj,aj,aj,aj,aj,aj,aj,aj,aj,aj,aj,aj,aj,aj,aj,slE Enc.str ([]:List (List UInt8)) (some t10)]) (by kernel_rfl) rfl rfl)<|zX rfl (dw (zs:=[.slice none 0 0,.slice none 0 0,.slice none 0 0,.slice none 0 0,.slice none 0 0,.slice none 0 0,.slice none 0 0,.slice none 0 0,.slice none 0 0,.slice none 0 0,.slice none 0 0,.slice none 0 0,.slice none 0 0,.slice none 0 0,.slice none 0 0,.slice none 0 0,.slice none 0 0,.slice none 0 0,.slice none 0 0,.slice none 0 0,.slice none 0 0,.slice none 0 0,.slice none 0 0,.slice none 0 0,.slice none 0 0,.slice none 0 0,.slice none 0 0,.slice none 0 0,.slice none 0 0,.slice none 0 0,.slice none 0 0,.slice none 0 0,.slice none 0 0,.slice none 0 0,.slice none 0 0,.slice none 0 0,.slice none 0 0,.slice none 0 0,.slice none 0 0,.slice none 0 0,.slice none 0 0,.slice none 0 0,.slice none 0 0,.slice none 0 0,.slice none 0 0,.slice none 0 0,.slice none 0 0,.slice none 0 0,.slice none 0 0,.slice none 0 0,.slice none 0 0,.slice none 0 0,.slice none 0 0,.slice none 0 0,.slice none 0 0,.slice none 0 0,.slice none 0 0,.slice none 0 0,.slice none 0 0,.slice none 0 0,.slice none 0 0,.slice none 0 0,.slice none 0 0,.slice none 0 0,.slice none 0 0,.slice none 0 0,.slice none 0 0,.slice none 0 0,.slice none 0 0,.slice none 0 0,.slice none 0 0,.slice none 0 0,.slice none 0 0,.slice none 0 0,.slice none 0 0,.slice none 0 0,.slice none 0 0,.slice none 0 0,.slice none 0 0,.slice none 0 0,.slice none 0 0,.slice none 0 0,.slice none 0 0,.slice none 0 0,.slice none 0 0,.slice none 0 0,.slice none 0 0,.slice none 0 0,.slice none 0 0,.slice none 0 0,.slice none 0 0,.slice none 0 0,.slice none 0 0,.slice none 0 0,.slice none 0 0,.slice none 0 0,.slice none 0 0,.slice none 0 0,.slice none 0 0,.slice none 0 0,.slice none 0 0,.slice none 0 0,.slice none 0 0,.slice none 0 0,.slice none 0 0,.slice none 0 0,.slice none 0 0,.slice none 0 0,.slice none 0 0,.slice none 0 0,.slice none 0 0,.slice none 0 0,.slice none 0 0,.slice none 0 0,.slice none 0 0,.slice none 0 0,.slice none 0 0,.slice none 0 0,.slice none 0 0,.slice none 0 0,.slice none 0 0,.slice none 0 0,.slice none 0 0,.slice none 0 0,.slice none 0 0,.slice none 0 0,.slice none 0 0,.slice none 0 0,.slice none 0 0,.slice none 0 0,.slice none 0 0,.slice none 0 0,.slice none 0 0,.slice none 0 0,.slice none 0 0,.slice none 0 0,.slice none 0 0,.slice none 0 0,.slice none 0 0,.slice none 0 0,.slice none 0 0,.slice none 0 0,.slice none 0 0,.slice none 0 0,.slice none 0 0,.slice none 0 0,.slice none 0 0,.slice none 0 0,.slice none 0 0,.slice none 0 0,.slice none 0 0,.slice none 0 0,.slice none 0 0,.slice none 0 0,.slice none 0 0,.slice none 0 0,.slice none 0 0,.slice none 0 0,.slice none 0 0,.slice none 0 0,.slice none 0 0,.slice none 0 0,.slice none 0 0,.slice none 0 0,.slice none 0 0,.slice none 0 0,.slice none 0 0,.slice none 0 0,.slice none 0 0,.slice none 0 0,.slice none 0 0,.slice none 0 0,.slice none 0 0,.slice none 0 0,.slice none 0 0,.slice none 0 0,.slice none 0 0,.slice none 0 0,.slice none 0 0,.slice none 0 0,.slice none 0 0,.slice none 0 0,.slice none 0 0,.slice none 0 0,.slice none 0 0,.slice none 0 0,.slice none 0 0,.slice none 0 0,.slice none 0 0,.slice none 0 0,.slice none 0 0,.slice none 0 0,.slice none 0 0,.slice none 0 0,.slice none 0 0,.slice none 0 0,.slice none 0 0,.slice none 0 0,.slice none 0 0,.slice none 0 0,.slice none 0 0,.slice none 0 0,.slice none 0 0,.slice none 0 0,.slice none 0 0,.slice none 0 0,.slice none 0 0,.slice none 0 0,.slice none 0 0,.slice none 0 0,.slice none 0 0,.slice none 0 0,.slice none 0 0,.slice none 0 0,.slice none 0 0,.slice none 0 0,.slice none 0 0,.slice none 0 0,.slice none 0 0,.slice none 0 0,.slice none 0 0,.slice none 0 0,.slice none 0 0,.slice none 0 0,.slice none 0 0,.slice none 0 0,.slice none 0 0,.slice none 0 0,.slice none 0 0,.slice none 0 0,.slice none 0 0,.slice none 0 0,.slice none 0 0,.slice none 0 0,.slice none 0 0,.slice none 0 0,.slice none 0 0,.slice none 0 0,.slice none 0 0,.slice none 0 0,.slice none 0 0,.slice none 0 0,.slice none 0 0,.slice none 0 0,.slice none 0 0,.slice none 0 0,.slice none 0 0,.slice none 0 0,.slice none 0 0,.slice none 0 0,.slice none 0 0,.slice none 0 0,.slice none 0 0,.slice none 0 0,.slice none 0 0,.slice none 0 0,.slice none 0 0]) (by kernel_rfl)) ?_
 rintro _ _ ⟨o11,rfl,rfl⟩
 refine s0 rfl rfl (cn (i:=0) (vs:=[aj,aj,aj,aj,aj,aj,aj,aj,aj,aj,aj,aj,aj,aj,aj,aj,aj,aj,aj,aj,aj,aj,aj,aj,aj,aj,aj,aj,aj,aj,aj,aj,aj,aj,aj,aj,aj,aj,aj,aj,aj,aj,aj,aj,aj,aj,aj,aj,aj,aj,aj,aj,aj,aj,aj,aj,aj,aj,aj,aj,aj,aj,aj,aj,aj,aj,aj,aj,aj,aj,aj,aj,aj,aj,aj,aj,aj,aj,aj,aj,aj,aj,aj,aj,aj,aj,aj,aj,aj,aj,aj,aj,aj,aj,aj,aj,aj,aj,aj,aj,aj,aj,aj,aj,aj,aj,aj,aj,aj,aj,aj,aj,aj,aj,aj,aj,aj,aj,aj,aj,aj,aj,aj,aj,aj,aj,aj,aj,aj,aj,aj,aj,aj,aj,aj,aj,aj,aj,aj,aj,aj,aj,aj,aj,aj,aj,aj,aj,aj,aj,aj,aj,aj,aj,aj,aj,aj,aj,aj,aj,aj,aj,aj,aj,aj,aj,aj,aj,aj,aj,aj,aj,aj,aj,aj,aj,aj,aj,aj,aj,aj,aj,aj,aj,aj,aj,aj,aj,aj,aj,aj,aj,aj,aj,aj,aj,aj,aj,aj,aj,aj,aj,aj,aj,aj,aj,aj,aj,aj,aj,aj,aj,aj,aj,aj,aj,aj,aj,aj,aj,aj,aj,aj,aj,aj,aj,aj,aj,aj,aj,aj,aj,aj,aj,aj,aj,aj,aj,aj,aj,aj,aj,aj,aj,aj,aj,aj,aj,aj,aj,aj,aj,aj,aj,aj,aj,slE Enc.str ([]:List (List UInt8)) (some t10)]) (by kernel_rfl) rfl rfl (by simp [cE,slE]) rfl (af rfl))<|ag<|bq (X:=(List (List UInt8))×Nat) (fun (y44,t45)=>⟨[(11,.pt o11 0)],[],[.obj o11 [aj,aj,aj,aj,aj,aj,aj,aj,aj,aj,aj,aj,aj,aj,aj,aj,aj,aj,aj,aj,aj,aj,aj,aj,aj,aj,aj,aj,aj,aj,aj,aj,aj,aj,slE Enc.byte ([38,113,117,111,116,59]:List UInt8) none,aj,aj,aj,slE Enc.byte ([38,97,109,112,59]:List UInt8) none,aj,aj,aj,aj,aj,aj,aj,aj,aj,aj,aj,aj,aj,aj,aj,aj,aj,aj,aj,aj,aj,slE Enc.byte ([38,108,116,59]:List UInt8) none,aj,slE Enc.byte ([38,103,116,59]:List UInt8) none,aj,aj,aj,aj,aj,aj,aj,aj,aj,aj,aj,aj,aj,aj,aj,aj,aj,aj,aj,aj,aj,aj,aj,aj,aj,aj,aj,aj,aj,aj,aj,aj,aj,aj,aj,aj,aj,aj,aj,aj,aj,aj,aj,aj,aj,aj,aj,aj,aj,aj,aj,aj,aj,aj,aj,aj,aj,aj,aj,aj,aj,aj,aj,aj,aj,aj,aj,aj,aj,aj,aj,aj,aj,aj,aj,aj,aj,aj,aj,aj,aj,aj,aj,aj,aj,aj,aj,aj,aj,aj,aj,aj,aj,aj,aj,aj,aj,aj,aj,aj,aj,aj,aj,aj,aj,aj,aj,aj,aj,aj,aj,aj,aj,aj,aj,aj,aj,aj,aj,aj,aj,aj,aj,aj,aj,aj,aj,aj,aj,aj,aj,aj,aj,aj,aj,aj,aj,aj,aj,aj,aj,aj,aj,aj,aj,aj,aj,aj,aj,aj,aj,aj,aj,aj,aj,aj,aj,aj,aj,aj,aj,aj,aj,aj,aj,aj,aj,aj,aj,aj,aj,aj,aj,aj,aj,aj,aj,aj,aj,aj,aj,aj,aj,aj,aj,aj,aj,aj,aj,aj,aj,aj,aj,slE Enc.str y44 (some t45)],.obj o1 [.v (.int .u32 0),.v (.int .i32 1),.v (.int .u32 0),.v .nilIface,slE Enc.str entOld q2],.tok t45 9]⟩) (fun (y44,t45)=>mA y44=some r) ?_ ?_
 ·refine ac<|aa ?_;show AR _ _ _ _ _ [0,1,2,3] _;refine zS rfl (ah (av:=slE _ _ _) rfl)<|zS rfl (bo (av':=i64 8) (bh ao rfl) rfl)<|zS rfl (bo (av':=i64 6) (mc rfl rfl (by decide)) rfl)<|za rfl<|ag<|aR<|rd 6<|ac<|ac<|aa ?_;show AR _ _ _ _ _ [0,1] _;refine zm rfl<|zS rfl (bo (av':=B true) (cX rfl rfl) (aw (by decide)))<|ag<|ax rfl (fun _=>?_) (fun hx=>bP rfl hx);refine aC<|ac<|aR<|ac<|aa ?_;show AR _ _ _ _ _ [0,1,2,3,4,5] _;refine zS rfl (ah (av:=slE _ _ _) rfl)<|zm rfl<|zS rfl (bH (E:=Enc.str) (m:=6) ao (by kernel_rfl) rfl rfl rfl rfl)<|zS rfl (aG ab rfl rfl)<|zS rfl (jC (m:=0) (c:=34) ab rfl rfl rfl rfl)<|za rfl<|ag<|ac<|aa ?_;show AR _ _ _ _ _ [0,1,2,3,4,5] _
  refine zS rfl (ah (av:=slE _ _ _) rfl)<|zm rfl<|zS rfl (bo (av':=i64 7) (bB rfl rfl (by decide)) rfl)<|zS rfl (bH (E:=Enc.str) (m:=7) ao (by kernel_rfl) rfl rfl rfl rfl)<|zS rfl (aG ab rfl rfl)<|za rfl<|ag<|bq (X:=(List (List UInt8))×Nat) (fun (y16,t17)=>⟨[(3,slE Enc.str entOld q2),(11,.pt o11 0),(12,i64 6),(13,u8 34),(14,S ([38,113,117,111,116,59]:List UInt8))],[],[.obj o11 [aj,aj,aj,aj,aj,aj,aj,aj,aj,aj,aj,aj,aj,aj,aj,aj,aj,aj,aj,aj,aj,aj,aj,aj,aj,aj,aj,aj,aj,aj,aj,aj,aj,aj,aj,aj,aj,aj,aj,aj,aj,aj,aj,aj,aj,aj,aj,aj,aj,aj,aj,aj,aj,aj,aj,aj,aj,aj,aj,aj,aj,aj,aj,aj,aj,aj,aj,aj,aj,aj,aj,aj,aj,aj,aj,aj,aj,aj,aj,aj,aj,aj,aj,aj,aj,aj,aj,aj,aj,aj,aj,aj,aj,aj,aj,aj,aj,aj,aj,aj,aj,aj,aj,aj,aj,aj,aj,aj,aj,aj,aj,aj,aj,aj,aj,aj,aj,aj,aj,aj,aj,aj,aj,aj,aj,aj,aj,aj,aj,aj,aj,aj,aj,aj,aj,aj,aj,aj,aj,aj,aj,aj,aj,aj,aj,aj,aj,aj,aj,aj,aj,aj,aj,aj,aj,aj,aj,aj,aj,aj,aj,aj,aj,aj,aj,aj,aj,aj,aj,aj,aj,aj,aj,aj,aj,aj,aj,aj,aj,aj,aj,aj,aj,aj,aj,aj,aj,aj,aj,aj,aj,aj,aj,aj,aj,aj,aj,aj,aj,aj,aj,aj,aj,aj,aj,aj,aj,aj,aj,aj,aj,aj,aj,aj,aj,aj,aj,aj,aj,aj,aj,aj,aj,aj,aj,aj,aj,aj,aj,aj,aj,aj,aj,aj,aj,aj,aj,aj,aj,aj,aj,aj,aj,aj,aj,aj,aj,aj,aj,aj,aj,aj,aj,aj,aj,aj,slE Enc.str y16 (some t17)],.obj o1 [.v (.int .u32 0),.v (.int .i32 1),.v (.int .u32 0),.v .nilIface,slE Enc.str entOld q2],.tok t17 9]⟩) (fun (y16,t17)=>mw y16=some r) ?_ ?_
  ·refine ac<|aa ?_;show AR _ _ _ _ _ [0,1,2,3,4] _;refine zm rfl<|zS rfl (ai (n:=0) (by kernel_rfl) rfl)<|zS rfl (dm (Ar:=0) (k:=1) (m:=34) ck (by kernel_rfl) rfl rfl rfl (by decide))<|zR rfl (al (i:=0) ak rfl rfl rfl rfl)<|zS rfl (mC (.inl rfl) ak rfl rfl)<|ag<|ax rfl (fun _=>?_) (fun hx=>bP rfl hx);obtain ⟨g13,H⟩:=aI H;obtain ⟨x14,e15,H⟩:=bz H;refine aa ?_;show AR _ _ _ _ _ [0,1,2,3,4,5,6,7,8] _;refine zS rfl (ai (n:=256) (by kernel_rfl) rfl)<|zR rfl (al (i:=0) ao rfl rfl rfl rfl)<|zm rfl<|zR rfl (ce (E:=Enc.byte) (bytes:=1) (xs:=[.tmp 120]) (l:=([34]:List UInt8)) ak (by kernel_rfl) rfl rfl (by decide) rfl rfl)<|zS rfl (bV ak bi ab rfl)<|zR rfl (ce (E:=Enc.str) (bytes:=16) (xs:=[.tmp 122]) (l:=([([34]:List UInt8)]:List (List UInt8))) ao (by kernel_rfl) rfl rfl (by decide) rfl rfl)<|zX rfl (cM (E:=Enc.str) (bytes:=16) 1 ao ao rfl (by kernel_rfl) rfl rfl rfl rfl g13 e15) ?_;rintro _ _ ⟨t12,rfl,rfl⟩;refine zS rfl (ai (n:=256) (by kernel_rfl) rfl)<|s0 rfl rfl (aA (i:=0) (c:=slE _ _ _) (by kernel_rfl) rfl rfl rfl rfl (af rfl))<|ag ?_
   exact Exists.intro (x14,t12) ⟨H,aP [0,1,0] (.cons (.refl _) (.cons (.refl _) (.cons (.refl _) (.cons (.refl _) (.cons (.refl _) (.nil _)))))) rfl⟩
  rintro ⟨y16,t17⟩ H;replace H:mw y16=some r:=H
  unfold mw at H
  obtain ⟨g19,H⟩:=aI H;refine aa ?_;show AR _ _ _ _ _ [0,1,2,3,4,5] _;refine zm rfl<|zm rfl<|zR rfl (OpX.still (eP (bytes:=1) ab ak bi rfl g19))<|zS rfl (ai (n:=0) (by kernel_rfl) rfl)<|zS rfl (dm (Ar:=0) (k:=1) (m:=34) ck (by kernel_rfl) rfl rfl rfl (by decide))<|s0 rfl rfl (aA (i:=0) (c:=slE _ _ _) (by kernel_rfl) rfl rfl rfl rfl (af rfl))<|ag<|aa ?_;show AR _ _ _ _ _ [0,1,2] _;refine zm rfl<|zS rfl (bo (av':=i64 4) (mc rfl rfl (by decide)) rfl)<|za rfl<|ag<|ac<|ac<|aa ?_;show AR _ _ _ _ _ [0,1] _;refine zm rfl<|zS rfl (bo (av':=B true) (cX rfl rfl) (aw (by decide)))<|ag<|ax rfl (fun _=>?_) (fun hx=>bP rfl hx);refine aC<|ac<|aR<|ac<|aa ?_;show AR _ _ _ _ _ [0,1,2,3,4,5] _;refine zS rfl (ah (av:=slE _ _ _) rfl)<|zm rfl<|zS rfl (bH (E:=Enc.str) (m:=4) ao (by kernel_rfl) rfl rfl rfl rfl)<|zS rfl (aG ab rfl rfl)<|zS rfl (jC (m:=0) (c:=62) ab rfl rfl rfl rfl)<|za rfl<|ag<|ac<|aa ?_;show AR _ _ _ _ _ [0,1,2,3,4,5] _
  refine zS rfl (ah (av:=slE _ _ _) rfl)<|zm rfl<|zS rfl (bo (av':=i64 5) (bB rfl rfl (by decide)) rfl)<|zS rfl (bH (E:=Enc.str) (m:=5) ao (by kernel_rfl) rfl rfl rfl rfl)<|zS rfl (aG ab rfl rfl)<|za rfl<|ag<|bq (X:=(List (List UInt8))×Nat) (fun (y24,t25)=>⟨[(3,slE Enc.str entOld q2),(11,.pt o11 0),(12,i64 4),(13,u8 62),(14,S ([38,103,116,59]:List UInt8))],[],[.obj o11 [aj,aj,aj,aj,aj,aj,aj,aj,aj,aj,aj,aj,aj,aj,aj,aj,aj,aj,aj,aj,aj,aj,aj,aj,aj,aj,aj,aj,aj,aj,aj,aj,aj,aj,slE Enc.byte ([38,113,117,111,116,59]:List UInt8) none,aj,aj,aj,aj,aj,aj,aj,aj,aj,aj,aj,aj,aj,aj,aj,aj,aj,aj,aj,aj,aj,aj,aj,aj,aj,aj,aj,aj,aj,aj,aj,aj,aj,aj,aj,aj,aj,aj,aj,aj,aj,aj,aj,aj,aj,aj,aj,aj,aj,aj,aj,aj,aj,aj,aj,aj,aj,aj,aj,aj,aj,aj,aj,aj,aj,aj,aj,aj,aj,aj,aj,aj,aj,aj,aj,aj,aj,aj,aj,aj,aj,aj,aj,aj,aj,aj,aj,aj,aj,aj,aj,aj,aj,aj,aj,aj,aj,aj,aj,aj,aj,aj,aj,aj,aj,aj,aj,aj,aj,aj,aj,aj,aj,aj,aj,aj,aj,aj,aj,aj,aj,aj,aj,aj,aj,aj,aj,aj,aj,aj,aj,aj,aj,aj,aj,aj,aj,aj,aj,aj,aj,aj,aj,aj,aj,aj,aj,aj,aj,aj,aj,aj,aj,aj,aj,aj,aj,aj,aj,aj,aj,aj,aj,aj,aj,aj,aj,aj,aj,aj,aj,aj,aj,aj,aj,aj,aj,aj,aj,aj,aj,aj,aj,aj,aj,aj,aj,aj,aj,aj,aj,aj,aj,aj,aj,aj,aj,aj,aj,aj,aj,aj,aj,aj,aj,aj,aj,aj,aj,aj,aj,aj,aj,aj,aj,aj,aj,aj,aj,aj,aj,slE Enc.str y24 (some t25)],.obj o1 [.v (.int .u32 0),.v (.int .i32 1),.v (.int .u32 0),.v .nilIface,slE Enc.str entOld q2],.tok t25 9]⟩) (fun (y24,t25)=>mx y24=some r) ?_ ?_
  ·refine ac<|aa ?_;show AR _ _ _ _ _ [0,1,2,3,4] _;refine zm rfl<|zS rfl (ai (n:=0) (by kernel_rfl) rfl)<|zS rfl (dm (Ar:=0) (k:=1) (m:=62) ck (by kernel_rfl) rfl rfl rfl (by decide))<|zR rfl (al (i:=0) ak rfl rfl rfl rfl)<|zS rfl (mC (.inl rfl) ak rfl rfl)<|ag<|ax rfl (fun _=>?_) (fun hx=>bP rfl hx);obtain ⟨g21,H⟩:=aI H;obtain ⟨x22,e23,H⟩:=bz H;refine aa ?_;show AR _ _ _ _ _ [0,1,2,3,4,5,6,7,8] _;refine zS rfl (ai (n:=256) (by kernel_rfl) rfl)<|zR rfl (al (i:=0) ao rfl rfl rfl rfl)<|zm rfl<|zR rfl (ce (E:=Enc.byte) (bytes:=1) (xs:=[.tmp 120]) (l:=([62]:List UInt8)) ak (by kernel_rfl) rfl rfl (by decide) rfl rfl)<|zS rfl (bV ak bi ab rfl)<|zR rfl (ce (E:=Enc.str) (bytes:=16) (xs:=[.tmp 122]) (l:=([([62]:List UInt8)]:List (List UInt8))) ao (by kernel_rfl) rfl rfl (by decide) rfl rfl)<|zX rfl (cM (E:=Enc.str) (bytes:=16) 2 ao ao rfl (by kernel_rfl) rfl rfl rfl rfl g21 e23) ?_;rintro _ _ ⟨t20,rfl,rfl⟩;refine zS rfl (ai (n:=256) (by kernel_rfl) rfl)<|s0 rfl rfl (aA (i:=0) (c:=slE _ _ _) (by kernel_rfl) rfl rfl rfl rfl (af rfl))<|ag ?_
   exact Exists.intro (x22,t20) ⟨H,aP [0,0,0] (.cons (.refl _) (.cons (.refl _) (.cons (.refl _) (.cons (.refl _) (.cons (.refl _) (.nil _)))))) rfl⟩
  rintro ⟨y24,t25⟩ H;replace H:mx y24=some r:=H
  unfold mx at H
  obtain ⟨g27,H⟩:=aI H;refine aa ?_;show AR _ _ _ _ _ [0,1,2,3,4,5] _;refine zm rfl<|zm rfl<|zR rfl (OpX.still (eP (bytes:=1) ab ak bi rfl g27))<|zS rfl (ai (n:=0) (by kernel_rfl) rfl)<|zS rfl (dm (Ar:=0) (k:=1) (m:=62) ck (by kernel_rfl) rfl rfl rfl (by decide))<|s0 rfl rfl (aA (i:=0) (c:=slE _ _ _) (by kernel_rfl) rfl rfl rfl rfl (af rfl))<|ag<|aa ?_;show AR _ _ _ _ _ [0,1,2] _;refine zm rfl<|zS rfl (bo (av':=i64 2) (mc rfl rfl (by decide)) rfl)<|za rfl<|ag<|ac<|ac<|aa ?_;show AR _ _ _ _ _ [0,1] _;refine zm rfl<|zS rfl (bo (av':=B true) (cX rfl rfl) (aw (by decide)))<|ag<|ax rfl (fun _=>?_) (fun hx=>bP rfl hx);refine aC<|ac<|aR<|ac<|aa ?_;show AR _ _ _ _ _ [0,1,2,3,4,5] _;refine zS rfl (ah (av:=slE _ _ _) rfl)<|zm rfl<|zS rfl (bH (E:=Enc.str) (m:=2) ao (by kernel_rfl) rfl rfl rfl rfl)<|zS rfl (aG ab rfl rfl)<|zS rfl (jC (m:=0) (c:=60) ab rfl rfl rfl rfl)<|za rfl<|ag<|ac<|aa ?_;show AR _ _ _ _ _ [0,1,2,3,4,5] _
  refine zS rfl (ah (av:=slE _ _ _) rfl)<|zm rfl<|zS rfl (bo (av':=i64 3) (bB rfl rfl (by decide)) rfl)<|zS rfl (bH (E:=Enc.str) (m:=3) ao (by kernel_rfl) rfl rfl rfl rfl)<|zS rfl (aG ab rfl rfl)<|za rfl<|ag<|bq (X:=(List (List UInt8))×Nat) (fun (y32,t33)=>⟨[(3,slE Enc.str entOld q2),(11,.pt o11 0),(12,i64 2),(13,u8 60),(14,S ([38,108,116,59]:List UInt8))],[],[.obj o11 [aj,aj,aj,aj,aj,aj,aj,aj,aj,aj,aj,aj,aj,aj,aj,aj,aj,aj,aj,aj,aj,aj,aj,aj,aj,aj,aj,aj,aj,aj,aj,aj,aj,aj,slE Enc.byte ([38,113,117,111,116,59]:List UInt8) none,aj,aj,aj,aj,aj,aj,aj,aj,aj,aj,aj,aj,aj,aj,aj,aj,aj,aj,aj,aj,aj,aj,aj,aj,aj,aj,aj,slE Enc.byte ([38,103,116,59]:List UInt8) none,aj,aj,aj,aj,aj,aj,aj,aj,aj,aj,aj,aj,aj,aj,aj,aj,aj,aj,aj,aj,aj,aj,aj,aj,aj,aj,aj,aj,aj,aj,aj,aj,aj,aj,aj,aj,aj,aj,aj,aj,aj,aj,aj,aj,aj,aj,aj,aj,aj,aj,aj,aj,aj,aj,aj,aj,aj,aj,aj,aj,aj,aj,aj,aj,aj,aj,aj,aj,aj,aj,aj,aj,aj,aj,aj,aj,aj,aj,aj,aj,aj,aj,aj,aj,aj,aj,aj,aj,aj,aj,aj,aj,aj,aj,aj,aj,aj,aj,aj,aj,aj,aj,aj,aj,aj,aj,aj,aj,aj,aj,aj,aj,aj,aj,aj,aj,aj,aj,aj,aj,aj,aj,aj,aj,aj,aj,aj,aj,aj,aj,aj,aj,aj,aj,aj,aj,aj,aj,aj,aj,aj,aj,aj,aj,aj,aj,aj,aj,aj,aj,aj,aj,aj,aj,aj,aj,aj,aj,aj,aj,aj,aj,aj,aj,aj,aj,aj,aj,aj,aj,aj,aj,aj,aj,aj,aj,aj,aj,aj,aj,aj,aj,aj,aj,aj,aj,aj,aj,aj,aj,aj,aj,aj,slE Enc.str y32 (some t33)],.obj o1 [.v (.int .u32 0),.v (.int .i32 1),.v (.int .u32 0),.v .nilIface,slE Enc.str entOld q2],.tok t33 9]⟩) (fun (y32,t33)=>my y32=some r) ?_ ?_
  ·refine ac<|aa ?_;show AR _ _ _ _ _ [0,1,2,3,4] _;refine zm rfl<|zS rfl (ai (n:=0) (by kernel_rfl) rfl)<|zS rfl (dm (Ar:=0) (k:=1) (m:=60) ck (by kernel_rfl) rfl rfl rfl (by decide))<|zR rfl (al (i:=0) ak rfl rfl rfl rfl)<|zS rfl (mC (.inl rfl) ak rfl rfl)<|ag<|ax rfl (fun _=>?_) (fun hx=>bP rfl hx);obtain ⟨g29,H⟩:=aI H;obtain ⟨x30,e31,H⟩:=bz H;refine aa ?_;show AR _ _ _ _ _ [0,1,2,3,4,5,6,7,8] _;refine zS rfl (ai (n:=256) (by kernel_rfl) rfl)<|zR rfl (al (i:=0) ao rfl rfl rfl rfl)<|zm rfl<|zR rfl (ce (E:=Enc.byte) (bytes:=1) (xs:=[.tmp 120]) (l:=([60]:List UInt8)) ak (by kernel_rfl) rfl rfl (by decide) rfl rfl)<|zS rfl (bV ak bi ab rfl)<|zR rfl (ce (E:=Enc.str) (bytes:=16) (xs:=[.tmp 122]) (l:=([([60]:List UInt8)]:List (List UInt8))) ao (by kernel_rfl) rfl rfl (by decide) rfl rfl)<|zX rfl (cM (E:=Enc.str) (bytes:=16) 2 ao ao rfl (by kernel_rfl) rfl rfl rfl rfl g29 e31) ?_;rintro _ _ ⟨t28,rfl,rfl⟩;refine zS rfl (ai (n:=256) (by kernel_rfl) rfl)<|s0 rfl rfl (aA (i:=0) (c:=slE _ _ _) (by kernel_rfl) rfl rfl rfl rfl (af rfl))<|ag ?_
   exact Exists.intro (x30,t28) ⟨H,aP [0,0,0] (.cons (.refl _) (.cons (.refl _) (.cons (.refl _) (.cons (.refl _) (.cons (.refl _) (.nil _)))))) rfl⟩
  rintro ⟨y32,t33⟩ H;replace H:my y32=some r:=H
  unfold my at H
  obtain ⟨g35,H⟩:=aI H;refine aa ?_;show AR _ _ _ _ _ [0,1,2,3,4,5] _;refine zm rfl<|zm rfl<|zR rfl (OpX.still (eP (bytes:=1) ab ak bi rfl g35))<|zS rfl (ai (n:=0) (by kernel_rfl) rfl)<|zS rfl (dm (Ar:=0) (k:=1) (m:=60) ck (by kernel_rfl) rfl rfl rfl (by decide))<|s0 rfl rfl (aA (i:=0) (c:=slE _ _ _) (by kernel_rfl) rfl rfl rfl rfl (af rfl))<|ag<|aa ?_;show AR _ _ _ _ _ [0,1,2] _;refine zm rfl<|zS rfl (bo (av':=i64 0) (mc rfl rfl (by decide)) rfl)<|za rfl<|ag<|ac<|ac<|aa ?_;show AR _ _ _ _ _ [0,1] _;refine zm rfl<|zS rfl (bo (av':=B true) (cX rfl rfl) (aw (by decide)))<|ag<|ax rfl (fun _=>?_) (fun hx=>bP rfl hx);refine aC<|ac<|aR<|ac<|aa ?_;show AR _ _ _ _ _ [0,1,2,3,4,5] _;refine zS rfl (ah (av:=slE _ _ _) rfl)<|zm rfl<|zS rfl (bH (E:=Enc.str) (m:=0) ao (by kernel_rfl) rfl rfl rfl rfl)<|zS rfl (aG ab rfl rfl)<|zS rfl (jC (m:=0) (c:=38) ab rfl rfl rfl rfl)<|za rfl<|ag<|ac<|aa ?_;show AR _ _ _ _ _ [0,1,2,3,4,5] _
  refine zS rfl (ah (av:=slE _ _ _) rfl)<|zm rfl<|zS rfl (bo (av':=i64 1) (bB rfl rfl (by decide)) rfl)<|zS rfl (bH (E:=Enc.str) (m:=1) ao (by kernel_rfl) rfl rfl rfl rfl)<|zS rfl (aG ab rfl rfl)<|za rfl<|ag<|bq (X:=(List (List UInt8))×Nat) (fun (y40,t41)=>⟨[(3,slE Enc.str entOld q2),(11,.pt o11 0),(12,i64 0),(13,u8 38),(14,S ([38,97,109,112,59]:List UInt8))],[],[.obj o11 [aj,aj,aj,aj,aj,aj,aj,aj,aj,aj,aj,aj,aj,aj,aj,aj,aj,aj,aj,aj,aj,aj,aj,aj,aj,aj,aj,aj,aj,aj,aj,aj,aj,aj,slE Enc.byte ([38,113,117,111,116,59]:List UInt8) none,aj,aj,aj,aj,aj,aj,aj,aj,aj,aj,aj,aj,aj,aj,aj,aj,aj,aj,aj,aj,aj,aj,aj,aj,aj,slE Enc.byte ([38,108,116,59]:List UInt8) none,aj,slE Enc.byte ([38,103,116,59]:List UInt8) none,aj,aj,aj,aj,aj,aj,aj,aj,aj,aj,aj,aj,aj,aj,aj,aj,aj,aj,aj,aj,aj,aj,aj,aj,aj,aj,aj,aj,aj,aj,aj,aj,aj,aj,aj,aj,aj,aj,aj,aj,aj,aj,aj,aj,aj,aj,aj,aj,aj,aj,aj,aj,aj,aj,aj,aj,aj,aj,aj,aj,aj,aj,aj,aj,aj,aj,aj,aj,aj,aj,aj,aj,aj,aj,aj,aj,aj,aj,aj,aj,aj,aj,aj,aj,aj,aj,aj,aj,aj,aj,aj,aj,aj,aj,aj,aj,aj,aj,aj,aj,aj,aj,aj,aj,aj,aj,aj,aj,aj,aj,aj,aj,aj,aj,aj,aj,aj,aj,aj,aj,aj,aj,aj,aj,aj,aj,aj,aj,aj,aj,aj,aj,aj,aj,aj,aj,aj,aj,aj,aj,aj,aj,aj,aj,aj,aj,aj,aj,aj,aj,aj,aj,aj,aj,aj,aj,aj,aj,aj,aj,aj,aj,aj,aj,aj,aj,aj,aj,aj,aj,aj,aj,aj,aj,aj,aj,aj,aj,aj,aj,aj,aj,aj,aj,aj,aj,aj,aj,aj,aj,aj,aj,aj,slE Enc.str y40 (some t41)],.obj o1 [.v (.int .u32 0),.v (.int .i32 1),.v (.int .u32 0),.v .nilIface,slE Enc.str entOld q2],.tok t41 9]⟩) (fun (y40,t41)=>mz y40=some r) ?_ ?_
  ·refine ac<|aa ?_;show AR _ _ _ _ _ [0,1,2,3,4] _;refine zm rfl<|zS rfl (ai (n:=0) (by kernel_rfl) rfl)<|zS rfl (dm (Ar:=0) (k:=1) (m:=38) ck (by kernel_rfl) rfl rfl rfl (by decide))<|zR rfl (al (i:=0) ak rfl rfl rfl rfl)<|zS rfl (mC (.inl rfl) ak rfl rfl)<|ag<|ax rfl (fun _=>?_) (fun hx=>bP rfl hx);obtain ⟨g37,H⟩:=aI H;obtain ⟨x38,e39,H⟩:=bz H;refine aa ?_;show AR _ _ _ _ _ [0,1,2,3,4,5,6,7,8] _;refine zS rfl (ai (n:=256) (by kernel_rfl) rfl)<|zR rfl (al (i:=0) ao rfl rfl rfl rfl)<|zm rfl<|zR rfl (ce (E:=Enc.byte) (bytes:=1) (xs:=[.tmp 120]) (l:=([38]:List UInt8)) ak (by kernel_rfl) rfl rfl (by decide) rfl rfl)<|zS rfl (bV ak bi ab rfl)<|zR rfl (ce (E:=Enc.str) (bytes:=16) (xs:=[.tmp 122]) (l:=([([38]:List UInt8)]:List (List UInt8))) ao (by kernel_rfl) rfl rfl (by decide) rfl rfl)<|zX rfl (cM (E:=Enc.str) (bytes:=16) 2 ao ao rfl (by kernel_rfl) rfl rfl rfl rfl g37 e39) ?_;rintro _ _ ⟨t36,rfl,rfl⟩;refine zS rfl (ai (n:=256) (by kernel_rfl) rfl)<|s0 rfl rfl (aA (i:=0) (c:=slE _ _ _) (by kernel_rfl) rfl rfl rfl rfl (af rfl))<|ag ?_
   exact Exists.intro (x38,t36) ⟨H,aP [0,0,0] (.cons (.refl _) (.cons (.refl _) (.cons (.refl _) (.cons (.refl _) (.cons (.refl _) (.nil _)))))) rfl⟩
  rintro ⟨y40,t41⟩ H;replace H:mz y40=some r:=H
  unfold mz at H
  obtain ⟨g43,H⟩:=aI H;refine aa ?_;show AR _ _ _ _ _ [0,1,2,3,4,5] _;refine zm rfl<|zm rfl<|zR rfl (OpX.still (eP (bytes:=1) ab ak bi rfl g43))<|zS rfl (ai (n:=0) (by kernel_rfl) rfl)<|zS rfl (dm (Ar:=0) (k:=1) (m:=38) ck (by kernel_rfl) rfl rfl rfl (by decide))<|s0 rfl rfl (aA (i:=0) (c:=slE _ _ _) (by kernel_rfl) rfl rfl rfl rfl (af rfl))<|ag<|aa ?_;show AR _ _ _ _ _ [0,1,2] _;refine zm rfl<|zS rfl (bo (av':=i64 (-2)) (mc rfl rfl (by decide)) rfl)<|za rfl<|ag<|ac<|ac<|aa ?_;show AR _ _ _ _ _ [0,1] _;refine zm rfl<|zS rfl (bo (av':=B false) (cX rfl rfl) (aw (by decide)))<|ag<|ax rfl (fun hx=>bP hx rfl) (fun _=>?_);refine bU ?_;exact Exists.intro (y40,t41) ⟨H,aP [0,0,0] (.cons (.refl _) (.nil _)) rfl⟩
 rintro ⟨y44,t45⟩ H;replace H:mA y44=some r:=H
 unfold mA at H
 refine ac<|aa ?_;show AR _ _ _ _ _ [0,1] _;refine AR.freezeCp 11 0 rfl rfl<|zS rfl (bW (a:=.cp _) Tryz.underlying141 rfl rfl)<|zS rfl (aZ (av:=.ifc _ _) rfl)<|ag<|aQ ?_;obtain rfl:=aq H;exact And.intro rfl ⟨_,_,aO rfl (.refl _),aK [0] rfl,t45,by kernel_rfl,rfl⟩
set_option maxRecDepth 100000 in
set_option maxHeartbeats 1000000 in
theorem w_rp_New (F:Nat) (q1:Option Nat) (H:rp_New F=some ()):ACalls Tryz.prog 52 [slE Enc.str entOld q1] [] (fun e A'=>∃ o t:Nat,e=.ret (.pt o 0)∧A'=[.obj o [.v (.int .u32 0),.v (.int .i32 0),.v (.int .u32 0),.v .nilIface,slE Enc.str entOld (some t)]]):=by
 unfold rp_New at H
 refine az Tryz.func52 rfl rfl ?_;show AW _ _ 12 _ _ _;refine ac<|aa ?_;show AR _ _ _ _ _ [0] _;refine za rfl<|ag<|bq (X:=Unit) (fun _=>⟨[(0,slE Enc.str entOld q1)],[],[]⟩) (fun _=>oT=some ()) ?_ ?_
 ·refine ac ?_;obtain ⟨g2,H⟩:=aI H;refine aa ?_;show AR _ _ _ _ _ [0,1,2,3] _;refine zS rfl (ah (av:=slE _ _ _) rfl)<|zS rfl (bo (av':=i64 8) (bh ao rfl) rfl)<|zS rfl (bo (av':=i64 0) (tG rfl rfl g2) rfl)<|zS rfl (bo (av':=B false) (bI rfl rfl) (aw (by decide)))<|ag<|ax rfl (fun hx=>bP hx rfl) (fun _=>?_);refine aC ?_;exact Exists.intro () ⟨H,aP [] (.cons (.refl _) (.nil _)) rfl⟩
 rintro _ H;replace H:oT=some ():=H
 unfold oT at H
 refine ac ?_;obtain ⟨g5,H⟩:=aI H;refine aa ?_;show AR _ _ _ _ _ [0,1,2,3,4] _;refine zS rfl (ah (av:=slE _ _ _) rfl)<|zX rfl (fO (E:=Enc.str) (bytes:=16) ao ao rfl (by kernel_rfl) rfl rfl rfl g5) ?_;rintro _ _ ⟨t4,rfl,rfl⟩;refine zS rfl (eH (zs:=[(.int .u32 0),(.int .i32 0),(.int .u32 0),.nilIface,.slice none 0 0]) (ps:=[(0,3),(3,1),(4,1)]) (cs:=[.v (.int .u32 0),.v (.int .i32 0),.v (.int .u32 0),.v .nilIface,slE Enc.str entOld (some t4)]) (by kernel_rfl) rfl rfl)<|zX rfl (vW rfl (.inr ⟨_,rfl⟩)) ?_;rintro _ _ ⟨o6,rfl,rfl⟩;refine zS rfl (aZ (av:=.pt _ _) rfl)<|ag<|aQ ?_;exact And.intro rfl ⟨_,_,aO rfl (.refl _),aK [0] rfl,_,_,rfl,rfl⟩
set_option maxRecDepth 100000 in
set_option maxHeartbeats 1000000 in
theorem vv (F:Nat) (q1:Option Nat) (a2:List UInt8) (r3:List UInt8) (H:iO F a2=some r3):ACalls Tryz.prog 211 [.cp (gw entRep q1),S a2] [] (Ret (S r3) []):=by
 unfold iO at H
 refine az Tryz.func211 rfl rfl ?_;show AW _ _ 122 _ _ _;refine ac<|aa ?_;show AR _ _ _ _ _ [0] _;refine za rfl<|ag<|ac<|aa ?_;show AR _ _ _ _ _ [0,1,2] _;refine zm rfl<|zS rfl (aW ab rfl)<|za rfl<|ag<|ac<|aa ?_;show AR _ _ _ _ _ [0] _;refine za rfl<|ag<|bq (X:=Int×Bool) (fun (y55,y56)=>⟨[(0,.cp (gw entRep q1)),(1,S a2),(5,i64 y55),(6,B y56)],[],[]⟩) (fun (y55,y56)=>eh F a2 y55 y56=some r3) ?_ ?_
 ·refine ac ?_;obtain ⟨g4,H⟩:=aI H;refine aa ?_;show AR _ _ _ _ _ [0,1,2,3,4,5,6,7,8] _;refine zS rfl (ah (av:=.cp _) rfl)<|zS rfl (bu rfl)<|zS rfl (bo (av':=.cp [slE Enc.str entRep q1]) (aN (n:=256) (by kernel_rfl) rfl (entLe _)) (zA _))<|zS rfl (aG ao rfl rfl)<|zS rfl (bh ao rfl)<|zS rfl (g_mul rfl rfl g4)<|zm rfl<|zS rfl (aW ab rfl)<|zS rfl (dW rfl rfl)<|ag<|ax rfl (fun c5=>?_) (fun c5=>?_)
  ·replace H:=be c5 H;refine ac<|aa ?_;show AR _ _ _ _ _ [0,1,2,3,4,5] _;refine zS rfl (ah (av:=.cp _) rfl)<|zS rfl (bu rfl)<|zS rfl (bo (av':=.cp [slE Enc.str entRep q1]) (aN (n:=256) (by kernel_rfl) rfl (entLe _)) (zA _))<|zS rfl (aG ao rfl rfl)<|zS rfl (bh ao rfl)<|zm rfl<|ag<|aR<|cl (X:=Nat×Int×Bool×Int) (fun (n10,y6,y7,y8)=>⟨[(0,.cp (gw entRep q1)),(1,S a2),(5,i64 y6),(6,B y7),(30,slE Enc.str entRep q1),(31,i64 (entRep.length:Int)),(32,i64 y8)],[],[]⟩) (fun (n10,y6,y7,y8)=>da F a2 n10 (y6,y7,y8)=some r3) (fun (n10,y6,y7,y8)=>n10) (F,(a2.length:Int),false,0) H (aP [] (.cons (.refl _) (.cons (.refl _) (.cons (.refl _) (.cons (.refl _) (.cons (.refl _) (.cons (.refl _) (.cons (.refl _) (.nil _)))))))) rfl) ?_;rintro ⟨n10,y6,y7,y8⟩ H;obtain ⟨n10,rfl,H⟩:=cO H;replace H:fU F a2 (da F a2 n10) y6 y7 y8=some r3:=H
   unfold fU at H
   refine ac<|aa ?_;show AR _ _ _ _ _ [0] _;refine zS rfl (bN rfl rfl)<|ag<|ac<|ax rfl (fun c11=>?_) (fun c11=>?_)
   ·replace H:=be c11 H;refine aC<|bq (X:=Int×Bool) (fun (y28,y29)=>⟨[(0,.cp (gw entRep q1)),(1,S a2),(5,i64 y28),(6,B y29),(30,slE Enc.str entRep q1),(31,i64 (entRep.length:Int)),(32,i64 y8)],[],[]⟩) (fun (y28,y29)=>gZ y8 (da F a2 n10) y28 y29=some r3) ?_ ?_
    ·refine aR<|ac ?_;obtain ⟨g12,H⟩:=aI H;obtain ⟨x13,e14,H⟩:=bz H;refine aa ?_;show AR _ _ _ _ _ [0,1,2] _;refine zS rfl (bA (E:=Enc.str) ao (by kernel_rfl) rfl rfl g12 e14)<|zS rfl (aG ab rfl rfl)<|za rfl<|ag<|ac ?_;obtain ⟨g15,H⟩:=aI H;obtain ⟨x16,e17,H⟩:=bz H;refine aa ?_;show AR _ _ _ _ _ [0,1,2,3] _;refine zm rfl<|zm rfl<|ar rfl rfl (aX rfl Be rfl (show ACalls _ _ _ [] (Ret (i64 x16) []) from by subst e17; exact yh a2 x13 (of_decide_eq_true g15)) ?_);refine za rfl<|ag<|ac<|aa ?_;show AR _ _ _ _ _ [0,1] _;refine zm rfl<|zS rfl (dD rfl rfl)<|ag<|ax rfl (fun c18=>?_) (fun c18=>?_)
     ·replace H:=be c18 H;refine ac ?_;obtain ⟨g19,H⟩:=aI H;obtain ⟨x20,e21,H⟩:=bz H;obtain ⟨g22,H⟩:=aI H;obtain ⟨x23,e24,H⟩:=bz H;obtain ⟨g25,H⟩:=aI H;obtain ⟨g26,H⟩:=aI H;obtain ⟨g27,H⟩:=aI H;refine bn (by kernel_rfl) ?_;show AI _ _ _ _ _ 14 (Array.replicate 14 false) _;refine zk 0 rfl (mv rfl) ?_;show zI 14 1;refine zk 1 rfl (mv rfl) ?_;show zI 14 3;refine zk 2 rfl (ah (av:=.cp _) rfl) ?_;show zI 14 7;refine zk 3 rfl (mv rfl) ?_;show zI 14 15;refine zk 4 rfl (bg ab rfl rfl g19 e21) ?_;show zI 14 31;refine zk 5 rfl (bu rfl) ?_;show zI 14 63;refine zk 6 rfl (bo (aN (n:=0) (by kernel_rfl) rfl (Nat.zero_le _)) rfl) ?_;show zI 14 127;refine zk 7 rfl (dU (E:=Enc.ob) (l:=lw) (post:=[slE Enc.str entRep q1]) rfl ck (by kernel_rfl) rfl rfl (by decide) g22 e24 rfl) ?_;show zI 14 255;refine bj (i:=8) (by kernel_rfl) rfl rfl<|aJ rfl (OpS.opR (tx (aG (c:=ob x23) ak rfl rfl) (ob_sl _)) _) ?_;show zI 14 511;refine zk 9 rfl (bh ak rfl) ?_;show zI 14 1023;refine zk 10 rfl (mc rfl rfl g25) ?_;show zI 14 2047;refine zk 11 rfl (g_mul rfl rfl g26) ?_;show zI 14 4095;refine zk 12 rfl (bB rfl rfl g27) ?_;show zI 14 8191;refine zk 13 rfl (asg rfl) ?_;show zI 14 16383;refine bw rfl<|aa ?_;show AR _ _ _ _ _ [0] _;refine za rfl<|ag ?_
      exact Exists.intro (y6+(x16*(((x23.getD []).length:Int) - 1)),true) ⟨H,aP [] (.cons (.refl _) (.cons (.refl _) (.cons (.refl _) (.cons (.refl _) (.cons (.refl _) (.cons (.refl _) (.cons (.refl _) (.nil _)))))))) rfl⟩
     ·replace H:=bf c18 H;refine aC ?_;exact Exists.intro (y6,y7) ⟨H,aP [] (.cons (.refl _) (.cons (.refl _) (.cons (.refl _) (.cons (.refl _) (.cons (.refl _) (.cons (.refl _) (.cons (.refl _) (.nil _)))))))) rfl⟩
    rintro ⟨y28,y29⟩ H;replace H:gZ y8 (da F a2 n10) y28 y29=some r3:=H
    unfold gZ at H
    obtain ⟨g31,H⟩:=aI H;refine aa ?_;show AR _ _ _ _ _ [0,1] _;refine zS rfl (bB rfl rfl g31)<|zm rfl<|ag ?_;exact Exists.intro (n10,y28,y29,y8+1) ⟨H,Nat.lt_succ_self _,aP [] (.cons (.refl _) (.cons (.refl _) (.cons (.refl _) (.cons (.refl _) (.cons (.refl _) (.cons (.refl _) (.cons (.refl _) (.nil _)))))))) rfl⟩
   ·replace H:=bf c11 H;refine bU ?_;exact Exists.intro (y6,y7) ⟨H,aP [] (.cons (.refl _) (.cons (.refl _) (.cons (.refl _) (.cons (.refl _) (.nil _))))) rfl⟩
  ·replace H:=bf c5 H;refine ac<|aa ?_;show AR _ _ _ _ _ [0] _;refine za rfl<|ag<|aR<|cl (X:=Nat×Int×Bool×Int) (fun (n36,y32,y33,y34)=>⟨[(0,.cp (gw entRep q1)),(1,S a2),(5,i64 y32),(6,B y33),(10,i64 y34)],[],[]⟩) (fun (n36,y32,y33,y34)=>fS F a2 n36 (y32,y33,y34)=some r3) (fun (n36,y32,y33,y34)=>n36) (F,(a2.length:Int),false,0) H (aP [] (.cons (.refl _) (.cons (.refl _) (.cons (.refl _) (.cons (.refl _) (.cons (.refl _) (.nil _)))))) rfl) ?_;rintro ⟨n36,y32,y33,y34⟩ H;obtain ⟨n36,rfl,H⟩:=cO H;replace H:jr F a2 (fS F a2 n36) y32 y33 y34=some r3:=H
   unfold jr at H
   refine ac<|ac<|aa ?_;show AR _ _ _ _ _ [0,1,2,3] _;refine zm rfl<|zm rfl<|zS rfl (aW ab rfl)<|zS rfl (bN rfl rfl)<|ag<|ax rfl (fun c37=>?_) (fun c37=>?_)
   ·replace H:=be c37 H;refine aC<|bq (X:=Int×Bool) (fun (y51,y52)=>⟨[(0,.cp (gw entRep q1)),(1,S a2),(5,i64 y51),(6,B y52),(10,i64 y34)],[],[]⟩) (fun (y51,y52)=>gY y34 (fS F a2 n36) y51 y52=some r3) ?_ ?_
    ·refine aR<|ac ?_;obtain ⟨g38,H⟩:=aI H;obtain ⟨x39,e40,H⟩:=bz H;refine aa ?_;show AR _ _ _ _ _ [0,1,2,3] _;refine zm rfl<|zm rfl<|zS rfl (bg ab rfl rfl g38 e40)<|za rfl<|ag<|ac ?_;obtain ⟨g41,H⟩:=aI H;obtain ⟨x42,e43,H⟩:=bz H;obtain ⟨g44,H⟩:=aI H;refine aa ?_;show AR _ _ _ _ _ [0,1,2,3,4,5,6] _;refine zS rfl (ah (av:=.cp _) rfl)<|zm rfl<|zS rfl (bu rfl)<|zS rfl (bo (aN (n:=0) (by kernel_rfl) rfl (Nat.zero_le _)) rfl)<|zS rfl (dU (E:=Enc.ob) (l:=lw) (post:=[slE Enc.str entRep q1]) rfl ck (by kernel_rfl) rfl rfl (by decide) g41 e43 rfl)<|zS rfl (aG (c:=ob x42) ak rfl rfl)<|zS rfl (pK (.inr rfl) ak rfl rfl g44)<|ag<|ax rfl (fun c45=>?_) (fun c45=>?_)
     ·replace H:=be c45 H;refine ac ?_;obtain ⟨g46,H⟩:=aI H;obtain ⟨x47,e48,H⟩:=bz H;obtain ⟨g49,H⟩:=aI H;obtain ⟨g50,H⟩:=aI H;refine aa ?_;show AR _ _ _ _ _ [0,1,2,3,4,5,6,7,8,9,10] _;refine zm rfl<|zS rfl (ah (av:=.cp _) rfl)<|zm rfl<|zS rfl (bu rfl)<|zS rfl (bo (aN (n:=0) (by kernel_rfl) rfl (Nat.zero_le _)) rfl)<|zS rfl (dU (E:=Enc.ob) (l:=lw) (post:=[slE Enc.str entRep q1]) rfl ck (by kernel_rfl) rfl rfl (by decide) g46 e48 rfl)<|zS rfl (tx (aG (c:=ob x47) ak rfl rfl) (ob_sl _))<|zS rfl (bh ak rfl)<|zS rfl (mc rfl rfl g49)<|zS rfl (bB rfl rfl g50)<|za rfl<|ag<|aa ?_;show AR _ _ _ _ _ [0] _;refine za rfl<|ag ?_;exact Exists.intro (y32+(((x47.getD []).length:Int) - 1),true) ⟨H,aP [] (.cons (.refl _) (.cons (.refl _) (.cons (.refl _) (.cons (.refl _) (.cons (.refl _) (.nil _)))))) rfl⟩
     ·replace H:=bf c45 H;refine aC ?_;exact Exists.intro (y32,y33) ⟨H,aP [] (.cons (.refl _) (.cons (.refl _) (.cons (.refl _) (.cons (.refl _) (.cons (.refl _) (.nil _)))))) rfl⟩
    rintro ⟨y51,y52⟩ H;replace H:gY y34 (fS F a2 n36) y51 y52=some r3:=H
    unfold gY at H
    obtain ⟨g54,H⟩:=aI H;refine aa ?_;show AR _ _ _ _ _ [0,1,2] _;refine zm rfl<|zS rfl (bB rfl rfl g54)<|za rfl<|ag ?_;exact Exists.intro (n36,y51,y52,y34+1) ⟨H,Nat.lt_succ_self _,aP [] (.cons (.refl _) (.cons (.refl _) (.cons (.refl _) (.cons (.refl _) (.cons (.refl _) (.nil _)))))) rfl⟩
   ·replace H:=bf c37 H;refine bU ?_;exact Exists.intro (y32,y33) ⟨H,aP [] (.cons (.refl _) (.cons (.refl _) (.cons (.refl _) (.cons (.refl _) (.nil _))))) rfl⟩
 rintro ⟨y55,y56⟩ H;replace H:eh F a2 y55 y56=some r3:=H
 unfold eh at H
 refine ac<|ac<|aa ?_;show AR _ _ _ _ _ [0,1] _;refine zm rfl<|zS rfl (ca rfl)<|ag<|ax rfl (fun c58=>?_) (fun c58=>?_)
 ·replace H:=be c58 H;refine ac<|aa ?_;show AR _ _ _ _ _ [0,1] _;refine zm rfl<|za rfl<|ag<|aQ ?_;obtain rfl:=aq H;exact And.intro rfl (Exists.intro _ (Exists.intro _ ⟨aO rfl (.refl _),aK [] rfl,rfl,rfl⟩))
 ·replace H:=bf c58 H;refine aC<|ac ?_;obtain ⟨g59,H⟩:=aI H;refine aa ?_;show AR _ _ _ _ _ [0,1,2] _;refine zm rfl<|zX rfl (wI (E:=Enc.byte) (bytes:=1) (zv:=0) ak (by kernel_rfl) (by kernel_rfl) rfl rfl rfl rfl rfl g59) ?_;rintro _ _ ⟨o60,rfl,rfl⟩;refine zS rfl (aZ (av:=.vw _ _ _ _) rfl)<|ag<|ac<|aa ?_;show AR _ _ _ _ _ [0] _;refine za rfl<|ag<|bq (X:=(List UInt8)) (fun y93=>⟨[(12,.vw o60 0 (Int.toNat y55) (Int.toNat y55))],[],[.obj o60 (Enc.byte.fl y93++List.replicate 0 .any)]⟩) (fun y93=>jq y55 y93=some r3) ?_ ?_
  ·refine ac<|aa ?_;show AR _ _ _ _ _ [0] _;refine za rfl<|ag<|aR<|cl (X:=Nat×Int×Int×(List UInt8)) (fun (n65,y61,y62,y63)=>⟨[(0,.cp (gw entRep q1)),(1,S a2),(12,.vw o60 0 (Int.toNat y55) (Int.toNat y55)),(13,i64 y61),(14,i64 y62)],[],[.obj o60 (Enc.byte.fl y63++List.replicate 0 .any)]⟩) (fun (n65,y61,y62,y63)=>fT a2 y55 n65 (y61,y62,y63)=some r3) (fun (n65,y61,y62,y63)=>n65) (F,0,0,List.replicate (Int.toNat y55) 0) H (aP [0] (.cons (.refl _) (.cons (.refl _) (.cons (.refl _) (.cons (.refl _) (.cons (.refl _) (.nil _)))))) rfl) ?_;rintro ⟨n65,y61,y62,y63⟩ H;obtain ⟨n65,rfl,H⟩:=cO H;replace H:js a2 y55 (fT a2 y55 n65) y61 y62 y63=some r3:=H
   unfold js at H
   refine ac<|ac<|aa ?_;show AR _ _ _ _ _ [0,1,2,3] _;refine zm rfl<|zm rfl<|zS rfl (aW ab rfl)<|zS rfl (bN rfl rfl)<|ag<|ax rfl (fun c66=>?_) (fun c66=>?_)
   ·replace H:=be c66 H;refine aC<|bq (X:=Int×(List UInt8)) (fun (y89,y90)=>⟨[(0,.cp (gw entRep q1)),(1,S a2),(12,.vw o60 0 (Int.toNat y55) (Int.toNat y55)),(13,i64 y89),(14,i64 y62)],[],[.obj o60 (Enc.byte.fl y90++List.replicate 0 .any)]⟩) (fun (y89,y90)=>hC y62 (fT a2 y55 n65) y89 y90=some r3) ?_ ?_
    ·refine aR<|ac ?_;obtain ⟨g67,H⟩:=aI H;obtain ⟨x68,e69,H⟩:=bz H;refine aa ?_;show AR _ _ _ _ _ [0,1,2,3] _;refine zm rfl<|zm rfl<|zS rfl (bg ab rfl rfl g67 e69)<|za rfl<|ag<|ac ?_;obtain ⟨g70,H⟩:=aI H;obtain ⟨x71,e72,H⟩:=bz H;obtain ⟨g73,H⟩:=aI H;refine aa ?_;show AR _ _ _ _ _ [0,1,2,3,4,5,6] _;refine zS rfl (ah (av:=.cp _) rfl)<|zm rfl<|zS rfl (bu rfl)<|zS rfl (bo (aN (n:=0) (by kernel_rfl) rfl (Nat.zero_le _)) rfl)<|zS rfl (dU (E:=Enc.ob) (l:=lw) (post:=[slE Enc.str entRep q1]) rfl ck (by kernel_rfl) rfl rfl (by decide) g70 e72 rfl)<|zS rfl (aG (c:=ob x71) ak rfl rfl)<|zS rfl (pK (.inr rfl) ak rfl rfl g73)<|ag<|ax rfl (fun c74=>?_) (fun c74=>?_)
     ·replace H:=be c74 H;obtain ⟨g75,H⟩:=aI H;obtain ⟨g76,H⟩:=aI H;obtain ⟨x77,e78,H⟩:=bz H;obtain ⟨g79,H⟩:=aI H;obtain ⟨g80,H⟩:=aI H;obtain ⟨x81,e82,H⟩:=bz H;obtain ⟨g83,H⟩:=aI H;refine bn (by kernel_rfl) ?_;show AI _ _ _ _ _ 13 (Array.replicate 13 false) _;refine zk 0 rfl (mv rfl) ?_;show zI 13 1;refine zk 1 rfl (ah (av:=.vw _ _ _ _) rfl) ?_;show zI 13 3;refine zk 2 rfl (mv rfl) ?_;show zI 13 7;refine zk 3 rfl (wR ak (by kernel_rfl) rfl rfl g75 (Nat.le_refl _)) ?_;show zI 13 15;refine zk 4 rfl (ah (av:=.cp _) rfl) ?_;show zI 13 31;refine zk 5 rfl (mv rfl) ?_;show zI 13 63;refine zk 6 rfl (bu rfl) ?_;show zI 13 127;refine zk 7 rfl (bo (aN (n:=0) (by kernel_rfl) rfl (Nat.zero_le _)) rfl) ?_;show zI 13 255;refine zk 8 rfl (dU (E:=Enc.ob) (l:=lw) (post:=[slE Enc.str entRep q1]) rfl ck (by kernel_rfl) rfl rfl (by decide) g76 e78 rfl) ?_;show zI 13 511;refine bj (i:=9) (by kernel_rfl) rfl rfl<|aJ rfl (OpS.opR (tx (aG (c:=ob x77) ak rfl rfl) (ob_sl _)) _) ?_;show zI 13 1023;refine bj (i:=10) (by kernel_rfl) rfl rfl<|aJ rfl (yo (k:=0) ak (by kernel_rfl) rfl rfl rfl g79 g80 e82) ?_;show zI 13 2047;refine zk 11 rfl (bB rfl rfl g83) ?_;show zI 13 4095;refine zk 12 rfl (asg rfl) ?_;show zI 13 8191;refine bw rfl ?_
      exact Exists.intro (y61+((x77.getD []).length:Int),x81) ⟨H,aP [0] (.cons (.refl _) (.cons (.refl _) (.cons (.refl _) (.cons (.refl _) (.cons (.refl _) (.nil _)))))) rfl⟩
     ·replace H:=bf c74 H;refine ac ?_;obtain ⟨g84,H⟩:=aI H;obtain ⟨g85,H⟩:=aI H;obtain ⟨x86,e87,H⟩:=bz H;refine aa ?_;show AR _ _ _ _ _ [0,1,2,3,4] _;refine zS rfl (ah (av:=.vw _ _ _ _) rfl)<|zm rfl<|zm rfl<|zS rfl (rU ak (by kernel_rfl) rfl rfl g84)<|s0 rfl rfl (wQ (k:=0) (c:=x68) (by kernel_rfl) rfl rfl rfl g85 e87)<|ag ?_;obtain ⟨g88,H⟩:=aI H;refine aa ?_;show AR _ _ _ _ _ [0,1,2] _;refine zm rfl<|zS rfl (bB rfl rfl g88)<|za rfl<|ag ?_;exact Exists.intro (y61+1,x86) ⟨H,aP [0] (.cons (.refl _) (.cons (.refl _) (.cons (.refl _) (.cons (.refl _) (.cons (.refl _) (.nil _)))))) rfl⟩
    rintro ⟨y89,y90⟩ H;replace H:hC y62 (fT a2 y55 n65) y89 y90=some r3:=H
    unfold hC at H
    obtain ⟨g92,H⟩:=aI H;refine aa ?_;show AR _ _ _ _ _ [0,1,2] _;refine zm rfl<|zS rfl (bB rfl rfl g92)<|za rfl<|ag ?_;exact Exists.intro (n65,y89,y62+1,y90) ⟨H,Nat.lt_succ_self _,aP [0] (.cons (.refl _) (.cons (.refl _) (.cons (.refl _) (.cons (.refl _) (.cons (.refl _) (.nil _)))))) rfl⟩
   ·replace H:=bf c66 H;refine bU ?_;exact Exists.intro y63 ⟨H,aP [0] (.cons (.refl _) (.nil _)) rfl⟩
  rintro y93 H;replace H:jq y55 y93=some r3:=H
  unfold jq at H
  refine ac ?_;obtain ⟨g95,H⟩:=aI H;refine aa ?_;show AR _ _ _ _ _ [0,1,2] _;refine zS rfl (ah (av:=.vw _ _ _ _) rfl)<|zR rfl (qK (k:=0) ak bi ab rfl g95 rfl)<|za rfl<|ag<|aQ ?_;obtain rfl:=aq H;exact And.intro rfl (Exists.intro _ (Exists.intro _ ⟨aO rfl (.refl _),aK [] rfl,rfl,rfl⟩))
theorem en100_h:∀ (args:Array Value) (w:World),(callFunc 100 args).run Tryz.prog w=.ok (.enter 100 args) w:=fun _ _=>by kernel_rfl
theorem en115_h:∀ (args:Array Value) (w:World),(callFunc 115 args).run Tryz.prog w=.ok (.enter 115 args) w:=fun _ _=>by kernel_rfl
theorem en116_h:∀ (args:Array Value) (w:World),(callFunc 116 args).run Tryz.prog w=.ok (.enter 116 args) w:=fun _ _=>by kernel_rfl
theorem en117_h:∀ (args:Array Value) (w:World),(callFunc 117 args).run Tryz.prog w=.ok (.enter 117 args) w:=fun _ _=>by kernel_rfl
theorem en98_h:∀ (args:Array Value) (w:World),(callFunc 98 args).run Tryz.prog w=.ok (.enter 98 args) w:=fun _ _=>by kernel_rfl
theorem en83_h:∀ (args:Array Value) (w:World),(callFunc 83 args).run Tryz.prog w=.ok (.enter 83 args) w:=fun _ _=>by kernel_rfl
theorem en99_h:∀ (args:Array Value) (w:World),(callFunc 99 args).run Tryz.prog w=.ok (.enter 99 args) w:=fun _ _=>by kernel_rfl
theorem en82_h:∀ (args:Array Value) (w:World),(callFunc 82 args).run Tryz.prog w=.ok (.enter 82 args) w:=fun _ _=>by kernel_rfl
theorem en211_h:∀ (args:Array Value) (w:World),(callFunc 211 args).run Tryz.prog w=.ok (.enter 211 args) w:=fun _ _=>by kernel_rfl
theorem en52_h:∀ (args:Array Value) (w:World),(callFunc 52 args).run Tryz.prog w=.ok (.enter 52 args) w:=fun _ _=>by kernel_rfl
theorem en53_h:∀ (args:Array Value) (w:World),(callFunc 53 args).run Tryz.prog w=.ok (.enter 53 args) w:=fun _ _=>by kernel_rfl
abbrev rpC (d s:Int) (x y:AV):List AV:=[.v (.int .u32 d),.v (.int .i32 s),.v (.int .u32 0),x,y]
abbrev rpT (t:Nat):AV:=.ifc 141 (.cp (gw entRep (some t)))
set_option maxRecDepth 100000 in
theorem wz (o:Nat) (q:Option Nat):ACalls Tryz.prog 83 [.pt o 0] [.obj o (rpC 0 1 (.v .nilIface) (slE Enc.str entOld q))] (fun e A'=>∃ t:Nat,e=.ret (.tup [])∧A'=[.obj o (rpC 0 1 (rpT t) aj)]):=by
 refine az Tryz.func83 rfl rfl ?_;show AW _ _ 10 _ _ _;refine ac<|aa ?_;show AR _ _ _ _ _ [0,1,2,3,4,5] _;refine zS rfl (ah (av:=.pt _ _) rfl)<|zS rfl (ah (av:=.pt _ _) rfl)<|ar rfl rfl (eM [] rfl en100_h rfl (xT 0 o q entRep (by decide +kernel)) (bG _) ?_ (fun c A' h=>by obtain ⟨t,h,_⟩:=h; cases h));rintro av A' ⟨t,h,rfl⟩
 cases h
 refine zS rfl (am rfl)<|zS rfl (ai (n:=3) (by kernel_rfl) rfl)<|s0 rfl rfl (aA (i:=0) (c:=.ifc _ _) (by kernel_rfl) rfl rfl rfl rfl (af rfl))<|ag<|aa ?_;show AR _ _ _ _ _ [0,1,2,3] _;refine zS rfl (ah (av:=.pt _ _) rfl)<|zS rfl (am rfl)<|zS rfl (ai (n:=4) (by kernel_rfl) rfl)<|s0 rfl rfl (aA (i:=0) (c:=.v _) (by kernel_rfl) rfl rfl rfl rfl (af rfl))<|ag ?_;exact And.intro rfl ⟨_,_,bp rfl,aK [0] rfl,t,rfl,rfl⟩
set_option maxRecDepth 100000 in
theorem w_doSlow (o:Nat) (q:Option Nat):ACalls Tryz.prog 99 [.pt o 0,.fn (.func 83) [.pt o 0] []] [.obj o (rpC 0 0 (.v .nilIface) (slE Enc.str entOld q))] (fun e A'=>∃ t:Nat,e=.ret (.tup [])∧A'=[.obj o (rpC 1 0 (rpT t) aj)]):=by
 refine nJ [] Tryz.func99 rfl rfl ?_;show AW _ _ 21 _ _ _;refine ac<|aa ?_;show AR _ _ _ _ _ [0,1,2,3] _;refine zS rfl (ah (av:=.pt _ _) rfl)<|zS rfl (am rfl)<|zS rfl (ai (n:=1) (by kernel_rfl) rfl)<|ar rfl rfl (aY [0] rfl en115_h rfl (zW 0 o _ _ rfl) rfl (fun c A' h=>by cases h.1) ?_)
 rintro av A' ⟨h,rfl⟩; cases h
 refine ag<|ac<|aa ?_;show AR _ _ _ _ _ [0,1,2,3] _;refine zS rfl (ah (av:=.pt _ _) rfl)<|zS rfl (am rfl)<|zS rfl (ai (n:=1) (by kernel_rfl) rfl)<|ar rfl rfl (AO.deferFn rfl ?_);refine ag<|ac<|aa ?_;show AR _ _ _ _ _ [0,1,2,3,4] _;refine zS rfl (ah (av:=.pt _ _) rfl)<|zS rfl (am rfl)<|zS rfl (ai (n:=0) (by kernel_rfl) rfl)<|ar rfl rfl (aY [0] rfl en98_h rfl (uq 0 o 0 1 _ _ false rfl) rfl (fun c A' h=>by cases h.1) ?_)
 rintro av A' ⟨h,rfl⟩; cases h
 refine zS rfl (ca rfl)<|ag<|ax rfl (fun c=>?_) (fun c=>by cases c);refine ac<|aa ?_;show AR _ _ _ _ _ [0,1,2,3] _;refine zS rfl (ah (av:=.pt _ _) rfl)<|zS rfl (am rfl)<|zS rfl (ai (n:=0) (by kernel_rfl) rfl)<|ar rfl rfl (AO.deferFn rfl ?_);refine ag<|aa ?_;show AR _ _ _ _ _ [0,1] _;refine zS rfl (ah (av:=.fn _ _ _) rfl)<|ar rfl rfl (AO.callF [] rfl (.inl rfl) en83_h rfl (wz o q) (bG _) ?_ (fun c A' h=>by obtain ⟨t,h,_⟩:=h; cases h));rintro av A' ⟨t,h,rfl⟩
 cases h
 refine ag ?_;show ALeaves _ _ _ _ _ [.call (.func 117) [] [.pt o 0,B true],.call (.func 116) [] [.pt o 1]] .returning [.obj o (rpC 0 1 (rpT t) aj)];refine jD (v:=.tup []) (u1:=.returning) (A2:=[.obj o (rpC 1 1 (rpT t) aj)]) [0] (fun h=>by cases h) en117_h rfl (yH .returning 0 o _ _ true 1 rfl)<|jD (v:=.tup []) (u1:=.returning) (A2:=[.obj o (rpC 1 0 (rpT t) aj)]) [0] (fun h=>by cases h) en116_h rfl (wW .returning 0 o 1 _ _ rfl) ?_;exact ⟨.tup [],_,ResT.none rfl,bX _,t,rfl,rfl⟩
set_option maxRecDepth 100000 in
theorem w_Do (o:Nat) (q:Option Nat):ACalls Tryz.prog 82 [.pt o 0,.fn (.func 83) [.pt o 0] []] [.obj o (rpC 0 0 (.v .nilIface) (slE Enc.str entOld q))] (fun e A'=>∃ t:Nat,e=.ret (.tup [])∧A'=[.obj o (rpC 1 0 (rpT t) aj)]):=by
 refine az Tryz.func82 rfl rfl ?_;show AW _ _ 12 _ _ _;refine ac<|aa ?_;show AR _ _ _ _ _ [0,1,2,3,4] _;refine zS rfl (ah (av:=.pt _ _) rfl)<|zS rfl (am rfl)<|zS rfl (ai (n:=0) (by kernel_rfl) rfl)<|ar rfl rfl (aY [0] rfl en98_h rfl (uq 0 o 0 0 _ _ false rfl) rfl (fun c A' h=>by cases h.1) ?_)
 rintro av A' ⟨h,rfl⟩; cases h
 refine zS rfl (ca rfl)<|ag<|ax rfl (fun c=>?_) (fun c=>by cases c);refine aa ?_;show AR _ _ _ _ _ [0,1,2] _;refine zS rfl (ah (av:=.pt _ _) rfl)<|zS rfl (ah (av:=.fn _ _ _) rfl)<|ar rfl rfl (eM [] rfl en99_h rfl (w_doSlow o q) (bG _) ?_ (fun c A' h=>by obtain ⟨t,h,_⟩:=h; cases h));rintro av A' ⟨t,h,rfl⟩
 cases h
 refine ag ?_;exact And.intro rfl ⟨_,_,bp rfl,aK [0] rfl,t,rfl,rfl⟩
set_option maxRecDepth 100000 in
theorem xX (F o:Nat) (q:Option Nat) (s r:List UInt8) (H:iO F s=some r):ACalls Tryz.prog 53 [.pt o 0,S s] [.obj o (rpC 0 0 (.v .nilIface) (slE Enc.str entOld q))] (fun e A'=>e=.ret (S r)∧A'=[]):=by
 refine az Tryz.func53 rfl rfl ?_;show AW _ _ 17 _ _ _;refine ac<|aa ?_;show AR _ _ _ _ _ [0] _;refine za rfl<|ag<|ac<|aa ?_;show AR _ _ _ _ _ [0,1,2,3,4,5] _;refine zS rfl (ah (av:=.pt _ _) rfl)<|zS rfl (am rfl)<|zS rfl (ai (n:=0) (by kernel_rfl) rfl)<|zS rfl (ah (av:=.pt _ _) rfl)<|zS rfl (lI rfl rfl)<|ar rfl rfl (eM [] rfl en82_h rfl (w_Do o q) (bG _) ?_ (fun c A' h=>by obtain ⟨t,h,_⟩:=h; cases h));rintro av A' ⟨t,h,rfl⟩
 cases h
 refine ag<|ac<|aa ?_;show AR _ _ _ _ _ [0,1,2,3,4,5,6] _;refine zS rfl (ah (av:=.pt _ _) rfl)<|zS rfl (am rfl)<|zS rfl (ai (n:=3) (by kernel_rfl) rfl)<|zR rfl (al (i:=0) Tryz.underlying107 rfl rfl rfl rfl)<|zm rfl<|ar rfl rfl (AO.invoke [.obj o (rpC 1 0 (rpT t) aj)] rfl rfl (fun v w=>by kernel_rfl) en211_h rfl (vv F (some t) s r H) (bG _) ?_ (fun c A' h=>by cases h.1));rintro av A' ⟨h,rfl⟩
 cases h
 refine za rfl<|ag<|aQ ?_;exact And.intro rfl ⟨_,_,aO rfl (.refl _),bC _,rfl,rfl⟩
set_option maxRecDepth 100000 in
theorem xc (F:Nat) (s r:List UInt8) (H:iO F s=some r):ACalls Tryz.prog 29 [S s] [] (Ret (S r) []):=by
 refine az Tryz.func29 rfl rfl ?_;show AW _ _ 7 _ _ _;refine ac<|aa ?_;show AR _ _ _ _ _ [0] _;refine za rfl<|ag<|ac<|aa ?_;show AR _ _ _ _ _ [0,1,2,3,4] _;refine zR rfl (ce (E:=Enc.str) (bytes:=16) (xs:=entOld.map fun l=>.const (.string ⟨l.toArray⟩)) (l:=entOld) ao (by kernel_rfl) rfl rfl (by decide) rfl rfl)<|ar rfl rfl (eM [] rfl en52_h rfl (w_rp_New 0 none (by decide +kernel)) (bG _) ?_ (fun c A' h=>by obtain ⟨o,t,h,_⟩:=h; cases h));rintro av A' ⟨o,t,h,rfl⟩
 cases h
 refine zm rfl<|ar rfl rfl (eM [] rfl en53_h rfl (xX F o (some t) s r H) (bG _) ?_ (fun c A' h=>by cases h.1));rintro av A' ⟨h,rfl⟩
 cases h
 refine za rfl<|ag<|aQ ?_;exact And.intro rfl ⟨_,_,aO rfl (.refl _),bC _,rfl,rfl⟩
end Go.Proofs.YteokdkimegepoaaGreatDoor
namespace Go.Pv
def jY (F:Nat) (a1:List (Int×(List UInt8)×(List UInt8)×List ((List UInt8)×List UInt8))) (y84:List UInt8):Option ((List UInt8)×Int) :=
grd (okW y84 []) <|
grd (cI y84.length) <|
iE (kf F y84) fun x90 x91 =>
lL (!(!decide (x91=0))) (nR F x90 a1) fun x94 =>
bif (!decide (x91=0))||(!x94) then
  some ([],1)
else
  some (y84,0)
def fP (y7:Int) (rec11:(Int×(List UInt8))→Option ((List UInt8)×Int)) (y79:List UInt8):Option ((List UInt8)×Int) :=
grd (okI (y7+1)) <|
rec11 (y7+1,y79)
def lc (y7:Int) (rec11:(Int×(List UInt8))→Option ((List UInt8)×Int)) (y55:List UInt8):Option ((List UInt8)×Int) :=
grd (okW y55 ([62]:List UInt8)) <|
lt (y55++([62]:List UInt8)) fun x59 =>
fP y7 rec11 x59
def lg (F:Nat) (y7:Int) (x15:Int×(List UInt8)×(List UInt8)×List ((List UInt8)×List UInt8)) (rec11:(Int×(List UInt8))→Option ((List UInt8)×Int)) (rec29:(Int×(List UInt8))→Option ((List UInt8)×Int)) (y26:Int) (y27:List UInt8):Option ((List UInt8)×Int) :=
bif decide (y26 < (x15.2.2.2.length:Int)) then
  grd (co y26 x15.2.2.2.length) <|
  lt (at_ x15.2.2.2 y26) fun x33 =>
  grd (cI (([32]:List UInt8).length+x33.1.length)) <|
  lt (([32]:List UInt8)++x33.1) fun x37 =>
  grd (cI (x37.length+([61,34]:List UInt8).length)) <|
  lt (x37++([61,34]:List UInt8)) fun x40 =>
  bnd (iO F x33.2) fun x42 =>
  grd (cI (x40.length+x42.length)) <|
  lt (x40++x42) fun x45 =>
  grd (cI (x45.length+([34]:List UInt8).length)) <|
  lt (x45++([34]:List UInt8)) fun x48 =>
  grd (okW y27 x48) <|
  lt (y27++x48) fun x51 =>
  grd (okI (y26+1)) <|
  rec29 (y26+1,x51)
else
  lc y7 rec11 y27
def ld (F:Nat) (y7:Int) (x15:Int×(List UInt8)×(List UInt8)×List ((List UInt8)×List UInt8)) (rec11:(Int×(List UInt8))→Option ((List UInt8)×Int)) (n:Nat):(Int×(List UInt8))→Option ((List UInt8)×Int) :=
  loop (fun rec x=>lg F y7 x15 rec11 rec x.1 x.2) n
def lf (F:Nat) (a1:List (Int×(List UInt8)×(List UInt8)×List ((List UInt8)×List UInt8))) (rec11:(Int×(List UInt8))→Option ((List UInt8)×Int)) (y7:Int) (y9:List UInt8):Option ((List UInt8)×Int) :=
bif decide (y7 < (a1.length:Int)) then
  grd (co y7 a1.length) <|
  lt (at_ a1 y7) fun x15 =>
  bif decide (x15.1=0) then
    grd (cI (([60]:List UInt8).length+x15.2.1.length)) <|
    lt (([60]:List UInt8)++x15.2.1) fun x20 =>
    grd (okW y9 x20) <|
    lt (y9++x20) fun x23 =>
    ld F y7 x15 rec11 F (0,x23)
  else
    bif decide (x15.1=1) then
      grd (cI (([60,47]:List UInt8).length+x15.2.1.length)) <|
      lt (([60,47]:List UInt8)++x15.2.1) fun x64 =>
      grd (cI (x64.length+([62]:List UInt8).length)) <|
      lt (x64++([62]:List UInt8)) fun x67 =>
      grd (okW y9 x67) <|
      lt (y9++x67) fun x70 =>
      fP y7 rec11 x70
    else
      bnd (iO F x15.2.2.1) fun x73 =>
      grd (okW y9 x73) <|
      lt (y9++x73) fun x76 =>
      fP y7 rec11 x76
else
  jY F a1 y9
def dq (F:Nat) (a1:List (Int×(List UInt8)×(List UInt8)×List ((List UInt8)×List UInt8))) (n:Nat):(Int×(List UInt8))→Option ((List UInt8)×Int) :=
  loop (fun rec x=>lf F a1 rec x.1 x.2) n
def qn (F:Nat) (a1:List (Int×(List UInt8)×(List UInt8)×List ((List UInt8)×List UInt8))):Option ((List UInt8)×Int) :=
dq F a1 F (0,[])
end Go.Pv
namespace Go.Proofs.YteokdkimegepoaaGreatDoor
open Go.RowKit Go.Av Go.Pv
theorem Bz:∀ (args:Array Value) (w:World),(callFunc 10 args).run Tryz.prog w=.ok (.enter 10 args) w:=fun _ _=>by kernel_rfl
theorem Bn:∀ (args:Array Value) (w:World),(callFunc 13 args).run Tryz.prog w=.ok (.enter 13 args) w:=fun _ _=>by kernel_rfl
theorem ng:∀ (args:Array Value) (w:World),(callFunc 28 args).run Tryz.prog w=.ok (.enter 28 args) w:=fun _ _=>by kernel_rfl
theorem ve:∀ (args:Array Value) (w:World),(callFunc 29 args).run Tryz.prog w=.ok (.enter 29 args) w:=fun _ _=>by kernel_rfl
theorem AY:∀ (args:Array Value) (w:World),(callFunc 30 args).run Tryz.prog w=.ok (.enter 30 args) w:=fun _ _=>by kernel_rfl
set_option maxRecDepth 100000 in
set_option maxHeartbeats 1000000 in
theorem xP (F:Nat) (a1:List (Int×(List UInt8)×(List UInt8)×List ((List UInt8)×List UInt8))) (q2:Option Nat) (r3:List UInt8) (r4:Int) (H:qn F a1=some (r3,r4)):ACalls Tryz.prog 15 [slE (Enc.prod Enc.int (Enc.prod Enc.str (Enc.prod Enc.str (Enc.sl (Enc.prod Enc.str Enc.str))))) a1 q2] [] (Ret (.tup [slE Enc.byte r3 none,i64 r4]) []):=by
 unfold qn at H
 refine az Tryz.func15 rfl rfl ?_;show AW _ _ 73 _ _ _;refine ac<|aa ?_;show AR _ _ _ _ _ [0,1] _;refine za rfl<|za rfl<|ag<|ac<|aa ?_;show AR _ _ _ _ _ [0] _;refine zX rfl (pJ (zs:=[(.pointer none),.slice none 0 0]) (by kernel_rfl)) ?_;rintro _ _ ⟨o5,rfl,rfl⟩;refine ag ?_
 refine gE 0 1 1 5 rfl rfl fun t6=>?_
 show AW _ _ _ _ _ ⟨_,_,[.tok t6 5,.obj o5 [.v (.pointer none),slE Enc.byte [] (some t6)],.ty o5 60]⟩;refine bq (X:=AV×(List UInt8)×Nat) (fun (t83,y84,t85)=>⟨[(0,slE (Enc.prod Enc.int (Enc.prod Enc.str (Enc.prod Enc.str (Enc.sl (Enc.prod Enc.str Enc.str))))) a1 q2),(4,.pt o5 0)],[],[.obj o5 [t83,slE Enc.byte y84 (some t85)],.ty o5 60,.tok t85 5]⟩) (fun (t83,y84,t85)=>jY F a1 y84=some (r3,r4)∧(t83=.v (.pointer none)∨t83=.pt o5 0)) ?_ ?_
 ·refine ac<|aa ?_;show AR _ _ _ _ _ [0,1,2] _;refine zS rfl (ah (av:=slE _ _ _) rfl)<|zS rfl (bh ay rfl)<|zm rfl<|ag<|aR<|cl (X:=Nat×Int×AV×(List UInt8)×Nat) (fun (n12,y7,t8,y9,t10)=>⟨[(0,slE (Enc.prod Enc.int (Enc.prod Enc.str (Enc.prod Enc.str (Enc.sl (Enc.prod Enc.str Enc.str))))) a1 q2),(4,.pt o5 0),(12,slE (Enc.prod Enc.int (Enc.prod Enc.str (Enc.prod Enc.str (Enc.sl (Enc.prod Enc.str Enc.str))))) a1 q2),(13,i64 (a1.length:Int)),(14,i64 y7)],[],[.obj o5 [t8,slE Enc.byte y9 (some t10)],.ty o5 60,.tok t10 5]⟩) (fun (n12,y7,t8,y9,t10)=>dq F a1 n12 (y7,y9)=some (r3,r4)∧(t8=.v (.pointer none)∨t8=.pt o5 0)) (fun (n12,y7,t8,y9,t10)=>n12) (F,0,(.v (.pointer none)),[],t6) ⟨H,.inl rfl⟩ (aP [1,1,0] (.cons (.refl _) (.cons (.refl _) (.cons (.refl _) (.cons (.refl _) (.cons (.refl _) (.nil _)))))) rfl) ?_;rintro ⟨n12,y7,t8,y9,t10⟩ ⟨H,ht8⟩;obtain ⟨n12,rfl,H⟩:=cO H;replace H:lf F a1 (dq F a1 n12) y7 y9=some (r3,r4):=H
  unfold lf at H
  refine ac<|aa ?_;show AR _ _ _ _ _ [0] _;refine zS rfl (bN rfl rfl)<|ag<|ac<|ax rfl (fun c13=>?_) (fun c13=>?_)
  ·replace H:=be c13 H;refine aC<|bq (X:=(List UInt8)×Nat) (fun (y79,t80)=>⟨[(0,slE (Enc.prod Enc.int (Enc.prod Enc.str (Enc.prod Enc.str (Enc.sl (Enc.prod Enc.str Enc.str))))) a1 q2),(4,.pt o5 0),(12,slE (Enc.prod Enc.int (Enc.prod Enc.str (Enc.prod Enc.str (Enc.sl (Enc.prod Enc.str Enc.str))))) a1 q2),(13,i64 (a1.length:Int)),(14,i64 y7)],[],[.obj o5 [.pt o5 0,slE Enc.byte y79 (some t80)],.ty o5 60,.tok t80 5]⟩) (fun (y79,t80)=>fP y7 (dq F a1 n12) y79=some (r3,r4)) ?_ ?_
   ·refine aR<|ac ?_;obtain ⟨g14,H⟩:=aI H;obtain ⟨x15,e16,H⟩:=bz H;refine aa ?_;show AR _ _ _ _ _ [0,1,2,3] _;refine zS rfl (bA (E:=(Enc.prod Enc.int (Enc.prod Enc.str (Enc.prod Enc.str (Enc.sl (Enc.prod Enc.str Enc.str)))))) ay (by kernel_rfl) rfl rfl g14 e16)<|zS rfl (cx cA rfl (n:=4) (by kernel_rfl) rfl (af rfl))<|zX rfl (dw (zs:=[.int .i64 0,.string ⟨#[]⟩,.string ⟨#[]⟩,.slice none 0 0]) (by kernel_rfl)) ?_;rintro _ _ ⟨o17,rfl,rfl⟩;refine s0 rfl rfl (cn (i:=0) (vs:=[i64 x15.1,S x15.2.1,S x15.2.2.1,slE (Enc.prod Enc.str Enc.str) x15.2.2.2 none]) (by kernel_rfl) rfl rfl (by simp [cE,slE]) rfl (af rfl))<|AR.freezeCp 6 0 rfl rfl ?_;show AR _ _ _ _ _ _ ⟨_,_,[.obj o5 [t8,slE Enc.byte y9 (some t10)],.ty o5 60,.tok t10 5]⟩;refine ag<|ac<|aa ?_;show AR _ _ _ _ _ [0,1] _;refine zS rfl (aN (n:=0) (by kernel_rfl) rfl (af rfl))<|zS rfl (aG au rfl rfl)<|ag<|aR<|ac<|aa ?_;show AR _ _ _ _ _ [0,1] _;refine zS rfl (bI rfl rfl)<|za rfl<|ag<|ax rfl (fun c18=>?_) (fun c18=>?_)
    ·replace H:=be c18 H;refine ac ?_;obtain ⟨g19,H⟩:=aI H;obtain ⟨x20,e21,H⟩:=bz H;obtain ⟨g22,H⟩:=aI H;obtain ⟨x23,e24,H⟩:=bz H;refine aa ?_;show AR _ _ _ _ _ [0,1,2,3] _;refine zS rfl (aN (n:=1) (by kernel_rfl) rfl (af rfl))<|zS rfl (aG ab rfl rfl)<|zS rfl (mZ rfl rfl g19 e21)<|ar rfl rfl (aY [0,0,0] rfl ng rfl (ci  o5 (t8) ht8 y9 x20 t10 (qM g22)) rfl (fun c A' h=>by cases h.1) ?_)
     rintro av A' ⟨h,t25,rfl⟩; cases h
     rw [e24]
     refine ag<|bq (X:=(List UInt8)×Nat) (fun (y55,t56)=>⟨[(0,slE (Enc.prod Enc.int (Enc.prod Enc.str (Enc.prod Enc.str (Enc.sl (Enc.prod Enc.str Enc.str))))) a1 q2),(4,.pt o5 0),(12,slE (Enc.prod Enc.int (Enc.prod Enc.str (Enc.prod Enc.str (Enc.sl (Enc.prod Enc.str Enc.str))))) a1 q2),(13,i64 (a1.length:Int)),(14,i64 y7)],[],[.obj o5 [.pt o5 0,slE Enc.byte y55 (some t56)],.ty o5 60,.tok t56 5]⟩) (fun (y55,t56)=>lc y7 (dq F a1 n12) y55=some (r3,r4)) ?_ ?_
     ·refine ac<|aa ?_;show AR _ _ _ _ _ [0,1,2,3] _;refine zS rfl (aN (n:=3) (by kernel_rfl) rfl (af rfl))<|zS rfl (aG aH rfl rfl)<|zS rfl (bh aH rfl)<|zm rfl<|ag<|aR<|cl (X:=Nat×Int×(List UInt8)×Nat) (fun (n30,y26,y27,t28)=>⟨[(0,slE (Enc.prod Enc.int (Enc.prod Enc.str (Enc.prod Enc.str (Enc.sl (Enc.prod Enc.str Enc.str))))) a1 q2),(4,.pt o5 0),(12,slE (Enc.prod Enc.int (Enc.prod Enc.str (Enc.prod Enc.str (Enc.sl (Enc.prod Enc.str Enc.str))))) a1 q2),(13,i64 (a1.length:Int)),(14,i64 y7),(31,slE (Enc.prod Enc.str Enc.str) x15.2.2.2 none),(32,i64 (x15.2.2.2.length:Int)),(33,i64 y26)],[],[.obj o5 [.pt o5 0,slE Enc.byte y27 (some t28)],.ty o5 60,.tok t28 5]⟩) (fun (n30,y26,y27,t28)=>ld F y7 x15 (dq F a1 n12) n30 (y26,y27)=some (r3,r4)) (fun (n30,y26,y27,t28)=>n30) (F,0,x23,t25) H (aP [0,0,0] (.cons (.refl _) (.cons (.refl _) (.cons (.refl _) (.cons (.refl _) (.cons (.refl _) (.cons (.refl _) (.cons (.refl _) (.cons (.refl _) (.nil _))))))))) rfl) ?_;rintro ⟨n30,y26,y27,t28⟩ H;obtain ⟨n30,rfl,H⟩:=cO H;replace H:lg F y7 x15 (dq F a1 n12) (ld F y7 x15 (dq F a1 n12) n30) y26 y27=some (r3,r4):=H
      unfold lg at H
      refine ac<|aa ?_;show AR _ _ _ _ _ [0] _;refine zS rfl (bN rfl rfl)<|ag<|ac<|ax rfl (fun c31=>?_) (fun c31=>?_)
      ·replace H:=be c31 H;refine aC<|ac<|aR<|ac ?_;obtain ⟨g32,H⟩:=aI H;obtain ⟨x33,e34,H⟩:=bz H;refine aa ?_;show AR _ _ _ _ _ [0,1,2,3] _;refine zS rfl (bA (E:=(Enc.prod Enc.str Enc.str)) aH (by kernel_rfl) rfl rfl g32 e34)<|zS rfl (cx bM rfl (n:=2) (by kernel_rfl) rfl (af rfl))<|zX rfl (dw (zs:=[.string ⟨#[]⟩,.string ⟨#[]⟩]) (by kernel_rfl)) ?_;rintro _ _ ⟨o35,rfl,rfl⟩;refine s0 rfl rfl (cn (i:=0) (vs:=[S x33.1,S x33.2]) (by kernel_rfl) rfl rfl (by simp [cE,slE]) rfl (af rfl))<|AR.freezeCp 8 0 rfl rfl ?_;show AR _ _ _ _ _ _ ⟨_,_,[.obj o5 [.pt o5 0,slE Enc.byte y27 (some t28)],.ty o5 60,.tok t28 5]⟩;refine ag ?_;obtain ⟨g36,H⟩:=aI H;obtain ⟨x37,e38,H⟩:=bz H;obtain ⟨g39,H⟩:=aI H;obtain ⟨x40,e41,H⟩:=bz H;obtain ⟨x42,e43,H⟩:=cm H;obtain ⟨g44,H⟩:=aI H;obtain ⟨x45,e46,H⟩:=bz H;obtain ⟨g47,H⟩:=aI H;obtain ⟨x48,e49,H⟩:=bz H;obtain ⟨g50,H⟩:=aI H;obtain ⟨x51,e52,H⟩:=bz H;refine bn (by kernel_rfl) ?_;show AI _ _ _ _ _ 10 (Array.replicate 10 false) _;refine zk 0 rfl (aN (n:=0) (by kernel_rfl) rfl (af rfl)) ?_;show zI 10 1;refine zk 1 rfl (aG ab rfl rfl) ?_;show zI 10 3;refine zk 2 rfl (mZ rfl rfl g36 e38) ?_;show zI 10 7;refine zk 3 rfl (mZ rfl rfl g39 e41) ?_;show zI 10 15
       refine zk 4 rfl (aN (n:=1) (by kernel_rfl) rfl (af rfl)) ?_;show zI 10 31;refine zk 5 rfl (aG ab rfl rfl) ?_;show zI 10 63;refine bj (i:=6) (by kernel_rfl) rfl rfl<|dV rfl ve rfl (xc F _ _ e43) ?_;show zI 10 127;refine zk 7 rfl (mZ rfl rfl g44 e46) ?_;show zI 10 255;refine zk 8 rfl (mZ rfl rfl g47 e49) ?_;show zI 10 511;refine bj (i:=9) (by kernel_rfl) rfl rfl<|AIO.callAt [0,0,0] rfl ng rfl (ci  o5 (.pt o5 0) (.inr rfl) y27 x48 t28 (qM g50)) rfl (fun c A' h=>by cases h.1) ?_
       rintro av A' ⟨h,t53,rfl⟩; cases h
       rw [e52]
       show zI 10 1023;refine bw rfl ?_;obtain ⟨g54,H⟩:=aI H;refine aa ?_;show AR _ _ _ _ _ [0,1] _;refine zS rfl (bB rfl rfl g54)<|zm rfl<|ag ?_;exact Exists.intro (n30,y26+1,x51,t53) ⟨H,Nat.lt_succ_self _,aP [0,0,0] (.cons (.refl _) (.cons (.refl _) (.cons (.refl _) (.cons (.refl _) (.cons (.refl _) (.cons (.refl _) (.cons (.refl _) (.cons (.refl _) (.nil _))))))))) rfl⟩
      ·replace H:=bf c31 H;refine bU ?_;exact Exists.intro (y27,t28) ⟨H,aP [0,0,0] (.cons (.refl _) (.cons (.refl _) (.cons (.refl _) (.cons (.refl _) (.cons (.refl _) (.nil _)))))) rfl⟩
     rintro ⟨y55,t56⟩ H;replace H:lc y7 (dq F a1 n12) y55=some (r3,r4):=H
     unfold lc at H
     obtain ⟨g58,H⟩:=aI H;obtain ⟨x59,e60,H⟩:=bz H;refine aa ?_;show AR _ _ _ _ _ [0] _;refine ar rfl rfl (aY [0,0,0] rfl ng rfl (ci  o5 (.pt o5 0) (.inr rfl) y55 ([62]:List UInt8) t56 (qM g58)) rfl (fun c A' h=>by cases h.1) ?_)
     rintro av A' ⟨h,t61,rfl⟩; cases h
     rw [e60]
     refine ag ?_;exact Exists.intro (x59,t61) ⟨H,aP [0,0,0] (.cons (.refl _) (.cons (.refl _) (.cons (.refl _) (.cons (.refl _) (.cons (.refl _) (.nil _)))))) rfl⟩
    ·replace H:=bf c18 H;refine ac<|aa ?_;show AR _ _ _ _ _ [0,1] _;refine zS rfl (bI rfl rfl)<|za rfl<|ag<|ax rfl (fun c62=>?_) (fun c62=>?_)
     ·replace H:=be c62 H;obtain ⟨g63,H⟩:=aI H;obtain ⟨x64,e65,H⟩:=bz H;obtain ⟨g66,H⟩:=aI H;obtain ⟨x67,e68,H⟩:=bz H;obtain ⟨g69,H⟩:=aI H;obtain ⟨x70,e71,H⟩:=bz H;refine aa ?_;show AR _ _ _ _ _ [0,1,2,3,4] _;refine zS rfl (aN (n:=1) (by kernel_rfl) rfl (af rfl))<|zS rfl (aG ab rfl rfl)<|zS rfl (mZ rfl rfl g63 e65)<|zS rfl (mZ rfl rfl g66 e68)<|ar rfl rfl (aY [0,0,0] rfl ng rfl (ci  o5 (t8) ht8 y9 x67 t10 (qM g69)) rfl (fun c A' h=>by cases h.1) ?_)
      rintro av A' ⟨h,t72,rfl⟩; cases h
      rw [e71]
      refine ag ?_;exact Exists.intro (x70,t72) ⟨H,aP [0,0,0] (.cons (.refl _) (.cons (.refl _) (.cons (.refl _) (.cons (.refl _) (.cons (.refl _) (.nil _)))))) rfl⟩
     ·replace H:=bf c62 H;obtain ⟨x73,e74,H⟩:=cm H;obtain ⟨g75,H⟩:=aI H;obtain ⟨x76,e77,H⟩:=bz H;refine aa ?_;show AR _ _ _ _ _ [0,1,2,3] _;refine zS rfl (aN (n:=2) (by kernel_rfl) rfl (af rfl))<|zS rfl (aG ab rfl rfl)<|ar rfl rfl (aX rfl ve rfl (xc F _ _ e74) ?_);refine ar rfl rfl (aY [0,0,0] rfl ng rfl (ci  o5 (t8) ht8 y9 x73 t10 (qM g75)) rfl (fun c A' h=>by cases h.1) ?_)
      rintro av A' ⟨h,t78,rfl⟩; cases h
      rw [e77]
      refine ag ?_;exact Exists.intro (x76,t78) ⟨H,aP [0,0,0] (.cons (.refl _) (.cons (.refl _) (.cons (.refl _) (.cons (.refl _) (.cons (.refl _) (.nil _)))))) rfl⟩
   rintro ⟨y79,t80⟩ H;replace H:fP y7 (dq F a1 n12) y79=some (r3,r4):=H
   unfold fP at H
   obtain ⟨g82,H⟩:=aI H;refine aa ?_;show AR _ _ _ _ _ [0,1] _;refine zS rfl (bB rfl rfl g82)<|zm rfl<|ag ?_;exact Exists.intro (n12,y7+1,(.pt o5 0),y79,t80) ⟨⟨H,.inr rfl⟩,Nat.lt_succ_self _,aP [0,0,0] (.cons (.refl _) (.cons (.refl _) (.cons (.refl _) (.cons (.refl _) (.cons (.refl _) (.nil _)))))) rfl⟩
  ·replace H:=bf c13 H;refine bU ?_;exact Exists.intro (t8,y9,t10) ⟨⟨H,ht8⟩,aP [0,0,0] (.cons (.refl _) (.cons (.refl _) (.nil _))) rfl⟩
 rintro ⟨t83,y84,t85⟩ ⟨H,ht83⟩;replace H:jY F a1 y84=some (r3,r4):=H
 unfold jY at H
 refine ac ?_;obtain ⟨g87,H⟩:=aI H;obtain ⟨g88,H⟩:=aI H;refine aa ?_;show AR _ _ _ _ _ [0,1,2] _;refine ar rfl rfl (aY [0,1] rfl AY rfl (lB  o5 (t83) y84 t85 (okW0_s g87)) rfl (fun c A' h=>by cases h.1) ?_)
 rintro av A' ⟨h,rfl⟩; cases h
 refine zX rfl (eP (bytes:=1) ab ak bi rfl g88) ?_;rintro _ _ ⟨t89,rfl,rfl⟩;refine zS rfl (aZ (av:=slE _ _ _) rfl)<|ag<|ac<|ac ?_;obtain ⟨x90,x91,e92,H⟩:=dd H;refine aa ?_;show AR _ _ _ _ _ [0,1,2,3,4,5,6] _;refine zS rfl (ah (av:=slE _ _ _) rfl)<|ar rfl rfl (aX rfl Bz rfl (rj F y84 (some t89) x90 x91 e92) ?_);refine zS rfl (ah (av:=.tup _) rfl)<|zS rfl (ba (av:=slE _ _ _) rfl rfl)<|zS rfl (ba (av:=.v _) rfl rfl)<|zS rfl (aZ (av:=slE _ _ _) rfl)<|za rfl<|ag<|ac ?_;obtain ⟨x94,e95,H⟩:=fZ H;refine aa ?_;show AR _ _ _ _ _ [0,1,2,3,4,5,6,7] _;refine zm rfl<|zS rfl (dD rfl rfl)<|zm rfl<|bk (l:=[]) 71 (B ((!decide (x91=0))||(!x94))) (fun K=>?_) ?_
 ·rcases ap (!decide (x91=0)) with h93 | h93
  ·refine zF h93 rfl<|zF h93 rfl<|zF h93 rfl<|zF h93 rfl<|zS rfl (aD (av:=.v _) rfl h93 rfl) ?_;exact K _ 4 _ (aw (ii h93)) rfl rfl
  ·refine zU h93 rfl (ah (av:=slE _ _ _) rfl)<|zU h93 rfl (ah (av:=slE _ _ _) rfl)<|zT h93 rfl (aX rfl Bn rfl (qO F x90 none a1 q2 x94 (e95 (nf h93))) ?_);refine zU h93 rfl (ca rfl)<|zS rfl (aF (av:=.v _) rfl h93 rfl) ?_;exact K _ 4 _ (aw (ie h93)) rfl rfl
 refine ag<|ax rfl (fun c96=>?_) (fun c96=>?_)
 ·replace H:=be c96 H;refine ac<|aa ?_;show AR _ _ _ _ _ [0,1] _;refine za rfl<|za rfl<|ag<|aQ ?_;obtain ⟨rfl,rfl⟩:=ek H;exact And.intro rfl (Exists.intro _ (Exists.intro _ ⟨bt rfl (.nil _) (.refl _),aK [] rfl,rfl,rfl⟩))
 ·replace H:=bf c96 H;refine aC<|ac<|aa ?_;show AR _ _ _ _ _ [0,1,2] _;refine zS rfl (ah (av:=slE _ _ _) rfl)<|zS rfl (aZ (av:=slE _ _ _) rfl)<|za rfl<|ag<|aQ ?_;obtain ⟨rfl,rfl⟩:=ek H;exact And.intro rfl (Exists.intro _ (Exists.intro _ ⟨bt rfl (.tok _ _ _) (.refl _),aK [] rfl,rfl,rfl⟩))
end Go.Proofs.YteokdkimegepoaaGreatDoor
namespace Go.Pv
def gS (F:Nat) (a1:List (Int×(List UInt8)×(List UInt8)×List ((List UInt8)×List UInt8))) (a3:List (Int×(List UInt8)×(List UInt8)×List ((List UInt8)×List UInt8))) (a5:List UInt8):Option Bool :=
bnd (ln F) fun x7 =>
bnd (kN F a1 40) fun x9 =>
bnd (kN F a3 40) fun x11 =>
bif (((!x7)||(!x9))||(!x11))||(decide (200 < (a5.length:Int))) then
  some x7
else
  iE (qn F a1) fun x17 x18 =>
  iE (mB F a1) fun x20 x21 =>
  bnd (kI F a5) fun x23 =>
  bnd (jO F a1 a3) fun x25 =>
  lL ((decide (x17=x20))&&(decide (x18=x21))) (nS F a5) fun x29 =>
  lL (((decide (x17=x20))&&(decide (x18=x21)))&&(x29==x23)) (md F a5) fun x32 =>
  lL (((decide (x17=x20))&&(decide (x18=x21)))&&(x29==x23)) (ll F a5) fun x34 =>
  lL ((((decide (x17=x20))&&(decide (x18=x21)))&&(x29==x23))&&(decide (x32=x34))) (nR F a1 a3) fun x37 =>
  some (((((decide (x17=x20))&&(decide (x18=x21)))&&(x29==x23))&&(decide (x32=x34)))&&(x37==x25))
end Go.Pv
namespace Go.Proofs.YteokdkimegepoaaGreatDoor
open Go.RowKit Go.Av Go.Pv
theorem sH:∀ (args:Array Value) (w:World),(callFunc 9 args).run Tryz.prog w=.ok (.enter 9 args) w:=fun _ _=>by kernel_rfl
theorem se:∀ (args:Array Value) (w:World),(callFunc 12 args).run Tryz.prog w=.ok (.enter 12 args) w:=fun _ _=>by kernel_rfl
theorem sd:∀ (args:Array Value) (w:World),(callFunc 13 args).run Tryz.prog w=.ok (.enter 13 args) w:=fun _ _=>by kernel_rfl
theorem nI:∀ (args:Array Value) (w:World),(callFunc 14 args).run Tryz.prog w=.ok (.enter 14 args) w:=fun _ _=>by kernel_rfl
theorem sc:∀ (args:Array Value) (w:World),(callFunc 15 args).run Tryz.prog w=.ok (.enter 15 args) w:=fun _ _=>by kernel_rfl
theorem sb:∀ (args:Array Value) (w:World),(callFunc 16 args).run Tryz.prog w=.ok (.enter 16 args) w:=fun _ _=>by kernel_rfl
theorem sa:∀ (args:Array Value) (w:World),(callFunc 17 args).run Tryz.prog w=.ok (.enter 17 args) w:=fun _ _=>by kernel_rfl
theorem rZ:∀ (args:Array Value) (w:World),(callFunc 18 args).run Tryz.prog w=.ok (.enter 18 args) w:=fun _ _=>by kernel_rfl
theorem rY:∀ (args:Array Value) (w:World),(callFunc 19 args).run Tryz.prog w=.ok (.enter 19 args) w:=fun _ _=>by kernel_rfl
theorem rX:∀ (args:Array Value) (w:World),(callFunc 20 args).run Tryz.prog w=.ok (.enter 20 args) w:=fun _ _=>by kernel_rfl
set_option maxRecDepth 100000 in
set_option maxHeartbeats 1000000 in
theorem pS (F:Nat) (a1:List (Int×(List UInt8)×(List UInt8)×List ((List UInt8)×List UInt8))) (q2:Option Nat) (a3:List (Int×(List UInt8)×(List UInt8)×List ((List UInt8)×List UInt8))) (q4:Option Nat) (a5:List UInt8) (r6:Bool) (H:gS F a1 a3 a5=some r6):ACalls Tryz.prog 7 [slE (Enc.prod Enc.int (Enc.prod Enc.str (Enc.prod Enc.str (Enc.sl (Enc.prod Enc.str Enc.str))))) a1 q2,slE (Enc.prod Enc.int (Enc.prod Enc.str (Enc.prod Enc.str (Enc.sl (Enc.prod Enc.str Enc.str))))) a3 q4,S a5] [] (Ret (B r6) []):=by
 unfold gS at H
 refine az Tryz.func7 rfl rfl ?_;show AW _ _ 82 _ _ _;refine ac<|aa ?_;show AR _ _ _ _ _ [0] _;refine za rfl<|ag<|ac ?_;obtain ⟨x7,e8,H⟩:=cm H;refine aa ?_;show AR _ _ _ _ _ [0,1] _;refine ar rfl rfl (aX rfl sH rfl (tV F x7 e8) ?_);refine za rfl<|ag<|ac ?_;obtain ⟨x9,e10,H⟩:=cm H;refine aa ?_;show AR _ _ _ _ _ [0,1,2] _;refine zS rfl (ah (av:=slE _ _ _) rfl)<|ar rfl rfl (aX rfl nI rfl (rk F a1 q2 40 x9 e10) ?_);refine za rfl<|ag<|ac ?_;obtain ⟨x11,e12,H⟩:=cm H;refine aa ?_;show AR _ _ _ _ _ [0,1,2] _;refine zS rfl (ah (av:=slE _ _ _) rfl)<|ar rfl rfl (aX rfl nI rfl (rk F a3 q4 40 x11 e12) ?_);refine za rfl<|ag<|ac<|ac<|aa ?_;show AR _ _ _ _ _ [0,1,2,3,4,5,6,7,8,9,10,11,12,13,14] _;refine zm rfl<|zS rfl (ca rfl)<|zm rfl<|bk (l:=[6,7,8,9,10,11,12,13,14]) 26 (B ((!x7)||(!x9))) (fun K=>?_) ?_
 ·rcases ap (!x7) with h13 | h13
  ·refine zF h13 rfl<|zF h13 rfl<|zS rfl (aD (av:=.v _) rfl h13 rfl) ?_;exact K _ 2 _ (aw (ii h13)) rfl rfl
  ·refine zM h13 rfl<|zU h13 rfl (ca rfl)<|zS rfl (aF (av:=.v _) rfl h13 rfl) ?_;exact K _ 2 _ (aw (ie h13)) rfl rfl
 refine zm rfl<|bk (l:=[10,11,12,13,14]) 30 (B (((!x7)||(!x9))||(!x11))) (fun K=>?_) ?_
 ·rcases ap ((!x7)||(!x9)) with h14 | h14
  ·refine zF h14 rfl<|zF h14 rfl<|zS rfl (aD (av:=.v _) rfl h14 rfl) ?_;exact K _ 2 _ (aw (ii h14)) rfl rfl
  ·refine zM h14 rfl<|zU h14 rfl (ca rfl)<|zS rfl (aF (av:=.v _) rfl h14 rfl) ?_;exact K _ 2 _ (aw (ie h14)) rfl rfl
 refine zm rfl<|bk (l:=[]) 35 (B ((((!x7)||(!x9))||(!x11))||(decide (200 < (a5.length:Int))))) (fun K=>?_) ?_
 ·rcases ap (((!x7)||(!x9))||(!x11)) with h15 | h15
  ·refine zF h15 rfl<|zF h15 rfl<|zF h15 rfl<|zS rfl (aD (av:=.v _) rfl h15 rfl) ?_;exact K _ 3 _ (aw (ii h15)) rfl rfl
  ·refine zM h15 rfl<|zU h15 rfl (aW ab rfl)<|zU h15 rfl (eN rfl rfl)<|zS rfl (aF (av:=.v _) rfl h15 rfl) ?_;exact K _ 3 _ (aw (ie h15)) rfl rfl
 refine ag<|ax rfl (fun c16=>?_) (fun c16=>?_)
 ·replace H:=be c16 H;refine ac<|aa ?_;show AR _ _ _ _ _ [0,1] _;refine zm rfl<|za rfl<|ag<|aQ ?_;obtain rfl:=aq H;exact And.intro rfl (Exists.intro _ (Exists.intro _ ⟨aO rfl (.refl _),aK [] rfl,rfl,rfl⟩))
 ·replace H:=bf c16 H;refine aC<|ac ?_;obtain ⟨x17,x18,e19,H⟩:=dd H;refine aa ?_;show AR _ _ _ _ _ [0,1,2,3,4,5,6] _;refine zS rfl (ah (av:=slE _ _ _) rfl)<|ar rfl rfl (aX rfl sc rfl (xP F a1 q2 x17 x18 e19) ?_);refine zS rfl (ah (av:=.tup _) rfl)<|zS rfl (ba (av:=slE _ _ _) rfl rfl)<|zS rfl (ba (av:=.v _) rfl rfl)<|zS rfl (aZ (av:=slE _ _ _) rfl)<|za rfl<|ag<|ac ?_;obtain ⟨x20,x21,e22,H⟩:=dd H;refine aa ?_;show AR _ _ _ _ _ [0,1,2,3,4,5,6] _;refine zS rfl (ah (av:=slE _ _ _) rfl)<|ar rfl rfl (aX rfl sb rfl (tQ F a1 q2 x20 x21 e22) ?_);refine zS rfl (ah (av:=.tup _) rfl)<|zS rfl (ba (av:=slE _ _ _) rfl rfl)<|zS rfl (ba (av:=.v _) rfl rfl)<|zS rfl (aZ (av:=slE _ _ _) rfl)<|za rfl<|ag<|ac ?_;obtain ⟨x23,e24,H⟩:=cm H;refine aa ?_;show AR _ _ _ _ _ [0,1,2] _;refine zm rfl<|ar rfl rfl (aX rfl sa rfl (pZ F a5 x23 e24) ?_);refine za rfl<|ag<|ac ?_;obtain ⟨x25,e26,H⟩:=cm H;refine aa ?_;show AR _ _ _ _ _ [0,1,2,3] _;refine zS rfl (ah (av:=slE _ _ _) rfl)<|zS rfl (ah (av:=slE _ _ _) rfl)<|ar rfl rfl (aX rfl se rfl (nv F a1 q2 a3 q4 x25 e26) ?_);refine za rfl<|ag<|ac ?_;obtain ⟨x29,e30,H⟩:=fZ H;obtain ⟨x32,e33,H⟩:=fZ H;obtain ⟨x34,e35,H⟩:=fZ H
  obtain ⟨x37,e38,H⟩:=fZ H;refine aa ?_;show AR _ _ _ _ _ [0,1,2,3,4,5,6,7,8,9,10,11,12,13,14,15,16,17,18,19,20,21,22,23,24,25,26,27,28,29,30] _;refine zS rfl (ah (av:=slE _ _ _) rfl)<|zS rfl (bV ak bi ab rfl)<|zS rfl (ah (av:=slE _ _ _) rfl)<|zS rfl (bV ak bi ab rfl)<|zS rfl (cD rfl rfl)<|zm rfl<|bk (l:=[10,11,12,13,14,15,16,17,18,19,20,21,22,23,24,25,26,27,28,29,30]) 61 (B ((decide (x17=x20))&&(decide (x18=x21)))) (fun K=>?_) ?_
  ·rcases ap (decide (x17=x20)) with h27 | h27
   ·refine zM h27 rfl<|zM h27 rfl<|zU h27 rfl (bI rfl rfl)<|zS rfl (aD (av:=.v _) rfl h27 rfl) ?_;exact K _ 3 _ (aw (cd h27)) rfl rfl
   ·refine zF h27 rfl<|zF h27 rfl<|zF h27 rfl<|zS rfl (aF (av:=.v _) rfl h27 rfl) ?_;exact K _ 3 _ (aw (cq h27)) rfl rfl
  refine zm rfl<|bk (l:=[16,17,18,19,20,21,22,23,24,25,26,27,28,29,30]) 67 (B (((decide (x17=x20))&&(decide (x18=x21)))&&(x29==x23))) (fun K=>?_) ?_
  ·rcases ap ((decide (x17=x20))&&(decide (x18=x21))) with h28 | h28
   ·refine zM h28 rfl<|zT h28 rfl (aX rfl rZ rfl (oO F a5 x29 (e30 h28)) ?_);refine zM h28 rfl<|zU h28 rfl (zr Tryz.underlying4 rfl rfl)<|zS rfl (aD (av:=.v _) rfl h28 rfl) ?_;exact K _ 4 _ (aw (cd h28)) rfl rfl
   ·refine zF h28 rfl<|zF h28 rfl<|zF h28 rfl<|zF h28 rfl<|zS rfl (aF (av:=.v _) rfl h28 rfl) ?_;exact K _ 4 _ (aw (cq h28)) rfl rfl
  refine zm rfl<|bk (l:=[23,24,25,26,27,28,29,30]) 74 (B ((((decide (x17=x20))&&(decide (x18=x21)))&&(x29==x23))&&(decide (x32=x34)))) (fun K=>?_) ?_
  ·rcases ap (((decide (x17=x20))&&(decide (x18=x21)))&&(x29==x23)) with h31 | h31
   ·refine zM h31 rfl<|zT h31 rfl (aX rfl rY rfl (sM F a5 x32 (e33 h31)) ?_);refine zM h31 rfl<|zT h31 rfl (aX rfl rX rfl (tT F a5 x34 (e35 h31)) ?_);refine zU h31 rfl (cD rfl rfl)<|zS rfl (aD (av:=.v _) rfl h31 rfl) ?_;exact K _ 5 _ (aw (cd h31)) rfl rfl
   ·refine zF h31 rfl<|zF h31 rfl<|zF h31 rfl<|zF h31 rfl<|zF h31 rfl<|zS rfl (aF (av:=.v _) rfl h31 rfl) ?_;exact K _ 5 _ (aw (cq h31)) rfl rfl
  refine zm rfl<|bk (l:=[30]) 81 (B (((((decide (x17=x20))&&(decide (x18=x21)))&&(x29==x23))&&(decide (x32=x34)))&&(x37==x25))) (fun K=>?_) ?_
  ·rcases ap ((((decide (x17=x20))&&(decide (x18=x21)))&&(x29==x23))&&(decide (x32=x34))) with h36 | h36
   ·refine zU h36 rfl (ah (av:=slE _ _ _) rfl)<|zU h36 rfl (ah (av:=slE _ _ _) rfl)<|zT h36 rfl (aX rfl sd rfl (qO F a1 q2 a3 q4 x37 (e38 h36)) ?_);refine zM h36 rfl<|zU h36 rfl (zr Tryz.underlying4 rfl rfl)<|zS rfl (aD (av:=.v _) rfl h36 rfl) ?_;exact K _ 5 _ (aw (cd h36)) rfl rfl
   ·refine zF h36 rfl<|zF h36 rfl<|zF h36 rfl<|zF h36 rfl<|zF h36 rfl<|zS rfl (aF (av:=.v _) rfl h36 rfl) ?_;exact K _ 5 _ (aw (cq h36)) rfl rfl
  refine za rfl<|ag<|aQ ?_;obtain rfl:=aq H;exact And.intro rfl (Exists.intro _ (Exists.intro _ ⟨aO rfl (.refl _),aK [] rfl,rfl,rfl⟩))
end Go.Proofs.YteokdkimegepoaaGreatDoor
namespace Go.Xm
abbrev Bs:=List UInt8
abbrev At:=Bs×Bs
abbrev Tok:=Int×Bs×Bs×List At
def sm (c:UInt8):Bool:=((decide (65≤c.toNat)&&decide (c.toNat≤90))||(decide (97≤c.toNat)&&decide (c.toNat≤122)))||decide (c=95)
def ig (c:UInt8):Bool:=sm c||((((decide (48≤c.toNat)&&decide (c.toNat≤57))||decide (c=45))||decide (c=46))||decide (c=58))
def eg (c:UInt8):Bool:=decide (c=9)||decide (c=10)||decide (c=13)||decide (c=32)
def oc (s:Bs):Bool:=(match s with | []=>false | c::_=>sm c)&&(s.all ig&&decide (s.length≤60))
def gz (s:Bs):Option (Bs×Bs):=if oc (s.takeWhile ig)=true then some (s.takeWhile ig,s.dropWhile ig) else none
def kh (p:Bs):Bs→Option (Bs×Bs)
  | []=>if p=[] then some ([],[]) else none
  | c::r=>if p.isPrefixOf (c::r)=true then some ([],(c::r).drop p.length) else match kh p r with | none=>none | some (a,b)=>some (c::a,b)
section
variable (dec:Bs→Option Bs)
def qN (n:Bs) (q:UInt8) (s:Bs):Option (At×Bs):=match kh [q] s with
  | none=>none
  | some (raw,r)=>if 60∈raw then none else match dec raw with | none=>none | some t=>some ((n,t),r)
def nN (s:Bs):Option (At×Bs):=match gz s with
  | none=>none
  | some (n,r)=>if ([61,34]:Bs).isPrefixOf r=true then qN dec n 34 (r.drop 2) else if ([61,39]:Bs).isPrefixOf r=true then qN dec n 39 (r.drop 2) else none
def jG:Nat→List At→Bs→Option (List At×Bool×Bs)
  | 0,_,_=>none
  | k+1,as_,s =>
    if ([62]:Bs).isPrefixOf (s.dropWhile eg)=true then some (as_,false,(s.dropWhile eg).drop 1)
    else if ([47,62]:Bs).isPrefixOf (s.dropWhile eg)=true then some (as_,true,(s.dropWhile eg).drop 2)
    else if (s.dropWhile eg).length=s.length then none
    else match nN dec (s.dropWhile eg) with
      | none=>none
      | some (a,r)=>if as_.any (fun x=>decide (x.1=a.1))=true then none else jG k (as_++[a]) r
abbrev Sx:=Bs×List Bs×Nat×List Tok
inductive Rx
  | ok (x:Sx)
  | no (e:Int)
def nK (t:Bs) (l:List Tok):List Tok:=if t=[] then l else l++[(2,[],t,[])]
def nL (n s:Bs) (open_:List Bs) (k:Nat) (l:List Tok):Rx:=if open_.getLast?=some n then .ok (s,open_.dropLast,k,l++[(1,n,[],[])]) else .no 2
def lv (s:Bs) (o:List Bs) (k:Nat) (l:List Tok):Rx :=
  match dec (s.takeWhile fun c=>decide (c≠60)) with
  | none=>.no 2
  | some t=>if o=[] then (if (s.takeWhile fun c=>decide (c≠60)).all eg=true then .ok (s.dropWhile (fun c=>decide (c≠60)),o,k,l) else .no 2)
      else .ok (s.dropWhile (fun c=>decide (c≠60)),o,k,nK t l)
def ki (p s:Bs) (o:List Bs) (k:Nat) (l:List Tok):Rx:=match kh p s with | none=>.no 2 | some (_,r)=>.ok (r,o,k,l)
def pQ (s:Bs) (o:List Bs) (k:Nat) (l:List Tok):Rx:=match kh [93,93,62] s with | none=>.no 2 | some (t,r)=>if o=[] then .no 2 else .ok (r,o,k,nK t l)
def tE (s:Bs) (o:List Bs) (k:Nat) (l:List Tok):Rx:=match gz s with
  | none=>.no 2
  | some (n,r)=>if ([62]:Bs).isPrefixOf (r.dropWhile eg)=true then nL n ((r.dropWhile eg).drop 1) o k l else .no 2
def nZ (n:Bs) (as_:List At) (empty:Bool) (r:Bs) (o:List Bs) (k:Nat) (l:List Tok):Rx :=
  if o=[]∧k≠0 then .no 2 else if 20≤o.length then .no 5
  else if empty=true then .ok (r,o,(if o=[] then k+1 else k),(l++[(0,n,[],as_)])++[(1,n,[],[])]) else .ok (r,o++[n],(if o=[] then k+1 else k),l++[(0,n,[],as_)])
def od (s:Bs) (o:List Bs) (k:Nat) (l:List Tok):Rx:=match gz s with
  | none=>.no 2
  | some (n,r)=>match jG dec (r.length+1) [] r with
    | none=>.no 2
    | some (as_,empty,r')=>nZ n as_ empty r' o k l
def kB (s:Bs) (o:List Bs) (k:Nat) (l:List Tok):Rx :=
  if ([60]:Bs).isPrefixOf s=false then lv dec s o k l
  else if ([60,33,45,45]:Bs).isPrefixOf s=true then ki [45,45,62] (s.drop 4) o k l
  else if ([60,63]:Bs).isPrefixOf s=true then ki [63,62] (s.drop 2) o k l
  else if ([60,33,91,67,68,65,84,65,91]:Bs).isPrefixOf s=true then pQ (s.drop 9) o k l
  else if ([60,33]:Bs).isPrefixOf s=true then ki [62] (s.drop 2) o k l
  else if ([60,47]:Bs).isPrefixOf s=true then tE (s.drop 2) o k l
  else od dec (s.drop 1) o k l
def qk:Nat→Sx→Rx
  | 0,x=>.no 2
  | n+1,(s,o,k,l)=>if s=[] then .ok (s,o,k,l) else match kB dec s o k l with
    | .ok y=>qk n y
    | .no e=>.no e
def pO (s:Bs):List Tok×Int:=match qk dec (s.length+1) (s,[],0,[]) with
  | .ok (_,o,k,l)=>if o=[]∧0 < k then (l,0) else ([],2)
  | .no e=>([],e)
end
theorem me {p:Bs} (hp:p≠[]):∀ {s a b:Bs},kh p s=some (a,b)→s=a++p++b
  | [],a,b,h=>by
    unfold kh at h
    rw [if_neg hp] at h; cases h
  | c::r,a,b,h=>by
    unfold kh at h
    by_cases g:p.isPrefixOf (c::r)=true
    · rw [if_pos g] at h
      cases h
      obtain ⟨t,ht⟩:=List.isPrefixOf_iff_prefix.1 g
      rw [← ht,List.drop_left' rfl]; rfl
    · rw [if_neg g] at h
      cases e:kh p r with
      | none=>rw [e] at h; cases h
      | some x =>
        obtain ⟨a',b'⟩:=x
        rw [e] at h
        cases h
        rw [me hp e]
        simp
theorem oI {p s:Bs} (h:p.isPrefixOf s=true):s=p++s.drop p.length:=by
  obtain ⟨t,ht⟩:=List.isPrefixOf_iff_prefix.1 h
  rw [← ht,List.drop_left' rfl]
theorem vO (f:UInt8→Bool) (s:Bs):(s.dropWhile f).length≤s.length:=by
  induction s with
  | nil=>simp
  | cons c r ih=>rw [List.dropWhile_cons]; split <;> simp at * <;> omega
theorem pk {s n r:Bs} (h:gz s=some (n,r)):s=n++r∧oc n=true:=by
  unfold gz at h
  split at h
  · rename_i g
    cases h
    exact ⟨(List.takeWhile_append_dropWhile).symm,g⟩
  · cases h
theorem name_pos {n:Bs} (h:oc n=true):0 < n.length:=by
  cases n with
  | nil=>cases h
  | cons c r=>simp
section
variable {dec:Bs→Option Bs}
theorem vl {n s:Bs} {q:UInt8} {a:At} {r:Bs} (h:qN dec n q s=some (a,r)):r.length < s.length:=by
  unfold qN at h
  cases e:kh [q] s with
  | none=>rw [e] at h; cases h
  | some x =>
    obtain ⟨raw,r'⟩:=x
    rw [e] at h
    simp only at h
    split at h
    · cases h
    · split at h
      · cases h
      · cases h
        have:=me (by simp) e
        rw [this]; simp; omega
theorem nh {s:Bs} {a:At} {r:Bs} (h:nN dec s=some (a,r)):r.length < s.length:=by
  unfold nN at h
  cases e:gz s with
  | none=>rw [e] at h; cases h
  | some x =>
    obtain ⟨n,r'⟩:=x
    rw [e] at h
    obtain ⟨rfl,hn⟩:=pk e
    have hp:=name_pos hn
    simp only at h
    split at h
    · have:=vl h
      rw [List.length_drop] at this; rw [List.length_append]; omega
    · split at h
      · have:=vl h
        rw [List.length_drop] at this; rw [List.length_append]; omega
      · cases h
theorem th:∀ {k:Nat} {as_:List At} {s:Bs} {bs:List At} {e:Bool} {r:Bs},jG dec k as_ s=some (bs,e,r)→r.length < s.length
  | 0,_,_,_,_,_,h=>by cases h
  | k+1,as_,s,bs,e,r,h=>by
    have hd:=vO eg s
    unfold jG at h
    split at h
    · rename_i g
      cases h
      have:=congrArg List.length (oI g)
      rw [List.length_append] at this
      simp at this ⊢
      omega
    · split at h
      · rename_i g
        cases h
        have:=congrArg List.length (oI g)
        rw [List.length_append] at this
        simp at this ⊢
        omega
      · split at h
        · cases h
        · cases ea:nN dec (s.dropWhile eg) with
          | none=>rw [ea] at h; cases h
          | some x =>
            obtain ⟨a,r'⟩:=x
            rw [ea] at h
            simp only at h
            have h1:=nh ea
            split at h
            · cases h
            · have:=th h
              omega
theorem oB:∀ {k m:Nat} {as_:List At} {s:Bs},s.length < k→s.length < m→jG dec k as_ s=jG dec m as_ s
  | 0,_,_,_,h,_=>by omega
  | _,0,_,_,_,h=>by omega
  | k+1,m+1,as_,s,hk,hm=>by
    have hd:=vO eg s
    unfold jG
    split
    · rfl
    · split
      · rfl
      · split
        · rfl
        · rename_i g
          cases ea:nN dec (s.dropWhile eg) with
          | none=>rfl
          | some x =>
            obtain ⟨a,r'⟩:=x
            have h1:=nh ea
            simp only
            split
            · rfl
            · exact oB (by omega) (by omega)
theorem ni {p s:Bs} (hp:p≠[]) {o:List Bs} {k:Nat} {l:List Tok} {x:Sx} (h:ki p s o k l=.ok x):x.1.length≤s.length∧x.2=(o,k,l):=by
  unfold ki at h
  cases e:kh p s with
  | none=>rw [e] at h; cases h
  | some y =>
    obtain ⟨a,b⟩:=y
    rw [e] at h
    cases h
    have:=congrArg List.length (me hp e)
    simp at this ⊢
    omega
theorem qq {s:Bs} {o:List Bs} {k:Nat} {l:List Tok} {x:Sx} (hs:s≠[]) (h:kB dec s o k l=.ok x):x.1.length < s.length:=by
  have hpos:=List.length_pos_iff.2 hs
  have pl:∀ p:Bs,p.isPrefixOf s=true→p.length≤s.length:=fun p g=>by
    have:=congrArg List.length (oI g)
    rw [List.length_append] at this
    omega
  unfold kB at h
  split at h
  · rename_i g
    have hc:∃ c r,s=c::r∧c≠60:=by
      cases s with
      | nil=>exact absurd rfl hs
      | cons c r =>
        refine ⟨c,r,rfl,fun e=>?_⟩
        rw [e] at g
        simp at g
    obtain ⟨c,r,rfl,hc⟩:=hc
    have hd:((c::r).dropWhile fun c=>decide (c≠60)).length < (c::r).length:=by
      rw [List.dropWhile_cons,if_pos (by simpa using hc)]
      have:=vO (fun c=>decide (c≠60)) r
      rw [List.length_cons]; omega
    unfold lv at h
    split at h
    · cases h
    · split at h
      · split at h
        · cases h; exact hd
        · cases h
      · cases h; exact hd
  split at h
  · rename_i g
    have:=(ni (by simp) h).1
    have:=pl _ g
    rw [List.length_drop] at *
    simp at *; omega
  split at h
  · rename_i g
    have:=(ni (by simp) h).1
    have:=pl _ g
    rw [List.length_drop] at *
    simp at *; omega
  split at h
  · rename_i g
    have h9:=pl _ g
    unfold pQ at h
    cases e:kh [93,93,62] (s.drop 9) with
    | none=>rw [e] at h; cases h
    | some y =>
      obtain ⟨a,b⟩:=y
      rw [e] at h
      simp only at h
      have:=congrArg List.length (me (by simp) e)
      simp at this h9
      split at h
      · cases h
      · cases h
        simp only
        omega
  split at h
  · rename_i g
    have:=(ni (by simp) h).1
    have:=pl _ g
    rw [List.length_drop] at *
    simp at *; omega
  split at h
  · rename_i g
    have h2:=pl _ g
    unfold tE at h
    cases e:gz (s.drop 2) with
    | none=>rw [e] at h; cases h
    | some y =>
      obtain ⟨n,r⟩:=y
      rw [e] at h
      simp only at h
      have:=congrArg List.length (pk e).1
      have hd:=vO eg r
      simp at this h2
      split at h
      · unfold nL at h
        split at h
        · cases h
          simp only [List.length_drop]
          omega
        · cases h
      · cases h
  · unfold od at h
    cases e:gz (s.drop 1) with
    | none=>rw [e] at h; cases h
    | some y =>
      obtain ⟨n,r⟩:=y
      rw [e] at h
      simp only at h
      have:=congrArg List.length (pk e).1
      simp at this
      cases ea:jG dec (r.length+1) [] r with
      | none=>rw [ea] at h; cases h
      | some z =>
        obtain ⟨as_,em,r'⟩:=z
        rw [ea] at h
        simp only at h
        have hl:=th ea
        unfold nZ at h
        split at h
        · cases h
        · split at h
          · cases h
          · split at h <;> (cases h; simp only; omega)
end
end Go.Xm
namespace Go.Pn
open Go.Pv Go.Av
abbrev Bs:=List UInt8
def bl (c:UInt8):Bool:=(((decide (c=9))||(decide (c=10)))||(decide (c=13)))||(decide (c=32))
mutual
/-- Behind a sign. -/
def T1:Bs→Bs
  | []=>[]
  | c::r=>bif bl c then T2 r else c::T1 r
/-- In a gap behind a sign. -/
def T2:Bs→Bs
  | []=>[]
  | c::r=>bif bl c then T2 r else 32::c::T1 r
end
def trim:Bs→Bs
  | []=>[]
  | c::r=>bif bl c then trim r else c::T1 r
def tl (out:Bs) (gap:Bool) (r:Bs):Bs:=if out=[] then trim r else bif gap then T2 r else T1 r
def wgo (cur:Bs):Bs→List Bs
  | []=>if cur=[] then [] else [cur]
  | c::r=>bif bl c then (if cur=[] then wgo [] r else cur::wgo [] r) else wgo (cur++[c]) r
theorem rest_wgo (s:Bs):(∀ cur:Bs,cur≠[]→Str.join [32] (wgo cur s)=cur++T1 s)∧Str.join [32] (wgo [] s)=trim s∧Str.rest [32] (wgo [] s)=T2 s:=by
  induction s with
  | nil=>exact ⟨fun cur h=>by simp [wgo,h,Str.join,Str.rest,T1],by simp [wgo,Str.join,trim],by simp [wgo,Str.rest,T2]⟩
  | cons c r ih =>
    obtain ⟨h1,h2,h3⟩:=ih
    cases hb:bl c with
    | true =>
      refine ⟨fun cur h=>?_,?_,?_⟩
      · simp [wgo,hb,h,Str.join,T1,h3]
      · simp [wgo,hb,trim,h2]
      · simp [wgo,hb,T2,h3]
    | false =>
      have h4:=h1 [c] (by simp)
      refine ⟨fun cur h=>?_,?_,?_⟩
      · simp only [wgo,hb,cond_false,T1]
        rw [h1 _ (by simp)]; simp
      · simp only [wgo,hb,cond_false,trim,List.nil_append]
        rw [h4]; rfl
      · simp only [wgo,hb,cond_false,T2,List.nil_append]
        have:Str.rest [32] (wgo [c] r)=32::Str.join [32] (wgo [c] r):=by
          cases hw:wgo [c] r with
          | nil=>rw [hw] at h4; simp [Str.join] at h4
          | cons w ws=>simp [Str.rest,Str.join]
        rw [this,h4]; rfl
theorem join_wgo (s:Bs):Str.join [32] (wgo [] s)=trim s:=(rest_wgo s).2.1
theorem zV (s:Bs):∀ cur:Bs,Str.total (wgo cur s)+(wgo cur s).length≤cur.length+s.length+1:=by
  induction s with
  | nil=>intro cur; by_cases h:cur=[] <;> simp [wgo,h,Str.total]
  | cons c r ih =>
    intro cur
    cases hb:bl c with
    | true =>
      have:=ih []
      by_cases h:cur=[]
      · simp [wgo,hb,h] at this ⊢; omega
      · simp [wgo,hb,h,Str.total] at this ⊢; omega
    | false =>
      have:=ih (cur++[c])
      simp [wgo,hb] at this ⊢; omega
theorem qj (F:Nat) (c:UInt8):nc F c=some (bl c):=by
  have:∀ n:Nat,n < 256→decide (0≤Go.Lib.indexByte ([9,10,13,32]:List UInt8) (UInt8.ofNat n))=bl (UInt8.ofNat n):=by decide +kernel
  have h:=this c.toNat c.toNat_lt
  rw [UInt8.ofNat_toNat] at h
  unfold nc
  simp only [bm]
  rw [h]
theorem ent_end (F:Nat) (s:Bs) (hs:s.length≤1000000) (n:Nat) (l:List Bs) (hl:l.length+Str.total l≤100000000) (hn1:n≥1):eR F s n (l,(-1),((s.length+1:Nat):Int))=some (Str.join [32] l):=by
  obtain ⟨m,rfl⟩:∃ m,n=m+1:=⟨n - 1,by omega⟩;show iL F s (eR F s m) l (-1) ((s.length+1:Nat):Int)=_
  unfold iL lu
  have h1:¬ (((s.length+1:Nat):Int)≤(s.length:Int)):=by omega
  rw [bF h1,grd_Join (by simp; omega),bm]
theorem ent_loop (F:Nat) (s:Bs) (hs:s.length≤1000000):∀ (n:Nat) (l:List Bs) (fr:Int) (cur:Bs) (i:Nat),s.length+1 - i < n→i≤s.length→l.length≤i →
    ((fr = -1∧cur=[])∨∃ f:Nat,fr=(f:Int)∧f < i∧cur=(s.take i).drop f)→(l++wgo cur (s.drop i)).length+Str.total (l++wgo cur (s.drop i))≤100000000 →
    eR F s n (l,fr,(i:Int))=some (Str.join [32] (l++wgo cur (s.drop i))):=by
  intro n
  induction n with
  | zero=>intro l fr cur i h; omega
  | succ n ih =>
    intro l fr cur i hn hi hl hf hJ;show iL F s (eR F s n) l fr (i:Int)=_
    unfold iL iK
    have hend:∀ l:List Bs,l.length+Str.total l≤100000000→n≥1→eR F s n (l,(-1),((s.length+1:Nat):Int))=some (Str.join [32] l):=ent_end F s hs n
    by_cases h:i < s.length
    · have hd:s.drop i=s[i]::s.drop (i+1):=aB h
      have hne:decide ((i:Int)=(s.length:Int))=false:=decide_eq_false (by omega)
      simp (disch:=omega) only [bT,hne,Bool.not_false,kC,bR,bm,cF h,qj,tD,bb,Bool.false_or]
      rw [hd] at hJ ⊢
      cases hb:bl s[i] with
      | true =>
        simp only [wgo,hb,cond_true] at hJ ⊢
        rcases hf with ⟨rfl,rfl⟩ | ⟨f,rfl,hfi,rfl⟩
        · simp only [if_true] at hJ ⊢
          simp (disch:=omega) only [Bool.not_true,Bool.false_and,cond_false,Bool.true_and,bF,bD,bx]
          exact ih l (-1) [] (i+1) (by omega) (by omega) (by omega) (.inl ⟨rfl,rfl⟩) hJ
        · have hc:(s.take i).drop f≠[]:=by
            intro h2; have:=congrArg List.length h2; simp at this; omega
          simp only [hc,if_false] at hJ ⊢
          simp (disch:=(first | omega | (simp; omega))) only [Bool.not_true,Bool.false_and,cond_false,Bool.true_and,bT,jX,cc,qz,bD,bx]
          rw [ih (l++[(s.take i).drop f]) (-1) [] (i+1) (by omega) (by omega) (by simp; omega) (.inl ⟨rfl,rfl⟩) (by simpa using hJ)]
          simp
      | false =>
        simp only [wgo,hb,cond_false] at hJ ⊢
        rcases hf with ⟨rfl,rfl⟩ | ⟨f,rfl,hfi,rfl⟩
        · simp (disch:=omega) only [Bool.not_false,Bool.true_and,bT,bD,bx]
          have hc:([]:Bs)++[s[i]]=(s.take (i+1)).drop i:=by
            rw [List.take_succ_eq_append_getElem h,List.drop_append_of_le_length (by simp; omega),aM (by simp; omega)]
          rw [hc] at hJ ⊢
          exact ih l (i:Int) _ (i+1) (by omega) (by omega) (by omega) (.inr ⟨i,rfl,by omega,rfl⟩) hJ
        · simp (disch:=omega) only [Bool.not_false,Bool.true_and,bF,Bool.false_and,cond_false,bD,bx]
          have hc:(s.take i).drop f++[s[i]]=(s.take (i+1)).drop f:=by
            rw [List.take_succ_eq_append_getElem h,List.drop_append_of_le_length (by simp; omega)]
          rw [hc] at hJ ⊢
          exact ih l (f:Int) _ (i+1) (by omega) (by omega) (by omega) (.inr ⟨f,rfl,by omega,rfl⟩) hJ
    · have hi2:i=s.length:=by omega
      subst hi2
      have hyes:decide ((s.length:Int)=(s.length:Int))=true:=decide_eq_true rfl
      simp (disch:=omega) only [bT,hyes,Bool.not_true,gp,bm,qj,mg,Bool.true_or,List.drop_length] at hJ ⊢
      rcases hf with ⟨rfl,rfl⟩ | ⟨f,rfl,hfi,rfl⟩
      · simp (disch:=omega) only [Bool.false_and,cond_false,Bool.true_and,bF,bD,bx]
        rw [hend l (by simpa [wgo] using hJ) (by omega)]
        simp [wgo,gp,mg]
      · have hc:(s.take s.length).drop f≠[]:=by
          intro h2; have:=congrArg List.length h2; simp at this; omega
        simp only [wgo,hc,if_false] at hJ ⊢
        simp (disch:=(first | omega | (simp; omega))) only [Bool.false_and,cond_false,Bool.true_and,bT,jX,cc,qz,bD,bx]
        exact hend _ hJ (by omega)
theorem ent_Trim_eq (F:Nat) (s:Bs) (hs:s.length≤1000000) (hF:s.length+1 < F):oJ F s=some (trim s):=by
  have h1:=zV s []
  have:=ent_loop F s hs F [] (-1) [] 0 (by omega) (by omega) (by simp) (.inl ⟨rfl,rfl⟩) (by simp at h1 ⊢; omega)
  rw [← join_wgo]
  simpa [oJ] using this
end Go.Pn
namespace Go.Pn
open Go.Pv Go.Av
theorem qg {c:UInt8} {s:Bs} (h:∀ b∈s,b≠c):Go.Lib.indexByte s c = -1:=by
  induction s with
  | nil=>rfl
  | cons b r ih=>simp [Go.Lib.indexByte,h b (by simp),ih (fun x hx=>h x (by simp [hx]))]
end Go.Pn
namespace Go.Pn
open Go.Pv Go.Av
theorem xG (s:Bs) (p:Nat):1≤(nV s p).2:=by
  unfold nV Utf8.decode
  simp only
  repeat' split
  all_goals simp
theorem mn (n:Int):(dh n).length≤4:=by
  unfold dh Utf8.encode
  simp only
  repeat' split
  all_goals simp
theorem rr (n:Int) (h:128≤n):2≤(dh n).length∧((dh n).length=2→¬ (59:UInt8)=at_ (dh n) 1):=by
  have hc:¬ (if Utf8.valid n=true then n.toNat else Utf8.runeError) < 128:=by
    split
    · omega
    · decide
  unfold dh Utf8.encode
  simp only
  generalize (if Utf8.valid n=true then n.toNat else Utf8.runeError)=c at hc ⊢
  rw [if_neg hc]
  by_cases h2:c < 2048
  · rw [if_pos h2]
    refine ⟨by simp,fun _=>?_⟩;show ¬ (59:UInt8)=UInt8.ofNat (128+c % 64);intro e
    have:=congrArg UInt8.toNat e
    rw [UInt8.toNat_ofNat'] at this
    have e59:(59:UInt8).toNat=59:=rfl
    omega
  · rw [if_neg h2]
    split <;> simp
theorem wP (F:Nat) (hF:5≤F) (r:Int):∃ j,jW F [38,59] r=some j:=by
  unfold jW
  by_cases h1:0≤r∧r < 128
  · simp only [h1,decide_true,Bool.and_self,cond_true]; exact ⟨_,rfl⟩
  · have hf:((decide (0≤r))&&(decide (r < 128)))=false:=by
      cases h:(decide (0≤r))&&(decide (r < 128)) with
      | false=>rfl
      | true=>exact absurd (by simpa using h) h1
    rw [hf,cond_false]
    by_cases h2:r=65533
    · rw [bT h2]
      obtain ⟨m,rfl⟩:∃ m,F=m+3:=⟨F - 3,by omega⟩
      have e0:nV [38,59] 0=(38,1):=by decide +kernel
      have e1:nV [38,59] 1=(59,1):=by decide +kernel
      refine ⟨-1,?_⟩;show fo [38,59] (jP [38,59] (m+2)) 0=_
      unfold fo
      simp only [e0]
      show fo [38,59] (jP [38,59] (m+1)) 1=_
      unfold fo
      simp only [e1]
      rfl
    · rw [bF h2]
      have hv:∃ b,kR F r=some b∧(b=true→0≤r):=by
        unfold kR
        by_cases ha:0≤r∧r < 55296
        · refine ⟨true,?_,fun _=>ha.1⟩; simp [ha]
        · by_cases hb:57343 < r∧r≤1114111
          · refine ⟨true,?_,fun _=>by omega⟩; simp [hb]
          · refine ⟨false,?_,fun h=>by cases h⟩
            have e1:((decide (0≤r))&&(decide (r < 55296)))=false:=by
              cases h:(decide (0≤r))&&(decide (r < 55296)) with
              | false=>rfl
              | true=>exact absurd (by simpa using h) ha
            have e2:((decide (57343 < r))&&(decide (r≤1114111)))=false:=by
              cases h:(decide (57343 < r))&&(decide (r≤1114111)) with
              | false=>rfl
              | true=>exact absurd (by simpa using h) hb
            rw [e1,e2]; rfl
      obtain ⟨b,hb,hp⟩:=hv
      rw [hb,bb]
      cases b with
      | false=>exact ⟨-1,rfl⟩
      | true =>
        have hr:128≤r:=by have:=hp rfl; omega
        obtain ⟨k1,k2⟩:=rr r hr
        have k3:=mn r
        obtain ⟨m,rfl⟩:∃ m,F=m+1:=⟨F - 1,by omega⟩;refine ⟨-1,?_⟩
        simp (disch:=omega) only [Bool.not_true,cond_false,bm,bD]
        show jQ [38,59] (dh r) (lZ [38,59] (dh r) m)=_
        unfold jQ kK
        by_cases h3:(dh r).length=2
        · have e1:((dh r).length:Int) - 1=1:=by omega
          have e2:at_ ([38,59]:Bs) 1=59:=rfl
          have e3:gW ([38,59]:Bs) (1+1)=[]:=rfl
          rw [e1]
          simp (disch:=(first | omega | (simp; done) | (simp; omega))) only [bT,bR,bm,e2,decide_eq_false (k2 h3),Bool.not_false,nM,bD,jd,e3]
          rfl
        · have:¬ ((dh r).length:Int) - 1 < (([38,59]:Bs).length:Int):=by simp; omega
          rw [bF this]
theorem oz (s:Bs) (c:UInt8) : -1≤Go.Lib.indexByte s c∧Go.Lib.indexByte s c < s.length:=by
  induction s with
  | nil=>simp [Go.Lib.indexByte]
  | cons b r ih =>
    unfold Go.Lib.indexByte
    split
    · first | (simp; done) | (simp; omega)
    · split
      · first | (simp; done) | (simp; omega)
      · rename_i h
        have h':¬ Go.Lib.indexByte r c = -1:=by simpa using h
        simp; omega
theorem kJ (s cs:Bs) : -1≤Go.Lib.indexAny s cs∧Go.Lib.indexAny s cs < s.length:=by
  induction s with
  | nil=>simp [Go.Lib.indexAny]
  | cons b r ih =>
    unfold Go.Lib.indexAny
    split
    · first | (simp; done) | (simp; omega)
    · split
      · first | (simp; done) | (simp; omega)
      · rename_i h
        have h':¬ Go.Lib.indexAny r cs = -1:=by simpa using h
        simp; omega
theorem vJ (F:Nat) (hF:5≤F) (s:Bs):∀ (n y:Nat),s.length - y < n→∃ j,jS F s [38,59] n y=some j ∧ -1≤j∧j < s.length:=by
  intro n
  induction n with
  | zero=>intro y h; omega
  | succ n ih =>
    intro y hy;show ∃ j,jT F s [38,59] (jS F s [38,59] n) y=some j∧_
    unfold jT kM
    by_cases h:y < s.length
    · rw [bT h]
      obtain ⟨j,hj⟩:=wP F hF ((nV s y).1:Int)
      rw [hj,bb]
      by_cases h0:0≤j
      · rw [bT h0]; exact ⟨_,rfl,by omega,by omega⟩
      · rw [bF h0]
        have:=xG s y
        exact ih _ (by omega)
    · rw [bF h]; exact ⟨-1,rfl,by omega,by omega⟩
theorem yj (F:Nat) (s:Bs) (hF:20≤F):∃ j,mX F s [38,59]=some j ∧ -1≤j∧j < s.length:=by
  unfold mX
  by_cases h:8 < s.length
  · obtain ⟨h1,h2⟩:=kJ s [38,59]
    refine ⟨Go.Lib.indexAny s [38,59],?_,h1,h2⟩
    simp [h]
  · have e:((decide (8 < s.length))&&(decide (2≤([38,59]:Bs).length)))=false:=by simp [h]
    rw [e,cond_false]
    unfold nU tA kL
    have e3:decide ((8:Int) < (s.length:Int))=false:=decide_eq_false (by omega)
    simp (disch:=(first | omega | (simp; done) | (simp; omega))) only [bF,bb,e3,Bool.not_false,nM]
    exact vJ F (by omega) s F 0 (by omega)
theorem vM (F:Nat) (s:Bs) (hs:s.length≤100000):∃ b,iM F s [95]=some b:=by
  unfold iM mX nU jR jW
  have e:((decide (8 < s.length))&&(decide (2≤([95]:Bs).length)))=false:=by simp
  have e2:at_ ([95]:Bs) 0=95:=rfl
  have e3:km [95]=true:=by decide
  have e4:((95:UInt8).toNat:Int)=95:=rfl
  rw [e,cond_false]
  simp (disch:=(first | omega | (simp; done) | (simp; omega))) only [e3,nM,pn,bF,bT,bR,bm,e2,e4,grd_J]
  exact ⟨_,rfl⟩
theorem qx (x:Int):0≤IntKind.u64.wrap x:=by
  have:IntKind.u64.wrap x=x % 18446744073709551616:=rfl
  rw [this]; omega
def Ok3 (r:Option (Int×Int)):Prop:=∃ v e,r=some (v,e)∧0≤v∧(e=0∨e=1∨e=2)
theorem zZ (F:Nat) (s:Bs) (b c:Int) (hb:b=10∨b=16) (hs:s.length≤100000):∀ (n i:Nat) (v:Int),s.length - i < n→0≤v→Ok3 (cw F s b c n (false,v,(i:Int))):=by
  intro n
  induction n with
  | zero=>intro i v h; omega
  | succ n ih =>
    intro i v hn hv;show Ok3 (eA F s b c (cw F s b c n) false v (i:Int))
    unfold eA fx gu
    by_cases h:i < s.length
    · have key:∀ d:UInt8,Ok3 (dx b c false v (i:Int) (cw F s b c n) d):=by
        intro d
        unfold dx ez
        cases decide (((Go.Av.toB b).toNat:Int)≤(d.toNat:Int)) with
        | true=>exact ⟨0,2,rfl,by omega,by omega⟩
        | false =>
          rw [cond_false]
          cases decide (c≤v) with
          | true=>exact ⟨_,1,rfl,qx _,by omega⟩
          | false =>
            rw [cond_false]
            generalize ((decide (IntKind.u64.wrap ((IntKind.u64.wrap (v*(IntKind.u64.wrap b)))+(IntKind.u64.wrap (d.toNat:Int))) < IntKind.u64.wrap (v*(IntKind.u64.wrap b))))||(decide (IntKind.u64.wrap ((IntKind.u64.wrap (1*2 ^ min (Int.toNat (IntKind.u64.wrap 64)) IntKind.u64.bits)) - 1) < IntKind.u64.wrap ((IntKind.u64.wrap (v*(IntKind.u64.wrap b)))+(IntKind.u64.wrap (d.toNat:Int))))))=q
            cases q with
            | true=>exact ⟨_,1,rfl,qx _,by omega⟩
            | false =>
              rw [cond_false,bD (by omega),bx]
              exact ih _ _ (by omega) (qx _)
      have hb0:decide (b=0)=false:=decide_eq_false (by omega)
      simp (disch:=omega) only [bT,bR,bm,cF h,hb0,Bool.and_false,cond_false,bb,jc]
      generalize ((decide (48≤((s[i]).toNat:Int)))&&(decide (((s[i]).toNat:Int)≤57)))=q1
      cases q1 with
      | true=>exact key _
      | false =>
        rw [cond_false]
        generalize ((decide (97≤((s[i] ||| 32).toNat:Int)))&&(decide ((((bif decide (97≤((s[i] ||| 32).toNat:Int)) then (s[i] ||| 32) else default):UInt8).toNat:Int)≤122)))=q2
        cases q2 with
        | true=>exact key _
        | false=>exact ⟨0,2,rfl,by omega,by omega⟩
    · rw [bF (by omega),mg]
      exact ⟨v,0,rfl,hv,by omega⟩
theorem uint_tot (F:Nat) (s:Bs) (b:Int) (hb:b=10∨b=16) (hs:s.length≤100000) (hF:s.length < F):Ok3 (gC F s b 0):=by
  unfold gC fv fw dN
  by_cases h0:s=[]
  · rw [bT h0]; exact ⟨0,2,rfl,by omega,by omega⟩
  · rw [bF h0]
    have h2:((decide (2≤b))&&(decide (b≤36)))=true:=by rcases hb with rfl | rfl <;> rfl
    have hw:=qx 64
    rw [h2,nM,lx rfl]
    have go:=fun c=>zZ F s b c hb hs F 0 0 (by omega) (by omega)
    rcases hb with rfl | rfl
    · rw [bT rfl,lx hw,cc (by omega)]; exact go _
    · rw [bF (by omega),bT rfl,lx hw,cc (by omega)]; exact go _
theorem int_tot (F:Nat) (s:Bs) (b:Int) (hb:b=10∨b=16) (hs:s.length≤100000) (hF:s.length < F) (h43:at_ s 0≠43) (h45:at_ s 0≠45):∃ v e,eb F s b 0=some (v,e):=by
  have hi:∃ v e,iG F s b 0=some (v,e)∧(e=0∨e=1∨e=2):=by
    unfold iG eo gk fb
    by_cases h0:s=[]
    · rw [bT h0]; exact ⟨0,2,rfl,by omega⟩
    · have hp:0 < s.length:=List.length_pos_iff.2 h0
      obtain ⟨v,e,hv,hv0,he⟩:=uint_tot F s b hb hs hF
      have e1:IntKind.u64.wrap (1*2 ^ min (Int.toNat (IntKind.u64.wrap 63)) IntKind.u64.bits)=9223372036854775808:=by decide +kernel
      have e2:(0:Int)≤IntKind.u64.wrap 63:=by decide +kernel
      have e3:IntKind.u64.wrap (9223372036854775808 - 1)=9223372036854775807:=by decide +kernel
      simp (disch:=omega) only [bF,bR,bm,hv,br,e1,e3,lx e2,bD,lx,Bool.not_false,Bool.true_and,Bool.false_and,cond_false]
      rcases he with rfl | rfl | rfl
      · rw [show ((!decide ((0:Int)=0))&&(!decide ((0:Int)=1)))=false by rfl,cond_false]
        by_cases hb:(9223372036854775808:Int)≤v
        · rw [bT hb]; exact ⟨_,1,rfl,by omega⟩
        · rw [bF hb,bD (by omega)]; exact ⟨_,0,rfl,by omega⟩
      · rw [show ((!decide ((1:Int)=0))&&(!decide ((1:Int)=1)))=false by rfl,cond_false]
        by_cases hb:(9223372036854775808:Int)≤v
        · rw [bT hb]; exact ⟨_,1,rfl,by omega⟩
        · rw [bF hb,bD (by omega)]; exact ⟨_,0,rfl,by omega⟩
      · rw [show ((!decide ((2:Int)=0))&&(!decide ((2:Int)=1)))=true by rfl,cond_true]
        exact ⟨_,2,rfl,by omega⟩
  obtain ⟨v,e,hv,he⟩:=hi
  unfold eb
  rw [hv,br]
  rcases he with rfl | rfl | rfl
  · exact ⟨_,_,rfl⟩
  · rw [show (!decide ((1:Int)=0))=true by rfl,cond_true,pn (by omega),lx (by omega)]; exact ⟨_,_,rfl⟩
  · rw [show (!decide ((2:Int)=0))=true by rfl,cond_true,pn (by omega),lx (by omega)]; exact ⟨_,_,rfl⟩
theorem rune_tot (F:Nat) (r:Int):∃ o b,kA F r=some (o,b)∧o.length≤4:=by
  have fin : -2147483648≤r∧r≤2147483647→∃ o b,grd (okJ r) (lt (dh r) fun x17=>some (x17,true))=some (o,b)∧o.length≤4:=by
    intro h; rw [grd_J h]; exact ⟨_,_,rfl,mn r⟩
  unfold kA mY
  simp only [jc]
  cases hA:((decide (r=9))||(decide (r=10)))||(decide (r=13)) with
  | true =>
    have:r=9∨r=10∨r=13:=by simpa [or_assoc] using hA
    simp only [Bool.not_true,Bool.false_and,cond_false]
    exact fin (by omega)
  | false =>
    simp only [Bool.not_false,Bool.true_and,cond_true]
    cases h7:(decide (32≤r))&&(decide (r≤55295)) with
    | true =>
      have:32≤r∧r≤55295:=by simpa using h7
      simp only [Bool.not_true,Bool.false_and,cond_false]
      exact fin (by omega)
    | false =>
      simp only [Bool.not_false,Bool.true_and,cond_true]
      cases h10:(decide (57344≤r))&&(decide (r≤65533)) with
      | true =>
        have:57344≤r∧r≤65533:=by simpa using h10
        simp only [Bool.not_true,Bool.false_and,cond_false]
        exact fin (by omega)
      | false =>
        simp only [Bool.not_false,Bool.true_and,cond_true]
        cases h13:(decide (65536≤r))&&(decide (r≤1114111)) with
        | true =>
          have:65536≤r∧r≤1114111:=by simpa using h13
          simp only [Bool.not_true,Bool.false_and,cond_false]
          exact fin (by omega)
        | false=>exact ⟨[],false,rfl,by simp⟩
theorem sY (F:Nat) (s:Bs) (b:Int) (hb:b=10∨b=16) (hs:s.length≤100000) (hF:s.length < F):∃ o k,eF F s b=some (o,k)∧o.length≤4:=by
  obtain ⟨cb,hcb⟩:=vM F s hs
  have no:∃ o k,(some (([]:Bs),false):Option (Bs×Bool))=some (o,k)∧o.length≤4:=⟨[],false,rfl,by simp⟩
  unfold eF
  cases s with
  | nil=>simp [gp,bm,mg]
  | cons c r =>
    have h0:decide ((c::r)=[])=false:=decide_eq_false (by simp)
    have ha:at_ (c::r) 0=c:=rfl
    have hg:∀ (q:Bool) (k:Option (Bs×Bool)),fq q (co 0 (c::r).length) k=k:=fun q k=>mQ (fun _=>by simp)
    simp only [hg,h0,bm,ha,hcb,jc,Bool.false_or]
    by_cases h1:c=43
    · simp [h1]
    · by_cases h2:c=45
      · simp [h2]
      · by_cases h3:c=95
        · simp [h3]
        · simp only [h1,h2,h3,decide_false,Bool.or_self,Bool.false_or,Bool.not_false,cond_true]
          cases cb with
          | true=>exact no
          | false =>
            obtain ⟨v,e,hv⟩:=int_tot F (c::r) b hb hs hF (by rw [ha]; exact h1) (by rw [ha]; exact h2)
            rw [cond_false,hv,br]
            cases hz:(!decide (e=0)) with
            | true=>exact no
            | false =>
              obtain ⟨o,k,ho,hl⟩:=rune_tot F v
              rw [cond_false,ho,br]
              exact ⟨o,k,rfl,hl⟩
theorem xh (F:Nat) (s:Bs) (hs:s.length≤100000) (hF:s.length < F):∃ o k,jK F s=some (o,k)∧o.length≤4:=by
  have htp:∀ p,(Go.Lib.trimPrefix s p).length≤s.length:=by
    intro p; unfold Go.Lib.trimPrefix; split <;> simp
  unfold jK lR
  simp only [bb,bm]
  generalize ([(([97,109,112]:List UInt8),(38:Int)),(([108,116]:List UInt8),60),(([103,116]:List UInt8),62),(([113,117,111,116]:List UInt8),34),(([97,112,111,115]:List UInt8),39)]:List (List UInt8×Int))=m
  cases Go.Av.mhas m s with
  | true=>exact ⟨_,_,rfl,mn _⟩
  | false =>
    rw [cond_false]
    cases Go.Lib.hasPrefix s [35,120] with
    | true =>
      have:=htp [35,120]
      obtain ⟨o,k,ho,hl⟩:=sY F (Go.Lib.trimPrefix s [35,120]) 16 (.inr rfl) (by omega) (by omega)
      rw [cond_true,ho,br]; exact ⟨o,k,rfl,hl⟩
    | false =>
      rw [cond_false]
      cases Go.Lib.hasPrefix s [35] with
      | true =>
        have:=htp [35]
        obtain ⟨o,k,ho,hl⟩:=sY F (Go.Lib.trimPrefix s [35]) 10 (.inl rfl) (by omega) (by omega)
        rw [cond_true,ho,br]; exact ⟨o,k,rfl,hl⟩
      | false=>exact ⟨[],false,rfl,by simp⟩
theorem uJ (F:Nat) (s:Bs) (h1:1≤s.length) (hs:s.length≤100000) (hF:s.length+20 < F):∃ o k,kP F s=some (o,k)∧(k=0∨(3≤k∧k≤s.length∧o.length≤4)):=by
  have no:∃ o k,(some (([]:Bs),(0:Int)):Option (Bs×Int))=some (o,k)∧(k=0∨(3≤k∧k≤s.length∧o.length≤4)):=⟨[],0,rfl,.inl rfl⟩
  have hl:(gW s 1).length=s.length - 1:=by simp [gW]
  obtain ⟨j,hj,hj1,hj2⟩:=yj F (gW s 1) (by omega)
  have ha:km [38,59]=true:=by decide
  unfold kP mY
  simp (disch:=(first | omega | (simp; done) | (simp; omega))) only [jd,bm,ha,nM,pn,hj,bb]
  by_cases h:1≤j∧j≤10
  · have hx:((decide (1≤j))&&(decide (j≤10)))=true:=by simp [h]
    simp (disch:=(first | omega | (simp; done) | (simp; omega))) only [hx,Bool.not_true,Bool.not_false,kC,bD,bR,Bool.false_or]
    cases decide (at_ s (j+1)=38) with
    | true=>exact no
    | false =>
      have hsub:(sub s 1 (j+1)).length≤s.length:=by simp [sub]; omega
      obtain ⟨o,k,ho,hol⟩:=xh F (sub s 1 (j+1)) (by omega) (by omega)
      simp (disch:=(first | omega | (simp; done) | (simp; omega))) only [cond_false,jX,bm,ho,br]
      cases k with
      | false=>exact no
      | true =>
        simp (disch:=(first | omega | (simp; done) | (simp; omega))) only [Bool.not_true,cond_false,bD]
        exact ⟨o,j+2,rfl,.inr ⟨by omega,by omega,hol⟩⟩
  · have hx:((decide (1≤j))&&(decide (j≤10)))=false:=by
      cases hq:(decide (1≤j))&&(decide (j≤10)) with
      | false=>rfl
      | true=>exact absurd (by simpa using hq) h
    simp only [hx,Bool.not_false,Bool.not_true,gp,Bool.true_or,cond_true]
    exact no
end Go.Pn
namespace Go.Pn
open Go.Pv Go.Av
def dg (c:UInt8):Nat:=if 48≤c.toNat∧c.toNat≤57 then c.toNat - 48 else if 97≤c.toNat∧c.toNat≤102 then c.toNat - 87 else if 65≤c.toNat∧c.toNat≤70 then c.toNat - 55 else 99
theorem wp {p:UInt8→Prop} (h:∀ n:Nat,n < 256→p (UInt8.ofNat n)) (c:UInt8):p c:=by
  have:=h c.toNat (UInt8.toNat_lt c)
  rwa [UInt8.ofNat_toNat] at this
theorem digit_eq (F:Nat) (c:UInt8):ka F c=some (dg c:Int):=by
  show ka 0 c=_;exact wp (p:=fun c=>ka 0 c=some (dg c:Int)) (by decide +kernel) c
def isD (x:UInt8):Bool:=(decide (48≤(x.toNat:Int)))&&(decide ((x.toNat:Int)≤57))
def isL (x:UInt8):Bool:=(decide (97≤((x ||| 32).toNat:Int)))&&(decide (((x ||| 32).toNat:Int)≤122))
theorem dig_D (b:Nat) (hb:b=10∨b=16) (x:UInt8) (h:isD x=true):(b≤(x - 48).toNat↔b≤dg x)∧((x - 48).toNat < b→(x - 48).toNat=dg x):=by
  revert h
  refine wp (p:=fun x=>isD x=true→(b≤(x - 48).toNat↔b≤dg x)∧((x - 48).toNat < b→(x - 48).toNat=dg x)) ?_ x
  rcases hb with rfl | rfl <;> decide +kernel
theorem dig_L (b:Nat) (hb:b=10∨b=16) (x:UInt8) (h0:isD x=false) (h:isL x=true):(b≤((x ||| 32) - 97+10).toNat↔b≤dg x)∧(((x ||| 32) - 97+10).toNat < b→((x ||| 32) - 97+10).toNat=dg x):=by
  revert h0 h
  refine wp (p:=fun x=>isD x=false→isL x=true→(b≤((x ||| 32) - 97+10).toNat↔b≤dg x)∧(((x ||| 32) - 97+10).toNat < b→((x ||| 32) - 97+10).toNat=dg x)) ?_ x
  rcases hb with rfl | rfl <;> decide +kernel
theorem dig_no (x:UInt8) (h0:isD x=false) (h:isL x=false):dg x=99:=by
  revert h0 h
  exact wp (p:=fun x=>isD x=false→isL x=false→dg x=99) (by decide +kernel) x
def num (b:Nat):Nat→Bs→Option Nat
  | v,[]=>some v
  | v,c::r=>if b≤dg c then none else num b (b*v+dg c) r
theorem wg (x:Int) (h0:0≤x) (h1:x < 18446744073709551616):IntKind.u64.wrap x=x:=by
  have:IntKind.u64.wrap x=x % 18446744073709551616:=rfl
  rw [this]; omega
theorem vC (F:Nat) (s:Bs) (b:Nat) (hb:b=10∨b=16) (c:Int) (hc:1152921504606846976≤c) (hs:s.length≤10):∀ (n i v:Nat),s.length - i < n→v < 16 ^ i→i≤s.length →
    cw F s (b:Int) c n (false,(v:Int),(i:Int))=match num b v (s.drop i) with | none=>some (0,2) | some w=>some ((w:Int),0):=by
  intro n
  induction n with
  | zero=>intro i v h; omega
  | succ n ih =>
    intro i v hn hv hi;show eA F s (b:Int) c (cw F s (b:Int) c n) false (v:Int) (i:Int)=_
    unfold eA fx gu
    by_cases h:i < s.length
    · have hd:s.drop i=s[i]::s.drop (i+1):=aB h
      have hp:(16:Nat) ^ i≤16 ^ 9:=Nat.pow_le_pow_right (by omega) (by omega)
      have hp2:(16:Nat) ^ 9=68719476736:=rfl
      have hp3:(16:Nat) ^ (i+1)=16 ^ i*16:=Nat.pow_succ _ _
      have key:∀ d:UInt8,((b≤d.toNat↔b≤dg s[i])∧(d.toNat < b→d.toNat=dg s[i]))→dx (b:Int) c false (v:Int) (i:Int) (cw F s (b:Int) c n) d=match num b v (s.drop i) with | none=>some (0,2) | some w=>some ((w:Int),0):=by
        intro d ⟨h1,h2⟩
        rw [hd]
        unfold dx ez
        have hB:((Go.Av.toB (b:Int)).toNat:Int)=(b:Int):=by rcases hb with rfl | rfl <;> rfl
        rw [hB]
        by_cases hbd:b≤d.toNat
        · rw [bT (by omega)]
          simp [num,h1.1 hbd]
        · have hd2:=h2 (by omega)
          have hbd':¬ b≤dg s[i]:=fun e=>hbd (h1.2 e)
          have hlt:d.toNat < 16:=by rcases hb with rfl | rfl <;> omega
          have hbv:b*v≤16*v:=Nat.mul_le_mul_right v (by rcases hb with rfl | rfl <;> omega)
          have hmul:(v:Int)*(b:Int)=((b*v:Nat):Int):=by rw [Nat.mul_comm]; simp
          have wb:IntKind.u64.wrap (b:Int)=(b:Int):=wg _ (by omega) (by rcases hb with rfl | rfl <;> omega)
          have wd:IntKind.u64.wrap (d.toNat:Int)=(d.toNat:Int):=wg _ (by omega) (by omega)
          have wm:IntKind.u64.wrap ((b*v:Nat):Int)=((b*v:Nat):Int):=wg _ (by omega) (by omega)
          have ws:IntKind.u64.wrap (((b*v:Nat):Int)+(d.toNat:Int))=((b*v+d.toNat:Nat):Int):=by rw [wg _ (by omega) (by omega)]; simp
          have wc:IntKind.u64.wrap ((IntKind.u64.wrap (1*2 ^ min (Int.toNat (IntKind.u64.wrap 64)) IntKind.u64.bits)) - 1)=18446744073709551615:=by decide +kernel
          rw [wb,wd,hmul,wm,ws,wc,bF (by omega),bF (by omega),decide_eq_false (by omega:¬ ((b*v+d.toNat:Nat):Int) < ((b*v:Nat):Int)),decide_eq_false (by omega:¬ (18446744073709551615:Int) < ((b*v+d.toNat:Nat):Int))]
          rw [Bool.or_self,cond_false,bD (by omega),bx,ih (i+1) (b*v+d.toNat) (by omega) (by rw [hp3]; rcases hb with rfl | rfl <;> omega) (by omega)]
          simp only [num,hbd',if_false,hd2]
      have hb0:decide ((b:Int)=0)=false:=decide_eq_false (by rcases hb with rfl | rfl <;> omega)
      simp (disch:=omega) only [bT,bR,bm,cF h,hb0,Bool.and_false,cond_false,bb,jc]
      cases hD:isD s[i] with
      | true =>
        have e:((decide (48≤((s[i]).toNat:Int)))&&(decide (((s[i]).toNat:Int)≤57)))=true:=hD
        rw [e,cond_true]
        exact key _ (dig_D b hb _ hD)
      | false =>
        have e:((decide (48≤((s[i]).toNat:Int)))&&(decide (((s[i]).toNat:Int)≤57)))=false:=hD
        rw [e,cond_false]
        have el:((decide (97≤((s[i] ||| 32).toNat:Int)))&&(decide ((((bif decide (97≤((s[i] ||| 32).toNat:Int)) then (s[i] ||| 32) else default):UInt8).toNat:Int)≤122)))=isL s[i]:=by
          unfold isL
          cases decide (97≤((s[i] ||| 32).toNat:Int)) <;> rfl
        rw [el]
        cases hL:isL s[i] with
        | true =>
          rw [cond_true]
          exact key _ (dig_L b hb _ hD hL)
        | false =>
          rw [cond_false,hd]
          have:=dig_no _ hD hL
          have:b≤dg s[i]:=by rw [this]; rcases hb with rfl | rfl <;> omega
          simp [num,this]
    · rw [bF (by omega),mg]
      have hi2:s.length≤i:=by omega
      rw [aM hi2]
      rfl
theorem int_eq (F:Nat) (s:Bs) (b:Nat) (hb:b=10∨b=16) (h0:s≠[]) (hs:s.length≤10) (hF:20 < F) (h43:at_ s 0≠43) (h45:at_ s 0≠45) :
    eb F s (b:Int) 0=match num b 0 s with | none=>some (0,1) | some w=>some ((w:Int),0):=by
  have hp:0 < s.length:=List.length_pos_iff.2 h0
  have hw:∀ (t:Bs) (v w:Nat),num b v t=some w→t.length≤10→v < 16 ^ (10 - t.length)→w < 16 ^ 10:=by
    intro t
    induction t with
    | nil=>intro v w h _ hv; have:v=w:=by simpa [num] using h
           subst this; exact hv
    | cons c r ih =>
      intro v w h hl hv
      simp only [num] at h
      split at h
      · cases h
      · rename_i hd
        simp only [List.length_cons] at hl hv
        refine ih _ _ h (by omega) ?_
        have e:10 - r.length=(10 - (r.length+1))+1:=by omega
        rw [e,Nat.pow_succ]
        rcases hb with rfl | rfl <;> omega
  have hu:gC F s (b:Int) 0=match num b 0 s with | none=>some (0,2) | some w=>some ((w:Int),0):=by
    unfold gC fv fw dN
    have h2:((decide (2≤(b:Int)))&&(decide ((b:Int)≤36)))=true:=by rcases hb with rfl | rfl <;> rfl
    rw [bF h0,h2,nM,lx rfl]
    have hwr:=qx 64
    have go:=fun c hc=>vC F s b hb c hc hs F 0 0 (by omega) (by omega) (by omega)
    rcases hb with rfl | rfl
    · rw [bT (show ((10:Nat):Int)=10 from rfl),lx hwr,cc (by omega)]; exact go _ (by omega)
    · rw [bF (show ¬ ((16:Nat):Int)=10 by decide),bT (show ((16:Nat):Int)=16 from rfl),lx hwr,cc (by omega)]; exact go _ (by omega)
  have hi:iG F s (b:Int) 0=match num b 0 s with | none=>some (0,2) | some w=>some ((w:Int),0):=by
    unfold iG eo gk fb
    have e1:IntKind.u64.wrap (1*2 ^ min (Int.toNat (IntKind.u64.wrap 63)) IntKind.u64.bits)=9223372036854775808:=by decide +kernel
    have e2:(0:Int)≤IntKind.u64.wrap 63:=by decide +kernel
    rw [hu]
    cases hn:num b 0 s with
    | none=>simp (disch:=omega) only [bF h0,bF,bR,bm,br]; rfl
    | some w =>
      have hwb:w < 16 ^ 10:=hw s 0 w hn hs (Nat.pow_pos (by omega))
      have hp2:(16:Nat) ^ 10=1099511627776:=rfl
      simp (disch:=omega) only [bF h0,bF,bR,bm,br,e1,lx e2,bD,lx,Bool.not_false,Bool.true_and,Bool.false_and,cond_false]
      rfl
  unfold eb
  rw [hi]
  cases hn:num b 0 s with
  | none =>
    simp only [br]
    rw [show (!decide ((2:Int)=0))=true by rfl,cond_true,pn (by omega)]; rfl
  | some w=>rfl
theorem qy (n:Int) (c:Nat) (h:n=c):toB n=UInt8.ofNat c:=by
  subst h
  unfold toB
  apply UInt8.toNat.inj
  rw [UInt8.toNat_ofNat',UInt8.toNat_ofNat']
  omega
theorem qw (F:Nat) (r:Int):kA F r=if (r=9∨r=10∨r=13)∨(32≤r∧r≤55295)∨(57344≤r∧r≤65533)∨(65536≤r∧r≤1114111) then some (dh r,true) else some ([],false):=by
  have fin : -2147483648≤r∧r≤2147483647→(grd (okJ r) (lt (dh r) fun x17=>some (x17,true)))=some (dh r,true):=fun h=>by rw [grd_J h]; rfl
  unfold kA mY
  simp only [jc]
  cases hA:((decide (r=9))||(decide (r=10)))||(decide (r=13)) with
  | true =>
    have:r=9∨r=10∨r=13:=by simpa [or_assoc] using hA
    simp only [Bool.not_true,Bool.false_and,cond_false]
    rw [if_pos (.inl this)]; exact fin (by omega)
  | false =>
    have hA':¬ (r=9∨r=10∨r=13):=by simp at hA; omega
    simp only [Bool.not_false,Bool.true_and,cond_true]
    cases h7:(decide (32≤r))&&(decide (r≤55295)) with
    | true =>
      have:32≤r∧r≤55295:=by simpa using h7
      simp only [Bool.not_true,Bool.false_and,cond_false]
      rw [if_pos (by omega)]; exact fin (by omega)
    | false =>
      have h7':¬ (32≤r∧r≤55295):=fun e=>by simp [e] at h7
      simp only [Bool.not_false,Bool.true_and,cond_true]
      cases h10:(decide (57344≤r))&&(decide (r≤65533)) with
      | true =>
        have:57344≤r∧r≤65533:=by simpa using h10
        simp only [Bool.not_true,Bool.false_and,cond_false]
        rw [if_pos (by omega)]; exact fin (by omega)
      | false =>
        have h10':¬ (57344≤r∧r≤65533):=fun e=>by simp [e] at h10
        simp only [Bool.not_false,Bool.true_and,cond_true]
        cases h13:(decide (65536≤r))&&(decide (r≤1114111)) with
        | true =>
          have:65536≤r∧r≤1114111:=by simpa using h13
          simp only [Bool.not_true,Bool.false_and,cond_false]
          rw [if_pos (by omega)]; exact fin (by omega)
        | false =>
          have h13':¬ (65536≤r∧r≤1114111):=fun e=>by simp [e] at h13
          rw [if_neg (by omega)]; rfl
theorem cond9 (p q s a b c d e f:Prop) [Decidable p] [Decidable q] [Decidable s] [Decidable a] [Decidable b] [Decidable c] [Decidable d] [Decidable e] [Decidable f] :
    (((!((((decide p)||(decide q))||(decide s))||((decide a)&&(decide b))))&&(!((decide c)&&(decide d))))&&(!((decide e)&&(decide f)))) = !decide ((p∨q∨s)∨(a∧b)∨(c∧d)∨(e∧f)):=by
  simp only [Bool.decide_or,Bool.decide_and,Bool.not_or,Bool.and_assoc,Bool.or_assoc]
theorem Ab (r:Int):(((!((((decide (r=9))||(decide (r=10)))||(decide (r=13)))||((decide (32≤r))&&(decide (r≤55295)))))&&(!((decide (57344≤r))&&(decide (r≤65533)))))&&(!((decide (65536≤r))&&(decide (r≤1114111))))) = !decide ((r=9∨r=10∨r=13)∨(32≤r∧r≤55295)∨(57344≤r∧r≤65533)∨(65536≤r∧r≤1114111)):=cond9 _ _ _ _ _ _ _ _ _
theorem yK (k m c:Nat):toB ((k:Int)+(c:Int) / (m:Int))=UInt8.ofNat (k+c / m):=qy _ _ (by rw [Int.natCast_add,Int.natCast_ediv])
theorem tb_mod (k m c:Nat):toB ((k:Int)+(c:Int) % (m:Int))=UInt8.ofNat (k+c % m):=qy _ _ (by rw [Int.natCast_add,Int.natCast_emod])
theorem zc (k m n c:Nat):toB ((k:Int)+(c:Int) / (m:Int) % (n:Int))=UInt8.ofNat (k+c / m % n):=qy _ _ (by rw [Int.natCast_add,Int.natCast_emod,Int.natCast_ediv])
theorem enc1 (c:Nat) (hc:Utf8.valid (c:Int)=true):Utf8.encode (c:Int)=if c < 128 then ⟨#[UInt8.ofNat c]⟩ else if c < 2048 then ⟨#[UInt8.ofNat (192+c / 64),UInt8.ofNat (128+c % 64)]⟩
    else if c < 65536 then ⟨#[UInt8.ofNat (224+c / 4096),UInt8.ofNat (128+c / 64 % 64),UInt8.ofNat (128+c % 64)]⟩ else ⟨#[UInt8.ofNat (240+c / 262144),UInt8.ofNat (128+c / 4096 % 64),UInt8.ofNat (128+c / 64 % 64),UInt8.ofNat (128+c % 64)]⟩:=by
  have hcc:(if Utf8.valid (c:Int)=true then ((c:Int)).toNat else Utf8.runeError)=c:=by rw [if_pos hc,Int.toNat_natCast]
  unfold Utf8.encode
  rw [hcc]
theorem wB (n:Int):dh n=(Utf8.encode n).data.toList:=rfl
theorem yb (c:Nat) (hc:Utf8.valid (c:Int)=true):dh (c:Int)=if c < 128 then [toB c] else if c < 2048 then [toB (192+(c:Int) / 64),toB (128+(c:Int) % 64)]
    else if c < 65536 then [toB (224+(c:Int) / 4096),toB (128+(c:Int) / 64 % 64),toB (128+(c:Int) % 64)] else [toB (240+(c:Int) / 262144),toB (128+(c:Int) / 4096 % 64),toB (128+(c:Int) / 64 % 64),toB (128+(c:Int) % 64)]:=by
  have t1:toB (c:Int)=UInt8.ofNat c:=qy (c:Int) c rfl
  have t2:toB (192+(c:Int) / 64)=UInt8.ofNat (192+c / 64):=yK 192 64 c
  have t3:toB (128+(c:Int) % 64)=UInt8.ofNat (128+c % 64):=tb_mod 128 64 c
  have t4:toB (224+(c:Int) / 4096)=UInt8.ofNat (224+c / 4096):=yK 224 4096 c
  have t5:toB (128+(c:Int) / 64 % 64)=UInt8.ofNat (128+c / 64 % 64):=zc 128 64 64 c
  have t6:toB (240+(c:Int) / 262144)=UInt8.ofNat (240+c / 262144):=yK 240 262144 c
  have t7:toB (128+(c:Int) / 4096 % 64)=UInt8.ofNat (128+c / 4096 % 64):=zc 128 4096 64 c
  rw [t1,t2,t3,t4,t5,t6,t7,wB,enc1 c hc]
  by_cases h1:c < 128
  · rw [if_pos h1,if_pos h1]
  · rw [if_neg h1,if_neg h1]
    by_cases h2:c < 2048
    · rw [if_pos h2,if_pos h2]
    · rw [if_neg h2,if_neg h2]
      by_cases h3:c < 65536
      · rw [if_pos h3,if_pos h3]
      · rw [if_neg h3,if_neg h3]
theorem ya (c:Nat) (h:((c:Int)=9∨(c:Int)=10∨(c:Int)=13)∨(32≤(c:Int)∧(c:Int)≤55295)∨(57344≤(c:Int)∧(c:Int)≤65533)∨(65536≤(c:Int)∧(c:Int)≤1114111)):Utf8.valid (c:Int)=true:=by
  unfold Utf8.valid
  by_cases h1:(c:Int) < 55296
  · have:(0:Int)≤(c:Int):=by omega
    rw [decide_eq_true this,decide_eq_true h1]; rfl
  · have h2:(57344:Int)≤(c:Int):=by omega
    have h3:(c:Int)≤1114111:=by omega
    rw [decide_eq_true h2,decide_eq_true h3,Bool.and_self,Bool.or_true]
theorem sq (F:Nat) (r:Int):kA F r=fm F r:=by
  rw [qw]
  unfold fm
  rw [Ab]
  by_cases h:(r=9∨r=10∨r=13)∨(32≤r∧r≤55295)∨(57344≤r∧r≤65533)∨(65536≤r∧r≤1114111)
  · rw [if_pos h,decide_eq_true h,Bool.not_true,cond_false]
    obtain ⟨c,rfl⟩:∃ c:Nat,r=c:=⟨r.toNat,by omega⟩
    rw [yb c (ya c h)]
    by_cases h1:c < 128
    · rw [if_pos h1,bT (by omega)]
    · rw [if_neg h1,bF (by omega)]
      by_cases h2:c < 2048
      · rw [if_pos h2,bT (by omega)]
        simp (disch:=omega) only [we,bD]
      · rw [if_neg h2,bF (by omega)]
        by_cases h3:c < 65536
        · rw [if_pos h3,bT (by omega)]
          simp (disch:=omega) only [we,bD]
        · rw [if_neg h3,bF (by omega)]
          simp (disch:=omega) only [we,bD]
  · rw [if_neg h,decide_eq_false h]; rfl
def cap (w:Nat):Nat:=if 1114111 < w then 1114112 else w
theorem wF (F:Nat) (s:Bs) (b:Nat) (hb:b=10∨b=16) (hs:s.length≤100000):∀ (n i v:Nat),s.length - i < n→i≤s.length →
    eC F s (b:Int) n ((cap v:Int),(i:Int))=match num b v (s.drop i) with | none=>some (-1) | some w=>some (if s.length=0 then -1 else (cap w:Int)):=by
  intro n
  induction n with
  | zero=>intro i v h; omega
  | succ n ih =>
    intro i v hn hi;show gP F s (b:Int) (eC F s (b:Int) n) (cap v:Int) (i:Int)=_
    unfold gP fE gO
    have hcv:cap v≤1114112:=by unfold cap; split <;> omega
    by_cases h:i < s.length
    · have hd:s.drop i=s[i]::s.drop (i+1):=aB h
      simp (disch:=omega) only [bT,bR,bm,cF h,digit_eq,bb]
      rw [hd]
      by_cases hbd:b≤dg s[i]
      · rw [bT (by omega)]; simp [num,hbd]
      · have hdb:dg s[i] < 16:=by rcases hb with rfl | rfl <;> omega
        have hbc:b*cap v≤16*cap v:=Nat.mul_le_mul_right _ (by rcases hb with rfl | rfl <;> omega)
        have e1:(b:Int)*(cap v:Int)=((b*cap v:Nat):Int):=by simp
        have e2:((b*cap v:Nat):Int)+(dg s[i]:Int)=((b*cap v+dg s[i]:Nat):Int):=by simp
        have e3:cap (b*v+dg s[i])=if 1114111 < b*cap v+dg s[i] then 1114112 else b*cap v+dg s[i]:=by
          unfold cap
          rcases hb with rfl | rfl <;> (split <;> split <;> (try split) <;> omega)
        rw [bF (by omega),e1,e2,bD (by omega),bD (by omega)]
        simp only [num,hbd,if_false]
        have:=ih (i+1) (b*v+dg s[i]) (by omega) (by omega)
        rw [e3] at this
        by_cases hc:1114111 < b*cap v+dg s[i]
        · rw [bT (by omega),bD (by omega),bx]
          rw [if_pos hc] at this
          exact this
        · rw [bF (by omega),bD (by omega),bx]
          rw [if_neg hc] at this
          exact this
    · have hi2:s.length≤i:=by omega
      rw [bF (by omega),aM hi2]
      simp only [num]
      by_cases h0:s.length=0
      · rw [bT (by omega),if_pos h0]
      · rw [bF (by omega),if_neg h0]
theorem Ah (F:Nat) (s:Bs) (b:Nat) (hb:b=10∨b=16) (hs:s.length≤100000) (hF:s.length < F) :
    fM F s (b:Int)=match num b 0 s with | none=>some (-1) | some w=>some (if s.length=0 then -1 else (cap w:Int)):=by
  have:=wF F s b hb hs F 0 0 (by omega) (by omega)
  have hc:cap 0=0:=rfl
  rw [hc,List.drop_zero] at this
  exact this
theorem wl {s:Bs} {b v:Nat} (hb:b=10∨b=16) {c:UInt8} (hc:dg c=99) (h:c∈s):num b v s=none:=by
  induction s generalizing v with
  | nil=>cases h
  | cons d r ih =>
    simp only [num]
    rcases List.mem_cons.1 h with rfl | h
    · rw [if_pos (by rcases hb with rfl | rfl <;> omega)]
    · split
      · rfl
      · exact ih h
end Go.Pn
namespace Go.Pn
open Go.Pv Go.Av
theorem nj (F:Nat):fm F (-1)=some ([],false):=by rw [← sq,qw,if_neg (by omega)]
theorem rune_cap (F w:Nat):fm F (cap w:Int)=fm F (w:Int):=by
  unfold cap
  split
  · rw [← sq,← sq,qw,qw,if_neg (by omega),if_neg (by omega)]
  · rfl
theorem uh (F:Nat) (s:Bs) (hs:s.length≤100000):iM F s [95]=some (decide (0≤Go.Lib.indexByte s 95)):=by
  unfold iM mX nU jR jW
  have e:((decide (8 < s.length))&&(decide (2≤([95]:Bs).length)))=false:=by simp
  have e2:at_ ([95]:Bs) 0=95:=rfl
  have e3:km [95]=true:=by decide
  have e4:((95:UInt8).toNat:Int)=95:=rfl
  have e5:toB 95=95:=rfl
  rw [e,cond_false]
  simp (disch:=(first | omega | (simp; done) | (simp; omega))) only [e3,nM,pn,bF,bT,bR,bm,e2,e4,grd_J]
  rfl
theorem oy (F:Nat) (s:Bs) (b:Nat) (hb:b=10∨b=16) (hs:s.length≤10) (hF:20 < F):∃ v,fM F s (b:Int)=some v∧eF F s (b:Int)=fm F v:=by
  rw [Ah F s b hb (by omega) (by omega)]
  unfold eF
  cases s with
  | nil =>
    refine ⟨-1,rfl,?_⟩
    rw [nj]
    simp [gp,bm,mg]
  | cons c r =>
    have h0:decide ((c::r)=[])=false:=decide_eq_false (by simp)
    have ha:at_ (c::r) 0=c:=rfl
    have hg:∀ (q:Bool) (k:Option (Bs×Bool)),fq q (co 0 (c::r).length) k=k:=fun q k=>mQ (fun _=>by simp)
    have hlen:¬ (c::r).length=0:=by simp
    rw [uh F (c::r) (by omega)]
    simp only [hg,h0,bm,ha,jc,Bool.false_or]
    by_cases h1:c=43
    · rw [wl hb (c:=43) (by decide) (by simp [h1])]
      refine ⟨-1,rfl,?_⟩
      rw [nj]; simp [h1]
    · by_cases h2:c=45
      · rw [wl hb (c:=45) (by decide) (by simp [h2])]
        refine ⟨-1,rfl,?_⟩
        rw [nj]; simp [h2]
      · by_cases h3:c=95
        · rw [wl hb (c:=95) (by decide) (by simp [h3])]
          refine ⟨-1,rfl,?_⟩
          rw [nj]; simp [h3]
        · simp only [h1,h2,h3,decide_false,Bool.or_self,Bool.false_or,Bool.not_false,cond_true]
          by_cases h4:0≤Go.Lib.indexByte (c::r) 95
          · rw [bT h4]
            have hmem:(95:UInt8)∈c::r:=by
              by_cases hm:(95:UInt8)∈c::r
              · exact hm
              · have:=qg (c:=95) (s:=c::r) (fun x hx e=>hm (e ▸ hx))
                omega
            rw [wl hb (c:=95) (by decide) hmem]
            exact ⟨-1,rfl,(nj F).symm⟩
          · rw [bF h4,int_eq F (c::r) b hb (by simp) hs hF (by rw [ha]; exact h1) (by rw [ha]; exact h2)]
            cases hn:num b 0 (c::r) with
            | none=>exact ⟨-1,rfl,by rw [nj]; rfl⟩
            | some w =>
              refine ⟨(cap w:Int),by simp only [hlen,if_false],?_⟩
              rw [rune_cap,← sq]
              simp only [br]
              simp only [decide_true,Bool.not_true,cond_false]
              cases he:kA F (w:Int) with
              | none=>rfl
              | some p=>rfl
theorem Aa (F:Nat) (b:Bs) (hb:b.length≤10) (hF:20 < F):jK F b=iP F b:=by
  have fallback:mhas [(([97,109,112]:List UInt8),(38:Int)),(([108,116]:List UInt8),60),(([103,116]:List UInt8),62),(([113,117,111,116]:List UInt8),34),(([97,112,111,115]:List UInt8),39)] b=false →
      ¬ b=[97,109,112]→¬ b=[108,116]→¬ b=[103,116]→¬ b=[113,117,111,116]→¬ b=[97,112,111,115]→jK F b=iP F b:=by
    intro hm n1 n2 n3 n4 n5
    unfold jK lR iP hP
    simp only [bb,bm,hm,cond_false,bF n1,bF n2,bF n3,bF n4,bF n5]
    cases b with
    | nil=>simp [Go.Lib.hasPrefix,gp]
    | cons c r =>
      cases r with
      | nil =>
        obtain ⟨v,_,hv⟩:=oy F [] 10 (.inl rfl) (by simp) hF
        have e0:eF F [] 10=some ([],false):=by unfold eF; simp [gp,bm,mg]
        by_cases h:c=35
        · subst h
          have e1:Go.Lib.hasPrefix [35] [35,120]=false:=by decide
          have e2:Go.Lib.hasPrefix [35] [35]=true:=by decide
          have e3:Go.Lib.trimPrefix [35] [35]=[]:=by decide
          rw [e1,e2,e3,cond_false,cond_true,e0]
          simp [br,gp]
        · have e1:Go.Lib.hasPrefix [c] [35,120]=false:=by simp [Go.Lib.hasPrefix,List.isPrefixOf]
          have e2:Go.Lib.hasPrefix [c] [35]=false:=by simp [Go.Lib.hasPrefix,List.isPrefixOf,Ne.symm h]
          rw [e1,e2,cond_false,cond_false]
          simp [gp]
      | cons d r =>
        have ha:at_ (c::d::r) 0=c:=rfl
        have hb1:at_ (c::d::r) 1=d:=rfl
        have hl:decide (((c::d::r).length:Int) < 2)=false:=decide_eq_false (by simp only [List.length_cons]; omega)
        have f1:gW (c::d::r) 1=d::r:=rfl
        have f2:gW (c::d::r) 2=r:=rfl
        have hg:∀ (q:Bool) (k:Option (Bs×Bool)),fq q (co 0 (c::d::r).length) k=k:=fun q k=>mQ (fun _=>by simp only [List.length_cons]; omega)
        simp only [hg,hl,ha,hb1,f1,f2,Bool.false_or]
        by_cases h:c=35
        · subst h
          rw [show (!decide ((35:UInt8)=35))=false by rfl,cond_false]
          obtain ⟨v,hv1,hv2⟩:=oy F (d::r) 10 (.inl rfl) (by simp at hb ⊢; omega) hF
          have hv1':fM F (d::r) 10=some v:=hv1
          have hv2':eF F (d::r) 10=fm F v:=hv2
          simp (disch:=(first | omega | (simp; done) | (simp; omega))) only [jd,bR,hv1',bb]
          by_cases hx:d=120
          · subst hx
            obtain ⟨u,hu1,hu2⟩:=oy F r 16 (.inr rfl) (by simp at hb ⊢; omega) hF
            have hu1':fM F r 16=some u:=hu1
            have hu2':eF F r 16=fm F u:=hu2
            have e1:Go.Lib.hasPrefix (35::120::r) [35,120]=true:=by simp [Go.Lib.hasPrefix,List.isPrefixOf]
            have e3:Go.Lib.trimPrefix (35::120::r) [35,120]=r:=by simp [Go.Lib.trimPrefix,Go.Lib.hasPrefix,List.isPrefixOf]
            rw [e1,e3,cond_true,bT rfl,hu1',bb,hu2']
          · have e1:Go.Lib.hasPrefix (35::d::r) [35,120]=false:=by simp [Go.Lib.hasPrefix,List.isPrefixOf,Ne.symm hx]
            have e2:Go.Lib.hasPrefix (35::d::r) [35]=true:=by simp [Go.Lib.hasPrefix,List.isPrefixOf]
            have e3:Go.Lib.trimPrefix (35::d::r) [35]=d::r:=by simp [Go.Lib.trimPrefix,Go.Lib.hasPrefix,List.isPrefixOf]
            rw [e1,e2,e3,cond_false,cond_true,bF hx,hv2']
        · have e1:Go.Lib.hasPrefix (c::d::r) [35,120]=false:=by simp [Go.Lib.hasPrefix,List.isPrefixOf,Ne.symm h]
          have e2:Go.Lib.hasPrefix (c::d::r) [35]=false:=by simp [Go.Lib.hasPrefix,List.isPrefixOf,Ne.symm h]
          rw [e1,e2,cond_false,cond_false,decide_eq_false h]; rfl
  have named:∀ (n:Bs) (k:Int) (x:Bs),(mhas [(([97,109,112]:List UInt8),(38:Int)),(([108,116]:List UInt8),60),(([103,116]:List UInt8),62),(([113,117,111,116]:List UInt8),34),(([97,112,111,115]:List UInt8),39)] n=true) →
      dh (mget [(([97,109,112]:List UInt8),(38:Int)),(([108,116]:List UInt8),60),(([103,116]:List UInt8),62),(([113,117,111,116]:List UInt8),34),(([97,112,111,115]:List UInt8),39)] n)=x→jK F n=some (x,true):=by
    intro n k x h1 h2
    unfold jK lR
    simp only [bb,bm,h1,h2,cond_true]
  by_cases n1:b=[97,109,112]
  · subst n1; rw [named _ 38 [38] (by decide +kernel) (by decide +kernel)]; rfl
  by_cases n2:b=[108,116]
  · subst n2; rw [named _ 60 [60] (by decide +kernel) (by decide +kernel)]; rfl
  by_cases n3:b=[103,116]
  · subst n3; rw [named _ 62 [62] (by decide +kernel) (by decide +kernel)]; rfl
  by_cases n4:b=[113,117,111,116]
  · subst n4; rw [named _ 34 [34] (by decide +kernel) (by decide +kernel)]; rfl
  by_cases n5:b=[97,112,111,115]
  · subst n5; rw [named _ 39 [39] (by decide +kernel) (by decide +kernel)]; rfl
  refine fallback ?_ n1 n2 n3 n4 n5
  simp [mhas,List.lookup,beq_false_of_ne n1,beq_false_of_ne n2,beq_false_of_ne n3,beq_false_of_ne n4,beq_false_of_ne n5]
end Go.Pn
namespace Go.Pn
open Go.Pv Go.Av
theorem getD_at (s:Bs) (k:Nat) (h:k < s.length):(⟨s.toArray⟩:ByteArray).get! k=s[k]:=by
  show (s.toArray)[k]! = _
  simp [h]
theorem BC (s:Bs) (p m:Nat) (hm:0 < m) (hk:m < (nV s p).2):∃ h:p+m < s.length,128≤(s[p+m]).toNat:=by
  have key:∀ k,(decide (p+k < (⟨s.toArray⟩:ByteArray).size)&&((⟨s.toArray⟩:ByteArray).get! (p+k)).toNat / 64==2)=true→∃ h:p+k < s.length,128≤(s[p+k]).toNat:=by
    intro k hk
    simp only [Bool.and_eq_true,decide_eq_true_eq,beq_iff_eq] at hk
    obtain ⟨h1,h2⟩:=hk
    have h1':p+k < s.length:=h1
    rw [getD_at s (p+k) h1'] at h2
    exact ⟨h1',by omega⟩
  unfold nV Utf8.decode at hk
  simp only at hk
  split at hk
  · simp at hk; omega
  · split at hk
    · rename_i h2
      simp only [Bool.and_eq_true] at h2
      split at hk
      · have:m=1:=by simp at hk; omega
        subst this;exact key 1 (by simpa using h2.2)
      · simp at hk; omega
    · split at hk
      · rename_i h2
        simp only [Bool.and_eq_true] at h2
        split at hk
        · have:m=1∨m=2:=by simp at hk; omega
          rcases this with rfl | rfl
          · exact key 1 (by simpa using h2.1.2)
          · exact key 2 (by simpa using h2.2)
        · simp at hk; omega
      · split at hk
        · rename_i h2
          simp only [Bool.and_eq_true] at h2
          split at hk
          · have:m=1∨m=2∨m=3:=by simp at hk; omega
            rcases this with rfl | rfl | rfl
            · exact key 1 (by simpa using h2.1.1.2)
            · exact key 2 (by simpa using h2.1.2)
            · exact key 3 (by simpa using h2.2)
          · simp at hk; omega
        · simp at hk; omega
theorem decR_low (s:Bs) (p:Nat) (h:p < s.length) (hb:(s[p]).toNat < 128):nV s p=((s[p]).toNat,1):=decode_ascii (⟨s.toArray⟩:ByteArray) p h hb
theorem BD (s:Bs) (p:Nat) (h:p < s.length) (hb:128≤(s[p]).toNat):128≤(nV s p).1:=(decode_high (⟨s.toArray⟩:ByteArray) p h hb).1
theorem yi (F:Nat) (hF:5≤F) (r:Int) (hr:128≤r):jW F [38,59] r=some (-1):=by
  obtain ⟨k1,k2⟩:=rr r hr
  have k3:=mn r
  unfold jW
  have hf:((decide (0≤r))&&(decide (r < 128)))=false:=by rw [decide_eq_false (by omega:¬ r < 128),Bool.and_false]
  rw [hf,cond_false]
  by_cases h2:r=65533
  · rw [bT h2]
    obtain ⟨m,rfl⟩:∃ m,F=m+3:=⟨F - 3,by omega⟩
    have e0:nV [38,59] 0=(38,1):=by decide +kernel
    have e1:nV [38,59] 1=(59,1):=by decide +kernel
    show fo [38,59] (jP [38,59] (m+2)) 0=_
    unfold fo
    simp only [e0]
    show fo [38,59] (jP [38,59] (m+1)) 1=_
    unfold fo
    simp only [e1]
    rfl
  · rw [bF h2]
    have hv:∃ b,kR F r=some b:=by
      unfold kR
      cases (decide (0≤r))&&(decide (r < 55296)) with
      | true=>exact ⟨true,rfl⟩
      | false =>
        rw [cond_false]
        cases (decide (57343 < r))&&(decide (r≤1114111)) with
        | true=>exact ⟨true,rfl⟩
        | false=>exact ⟨false,rfl⟩
    obtain ⟨b,hb⟩:=hv
    rw [hb,bb]
    cases b with
    | false=>rfl
    | true =>
      obtain ⟨m,rfl⟩:∃ m,F=m+1:=⟨F - 1,by omega⟩
      simp (disch:=omega) only [Bool.not_true,cond_false,bm,bD]
      show jQ [38,59] (dh r) (lZ [38,59] (dh r) m)=_
      unfold jQ kK
      by_cases h3:(dh r).length=2
      · have e1:((dh r).length:Int) - 1=1:=by omega
        have e2:at_ ([38,59]:Bs) 1=59:=rfl
        have e3:gW ([38,59]:Bs) (1+1)=[]:=rfl
        rw [e1]
        simp (disch:=(first | omega | (simp; done) | (simp; omega))) only [bT,bR,bm,e2,decide_eq_false (k2 h3),Bool.not_false,nM,bD,jd,e3]
        rfl
      · have:¬ ((dh r).length:Int) - 1 < (([38,59]:Bs).length:Int):=by simp; omega
        rw [bF this]
def nxt (s:Bs) (y:Nat):Int:=if Go.Lib.indexAny (s.drop y) [38,59] = -1 then -1 else (y:Int)+Go.Lib.indexAny (s.drop y) [38,59]
theorem xw (s:Bs) (y:Nat) (h:y < s.length) (hc:([38,59]:Bs).contains s[y]=false):nxt s (y+1)=nxt s y:=by
  unfold nxt
  rw [aB h]
  simp only [Go.Lib.indexAny,hc]
  have:=(kJ (s.drop (y+1)) [38,59]).1
  by_cases e:Go.Lib.indexAny (s.drop (y+1)) [38,59] = -1
  · simp [e]
  · have e2:(Go.Lib.indexAny (s.drop (y+1)) [38,59] == -1)=false:=by simpa using e
    have e3:¬ Go.Lib.indexAny (s.drop (y+1)) [38,59]+1 = -1:=by omega
    simp [e,e2,e3]; omega
theorem nxt_hi (s:Bs) (y:Nat) (h:y < s.length) (hb:128≤(s[y]).toNat):nxt s (y+1)=nxt s y:=by
  refine xw s y h ?_
  have h1:s[y]≠38:=by intro e; rw [e] at hb; revert hb; decide
  have h2:s[y]≠59:=by intro e; rw [e] at hb; revert hb; decide
  simp [h1,h2]
theorem nxt_skip (s:Bs) (y:Nat):∀ k,(∀ m,m < k→∃ h:y+m < s.length,128≤(s[y+m]).toNat)→nxt s (y+k)=nxt s y:=by
  intro k
  induction k with
  | zero=>intro _; rfl
  | succ k ih =>
    intro h;obtain ⟨h1,h2⟩:=h k (by omega)
    rw [show y+(k+1)=y+k+1 by omega,nxt_hi s (y+k) h1 h2]
    exact ih (fun m hm=>h m (by omega))
theorem yk (F:Nat) (hF:5≤F) (s:Bs):∀ (n y:Nat),s.length - y < n→jS F s [38,59] n y=some (nxt s y):=by
  intro n
  induction n with
  | zero=>intro y h; omega
  | succ n ih =>
    intro y hy;show jT F s [38,59] (jS F s [38,59] n) y=_
    unfold jT kM
    by_cases h:y < s.length
    · rw [bT h]
      by_cases hb:(s[y]).toNat < 128
      · rw [decR_low s y h hb]
        have hi:jW F [38,59] ((s[y]).toNat:Int)=some (Go.Lib.indexByte [38,59] s[y]):=by
          unfold jW
          have e:((decide ((0:Int)≤((s[y]).toNat:Int)))&&(decide (((s[y]).toNat:Int) < 128)))=true:=by
            rw [decide_eq_true (by omega:(0:Int)≤((s[y]).toNat:Int)),decide_eq_true (by omega:((s[y]).toNat:Int) < 128)]; rfl
          rw [e,cond_true,bm,qy _ (s[y]).toNat rfl,UInt8.ofNat_toNat]
        simp only [hi,bb]
        by_cases hc:([38,59]:Bs).contains s[y]=true
        · have h0:0≤Go.Lib.indexByte [38,59] s[y]:=by
            have:s[y]=38∨s[y]=59:=by simpa using hc
            rcases this with e | e <;> rw [e] <;> decide
          rw [bT h0]
          unfold nxt
          rw [aB h]
          simp only [Go.Lib.indexAny,hc,if_true]
          simp
        · have hc':([38,59]:Bs).contains s[y]=false:=by simpa using hc
          have h0:¬ 0≤Go.Lib.indexByte [38,59] s[y]:=by
            have hne:¬ s[y]=38∧¬ s[y]=59:=by simpa using hc'
            have:=qg (c:=s[y]) (s:=[38,59]) (fun b hb e=>by
              simp at hb
              rcases hb with rfl | rfl
              · exact hne.1 e.symm
              · exact hne.2 e.symm)
            omega
          rw [bF h0,ih (y+1) (by omega),xw s y h hc']
      · have hh:=BD s y h (by omega)
        have hp:=xG s y
        rw [yi F hF _ (by omega),bb,bF (by omega),ih _ (by omega)]
        rw [nxt_skip s y (nV s y).2 (fun m hm=>by
          cases m with
          | zero=>exact ⟨h,by simpa using hb⟩
          | succ m=>exact BC s y (m+1) (by omega) hm)]
    · rw [bF h]
      unfold nxt
      rw [aM (by omega)]
      rfl
theorem Am (F:Nat) (s:Bs) (hF:20≤F):mX F s [38,59]=some (Go.Lib.indexAny s [38,59]):=by
  unfold mX
  by_cases h:8 < s.length
  · simp [h]
  · have e:((decide (8 < s.length))&&(decide (2≤([38,59]:Bs).length)))=false:=by simp [h]
    rw [e,cond_false]
    unfold nU tA kL
    have e3:decide ((8:Int) < (s.length:Int))=false:=decide_eq_false (by omega)
    simp (disch:=(first | omega | (simp; done) | (simp; omega))) only [bF,bb,e3,Bool.not_false,nM]
    rw [yk F (by omega) s F 0 (by omega)]
    unfold nxt
    rw [List.drop_zero]
    split
    · rename_i e; rw [e]
    · simp
end Go.Pn
namespace Go.Pn
open Go.Pv Go.Av
abbrev amp:Bs:=[38,59]
theorem any_cons (c:UInt8) (r:Bs):Go.Lib.indexAny (c::r) amp=if c=38∨c=59 then 0 else if Go.Lib.indexAny r amp = -1 then -1 else Go.Lib.indexAny r amp+1:=by
  simp [Go.Lib.indexAny]
theorem any_at (r:Bs):∀ (k:Nat) (h:k < r.length),(∀ b∈r.take k,¬ (b=38∨b=59))→(r[k]=38∨r[k]=59)→Go.Lib.indexAny r amp=(k:Int):=by
  induction r with
  | nil=>intro k h; simp at h
  | cons c r ih =>
    intro k h hb hk
    rw [any_cons]
    cases k with
    | zero=>rw [if_pos (by simpa using hk)]; rfl
    | succ k =>
      rw [if_neg (hb c (by simp)),ih k (by simpa using h) (fun b hb'=>hb b (by simp [hb'])) (by simpa using hk),if_neg (by omega)]
      rfl
theorem any_ge (r:Bs):∀ (k:Nat),(∀ b∈r.take k,¬ (b=38∨b=59))→Go.Lib.indexAny r amp = -1∨(k:Int)≤Go.Lib.indexAny r amp:=by
  induction r with
  | nil=>intro k _; exact .inl rfl
  | cons c r ih =>
    intro k hb
    rw [any_cons]
    cases k with
    | zero =>
      have:=(kJ (c::r) amp).1
      rw [any_cons] at this
      omega
    | succ k =>
      rw [if_neg (hb c (by simp))]
      rcases ih k (fun b hb'=>hb b (by simp [hb'])) with h | h
      · rw [if_pos h]; exact .inl rfl
      · split
        · exact .inl rfl
        · right; omega
theorem any_is (r:Bs):∀ (k:Nat) (h:k < r.length),Go.Lib.indexAny r amp=(k:Int)→r[k]=38∨r[k]=59:=by
  induction r with
  | nil=>intro k h; simp at h
  | cons c r ih =>
    intro k h hk
    rw [any_cons] at hk
    by_cases hc:c=38∨c=59
    · rw [if_pos hc] at hk
      have:k=0:=by omega
      subst this; simpa using hc
    · rw [if_neg hc] at hk
      split at hk
      · omega
      · cases k with
        | zero=>have:=(kJ r amp).1; omega
        | succ k=>simpa using ih k (by simpa using h) (by omega)
def cQ (r:Bs):Bs×Bool :=
  if 0≤Go.Lib.indexAny r amp∧Go.Lib.indexAny r amp≤10∧r.getD (Go.Lib.indexAny r amp).toNat 0=59 then (r.take (Go.Lib.indexAny r amp).toNat,decide (0 < Go.Lib.indexAny r amp)) else ([],false)
theorem BF (s r:Bs) (i:Nat) (hr:s.drop (i+1)=r) (hi:i < s.length) (hs:s.length≤100000):∀ (n k:Nat),s.length - (i+1+k) < n→k≤11→k≤r.length→(∀ b∈r.take k,¬ (b=38∨b=59)) →
    jA s (i:Int) n ((i+1+k:Nat):Int)=some (cQ r):=by
  have hlr:r.length=s.length - (i+1):=by rw [← hr]; simp
  intro n
  induction n with
  | zero=>intro k h; omega
  | succ n ih =>
    intro k hn hk hkr hb;show jB s (i:Int) (jA s (i:Int) n) ((i+1+k:Nat):Int)=_
    unfold jB jz
    have hg:∀ (q:Bool) (k:Option (Bs×Bool)),fq q (okI ((i:Int)+11)) k=k:=fun q k=>by
      cases q
      · rw [gp]
      · rw [kC,bD (by omega)]
    rw [hg]
    have hge:=any_ge r k hb
    by_cases h:i+1+k < s.length∧k≤10
    · have e:((decide (((i+1+k:Nat):Int) < (s.length:Int)))&&(decide (((i+1+k:Nat):Int)≤(i:Int)+11)))=true:=by
        rw [decide_eq_true (by omega:((i+1+k:Nat):Int) < (s.length:Int)),decide_eq_true (by omega:((i+1+k:Nat):Int)≤(i:Int)+11)]; rfl
      have hkl:k < r.length:=by omega
      have hsr:s[i+1+k]=r[k]:=by subst hr; simp
      rw [e,cond_true]
      simp (disch:=omega) only [bR,bm,cF h.1,hsr]
      by_cases h38:r[k]=38
      · rw [bT h38]
        have hj:=any_at r k hkl hb (.inl h38)
        have hget:¬ r.getD (k:Int).toNat 0=59:=by simp [hkl,h38]
        unfold cQ
        rw [hj,if_neg (fun hh=>hget hh.2.2)]
      · rw [bF h38]
        by_cases h59:r[k]=59
        · rw [bT h59]
          have hj:=any_at r k hkl hb (.inr h59)
          have hget:r.getD (k:Int).toNat 0=59:=by simp [hkl,h59]
          have hsub:sub s ((i:Int)+1) ((i+1+k:Nat):Int)=r.take k:=by
            rw [show (i:Int)+1=((i+1:Nat):Int) from rfl,qz,← hr,List.drop_take]
            congr 1; omega
          have hdec:decide ((i:Int)+1 < ((i+1+k:Nat):Int))=decide ((0:Int) < (k:Int)):=by
            by_cases hk0:0 < k
            · rw [decide_eq_true (by omega),decide_eq_true (by omega)]
            · rw [decide_eq_false (by omega),decide_eq_false (by omega)]
          unfold cQ
          simp (disch:=omega) only [bD,jX,hsub,hdec]
          rw [hj,if_pos ⟨by omega,by omega,hget⟩]
          simp
        · rw [bF h59,bD (by omega)]
          have:=ih (k+1) (by omega) (by omega) (by omega) (by
            rw [List.take_succ_eq_append_getElem hkl]
            intro b hb'
            rcases List.mem_append.1 hb' with hb' | hb'
            · exact hb b hb'
            · have:b=r[k]:=by simpa using hb'
              rw [this]; rintro (e | e)
              · exact h38 e
              · exact h59 e)
          rw [show ((i+1+k:Nat):Int)+1=((i+1+(k+1):Nat):Int) by omega]
          exact this
    · have e:((decide (((i+1+k:Nat):Int) < (s.length:Int)))&&(decide (((i+1+k:Nat):Int)≤(i:Int)+11)))=false:=by
        by_cases h1:i+1+k < s.length
        · rw [decide_eq_false (by omega:¬ ((i+1+k:Nat):Int)≤(i:Int)+11),Bool.and_false]
        · rw [decide_eq_false (by omega:¬ ((i+1+k:Nat):Int) < (s.length:Int)),Bool.false_and]
      rw [e,cond_false]
      have hlt:=(kJ r amp).2
      unfold cQ
      rw [if_neg (by omega)]
theorem body_eq (F:Nat) (s r:Bs) (i:Nat) (hr:s.drop (i+1)=r) (hi:i < s.length) (hs:s.length≤100000) (hF:s.length < F):lY F s (i:Int)=some (cQ r):=by
  unfold lY
  rw [bD (by omega)]
  have:=BF s r i hr hi hs F 0 (by omega) (by omega) (by omega) (by simp)
  exact this
theorem body_len (r:Bs):(cQ r).1.length≤10:=by
  unfold cQ
  split
  · rename_i h; simp; omega
  · simp
theorem xC (F:Nat) (r:Bs) (hs:r.length≤100000) (hF:150000 < F):∃ x k,iP F (cQ r).1=some (x,k)∧kP F (38::r)=some (if (cQ r).2=true∧k=true then (x,((cQ r).1.length:Int)+2) else ([],0)):=by
  have hbl:=body_len r
  obtain ⟨x,k,hx,_⟩:=xh F (cQ r).1 (by omega) (by omega);refine ⟨x,k,by rw [← Aa F _ hbl (by omega)]; exact hx,?_⟩;obtain ⟨hj1,hj2⟩:=kJ r amp
  have h1:gW (38::r) 1=r:=rfl
  have ha:km [38,59]=true:=by decide
  have hl:((38::r:Bs).length:Int)=(r.length:Int)+1:=by simp
  unfold kP mY
  simp (disch:=(first | omega | (simp; done) | (simp; omega))) only [jd,bm,ha,nM,pn,h1,Am F r (by omega),bb]
  by_cases h:1≤Go.Lib.indexAny r amp∧Go.Lib.indexAny r amp≤10
  · obtain ⟨j,hj⟩:∃ j:Nat,Go.Lib.indexAny r amp=j:=⟨(Go.Lib.indexAny r amp).toNat,by omega⟩
    have hjl:j < r.length:=by omega
    have hc:=any_is r j hjl hj
    have hx':((decide (1≤Go.Lib.indexAny r amp))&&(decide (Go.Lib.indexAny r amp≤10)))=true:=by simp [h]
    have hat:at_ (38::r) ((j:Int)+1)=r[j]:=by
      rw [show (j:Int)+1=((j+1:Nat):Int) from rfl,cF (by simp; omega)]; simp
    have hsub:sub (38::r) 1 ((j:Int)+1)=r.take j:=by
      rw [show (j:Int)+1=((j+1:Nat):Int) from rfl,show (1:Int)=((1:Nat):Int) from rfl,qz]; simp
    rw [hj] at hx' h ⊢
    simp (disch:=(first | omega | (simp; done) | (simp; omega))) only [hx',Bool.not_true,Bool.not_false,kC,bD,bR,Bool.false_or,hat]
    have hget:r.getD (j:Int).toNat 0=r[j]:=by simp [hjl]
    rcases hc with hc | hc
    · have hb:cQ r=([],false):=by
        unfold cQ
        rw [hj,hget,hc,if_neg (by simp)]
      rw [bT hc,hb]; simp
    · have hb:cQ r=(r.take j,true):=by
        unfold cQ
        rw [hj,hget,hc,if_pos ⟨by omega,by omega,rfl⟩,decide_eq_true (by omega)]
        simp
      rw [hb] at hx ⊢
      have hlt:((r.take j).length:Int)=(j:Int):=by simp; omega
      rw [bF (by rw [hc]; decide)]
      simp (disch:=(first | omega | (simp; done) | (simp; omega))) only [jX,bm,hsub,hx,br]
      cases k with
      | false=>simp
      | true =>
        simp (disch:=(first | omega | (simp; done) | (simp; omega))) only [Bool.not_true,cond_false,bD]
        simp [hlt]; omega
  · have hx':((decide (1≤Go.Lib.indexAny r amp))&&(decide (Go.Lib.indexAny r amp≤10)))=false:=by
      cases hq:(decide (1≤Go.Lib.indexAny r amp))&&(decide (Go.Lib.indexAny r amp≤10)) with
      | false=>rfl
      | true=>exact absurd (by simpa using hq) h
    simp only [hx',Bool.not_false,Bool.not_true,gp,Bool.true_or,cond_true]
    have hb:(cQ r).2=false:=by
      unfold cQ
      split
      · rename_i hh; simp; omega
      · rfl
    rw [hb]; simp
end Go.Pn
namespace Go.Pn
open Go.Pv Go.Av
def ent1 (F:Nat) (r:Bs):Option (Bs×Nat) :=
  match iP F (cQ r).1 with
  | some (x,true)=>bif (cQ r).2 then some (x,(cQ r).1.length+2) else none
  | _=>none
def G1 (F:Nat):Nat→Bs→Bool→Bs→Bs×Bool
  | 0,_,ok,acc=>(acc,ok)
  | _+1,[],ok,acc=>(acc,ok)
  | m+1,c::r,ok,acc =>
    if c=38 then
      match ent1 F r with
      | some (x,k)=>G1 F m ((c::r).drop k) ok (acc++x)
      | none=>G1 F m r false (acc++[38])
    else G1 F m r ok (acc++[c])
theorem ent1_two {F:Nat} {r:Bs} {x:Bs} {k:Nat} (h:ent1 F r=some (x,k)):2≤k:=by
  unfold ent1 at h
  split at h
  · cases hb:(cQ r).2 with
    | true=>rw [hb] at h; simp at h; omega
    | false=>rw [hb] at h; simp at h
  · cases h
theorem G1_fuel (F:Nat):∀ (m m':Nat) (s:Bs) (ok:Bool) (acc:Bs),s.length < m→s.length < m'→G1 F m s ok acc=G1 F m' s ok acc:=by
  intro m
  induction m with
  | zero=>intro m' s ok acc h; omega
  | succ m ih =>
    intro m' s ok acc h h';obtain ⟨m'',rfl⟩:∃ m'',m'=m''+1:=⟨m' - 1,by omega⟩
    cases s with
    | nil=>rfl
    | cons c r =>
      simp only [List.length_cons] at h h'
      simp only [G1]
      by_cases hc:c=38
      · rw [if_pos hc,if_pos hc]
        cases he:ent1 F r with
        | none=>exact ih _ _ _ _ (by omega) (by omega)
        | some p =>
          have:=ent1_two (x:=p.1) (k:=p.2) he
          exact ih _ _ _ _ (by simp; omega) (by simp; omega)
      · rw [if_neg hc,if_neg hc]
        exact ih _ _ _ _ (by omega) (by omega)
theorem zO (F:Nat):∀ (p t:Bs) (m:Nat) (ok:Bool) (acc:Bs),(∀ b∈p,b≠38)→p.length+t.length < m→G1 F m (p++t) ok acc=G1 F m t ok (acc++p):=by
  intro p
  induction p with
  | nil=>intro t m ok acc _ _; simp
  | cons c r ih =>
    intro t m ok acc hp hm;obtain ⟨m',rfl⟩:∃ m',m=m'+1:=⟨m - 1,by omega⟩
    simp only [List.length_cons] at hm
    simp only [List.cons_append,G1]
    rw [if_neg (hp c (by simp)),ih t m' ok _ (fun b hb=>hp b (by simp [hb])) (by omega),G1_fuel F m' (m'+1) t ok _ (by omega) (by omega)]
    simp
theorem rT (s:Bs) (i:Nat) (h:Go.Lib.indexByte s 38=(i:Int)):(∀ b∈s.take i,b≠38)∧∃ r,s.drop i=38::r:=by
  induction s generalizing i with
  | nil=>simp [Go.Lib.indexByte] at h
  | cons c r ih =>
    unfold Go.Lib.indexByte at h
    by_cases hc:c=38
    · subst hc
      have:i=0:=by simp at h; omega
      subst this;exact ⟨by simp,r,rfl⟩
    · have hcb:(c==38)=false:=by simpa using hc
      rw [hcb] at h
      by_cases hn:Go.Lib.indexByte r 38 = -1
      · simp [hn] at h
      · have hnb:(Go.Lib.indexByte r 38 == -1)=false:=by simpa using hn
        rw [hnb] at h
        have hr:=oz r 38
        simp at h
        obtain ⟨j,rfl⟩:∃ j,i=j+1:=⟨i - 1,by omega⟩;obtain ⟨h1,t,h2⟩:=ih j (by omega);refine ⟨fun b hb=>?_,t,by simpa using h2⟩
        simp only [List.take_succ_cons,List.mem_cons] at hb
        rcases hb with rfl | hb
        · exact hc
        · exact h1 b hb
theorem ue (s:Bs) (h:Go.Lib.indexByte s 38 < 0):∀ b∈s,b≠38:=by
  induction s with
  | nil=>simp
  | cons c r ih =>
    have hr:=oz r 38
    unfold Go.Lib.indexByte at h
    split at h
    · omega
    · rename_i hc
      have hc':c≠38:=by simpa using hc
      split at h
      · rename_i hn
        have hn':Go.Lib.indexByte r 38 = -1:=by simpa using hn
        intro b hb
        rcases List.mem_cons.1 hb with rfl | hb
        · exact hc'
        · exact ih (by omega) b hb
      · rename_i hn
        have hn':¬ Go.Lib.indexByte r 38 = -1:=by simpa using hn
        omega
theorem rE (F:Nat) (hF:200000 < F):∀ (n:Nat) (s:Bs) (ok:Bool) (acc:Bs) (m:Nat),s.length < n→s.length < m→s.length≤100000→acc.length+4*s.length≤1000000→iJ F n (s,ok,acc)=some (G1 F m s ok acc):=by
  intro n
  induction n with
  | zero=>intro s ok acc m h; omega
  | succ n ih =>
    intro s ok acc m hn hm hs ha;show ls F (iJ F n) s ok acc=_
    unfold ls kc
    obtain ⟨hi1,hi2⟩:=oz s 38
    by_cases h:Go.Lib.indexByte s 38 < 0
    · simp (disch:=(first | omega | (simp; done) | (simp; omega))) only [bm,bT,grd_W]
      have:=zO F s [] m ok acc (ue s h) (by simpa using hm)
      rw [List.append_nil] at this
      rw [this]
      obtain ⟨m',rfl⟩:∃ m',m=m'+1:=⟨m - 1,by omega⟩
      rfl
    · obtain ⟨i,hi⟩:∃ i:Nat,Go.Lib.indexByte s 38=i:=⟨(Go.Lib.indexByte s 38).toNat,by omega⟩
      obtain ⟨hp,r,hr⟩:=rT s i hi
      have il:i < s.length:=by omega
      have l1:(to_ s (i:Int)).length=i:=by simp [rL]; omega
      have e2:gW s (i:Int)=38::r:=by rw [nl,hr]
      have hsp:s=s.take i++38::r:=by rw [← hr,List.take_append_drop]
      have lr:r.length=s.length - i - 1:=by
        have:=congrArg List.length hr
        simp at this; omega
      have e1:to_ s (i:Int)=s.take i:=rL
      obtain ⟨x,k,hx,hf⟩:=xC F r (by omega) (by omega);obtain ⟨o,kk,ho,hk⟩:=uJ F (38::r) (by simp) (by simp; omega) (by simp; omega)
      rw [hf] at ho
      have hG:G1 F m s ok acc=G1 F m (38::r) ok (acc++s.take i):=by
        have:=zO F (s.take i) (38::r) m ok acc hp (by simp; omega)
        rw [← hsp] at this; exact this
      obtain ⟨m',rfl⟩:∃ m',m=m'+1:=⟨m - 1,by omega⟩
      have ltk:(s.take i).length=i:=by simp; omega
      rw [hG]
      simp (disch:=(first | omega | (simp; done) | (simp; omega))) only [bm,hi,bF,jd,grd_W,e2,hf]
      simp only [G1,if_true,ent1,hx]
      by_cases hb:(cQ r).2=true∧k=true
      · rw [if_pos hb] at ho ⊢
        obtain ⟨hb1,rfl⟩:=hb
        have ho':=aq ho
        have hk1:((cQ r).1.length:Int)+2=kk:=(Prod.mk.inj ho').2
        have ho1:x=o:=(Prod.mk.inj ho').1
        subst ho1
        rcases hk with rfl | ⟨k3,kl,ol⟩
        · omega
        · simp only [List.length_cons] at kl
          have ef:gW (38::r) (((cQ r).1.length:Int)+2)=(38::r).drop ((cQ r).1.length+2):=by
            rw [show ((cQ r).1.length:Int)+2=(((cQ r).1.length+2:Nat):Int) from rfl,nl]
          simp only [hb1,cond_true,br,ef]
          simp (disch:=(first | omega | (simp; done) | (simp; omega))) only [bF,grd_W,bm,jd,e1]
          rw [ih _ ok _ m' (by simp; omega) (by simp; omega) (by simp; omega) (by simp; omega)]
      · rw [if_neg hb]
        have e0:gW (38::r) 1=r:=rfl
        have hm1:(match (some (x,k):Option (Bs×Bool)) with | some (x,true)=>bif (cQ r).2 then some (x,(cQ r).1.length+2) else none | _=>none)=none:=by
          cases k with
          | false=>rfl
          | true =>
            have:(cQ r).2=false:=by
              cases hq:(cQ r).2 with
              | false=>rfl
              | true=>exact absurd ⟨hq,rfl⟩ hb
            rw [this]; rfl
        simp only [br]
        simp (disch:=(first | omega | (simp; done) | (simp; omega))) only [decide_true,cond_true,grd_W,bm,jd,e0,e1]
        rw [ih r false _ m' (by omega) (by omega) (by omega) (by simp; omega)]
        have hm2:ent1 F r=none:=by unfold ent1; rw [hx]; exact hm1
        unfold ent1 at hm2; rw [hx] at hm2
        cases k with
        | false=>rfl
        | true => 
          cases hq:(cQ r).2 with
          | false=>rfl
          | true=>exact absurd ⟨hq,rfl⟩ hb
theorem wG (F:Nat) (hF:200000 < F) (s:Bs) (hs:s.length≤100000):∀ (n i m:Nat) (ok:Bool) (acc:Bs),s.length - i < n→s.length - i < m→i≤s.length→acc.length≤4*i→fX F s n (acc,ok,(i:Int))=some (G1 F m (s.drop i) ok acc):=by
  intro n
  induction n with
  | zero=>intro i m ok acc h; omega
  | succ n ih =>
    intro i m ok acc hn hm hi ha;obtain ⟨m',rfl⟩:∃ m',m=m'+1:=⟨m - 1,by omega⟩;show jy F s (fX F s n) acc ok (i:Int)=_
    unfold jy hU jx
    by_cases h:i < s.length
    · have hd:s.drop i=s[i]::s.drop (i+1):=aB h
      have lr:(s.drop (i+1)).length=s.length - (i+1):=by simp
      simp (disch:=(first | omega | (simp; done) | (simp; omega))) only [bT,bR,bm,cF h,cc,bD,bx]
      rw [hd]
      simp only [G1]
      by_cases hc:s[i]=38
      · rw [bT hc,if_pos hc,body_eq F s _ i rfl h hs (by omega),bnd2_some' (cQ (s.drop (i+1)))]
        obtain ⟨x,k,hx,hf⟩:=xC F (s.drop (i+1)) (by omega) (by omega);obtain ⟨o,kk,ho,hk⟩:=uJ F (38::s.drop (i+1)) (by simp) (by simp; omega) (by simp; omega)
        rw [hf] at ho
        rw [hx,br]
        simp only [ent1,hx]
        by_cases hb:(cQ (s.drop (i+1))).2=true∧k=true
        · rw [if_pos hb] at ho
          obtain ⟨hb1,rfl⟩:=hb
          have ho':=aq ho
          have hk1:((cQ (s.drop (i+1))).1.length:Int)+2=kk:=(Prod.mk.inj ho').2
          have ho1:x=o:=(Prod.mk.inj ho').1
          subst ho1
          rcases hk with rfl | ⟨k3,kl,ol⟩
          · omega
          · simp only [List.length_cons] at kl
            simp only [hb1,Bool.and_self,cond_true]
            rw [cc (by omega),bD (by omega),bD (by omega)]
            have e1:(i:Int)+((cQ (s.drop (i+1))).1.length:Int)+2=((i+((cQ (s.drop (i+1))).1.length+2):Nat):Int):=by omega
            rw [e1,ih _ m' ok _ (by omega) (by omega) (by omega) (by simp; omega)]
            rw [← hd,List.drop_drop]
        · have hbf:((cQ (s.drop (i+1))).2&&k)=false:=by
            cases hq:(cQ (s.drop (i+1))).2 <;> cases k <;> first | rfl | exact absurd ⟨hq,rfl⟩ hb
          rw [hbf,cond_false,ih (i+1) m' false _ (by omega) (by omega) (by omega) (by simp; omega),hc]
          cases k with
          | false=>rfl
          | true =>
            cases hq:(cQ (s.drop (i+1))).2 with
            | false=>rfl
            | true=>exact absurd ⟨hq,rfl⟩ hb
      · rw [bF hc,if_neg hc]
        exact ih (i+1) m' ok _ (by omega) (by omega) (by omega) (by simp; omega)
    · rw [bF (by omega),aM (by omega)]
      rfl
where
  bnd2_some' {ρ:Type} (p:Bs×Bool) {f:Bs→Bool→Option ρ}:iE (some p) f=f p.1 p.2:=rfl
theorem gone_same (F:Nat) (hF:200000 < F) (s:Bs) (hs:s.length≤100000):lX F s=np F s:=by
  have h1:=rE F hF F s true [] (s.length+1) (by omega) (by omega) hs (by simp; omega)
  have h2:=wG F hF s hs F 0 (s.length+1) true [] (by omega) (by omega) (by omega) (by simp)
  unfold lX np
  rw [h1]
  exact h2
end Go.Pn
namespace Go.Pn
open Go.Pv Go.Av
theorem goneG (F:Nat) (hF:200000 < F) (s:Bs) (hs:s.length≤100000):np F s=some (G1 F (s.length+1) s true []):=rE F hF F s true [] (s.length+1) (by omega) (by omega) hs (by simp; omega)
theorem decG (F:Nat) (hF:200000 < F) (s:Bs) (hs:s.length≤100000):ma F s=some (bif (G1 F (s.length+1) s true []).2 then ((G1 F (s.length+1) s true []).1,0) else ([],2)):=by
  unfold ma; rw [goneG F hF s hs]
  obtain ⟨o,k⟩:=G1 F (s.length+1) s true []
  rw [br]
  cases k <;> rfl
end Go.Pn
namespace Go.Xm
open Go.Pv Go.Av
theorem dr {α:Type} {a b:α}:(bif true then a else b)=a:=Eq.symm (Eq.symm rfl)
theorem cJ {α:Type} {a b:α}:(bif false then a else b)=b:=Eq.symm (Eq.symm rfl)
theorem bnT {α:Type} {a b:α}:(bif !true then a else b)=b:=Eq.symm (Eq.symm rfl)
theorem bnF {α:Type} {a b:α}:(bif !false then a else b)=a:=Eq.symm (Eq.symm rfl)
theorem oL:(!true)=false:=Eq.symm (Eq.symm rfl)
theorem ns:(!false)=true:=Eq.symm (Eq.symm rfl)
theorem ands {a b:Bool} (h:(a&&b)=true):a=true∧b=true:=by cases a <;> cases b <;> first | exact ⟨rfl,rfl⟩ | cases h
theorem gcS {α:Type} {k:Option α} {c:Bool} {n:Nat} (h:n < 4294967281):fq c (okS n) k=k:=by
  cases c
  · exact gp
  · rw [kC,pn h]
theorem gcA {α:Type} {k:Option α} {c:Bool}:fq c (km xmla_k1) k=k:=by
  have:km xmla_k1=true:=by decide +kernel
  rw [this]; cases c <;> rfl
theorem all8 (p:UInt8→Bool) (h:∀ k:Fin 256,p (UInt8.ofNat k.val)=true) (b:UInt8):p b=true:=by
  have:=h ⟨b.toNat,b.toNat_lt⟩
  simpa using this
theorem xz (x:UInt8) (r u:Bs):Go.Lib.index (x::r) u=if u.isPrefixOf (x::r)=true then 0 else if Go.Lib.index r u = -1 then -1 else Go.Lib.index r u+1:=by
  by_cases h:u.isPrefixOf (x::r)=true
  · simp [Go.Lib.index,h]
  · simp [Go.Lib.index,h]
def cutO:Option (Bs×Bs)→Bs→Bs×Bs×Bool
  | none,s=>(s,[],false)
  | some (a,b),_=>(a,b,true)
theorem cut_eq {p:Bs} (hp:p≠[]):∀ s:Bs,Go.Lib.cut s p=cutO (kh p s) s
  | []=>by
    have:p.isEmpty=false:=by cases p with | nil=>exact absurd rfl hp | cons a b=>rfl
    unfold Go.Lib.cut kh
    rw [if_neg hp]
    simp [Go.Lib.index,this,cutO]
  | c::r=>by
    have ih:=cut_eq hp r
    have hg:=Go.Lib.index_ge r p
    unfold Go.Lib.cut at ih ⊢
    unfold kh
    rw [xz]
    by_cases h:p.isPrefixOf (c::r)=true
    · rw [if_pos h,if_pos h,if_pos (Int.le_refl 0)]
      simp [cutO]
    · rw [if_neg h,if_neg h]
      by_cases h1:Go.Lib.index r p = -1
      · rw [if_neg (by omega)] at ih
        rw [if_pos h1,if_neg (by omega)]
        cases e:kh p r with
        | none=>rfl
        | some x=>rw [e] at ih; obtain ⟨a,b⟩:=x; have:=congrArg (fun x=>x.2.2) ih; simp [cutO] at this
      · rw [if_pos (by omega)] at ih
        rw [if_neg h1,if_pos (by omega)]
        obtain ⟨n,hn⟩:∃ n:Nat,Go.Lib.index r p=(n:Int):=⟨(Go.Lib.index r p).toNat,by omega⟩
        rw [hn] at ih ⊢
        cases e:kh p r with
        | none=>rw [e] at ih; have:=congrArg (fun x=>x.2.2) ih; simp [cutO] at this
        | some x =>
          obtain ⟨a,b⟩:=x
          rw [e] at ih
          simp only [cutO,Prod.mk.injEq,Int.toNat_natCast,and_true] at ih ⊢
          have e1:((n:Int)+1).toNat=n+1:=by omega
          rw [e1]
          refine ⟨by rw [List.take_succ_cons,ih.1],?_⟩
          rw [show n+1+p.length=(n+p.length)+1 by omega,List.drop_succ_cons,ih.2]
theorem zx (s p:Bs):Go.Lib.hasPrefix s p=p.isPrefixOf s:=rfl
theorem mW {F:Nat} {s p:Bs} {o:List Bs} {k:Int} {l:List Tok} (h:p.isPrefixOf s=false):ga F s o k l p=some (false,s):=by
  unfold ga Go.Lib.trimPrefix
  rw [bm,zx,h]; rfl
theorem mf {F:Nat} {s p:Bs} {o:List Bs} {k:Int} {l:List Tok} (h:p.isPrefixOf s=true):ga F s o k l p=some (true,s.drop p.length):=by
  unfold ga Go.Lib.trimPrefix
  rw [bm,zx,h]; rfl
theorem si {F:Nat}:di F true=some (.ok ()):=Eq.symm (Eq.symm rfl)
theorem qL {F:Nat}:di F false=some (.pan 2):=Eq.symm (Eq.symm rfl)
def cutR:Option (Bs×Bs)→Res (Bs×Bs)
  | none=>.pan 2
  | some x=>.ok x
theorem vP {F:Nat} {s p:Bs} {o:List Bs} {k:Int} {l:List Tok} (hp:p≠[]) (hs:s.length≤1000000):jU F s o k l p=some (cutR (kh p s)):=by
  unfold jU
  rw [pn (by omega),bm,cut_eq hp]
  cases kh p s with
  | none=>simp only [cutO]; rw [qL,de]; rfl
  | some x=>obtain ⟨a,b⟩:=x; simp only [cutO]; rw [si,cL]; rfl
theorem blk_c (c:UInt8):([9,10,13,32]:Bs).contains c=eg c:=by
  have:=all8 (fun c=>([9,10,13,32]:Bs).contains c==eg c) (by decide +kernel) c
  simpa using this
theorem uw {F:Nat} {s:Bs} {o:List Bs} {k:Int} {l:List Tok}:lO F s o k l=some (decide (((s.dropWhile eg).length:Int) < (s.length:Int)),s.dropWhile eg):=by
  have h:km ([9,10,13,32]:List UInt8)=true:=by decide +kernel
  have e:(fun x=>([9,10,13,32]:Bs).contains x)=eg:=funext blk_c
  unfold lO Go.Lib.trimLeftS
  rw [pn (by simp),h,nM,bm,e]
theorem sgn_i (c:UInt8):decide (0≤Go.Lib.indexByte xmla_k1 c)=ig c:=by
  have:=all8 (fun c=>decide (0≤Go.Lib.indexByte xmla_k1 c)==ig c) (by decide +kernel) c
  simpa using this
theorem sgn_n (c:UInt8):decide (Go.Lib.indexByte xmla_k1 c < 0) = !ig c:=by
  rw [← sgn_i]
  by_cases h:0≤Go.Lib.indexByte xmla_k1 c
  · rw [decide_eq_true h,decide_eq_false (by omega)]; rfl
  · rw [decide_eq_false h,decide_eq_true (by omega)]; rfl
theorem sgn_c (c:UInt8):xmla_k1.contains c=ig c:=by
  have:=all8 (fun c=>xmla_k1.contains c==ig c) (by decide +kernel) c
  simpa using this
theorem let_c (c:UInt8):Go.Lib.contains xmla_k2 [c]=sm c:=by
  have:=all8 (fun c=>Go.Lib.contains xmla_k2 [c]==sm c) (by decide +kernel) c
  simpa using this
theorem tw_at {f:UInt8→Bool}:∀ {s:Bs} {i:Nat},i≤s.length→(s.take i).all f=true→(∀ h:i < s.length,f s[i]=false)→s.takeWhile f=s.take i∧s.dropWhile f=s.drop i
  | [],i,h,_,_=>by simp
  | c::s,0,h,_,g=>by
    have:=g (by simp)
    rw [List.getElem_cons_zero] at this
    rw [List.takeWhile_cons,List.dropWhile_cons,this]; simp
  | c::s,i+1,h,ha,g=>by
    rw [List.take_succ_cons,List.all_cons] at ha
    obtain ⟨h1,h2⟩:=ands ha
    have:=tw_at (s:=s) (i:=i) (by simpa using h) h2 fun q=>by
      have:=g (by simpa using q)
      rw [List.getElem_cons_succ] at this; exact this
    rw [List.takeWhile_cons,List.dropWhile_cons,h1]
    simp [this.1,this.2]
theorem sZ (s:Bs) (hs:s.length≤1000000):∀ (n i:Nat),s.length - i < n→i≤s.length→la s n (i:Int)=some ((s.drop i).all ig)
  | 0,i,h,_=>by omega
  | n+1,i,h,hi=>by
    show lb s (la s n) (i:Int)=_
    unfold lb
    by_cases g:i < s.length
    · rw [bT (by omega),bR (by omega),bm,cF g,bm,sgn_n,aB g,List.all_cons]
      cases ig s[i] with
      | false=>rw [ns,dr,Bool.false_and]
      | true =>
        rw [oL,cJ,bD (by omega),bx,sZ s hs n (i+1) (by omega) (by omega),Bool.true_and]
    · rw [bF (by omega),aM (by omega)]; rfl
theorem inner_eq (F:Nat) (s:Bs) (hs:s.length≤1000000) (hF:s.length < F):ql F s=some (s.all ig):=sZ s hs F 0 (by omega) (by omega)
theorem wo (f:UInt8→Bool):∀ l:Bs,l.dropWhile f=[]↔∀ x∈l,f x=true
  | []=>by simp
  | c::l=>by
    have ih:=wo f l
    cases h:f c with
    | true=>simp [List.dropWhile_cons,h,ih]
    | false=>simp [List.dropWhile_cons,h]
theorem trim_sgn (t:Bs):decide (Go.Lib.trimS t xmla_k1=[])=t.all ig:=by
  unfold Go.Lib.trimS Go.Lib.trimLeftS Go.Lib.trimRightS
  have e:(fun x=>xmla_k1.contains x)=ig:=funext sgn_c
  rw [e]
  cases h:t.all ig with
  | true =>
    rw [List.all_eq_true] at h
    refine decide_eq_true ?_
    have:t.reverse.dropWhile ig=[]:=by
      rw [wo]; intro x hx; exact h x (List.mem_reverse.1 hx)
    rw [this]; rfl
  | false =>
    rw [List.all_eq_false] at h
    obtain ⟨x,hx,hn⟩:=h
    refine decide_eq_false fun q=>?_
    rw [wo] at q
    have hne:t.reverse.dropWhile ig≠[]:=by
      intro e
      rw [wo] at e
      exact hn (e x (List.mem_reverse.2 hx))
    have:=List.head_dropWhile_not ig (l:=t.reverse) hne
    have hm:=q _ (List.mem_reverse.2 (List.head_mem hne))
    rw [hm] at this
    simp at this
theorem to1 (c:UInt8) (r:Bs):to_ (c::r) 1=[c]:=rfl
theorem pL (c:UInt8) (r:Bs):oc (c::r)=(sm c&&((c::r).all ig&&decide ((c::r).length≤60))):=Eq.symm (Eq.symm rfl)
theorem zK (F:Nat) (s:Bs) (hs:s.length≤1000000) (hF:100 < F):nS F s=some (oc s):=by
  unfold nS
  have l1:xmla_k1.length < 4294967281:=by decide +kernel
  have l2:xmla_k2.length < 4294967281:=by decide +kernel
  simp only [bm,gcS l1,gcS l2,gcS (n:=s.length) (by omega),gcA]
  cases s with
  | nil=>simp [fq,lL,oc]
  | cons c r =>
    rw [decide_eq_false (p:=c::r=([]:List UInt8)) (by simp),ns,Bool.true_and,to1,let_c,trim_sgn]
    rw [pL]
    have hp:0 < (c::r).length:=by simp
    by_cases h:(c::r).length≤60
    · rw [decide_eq_true h,decide_eq_true (p:=(((c::r).length:Nat):Int)≤60) (by omega),kC,jd (by omega),Bool.true_and]
      cases hc:sm c with
      | false=>rw [Bool.false_and,mg,Bool.false_and,Bool.false_and]
      | true =>
        cases ha:(c::r).all ig with
        | false=>rw [Bool.and_false,mg,Bool.false_and,Bool.false_and,Bool.and_false]
        | true=>rw [inner_eq F (c::r) hs (by omega),ha,jc]; rfl
    · rw [decide_eq_false h,decide_eq_false (p:=(((c::r).length:Nat):Int)≤60) (by omega),gp,Bool.false_and,Bool.false_and,mg,Bool.false_and,Bool.and_false,Bool.and_false]
def pm:Option (Bs×Bs)→Res (Bs×Bs)
  | none=>.pan 2
  | some x=>.ok x
theorem uD (F:Nat) (hF:100 < F) (s:Bs) (hs:s.length≤1000000):∀ (n i:Nat),s.length - i < n→i≤s.length→(s.take i).all ig=true→lV F s n (i:Int)=some (pm (gz s))
  | 0,i,h,_,_=>by omega
  | n+1,i,h,hi,ha=>by
    have fin:(∀ h:i < s.length,ig s[i]=false)→kF F s (i:Int)=some (pm (gz s)):=fun q=>by
      obtain ⟨e1,e2⟩:=tw_at hi ha q
      unfold kF gz
      rw [jd (by omega),bm,rL,nl,zK F _ (by rw [List.length_take]; omega) hF,bb,e1,e2]
      cases oc (s.take i) with
      | false=>rw [qL,de]; rfl
      | true=>rw [si,cL,jd (by omega),bm]; rfl
    show lW F s (lV F s n) (i:Int)=_
    unfold lW
    by_cases g:i < s.length
    · rw [decide_eq_true (p:=(i:Int) < (s.length:Int)) (by omega),kC,bR (by omega),bm,cF g,bm,sgn_i,Bool.true_and]
      cases hc:ig s[i] with
      | false=>rw [cJ]; exact fin fun _=>hc
      | true =>
        rw [dr,bD (by omega),bx]
        refine uD F hF s hs n (i+1) (by omega) (by omega) ?_
        rw [List.take_succ_eq_append_getElem g,List.all_append,ha,List.all_cons,hc]; rfl
    · rw [decide_eq_false (p:=(i:Int) < (s.length:Int)) (by omega),gp,bm,bm,Bool.false_and,cJ]
      exact fin fun q=>absurd q g
theorem wa {F:Nat} {s:Bs} {o:List Bs} {k:Int} {l:List Tok} (hF:100 < F) (hs:s.length≤1000000) (hl:s.length < F):mM F s o k l=some (pm (gz s)) :=
  uD F hF s hs F 0 (by omega) (by omega) (by simp)
end Go.Xm
namespace Go.Xm
open Go.Pv Go.Av
def dec (F:Nat) (s:Bs):Option Bs:=bif (Go.Pn.G1 F (s.length+1) s true []).2 then some (Go.Pn.G1 F (s.length+1) s true []).1 else none
def oR {α:Type}:Option α→Res α
  | none=>.pan 2
  | some x=>.ok x
section
variable {F:Nat} (hF:1500000 < F)
include hF
theorem vj {s:Bs} (hs:s.length≤100000):ke F s=some (oR (dec F s)):=by
  unfold ke dec
  rw [Go.Pn.decG F (by omega) s hs]
  cases (Go.Pn.G1 F (s.length+1) s true []).2 with
  | true=>rw [dr,dr,br,decide_eq_true rfl,si,cL]; rfl
  | false=>rw [cJ,cJ,br,decide_eq_false (by decide),qL,de]; rfl
omit hF in
theorem yZ {s t:Bs} {o:List Bs} {k:Int} {l:List Tok} (hl:l.length≤1000000):pf F s o k l t=some (nK t l):=by
  unfold pf nK
  by_cases h:t=[]
  · rw [decide_eq_true h,bnT,if_pos h]
  · rw [decide_eq_false h,bnF,if_neg h,cc (by simp; omega),bm]
omit hF in
theorem zH {o:List Bs} (h:o≠[]):at_ o ((o.length:Int) - 1)=o.getLast h:=by
  have hp:=List.length_pos_iff.2 h
  rw [show (o.length:Int) - 1=((o.length - 1:Nat):Int) by omega,cF (by omega),List.getLast_eq_getElem]
def xJ:Rx→Res (List Tok×List Bs)
  | .ok x=>.ok (x.2.2.2,x.2.1)
  | .no e=>.pan e
omit hF in
theorem zh {s n:Bs} {o:List Bs} {k:Nat} {l:List Tok} (ho:o.length≤100) (hl:l.length≤1000000):mL F s o (k:Int) l n=some (xJ (nL n s o k l)):=by
  unfold mL nL
  rw [bD (by omega)]
  by_cases h:o=[]
  · subst h
    rw [decide_eq_false (p:=0≤((([]:List Bs).length:Nat):Int) - 1) (by simp),gp,gp,bm,Bool.false_and,qL,de,if_neg (by simp)]; rfl
  · have hp:=List.length_pos_iff.2 h
    rw [decide_eq_true (p:=0≤(o.length:Int) - 1) (by omega),kC,kC,bR (by omega),bR (by omega),bm,zH h,Bool.true_and,List.getLast?_eq_some_getLast h]
    by_cases g:o.getLast h=n
    · rw [decide_eq_true g,si,cL,jd (by omega),bm,cc (by simp; omega),bm,if_pos (by rw [g])]
      rw [show (o.length:Int) - 1=((o.length - 1:Nat):Int) by omega,rL,← List.dropLast_eq_take]; rfl
    · rw [decide_eq_false g,qL,de,if_neg (by simpa using g)]; rfl
omit hF in
theorem ib_eq:∀ s:Bs,(Go.Lib.indexByte s 60 = -1∧(s.takeWhile fun c=>decide (c≠60))=s∧(s.dropWhile fun c=>decide (c≠60))=[]) ∨
    ∃ i:Nat,Go.Lib.indexByte s 60=(i:Int)∧i < s.length∧(s.takeWhile fun c=>decide (c≠60))=s.take i∧(s.dropWhile fun c=>decide (c≠60))=s.drop i
  | []=>.inl ⟨rfl,rfl,rfl⟩
  | c::r=>by
    by_cases h:c=60
    · right; subst h; exact ⟨0,by simp [Go.Lib.indexByte],by simp,by simp,by simp⟩
    · have hb:(c==60)=false:=by simpa using h
      rcases ib_eq r with ⟨h1,h2,h3⟩ | ⟨i,h1,h2,h3,h4⟩
      · left
        refine ⟨by simp [Go.Lib.indexByte,hb,h1],?_,?_⟩
        · rw [List.takeWhile_cons,if_pos (by simpa using h),h2]
        · rw [List.dropWhile_cons,if_pos (by simpa using h),h3]
      · right
        refine ⟨i+1,?_,by simpa using h2,?_,?_⟩
        · have:¬ ((i:Int) = -1):=by omega
          simp [Go.Lib.indexByte,hb,h1,this]
        · rw [List.takeWhile_cons,if_pos (by simpa using h),h3]; rfl
        · rw [List.dropWhile_cons,if_pos (by simpa using h),h4]; rfl
omit hF in
theorem bl_blk (c:UInt8):Go.Pn.bl c=eg c:=Eq.symm (Eq.symm rfl)
omit hF in
theorem xd:∀ s:Bs,decide (Go.Pn.trim s=[])=s.all eg
  | []=>rfl
  | c::r=>by
    rw [Go.Pn.trim,List.all_cons,bl_blk]
    cases eg c with
    | true=>rw [dr,Bool.true_and,xd r]
    | false=>rw [cJ,Bool.false_and]; simp
def yN:Rx→Res (Bool×Bs×List Tok)
  | .ok x=>.ok (true,x.1,x.2.2.2)
  | .no e=>.pan e
theorem zl {s:Bs} {o:List Bs} {k:Nat} {l:List Tok} (i:Nat) (hs:s.length≤100000) (hl:l.length≤1000000) (hi:i≤s.length) (h0:i≠0)
    (e1:(s.takeWhile fun c=>decide (c≠60))=s.take i) (e2:(s.dropWhile fun c=>decide (c≠60))=s.drop i):gA F s o (k:Int) l (i:Int)=some (yN (lv (dec F) s o k l)):=by
  have h1:(s.take i).length≤100000:=by rw [List.length_take]; omega
  unfold gA lv
  rw [bF (by omega),jd (by omega),bm,jd (by omega),bm,rL,nl,vj hF h1,e1,e2]
  cases dec F (s.take i) with
  | none=>simp only [oR]; rw [de]; rfl
  | some t =>
    simp only [oR]
    rw [cL]
    by_cases ho:o=[]
    · subst ho
      rw [bT (by simp),Go.Pn.ent_Trim_eq F _ (by omega) (by omega),bb,xd,if_pos rfl]
      cases (s.take i).all eg with
      | true=>rw [si,cL]; rfl
      | false=>rw [qL,de]; rfl
    · have:=List.length_pos_iff.2 ho
      rw [bF (by omega),yZ hl,bb,if_neg ho]; rfl
theorem plain_eq {s:Bs} {o:List Bs} {k:Nat} {l:List Tok} (hs:s.length≤100000) (hl:l.length≤1000000) (h0:s≠[]) (h:([60]:Bs).isPrefixOf s=false) :
    kz F s o (k:Int) l=some (yN (lv (dec F) s o k l)):=by
  have hp:=List.length_pos_iff.2 h0
  unfold kz
  rw [bm]
  rcases ib_eq s with ⟨h1,h2,h3⟩ | ⟨i,h1,h2,h3,h4⟩
  · rw [h1,bT (by omega)]
    exact zl hF s.length hs hl (Nat.le_refl _) (by omega) (by rw [List.take_length]; exact h2) (by rw [List.drop_length]; exact h3)
  · rw [h1,bF (by omega)]
    refine zl hF i hs hl (by omega) (fun e=>?_) h3 h4;subst e
    cases s with
    | nil=>exact h0 rfl
    | cons c r =>
      by_cases g:c=60
      · subst g; simp at h
      · have hb:(c==60)=false:=by simpa using g
        have hg:=Go.Lib.indexByte_ge r 60
        rw [Go.Lib.indexByte,hb] at h1
        simp only [Bool.false_eq_true,if_false] at h1
        by_cases q:Go.Lib.indexByte r 60 = -1
        · rw [q] at h1; simp at h1
        · simp only [beq_iff_eq,q,if_false] at h1; omega
omit hF in
theorem plain_no {s:Bs} {o:List Bs} {k:Int} {l:List Tok} (h:([60]:Bs).isPrefixOf s=true):kz F s o k l=some (.ok (false,s,l)):=by
  cases s with
  | nil=>cases h
  | cons c r =>
    have hc:c=60:=by
      by_cases g:c=60
      · exact g
      · have:(60==c)=false:=by simpa using fun q=>g q.symm
        simp [List.isPrefixOf,this] at h
    subst hc
    have:Go.Lib.indexByte (60::r) 60=0:=by simp [Go.Lib.indexByte]
    unfold kz
    rw [bm,this,bF (by omega)]
    unfold gA
    rw [bT rfl]
end
end Go.Xm
namespace Go.Xm
open Go.Pv Go.Av
theorem ib_ge (s:Bs) : -1≤Go.Lib.index s [60]:=Go.Lib.index_ge s [60]
theorem zC:∀ s:Bs,Go.Lib.contains s [60]=decide (60∈s)
  | []=>by simp [Go.Lib.contains,Go.Lib.index]
  | c::r=>by
    have ih:=zC r
    have hg:=ib_ge r
    unfold Go.Lib.contains at ih ⊢
    rw [xz]
    by_cases h:c=60
    · subst h; simp
    · have hb:(60==c)=false:=by simpa using fun q=>h q.symm
      have hm:(60∈c::r)↔60∈r:=by rw [List.mem_cons]; exact ⟨fun q=>q.elim (fun e=>absurd e.symm h) id,.inr⟩
      rw [if_neg (by simp [List.isPrefixOf,hb]),decide_eq_decide.2 hm,← ih]
      by_cases g:Go.Lib.index r [60] = -1
      · rw [if_pos g,g]
      · rw [if_neg g]; exact decide_eq_decide.2 (by omega)
def attrR:Option (At×Bs)→Res (Bs×Bs×Bs)
  | none=>.pan 2
  | some (a,r)=>.ok (a.1,a.2,r)
theorem uF (F:Nat) (as_:List At) (n v:Bs) (hl:as_.length≤1000000):∀ (m i:Nat),as_.length - i < m→i≤as_.length→∃ j:Int,ft F as_ n v m (i:Int)=some j∧decide (0≤j)=(as_.drop i).any fun x=>decide (x.1=n)
  | 0,i,h,_=>by omega
  | m+1,i,h,hi=>by
    show ∃ j:Int,gI F as_ n v (ft F as_ n v m) (i:Int)=some j∧_
    unfold gI
    by_cases g:i < as_.length
    · rw [bT (by omega),bR (by omega),bm,cF g,aB g,List.any_cons]
      unfold qm
      rw [bb]
      by_cases e:n=as_[i].1
      · rw [decide_eq_true e,dr,decide_eq_true e.symm,Bool.true_or]
        exact ⟨_,rfl,decide_eq_true (by omega)⟩
      · rw [decide_eq_false e,cJ,bD (by omega),bx,decide_eq_false (fun q=>e q.symm),Bool.false_or]
        exact uF F as_ n v hl m (i+1) (by omega) (by omega)
    · rw [bF (by omega),aM (by omega)]
      exact ⟨-1,rfl,rfl⟩
theorem cont_eq (F:Nat) (as_:List At) (n v:Bs) (hl:as_.length≤1000000) (hF:as_.length < F):gK F as_ n v=some (as_.any fun x=>decide (x.1=n)):=by
  obtain ⟨j,h1,h2⟩:=uF F as_ n v hl F 0 (by omega) (by omega)
  unfold gK lE
  show bnd (ft F as_ n v F ((0:Nat):Int)) _=_
  rw [h1,bb,h2,List.drop_zero]
section
variable {F:Nat} (hF:1500000 < F)
include hF
theorem attr_j {s:Bs} {o:List Bs} {k:Int} {l:List Tok} {x:Bs×Bs} (q:UInt8) (hs:s.length≤100000):jN F o k l x [q] s=some (attrR (qN (dec F) x.1 q s)):=by
  unfold jN qN
  rw [vP (by simp) (by omega)]
  cases e:kh [q] s with
  | none=>simp only [cutR]; rw [de]; rfl
  | some y =>
    obtain ⟨raw,r⟩:=y
    have hl:=congrArg List.length (me (by simp) e)
    simp only [List.length_append] at hl
    simp only [cutR]
    rw [cL,pn (by simp; omega),bm]
    simp only []
    rw [zC]
    by_cases g:60∈raw
    · rw [decide_eq_true g,oL,qL,de,if_pos g]; rfl
    · rw [decide_eq_false g,ns,si,cL,if_neg g,vj hF (by omega)]
      cases dec F raw with
      | none=>simp only [oR]; rw [de]; rfl
      | some t=>simp only [oR]; rw [cL]; rfl
theorem attr_eq {s:Bs} {o:List Bs} {k:Int} {l:List Tok} (hs:s.length≤100000):nQ F s o k l=some (attrR (nN (dec F) s)):=by
  unfold nQ nN
  rw [wa (by omega) (by omega) (by omega)]
  cases e:gz s with
  | none=>simp only [pm]; rw [de]; rfl
  | some y =>
    obtain ⟨n,r⟩:=y
    have hl:=congrArg List.length (pk e).1
    rw [List.length_append] at hl
    simp only [pm]
    rw [cL]
    simp only []
    by_cases h1:([61,34]:Bs).isPrefixOf r=true
    · rw [mf h1,br,bnT,if_pos h1]
      exact attr_j hF 34 (by simp; omega)
    · rw [mW (eq_false_of_ne_true h1),br,bnF,if_neg h1]
      by_cases h2:([61,39]:Bs).isPrefixOf r=true
      · rw [mf h2,br,si,cL,if_pos h2]
        exact attr_j hF 39 (by simp; omega)
      · rw [mW (eq_false_of_ne_true h2),br,qL,de,if_neg h2]; rfl
abbrev ER:=Bool×Bs×Int×List Tok×List Bs
def xL:Rx→Res ER
  | .ok x=>.ok (true,x.1,(x.2.2.1:Int),x.2.2.2,x.2.1)
  | .no e=>.pan e
omit hF in
theorem zn {s n v:Bs} {as_:List At} {em:Bool} {o:List Bs} {k:Nat} {l:List Tok} (ho:o.length≤20) (hl:l.length≤999000) :
    fR F o l (n,v) em s as_ (k:Int)=some (xL (if 20≤o.length then .no 5 else if em=true then .ok (s,o,k,(l++[(0,n,[],as_)])++[(1,n,[],[])]) else .ok (s,o++[n],k,l++[(0,n,[],as_)]))):=by
  have hn:(o++[n]).length=o.length+1:=by simp
  unfold fR jh
  dsimp only
  rw [cc (by simp; omega),bm]
  by_cases h:20≤o.length
  · rw [bT (by omega),if_pos h]; rfl
  · rw [bF (by omega),if_neg h]
    unfold ji jj
    dsimp only
    rw [cc (by simp; omega),bm]
    cases em with
    | false=>rw [cJ,if_neg (by decide)]; rfl
    | true =>
      rw [dr,if_pos rfl,zh (by omega) (by simp; omega)]
      unfold nL
      rw [if_pos (by simp)]
      simp only [xJ]
      rw [cL]
      simp [gX,xL]
omit hF in
theorem zo {s n v:Bs} {as_:List At} {em:Bool} {o:List Bs} {k:Nat} {l:List Tok} (ho:o.length≤20) (hl:l.length≤999000) (hk:k≤1) :
    fQ F o (k:Int) l (n,v) em s as_=some (xL (nZ n as_ em s o k l)):=by
  unfold fQ nZ
  by_cases h:o=[]
  · subst h
    rw [bT (by simp),bD (by omega)]
    by_cases g:k=0
    · subst g
      rw [decide_eq_true (p:=((0:Nat):Int)+1=1) (by omega),si,cL,if_neg (by simp),if_pos rfl]
      exact zn (k:=1) (by simp) hl
    · rw [decide_eq_false (p:=(k:Int)+1=1) (by omega),qL,de,if_pos ⟨rfl,g⟩]; rfl
  · have:=List.length_pos_iff.2 h
    rw [bF (by omega),if_neg (fun q=>h q.1),if_neg h]
    exact zn ho hl
def elemP' (F:Nat) (n:Bs) (o:List Bs) (k:Nat) (l:List Tok):Option (List At×Bool×Bs)→Rx
  | none=>.no 2
  | some (as_,em,r)=>nZ n as_ em r o k l
theorem vi {n v:Bs} {o:List Bs} {k:Nat} {l:List Tok} (ho:o.length≤20) (hl:l.length≤999000) (hk:k≤1):∀ (m:Nat) (as_:List At) (s:Bs),s.length < m→as_.length+s.length≤100000 →
    jk F o (k:Int) l (n,v) m (as_,s)=some (xL (elemP' F n o k l (jG (dec F) (s.length+1) as_ s)))
  | 0,as_,s,h,_=>by omega
  | m+1,as_,s,h,hs=>by
    show jl F o (k:Int) l (n,v) (jk F o (k:Int) l (n,v) m) as_ s=_
    have hd:=vO eg s
    unfold jl jG
    rw [uw,br]
    by_cases h1:([62]:Bs).isPrefixOf (s.dropWhile eg)=true
    · rw [mf h1,br,dr,if_pos h1]
      exact zo ho hl hk
    · rw [mW (eq_false_of_ne_true h1),br,cJ,if_neg h1]
      by_cases h2:([47,62]:Bs).isPrefixOf (s.dropWhile eg)=true
      · rw [mf h2,br,dr,if_pos h2]
        exact zo ho hl hk
      · rw [mW (eq_false_of_ne_true h2),br,cJ,if_neg h2]
        by_cases h3:(s.dropWhile eg).length=s.length
        · rw [if_pos h3,decide_eq_false (by omega),qL,de]; rfl
        · rw [if_neg h3,decide_eq_true (by omega),si,cL,attr_eq hF (by omega)]
          cases e:nN (dec F) (s.dropWhile eg) with
          | none=>simp only [attrR]; rw [de]; rfl
          | some y =>
            obtain ⟨a,r⟩:=y
            have hr:=nh e
            simp only [attrR]
            rw [cL,cont_eq F as_ _ _ (by omega) (by omega),bb]
            cases hc:as_.any fun x=>decide (x.1=a.1) with
            | true=>rw [oL,qL,de,if_pos rfl]; rfl
            | false =>
              rw [ns,si,cL,if_neg (by decide),cc (by simp; omega),bm]
              have:=vi (n:=n) (v:=v) ho hl hk m (as_++[a]) r (by omega) (by simp; omega)
              rw [oB (k:=s.length) (m:=r.length+1) (by omega) (by omega)]
              exact this
theorem BB {s:Bs} {o:List Bs} {k:Nat} {l:List Tok} (hs:s.length≤100000) (ho:o.length≤20) (hl:l.length≤999000) (hk:k≤1) (h:([60]:Bs).isPrefixOf s=true) :
    jM F s o (k:Int) l=some (xL (od (dec F) (s.drop 1) o k l)):=by
  unfold jM od
  rw [mf h,br,bnT,wa (by omega) (by simp; omega) (by simp; omega)]
  show hZ (some (pm (gz (s.drop 1)))) _=_
  cases e:gz (s.drop 1) with
  | none=>simp only [pm]; rw [de]; rfl
  | some y =>
    obtain ⟨n,r⟩:=y
    have hr:=congrArg List.length (pk e).1
    rw [List.length_append,List.length_drop] at hr
    simp only [pm]
    rw [cL]
    refine Eq.trans (vi hF ho hl hk F [] r (by omega) (by simp; omega)) ?_
    cases jG (dec F) (r.length+1) [] r with
    | none=>rfl
    | some z=>rfl
def tF:Rx→Res (Bool×Bs)
  | .ok x=>.ok (true,x.1)
  | .no e=>.pan e
def endR:Rx→Res (Bool×Bs×List Tok×List Bs)
  | .ok x=>.ok (true,x.1,x.2.2.2,x.2.1)
  | .no e=>.pan e
omit hF in
theorem vV {s p q:Bs} {o:List Bs} {k:Nat} {l:List Tok} (hs:s.length≤1000000) (hp:p≠[]):(hZ (jU F s o (k:Int) l p) fun x14=>some (Res.ok (true,x14.2)))=some (tF (ki p s o k l)):=by
  rw [vP hp hs]
  unfold ki
  cases kh p s with
  | none=>simp only [cutR]; rw [de]; rfl
  | some y=>simp only [cutR]; rw [cL]; rfl
omit hF in
theorem data_eq {s:Bs} {o:List Bs} {k:Nat} {l:List Tok} (hs:s.length≤1000000) (hl:l.length≤1000000) (h:([60,33,91,67,68,65,84,65,91]:Bs).isPrefixOf s=true) :
    mN F s o (k:Int) l=some (yN (pQ (s.drop 9) o k l)):=by
  unfold mN pQ
  rw [mf h,br,bnT,vP (by simp) (by simp; omega)]
  show hZ (some (cutR (kh [93,93,62] (s.drop 9)))) _=_
  cases kh [93,93,62] (s.drop 9) with
  | none=>simp only [cutR]; rw [de]; rfl
  | some y =>
    obtain ⟨t,r⟩:=y
    simp only [cutR]
    rw [cL]
    by_cases ho:o=[]
    · subst ho
      rw [decide_eq_false (by simp),qL,de,if_pos rfl]; rfl
    · have:=List.length_pos_iff.2 ho
      rw [decide_eq_true (by omega),si,cL,yZ hl,bb,if_neg ho]; rfl
theorem end_eq {s:Bs} {o:List Bs} {k:Nat} {l:List Tok} (hs:s.length≤100000) (ho:o.length≤20) (hl:l.length≤999000) (h:([60,47]:Bs).isPrefixOf s=true) :
    kd F s o (k:Int) l=some (endR (tE (s.drop 2) o k l)):=by
  unfold kd tE
  rw [mf h,br,bnT,wa (by omega) (by simp; omega) (by simp; omega)]
  show hZ (some (pm (gz (s.drop 2)))) _=_
  cases gz (s.drop 2) with
  | none=>simp only [pm]; rw [de]; rfl
  | some y =>
    obtain ⟨n,r⟩:=y
    simp only [pm]
    rw [cL,uw,br]
    simp only []
    by_cases h1:([62]:Bs).isPrefixOf (r.dropWhile eg)=true
    · rw [mf h1,br,si,cL,if_pos h1,zh (by omega) (by omega)]
      show hZ (some (xJ (nL n ((r.dropWhile eg).drop 1) o k l))) _=_
      unfold nL
      by_cases g:o.getLast?=some n
      · rw [if_pos g]; simp only [xJ]; rw [cL]; rfl
      · rw [if_neg g]; simp only [xJ]; rw [de]; rfl
    · rw [mW (eq_false_of_ne_true h1),br,qL,de,if_neg h1]; rfl
def stepR:Rx→Res (Bs×Int×List Tok×List Bs)
  | .ok x=>.ok (x.1,(x.2.2.1:Int),x.2.2.2,x.2.1)
  | .no e=>.pan e
omit hF in
theorem oG {p s:Bs} {o:List Bs} {k:Nat} {l:List Tok} {x:Sx} (h:ki p s o k l=.ok x):x.2=(o,k,l):=by
  unfold ki at h
  split at h
  · cases h
  · cases h; rfl
theorem step_eq {s:Bs} {o:List Bs} {k:Nat} {l:List Tok} (h0:s≠[]) (hs:s.length≤100000) (ho:o.length≤20) (hl:l.length≤999000) (hk:k≤1) :
    nP F s o (k:Int) l=some (stepR (kB (dec F) s o k l)):=by
  unfold nP kB
  by_cases h1:([60]:Bs).isPrefixOf s=true
  · rw [plain_no h1,cL,cJ,if_neg (by rw [h1]; decide)]
    simp only []
    unfold kG
    by_cases h2:([60,33,45,45]:Bs).isPrefixOf s=true
    · rw [mf h2,br,bnT,vV (q:=[]) (by simp; omega) (by simp),if_pos h2]
      show hZ (some (tF (ki [45,45,62] (s.drop 4) o k l))) _=_
      cases e:ki [45,45,62] (s.drop 4) o k l with
      | no e=>rfl
      | ok x =>
        have:=oG e
        obtain ⟨a,b⟩:=x
        simp only at this; subst this
        simp only [tF]; rw [cL]; rfl
    · rw [mW (eq_false_of_ne_true h2),br,bnF,cL,cJ,if_neg h2]
      simp only []
      unfold rI
      by_cases h3:([60,63]:Bs).isPrefixOf s=true
      · rw [mf h3,br,bnT,vV (q:=[]) (by simp; omega) (by simp),if_pos h3]
        show hZ (some (tF (ki [63,62] (s.drop 2) o k l))) _=_
        cases e:ki [63,62] (s.drop 2) o k l with
        | no e=>rfl
        | ok x =>
          have:=oG e
          obtain ⟨a,b⟩:=x
          simp only at this; subst this
          simp only [tF]; rw [cL]; rfl
      · rw [mW (eq_false_of_ne_true h3),br,bnF,cL,cJ,if_neg h3]
        simp only []
        by_cases h4:([60,33,91,67,68,65,84,65,91]:Bs).isPrefixOf s=true
        · rw [data_eq (by omega) (by omega) h4,if_pos h4]
          unfold pQ
          cases kh [93,93,62] (s.drop 9) with
          | none=>rfl
          | some y =>
            obtain ⟨t,r⟩:=y
            simp only []
            by_cases g:o=[]
            · rw [if_pos g]; rfl
            · rw [if_neg g]; rfl
        · rw [if_neg h4]
          unfold mN
          rw [mW (eq_false_of_ne_true h4),br,bnF,cL,cJ]
          simp only []
          unfold rH
          by_cases h5:([60,33]:Bs).isPrefixOf s=true
          · rw [mf h5,br,bnT,vV (q:=[]) (by simp; omega) (by simp),if_pos h5]
            show hZ (some (tF (ki [62] (s.drop 2) o k l))) _=_
            cases e:ki [62] (s.drop 2) o k l with
            | no e=>rfl
            | ok x =>
              have:=oG e
              obtain ⟨a,b⟩:=x
              simp only at this; subst this
              simp only [tF]; rw [cL]; rfl
          · rw [mW (eq_false_of_ne_true h5),br,bnF,cL,cJ,if_neg h5]
            simp only []
            by_cases h6:([60,47]:Bs).isPrefixOf s=true
            · rw [end_eq hF hs ho hl h6,if_pos h6]
              unfold tE
              cases gz (s.drop 2) with
              | none=>rfl
              | some y =>
                obtain ⟨n,r⟩:=y
                simp only []
                by_cases g:([62]:Bs).isPrefixOf (r.dropWhile eg)=true
                · rw [if_pos g]
                  unfold nL
                  by_cases g2:o.getLast?=some n
                  · rw [if_pos g2]; rfl
                  · rw [if_neg g2]; rfl
                · rw [if_neg g]; rfl
            · rw [if_neg h6]
              unfold kd
              rw [mW (eq_false_of_ne_true h6),br,bnF,cL,cJ]
              simp only []
              rw [BB hF hs ho hl hk h1]
              cases od (dec F) (s.drop 1) o k l with
              | no e=>rfl
              | ok x=>rfl
  · rw [plain_eq hF hs (by omega) h0 (eq_false_of_ne_true h1),if_pos (eq_false_of_ne_true h1)]
    unfold lv
    cases dec F (s.takeWhile fun c=>decide (c≠60)) with
    | none=>rfl
    | some t =>
      simp only []
      by_cases g:o=[]
      · rw [if_pos g]
        cases (s.takeWhile fun c=>decide (c≠60)).all eg with
        | true=>rw [if_pos rfl]; rfl
        | false=>rw [if_neg (by decide)]; rfl
      · rw [if_neg g]; rfl
end
end Go.Xm
namespace Go.Xm
open Go.Pv Go.Av
theorem uu (t:Bs) (l:List Tok):(nK t l).length≤l.length+1:=by
  unfold nK; split <;> simp
def Kp (o:List Bs) (k:Nat) (l:List Tok) (m:Nat):Prop:=o.length≤20∧k≤1∧l.length≤m
theorem vU {p s:Bs} {o:List Bs} {k:Nat} {l:List Tok} {m:Nat} {x:Sx} (h:Kp o k l m) (e:ki p s o k l=.ok x):Kp x.2.1 x.2.2.1 x.2.2.2 (m+2):=by
  have:=oG e
  obtain ⟨a,b⟩:=x
  simp only at this; subst this
  obtain ⟨h1,h2,h3⟩:=h;exact ⟨h1,h2,by simp only; omega⟩
theorem vS {d:Bs→Option Bs} {s:Bs} {o:List Bs} {k:Nat} {l:List Tok} {m:Nat} {x:Sx} (h:Kp o k l m) (e:kB d s o k l=.ok x):Kp x.2.1 x.2.2.1 x.2.2.2 (m+2):=by
  obtain ⟨h1,h2,h3⟩:=id h
  unfold kB at e
  split at e
  · unfold lv at e
    split at e
    · cases e
    · split at e
      · split at e
        · cases e; exact ⟨h1,h2,by simp only; omega⟩
        · cases e
      · rename_i t _ _
        cases e
        have:=uu t l
        exact ⟨h1,h2,by simp only; omega⟩
  split at e
  · exact vU h e
  split at e
  · exact vU h e
  split at e
  · unfold pQ at e
    split at e
    · cases e
    · split at e
      · cases e
      · rename_i t r _ _
        cases e
        have:=uu t l
        exact ⟨h1,h2,by simp only; omega⟩
  split at e
  · exact vU h e
  split at e
  · unfold tE at e
    split at e
    · cases e
    · split at e
      · unfold nL at e
        split at e
        · cases e; exact ⟨by simp only [List.length_dropLast]; omega,h2,by simp only [List.length_append,List.length_singleton]; omega⟩
        · cases e
      · cases e
  · unfold od at e
    split at e
    · cases e
    · split at e
      · cases e
      · unfold nZ at e
        split at e
        · cases e
        · rename_i g
          split at e
          · cases e
          · have hk:(if o=[] then k+1 else k)≤1:=by
              by_cases q:o=[]
              · rw [if_pos q]
                have:k=0:=Classical.byContradiction fun z=>g ⟨q,z⟩
                omega
              · rw [if_neg q]; exact h2
            split at e
            · cases e; exact ⟨h1,hk,by simp; omega⟩
            · cases e; exact ⟨by simp; omega,hk,by simp; omega⟩
def tokE:Rx→List Tok×Int
  | .ok (_,o,k,l)=>if o=[]∧0 < k then (l,0) else ([],2)
  | .no e=>([],e)
theorem so (d:Bs→Option Bs) (s:Bs):pO d s=tokE (qk d (s.length+1) (s,[],0,[])):=by
  unfold pO
  cases qk d (s.length+1) (s,[],0,[]) with
  | ok x=>rfl
  | no e=>rfl
theorem xe {F:Nat} (hF:1500000 < F):∀ (n m:Nat) (s:Bs) (o:List Bs) (k:Nat) (l:List Tok),s.length < n→s.length < m→s.length≤100000→Kp o k l (900000 - 2*s.length) →
    kr F n (s,o,(k:Int),l)=some (tokE (qk (dec F) m (s,o,k,l)))
  | 0,_,s,o,k,l,h,_,_,_=>by omega
  | _,0,s,o,k,l,_,h,_,_=>by omega
  | n+1,m+1,s,o,k,l,hn,hm,hs,hk=>by
    show ku F (kr F n) s o (k:Int) l=_
    unfold ku qk
    by_cases h0:s=[]
    · rw [decide_eq_true h0,bnT,if_pos h0]
      unfold kq tokE
      simp only []
      by_cases ho:o=[]
      · subst ho
        by_cases g:0 < k
        · rw [decide_eq_true (by simp),decide_eq_true (by omega),Bool.and_self,si,zE,if_pos ⟨rfl,g⟩]
        · rw [decide_eq_true (by simp),decide_eq_false (p:=(0:Int) < (k:Int)) (by omega),Bool.and_false,qL,tv,if_neg fun q=>g q.2]
      · have:=List.length_pos_iff.2 ho
        rw [decide_eq_false (p:=(o.length:Int)=0) (by omega),Bool.false_and,qL,tv,if_neg fun q=>ho q.1]
    · rw [decide_eq_false h0,bnF,if_neg h0,step_eq hF h0 hs hk.1 (by have:=hk.2.2; omega) hk.2.1]
      cases e:kB (dec F) s o k l with
      | no e=>simp only [stepR]; rw [tv]; rfl
      | ok x =>
        obtain ⟨s',o',k',l'⟩:=x
        have h1:=qq h0 e
        have h2:=vS hk e
        simp only at h1 h2
        simp only [stepR]
        rw [zE]
        simp only []
        exact xe hF n m s' o' k' l' (by omega) (by omega) (by omega) ⟨h2.1,h2.2.1,by have:=h2.2.2; omega⟩
theorem tok_eq {F:Nat} (hF:1500000 < F) {s:Bs} (hs:s.length≤100000):kf F s=some (pO (dec F) s):=by
  unfold kf
  rw [bF (by omega),so]
  exact xe hF F (s.length+1) s [] 0 [] (by omega) (by omega) hs ⟨by simp,by omega,by simp⟩
theorem tok_over {F:Nat} {s:Bs} (hs:100000 < s.length):kf F s=some ([],4):=by
  unfold kf
  rw [bT (by omega)]
theorem run_kp {d:Bs→Option Bs}:∀ {n:Nat} {s:Bs} {o:List Bs} {k:Nat} {l:List Tok} {m:Nat} {x:Sx},s.length≤m→Kp o k l (900000 - 2*m)→m≤100000→qk d n (s,o,k,l)=.ok x→x.2.2.2.length≤900000
  | 0,s,o,k,l,m,x,_,_,_,h=>by cases h
  | n+1,s,o,k,l,m,x,hs,hk,hm,h=>by
    unfold qk at h
    by_cases h0:s=[]
    · rw [if_pos h0] at h; cases h; have:=hk.2.2; simp only; omega
    · rw [if_neg h0] at h
      cases e:kB d s o k l with
      | no e'=>rw [e] at h; cases h
      | ok y =>
        rw [e] at h
        obtain ⟨s',o',k',l'⟩:=y
        have h1:=qq h0 e
        have h2:=vS hk e
        have hp:=List.length_pos_iff.2 h0
        simp only at h1 h2 h
        exact run_kp (m:=m - 1) (by omega) ⟨h2.1,h2.2.1,by have:=h2.2.2; omega⟩ (by omega) h
theorem yX {d:Bs→Option Bs} {s:Bs} (hs:s.length≤100000):(pO d s).1.length≤900000:=by
  rw [so]
  cases e:qk d (s.length+1) (s,[],0,[]) with
  | no e=>simp [tokE]
  | ok x =>
    have:=run_kp (m:=s.length) (Nat.le_refl _) ⟨by simp,by omega,by simp⟩ hs e
    obtain ⟨s',o',k',l'⟩:=x;show (if o'=[]∧0 < k' then (l',(0:Int)) else ([],2)).1.length≤_
    split
    · exact this
    · simp
end Go.Xm
namespace Go.Xm
open Go.Pv Go.Av
instance decBL:DecidableEq (Bs×List At):=instDecidableEqProd
instance decBBL:DecidableEq (Bs×Bs×List At):=instDecidableEqProd
instance decTok:DecidableEq Tok:=instDecidableEqProd
theorem awake:ln 2000000=some true:=by decide +kernel
theorem vT {p s:Bs} {o:List Bs} {k:Nat} {l:List Tok} {e:Int} (h:ki p s o k l=.no e):e≠0:=by
  unfold ki at h
  split at h <;> (cases h; try decide)
theorem step_no {d:Bs→Option Bs} {s:Bs} {o:List Bs} {k:Nat} {l:List Tok} {e:Int} (h:kB d s o k l=.no e):e≠0:=by
  unfold kB at h
  split at h
  · unfold lv at h
    split at h
    · cases h; decide
    · split at h
      · split at h <;> (cases h; try decide)
      · cases h
  split at h
  · exact vT h
  split at h
  · exact vT h
  split at h
  · unfold pQ at h
    split at h
    · cases h; decide
    · split at h <;> (cases h; try decide)
  split at h
  · exact vT h
  split at h
  · unfold tE at h
    split at h
    · cases h; decide
    · split at h
      · unfold nL at h
        split at h <;> (cases h; try decide)
      · cases h; decide
  · unfold od at h
    split at h
    · cases h; decide
    · split at h
      · cases h; decide
      · unfold nZ at h
        split at h
        · cases h; decide
        · split at h
          · cases h; decide
          · split at h <;> cases h
theorem ss {α:Type} [DecidableEq α] (a b:α) (l m:List α):decide (a::l=b::m)=(decide (a=b)&&decide (l=m)):=by
  by_cases h:a=b
  · by_cases g:l=m
    · rw [decide_eq_true h,decide_eq_true g,decide_eq_true (by rw [h,g])]; rfl
    · rw [decide_eq_true h,decide_eq_false g,decide_eq_false fun q=>g (List.cons.inj q).2]; rfl
  · rw [decide_eq_false h,decide_eq_false fun q=>h (List.cons.inj q).1]; rfl
theorem qB {α β:Type} [DecidableEq α] [DecidableEq β] (a b:α×β):decide (a=b)=(decide (a.1=b.1)&&decide (a.2=b.2)):=by
  obtain ⟨a1,a2⟩:=a;obtain ⟨b1,b2⟩:=b
  by_cases h:a1=b1
  · by_cases g:a2=b2
    · rw [decide_eq_true (by rw [h,g]:(a1,a2)=(b1,b2)),decide_eq_true (p:=(a1,a2).1=(b1,b2).1) h,decide_eq_true (p:=(a1,a2).2=(b1,b2).2) g]; rfl
    · rw [decide_eq_false (p:=(a1,a2)=(b1,b2)) fun q=>g (congrArg Prod.snd q),decide_eq_false (p:=(a1,a2).2=(b1,b2).2) g,Bool.and_false]
  · rw [decide_eq_false (p:=(a1,a2)=(b1,b2)) fun q=>h (congrArg Prod.fst q),decide_eq_false (p:=(a1,a2).1=(b1,b2).1) h,Bool.false_and]
theorem wn {α:Type} [DecidableEq α] {a b:List α} (h:a.length≠b.length):decide (a=b)=false:=decide_eq_false fun q=>h (by rw [q])
theorem tc (a b:List At) (hl:a.length=b.length) (ha:a.length≤1000000):∀ (n i:Nat),a.length - i < n→i≤a.length→lh a b n (i:Int)=some (decide (a.drop i=b.drop i))
  | 0,i,h,_=>by omega
  | n+1,i,h,hi=>by
    show li a b (lh a b n) (i:Int)=_
    unfold li
    by_cases g:i < a.length
    · rw [bT (by omega),bR (by omega),bm,bR (by omega),bm,cF g,cF (by omega:i < b.length),aB g,aB (by omega:i < b.length),ss,qB]
      cases decide (a[i].1=(b[i]'(by omega)).1)&&decide (a[i].2=(b[i]'(by omega)).2) with
      | false=>rw [bnF,Bool.false_and]
      | true=>rw [bnT,bD (by omega),bx,tc a b hl ha n (i+1) (by omega) (by omega),Bool.true_and]
    · rw [bF (by omega),aM (by omega),aM (by omega)]; rfl
theorem equal_eq (F:Nat) (a b:List At) (ha:a.length≤1000000) (hF:a.length < F):oE F a b=some (decide (a=b)):=by
  unfold oE
  by_cases h:a.length=b.length
  · rw [decide_eq_true (by omega),bnT]
    exact tc a b h ha F 0 (by omega) (by omega)
  · rw [decide_eq_false (by omega),bnF,wn h]
def AtS (l:List Tok) (m:Nat):Prop:=∀ t∈l,t.2.2.2.length≤m
theorem eq_tok (a b:Tok):decide (a=b)=(((decide (a.1=b.1)&&decide (a.2.1=b.2.1))&&decide (a.2.2.1=b.2.2.1))&&decide (a.2.2.2=b.2.2.2)):=by
  rw [qB,qB a.2 b.2,qB a.2.2 b.2.2,Bool.and_assoc,Bool.and_assoc]
theorem ux (F:Nat) (a b:List Tok) (hl:a.length=b.length) (ha:a.length≤1000000) (hm:AtS a 1000000) (hF:1000000 < F):∀ (n i:Nat),a.length - i < n→i≤a.length→fu F a b n (i:Int)=some (decide (a.drop i=b.drop i))
  | 0,i,h,_=>by omega
  | n+1,i,h,hi=>by
    show gJ F a b (fu F a b n) (i:Int)=_
    unfold gJ
    by_cases g:i < a.length
    · have h1:=hm _ (List.getElem_mem g)
      rw [bT (by omega),bR (by omega),bm,bR (by omega),bm,cF g,cF (by omega:i < b.length),aB g,aB (by omega:i < b.length),ss,eq_tok]
      unfold qo
      rw [equal_eq F _ _ h1 (by omega)]
      rw [jc,bb]
      generalize (((decide (a[i].1=(b[i]'(by omega)).1))&&(decide (a[i].2.1=(b[i]'(by omega)).2.1)))&&(decide (a[i].2.2.1=(b[i]'(by omega)).2.2.1)))=p
      generalize decide (a[i].2.2.2=(b[i]'(by omega)).2.2.2)=q
      have go:=ux F a b hl ha hm hF n (i+1) (by omega) (by omega)
      cases p with
      | false=>rw [Bool.false_and,bnF,Bool.false_and,Bool.false_and]
      | true =>
        cases q with
        | false=>rw [dr,Bool.true_and,bnF,Bool.false_and]
        | true=>rw [dr,Bool.true_and,bnT,bD (by omega),bx,go,Bool.true_and]
    · rw [bF (by omega),aM (by omega),aM (by omega)]; rfl
theorem zJ (F:Nat) (a b:List Tok) (ha:a.length≤1000000) (hm:AtS a 1000000) (hF:1000000 < F):nR F a b=some (decide (a=b)):=by
  unfold nR lF
  by_cases h:a.length=b.length
  · rw [decide_eq_true (by omega),bnT]
    have:fu F a b F 0=_:=ux F a b h ha hm hF F 0 (by omega) (by omega)
    rw [this,bb,List.drop_zero,List.drop_zero]
  · rw [decide_eq_false (by omega),bnF,bb,wn h]
theorem xj (F:Nat) (a b:List Tok) (i:Nat) (hi:i < a.length) (hj:i < b.length) (hl:a[i].2.2.2.length=b[i].2.2.2.length) (hm:a[i].2.2.2.length≤1000000) (rec8:Int→Option Bool):∀ (n j:Nat),a[i].2.2.2.length - j < n→j≤a[i].2.2.2.length →
    jt a b (i:Int) rec8 n (j:Int)=bif decide (a[i].2.2.2.drop j=b[i].2.2.2.drop j) then hH (i:Int) rec8 else some false
  | 0,j,h,_=>by omega
  | n+1,j,h,hjl=>by
    show jv a b (i:Int) rec8 (jt a b (i:Int) rec8 n) (j:Int)=_
    unfold jv
    rw [bR (by omega),bm,cF hi]
    by_cases g:j < a[i].2.2.2.length
    · have g':j < b[i].2.2.2.length:=by omega
      rw [bT (by omega),bR (by omega),bm,bR (by omega),bm,bR (by omega),bm,cF hj,bR (by omega),bm,cF g,cF g',aB g,aB g',ss,qB]
      cases decide (a[i].2.2.2[j].1=b[i].2.2.2[j].1)&&decide (a[i].2.2.2[j].2=b[i].2.2.2[j].2) with
      | false=>rw [bnF,Bool.false_and,cJ]
      | true=>rw [bnT,bD (by omega),bx,xj F a b i hi hj hl hm rec8 n (j+1) (by omega) (by omega),Bool.true_and]
    · rw [bF (by omega),aM (by omega),aM (by omega)]; rw [decide_eq_true rfl,dr]
theorem gcAt {α:Type} {k:Option α} {c:Bool} {i:Int} {n:Nat} (h:0≤i∧i < n):fq c (co i n) k=k:=mQ fun _=>h
theorem sQ (F:Nat) (a b:List Tok) (hl:a.length=b.length) (ha:a.length≤1000000) (hm:AtS a 1000000) (hF:1000000 < F):∀ (n i:Nat),a.length - i < n→i≤a.length→dv F a b n (i:Int)=some (decide (a.drop i=b.drop i))
  | 0,i,h,_=>by omega
  | n+1,i,h,hi=>by
    show ju F a b (dv F a b n) (i:Int)=_
    unfold ju
    by_cases g:i < a.length
    · have g':i < b.length:=by omega
      have h1:=hm _ (List.getElem_mem g)
      have oa:(0:Int)≤(i:Int)∧(i:Int) < (a.length:Nat):=by omega
      have ob:(0:Int)≤(i:Int)∧(i:Int) < (b.length:Nat):=by omega
      rw [bT (by omega)]
      simp only [bR oa,bR ob,gcAt oa,gcAt ob,bm,cF g,cF g']
      rw [aB g,aB g',ss,eq_tok]
      have go:=sQ F a b hl ha hm hF n (i+1) (by omega) (by omega)
      by_cases e1:a[i].1=b[i].1
      · by_cases e2:a[i].2.1=b[i].2.1
        · by_cases e3:a[i].2.2.1=b[i].2.2.1
          · by_cases e4:a[i].2.2.2.length=b[i].2.2.2.length
            · rw [decide_eq_true e1,decide_eq_true e2,decide_eq_true e3,decide_eq_true (p:=(a[i].2.2.2.length:Int)=(b[i].2.2.2.length:Int)) (by omega)]
              have:=xj F a b i g g' e4 h1 (dv F a b n) F 0 (by omega) (by omega)
              refine Eq.trans this ?_
              rw [List.drop_zero,List.drop_zero]
              cases decide (a[i].2.2.2=b[i].2.2.2) with
              | false=>rfl
              | true =>
                rw [dr]
                unfold hH
                rw [bD (by omega),bx,go]; rfl
            · rw [decide_eq_true e1,decide_eq_true e2,decide_eq_true e3,decide_eq_false (p:=(a[i].2.2.2.length:Int)=(b[i].2.2.2.length:Int)) (by omega),wn e4]; rfl
          · rw [decide_eq_true e1,decide_eq_true e2,decide_eq_false e3]; rfl
        · rw [decide_eq_true e1,decide_eq_false e2]; rfl
      · rw [decide_eq_false e1]; rfl
    · rw [bF (by omega),aM (by omega),aM (by omega)]; rfl
theorem tr (F:Nat) (a b:List Tok) (ha:a.length≤1000000) (hm:AtS a 1000000) (hF:1000000 < F):jO F a b=some (decide (a=b)):=by
  unfold jO
  by_cases h:a.length=b.length
  · rw [decide_eq_true (by omega),bnT]
    exact sQ F a b h ha hm hF F 0 (by omega) (by omega)
  · rw [decide_eq_false (by omega),bnF,wn h]
theorem rG {d:Bs→Option Bs}:∀ {k:Nat} {as_:List At} {s:Bs} {bs:List At} {e:Bool} {r:Bs},jG d k as_ s=some (bs,e,r)→bs.length≤as_.length+s.length
  | 0,_,_,_,_,_,h=>by cases h
  | k+1,as_,s,bs,e,r,h=>by
    have hd:=vO eg s
    unfold jG at h
    split at h
    · cases h; omega
    · split at h
      · cases h; omega
      · split at h
        · cases h
        · cases ea:nN d (s.dropWhile eg) with
          | none=>rw [ea] at h; cases h
          | some x =>
            obtain ⟨a,r'⟩:=x
            rw [ea] at h
            simp only at h
            have h1:=nh ea
            split at h
            · cases h
            · have:=rG h
              rw [List.length_append,List.length_singleton] at this
              omega
theorem qC {l:List Tok} {m:Nat} (h:AtS l m) {t:Tok} (ht:t.2.2.2.length≤m):AtS (l++[t]) m:=fun x hx=>by
  rcases List.mem_append.1 hx with hx | hx
  · exact h x hx
  · rw [List.mem_singleton.1 hx]; exact ht
theorem xH {l:List Tok} {m:Nat} (h:AtS l m) (t:Bs):AtS (nK t l) m:=by
  unfold nK
  split
  · exact h
  · exact qC h (by simp)
theorem ats_step {d:Bs→Option Bs} {s:Bs} {o:List Bs} {k:Nat} {l:List Tok} {m:Nat} {x:Sx} (h:AtS l m) (hs:s.length≤m) (e:kB d s o k l=.ok x):AtS x.2.2.2 m:=by
  have sk:∀ {p s':Bs} {y:Sx},ki p s' o k l=.ok y→AtS y.2.2.2 m:=fun q=>by
    rw [oG q]; exact h
  unfold kB at e
  split at e
  · unfold lv at e
    split at e
    · cases e
    · split at e
      · split at e
        · cases e; exact h
        · cases e
      · cases e; exact xH h _
  split at e
  · exact sk e
  split at e
  · exact sk e
  split at e
  · unfold pQ at e
    split at e
    · cases e
    · split at e
      · cases e
      · cases e; exact xH h _
  split at e
  · exact sk e
  split at e
  · unfold tE at e
    split at e
    · cases e
    · split at e
      · unfold nL at e
        split at e
        · cases e; exact qC h (by simp)
        · cases e
      · cases e
  · unfold od at e
    split at e
    · cases e
    · rename_i n r en
      have hr:=congrArg List.length (pk en).1
      rw [List.length_append,List.length_drop] at hr
      split at e
      · cases e
      · rename_i as_ em r' ea
        have ha:=rG ea
        rw [List.length_nil] at ha
        have ha':as_.length≤m:=by omega
        unfold nZ at e
        split at e
        · cases e
        · split at e
          · cases e
          · split at e
            · cases e; exact qC (qC h ha') (by simp)
            · cases e; exact qC h ha'
theorem zG {d:Bs→Option Bs} {m:Nat}:∀ {n:Nat} {x y:Sx},AtS x.2.2.2 m→x.1.length≤m→qk d n x=.ok y→AtS y.2.2.2 m
  | 0,_,_,_,_,h=>by cases h
  | n+1,(s,o,k,l),y,ha,hs,h=>by
    unfold qk at h
    by_cases h0:s=[]
    · rw [if_pos h0] at h; cases h; exact ha
    · rw [if_neg h0] at h
      cases e:kB d s o k l with
      | no e'=>rw [e] at h; cases h
      | ok z =>
        rw [e] at h
        have h1:=qq h0 e
        exact zG (ats_step ha hs e) (by simp only at hs; omega) h
theorem yY {d:Bs→Option Bs} {s:Bs} {m:Nat} (hs:s.length≤m):AtS (pO d s).1 m:=by
  rw [so]
  cases e:qk d (s.length+1) (s,[],0,[]) with
  | no e=>exact fun t ht=>by cases ht
  | ok x =>
    have:=zG (m:=m) (x:=(s,[],0,[])) (fun t ht=>by cases ht) hs e
    obtain ⟨s',o',k',l'⟩:=x;show AtS (if o'=[]∧0 < k' then (l',(0:Int)) else ([],2)).1 m
    split
    · exact this
    · exact fun t ht=>by cases ht
end Go.Xm
namespace Go.Xm
def rpS (f:Bool) (o:List Bs) (t:Tok):Option (List Bs) :=
  if f=false∧o=[] then none
  else if t.1=0 then (if o.length < 20 then some (o++[t.2.1]) else none)
  else if t.1=1 then (if o.getLast?=some t.2.1 then some o.dropLast else none)
  else if (t.1=2∧t.2.2.1≠[])∧o≠[] then some o else none
def rp:Bool→List Bs→List Tok→Option (List Bs)
  | _,o,[]=>some o
  | f,o,t::r=>match rpS f o t with | none=>none | some o'=>rp false o' r
theorem zi (t:Tok):∀ (l:List Tok) (f:Bool) (o:List Bs),rp f o (l++[t])=match rp f o l with | none=>none | some o'=>rpS (f&&l.isEmpty) o' t
  | [],f,o=>by
    show (match rpS f o t with | none=>none | some o'=>some o')=rpS (f&&true) o t
    rw [Bool.and_true]
    cases rpS f o t <;> rfl
  | x::l,f,o=>by
    show (match rpS f o x with | none=>none | some o'=>rp false o' (l++[t]))=match (match rpS f o x with | none=>none | some o'=>rp false o' l) with | none=>none | some o'=>rpS (f&&false) o' t
    cases rpS f o x with
    | none=>rfl
    | some o' =>
      simp only
      rw [zi t l false o',Bool.and_false,Bool.false_and]
structure Nest (o:List Bs) (k:Nat) (l:List Tok):Prop where
  rp:rp true [] l=some o
  few:o.length≤20
  one:k≤1
  none:k=0→l=[]∧o=[]
  some:k≠0→∃ t r,l=t::r∧t.1=0
theorem Nest.ne {o:List Bs} {k:Nat} {l:List Tok} (h:Nest o k l) (ho:o≠[]):k≠0∧l≠[]:=by
  have:k≠0:=fun e=>ho (h.none e).2
  obtain ⟨t,r,e,_⟩:=h.some this;exact ⟨this,by rw [e]; simp⟩
theorem Nest.snoc {o o':List Bs} {k:Nat} {l:List Tok} {t:Tok} (h:Nest o k l) (ho:o≠[]) (hr:rpS false o t=Option.some o') (hf:o'.length≤20):Nest o' k (l++[t]):=by
  obtain ⟨hk,hl⟩:=h.ne ho;obtain ⟨x,r,e,hx⟩:=h.some hk;refine ⟨?_,hf,h.one,fun e=>absurd e hk,fun _=>⟨x,r++[t],by rw [e]; rfl,hx⟩⟩
  rw [zi,h.rp]
  have:l.isEmpty=false:=by cases l with | nil=>exact absurd rfl hl | cons a b=>rfl
  rw [this,Bool.and_false]
  exact hr
theorem Nest.text {o:List Bs} {k:Nat} {l:List Tok} (h:Nest o k l) (ho:o≠[]) (t:Bs):Nest o k (nK t l):=by
  unfold nK
  by_cases e:t=[]
  · rw [if_pos e]; exact h
  · rw [if_neg e]
    refine h.snoc ho ?_ h.few
    unfold rpS
    rw [if_neg (fun z=>ho z.2),if_neg (show ¬ ((2:Int)=0) by decide),if_neg (show ¬ ((2:Int)=1) by decide),if_pos ⟨⟨rfl,e⟩,ho⟩]
theorem last_ne {o:List Bs} {n:Bs} (h:o.getLast?=some n):o≠[]:=fun e=>by rw [e] at h; cases h
theorem Nest.shut {o:List Bs} {k:Nat} {l:List Tok} (h:Nest o k l) (n:Bs) (hl:o.getLast?=Option.some n):Nest o.dropLast k (l++[(1,n,[],[])]):=by
  have ho:=last_ne hl
  refine h.snoc ho ?_ (by have:=h.few; rw [List.length_dropLast]; omega)
  unfold rpS
  rw [if_neg (fun z=>ho z.2),if_neg (show ¬ ((1:Int)=0) by decide),if_pos rfl,if_pos hl]
theorem Nest.open_ {o:List Bs} {k:Nat} {l:List Tok} (h:Nest o k l) (n:Bs) (as_:List At) (h1:¬ (o=[]∧k≠0)) (h2:¬ 20≤o.length) :
    Nest (o++[n]) (if o=[] then k+1 else k) (l++[(0,n,[],as_)]):=by
  by_cases ho:o=[]
  · have hk:k=0:=by
      by_cases e:k=0
      · exact e
      · exact absurd ⟨ho,e⟩ h1
    obtain ⟨e1,_⟩:=h.none hk
    subst ho; subst e1; subst hk
    rw [if_pos rfl]
    exact ⟨rfl,by simp,by omega,fun e=>by omega,fun _=>⟨_,[],rfl,rfl⟩⟩
  · rw [if_neg ho]
    refine h.snoc ho ?_ (by simp; omega)
    unfold rpS
    rw [if_neg (fun z=>ho z.2),if_pos rfl,if_pos (by omega)]
section
variable {dec:Bs→Option Bs}
theorem Nest.step {s:Bs} {o:List Bs} {k:Nat} {l:List Tok} {x:Sx} (h:Nest o k l) (e:kB dec s o k l=.ok x):Nest x.2.1 x.2.2.1 x.2.2.2:=by
  unfold kB at e
  split at e
  · unfold lv at e
    split at e
    · cases e
    · split at e
      · split at e
        · cases e; exact h
        · cases e
      · rename_i g
        cases e; exact h.text g _
  split at e
  · have:=(ni (by simp) e).2
    rw [this]; exact h
  split at e
  · have:=(ni (by simp) e).2
    rw [this]; exact h
  split at e
  · unfold pQ at e
    split at e
    · cases e
    · split at e
      · cases e
      · rename_i g
        cases e; exact h.text g _
  split at e
  · have:=(ni (by simp) e).2
    rw [this]; exact h
  split at e
  · unfold tE at e
    split at e
    · cases e
    · split at e
      · unfold nL at e
        split at e
        · rename_i g
          cases e; exact h.shut _ g
        · cases e
      · cases e
  · unfold od at e
    split at e
    · cases e
    · rename_i n r hn
      split at e
      · cases e
      · rename_i as_ em r' ha
        unfold nZ at e
        split at e
        · cases e
        · rename_i g1
          split at e
          · cases e
          · rename_i g2
            have ho:=h.open_ n as_ g1 g2
            split at e
            · cases e
              have:=ho.shut n (by simp)
              simpa using this
            · cases e; exact ho
theorem Nest.run:∀ {n:Nat} {x y:Sx},Nest x.2.1 x.2.2.1 x.2.2.2→qk dec n x=.ok y→Nest y.2.1 y.2.2.1 y.2.2.2
  | 0,x,y,h,e=>by cases e
  | n+1,(s,o,k,l),y,h,e=>by
    unfold qk at e
    split at e
    · cases e; exact h
    · cases es:kB dec s o k l with
      | no e'=>rw [es] at e; cases e
      | ok z =>
        rw [es] at e
        exact Nest.run (h.step es) e
end
end Go.Xm
namespace Go.Xm
section
variable (enc:Bs→Bs)
def wrA (a:At):Bs:=[32]++a.1++[61,34]++enc a.2++[34]
def wrT (t:Tok):Bs :=
  if t.1=0 then [60]++t.2.1++(t.2.2.2.map (wrA enc)).flatten++[62]
  else if t.1=1 then [60,47]++t.2.1++[62] else enc t.2.2.1
def wr (l:List Tok):Bs:=(l.map (wrT enc)).flatten
end
section
variable {dec:Bs→Option Bs}
variable {enc:Bs→Bs}
structure Enc (dec:Bs→Option Bs) (enc:Bs→Bs):Prop where
  back:∀ t,dec (enc t)=some t
  no:∀ t,∀ c∈enc t,c≠60∧c≠34
  ne:∀ t,t≠[]→enc t≠[]
end
end Go.Xm
namespace Go.Pn
open Go.Pv Go.Av
def nr (c:UInt8):Option Bs:=if c=38 then some [38,97,109,112,59] else if c=60 then some [38,108,116,59] else if c=62 then some [38,103,116,59] else if c=34 then some [38,113,117,111,116,59] else none
def e1 (c:UInt8):Bs:=(nr c).getD [c]
def enc (s:Bs):Bs:=s.flatMap e1
theorem vZ (p:UInt8→Bool) (h:∀ k:Fin 256,p (UInt8.ofNat k.val)=true) (b:UInt8):p b=true:=by
  have:=h ⟨b.toNat,b.toNat_lt⟩
  simpa using this
theorem yL (c:UInt8):at_ lw (c.toNat:Int)=nr c:=by
  have:=vZ (fun c=>at_ lw (c.toNat:Int)==nr c) (by decide +kernel) c
  simpa using this
theorem tab_ne (c:UInt8):decide (nr c≠some [])=true:=by
  have:=vZ (fun c=>decide (nr c≠some [])) (by decide +kernel) c
  exact this
theorem vR (c:UInt8):1≤(e1 c).length∧(e1 c).length≤6:=by
  have:=vZ (fun c=>decide (1≤(e1 c).length∧(e1 c).length≤6)) (by decide +kernel) c
  exact of_decide_eq_true this
theorem xf {c:UInt8} (h:(nr c).isNone=false):(nr c).getD []=e1 c:=by
  unfold e1
  cases hc:nr c with
  | none=>rw [hc] at h; cases h
  | some l=>rfl
theorem ti {c:UInt8} (h:(nr c).isNone=true):e1 c=[c]:=by
  unfold e1
  cases hc:nr c with
  | none=>rfl
  | some l=>rw [hc] at h; cases h
def dl (s:Bs):Int:=((enc s).length:Int) - s.length
def sps (s:Bs):Bool:=s.any fun c => !(nr c).isNone
theorem oK (c:UInt8) (r:Bs):enc (c::r)=e1 c++enc r:=rfl
theorem enc_len (s:Bs):s.length≤(enc s).length∧(enc s).length≤6*s.length:=by
  induction s with
  | nil=>simp [enc]
  | cons c r ih =>
    have:=vR c
    rw [oK]
    simp only [List.length_append,List.length_cons]
    omega
theorem enc_no {s:Bs} (h:sps s=false):enc s=s:=by
  induction s with
  | nil=>rfl
  | cons c r ih =>
    simp only [sps,List.any_cons,Bool.or_eq_false_iff,Bool.not_eq_false'] at h
    rw [oK,ti h.1,ih h.2]; rfl
theorem tk (c:UInt8) (r:Bs):sps (c::r)=(!(nr c).isNone||sps r):=rfl
theorem lay_loop (s:Bs) (hs:s.length≤100000) (n:Int) (hn:0≤n∧n≤1000000):∀ (k i:Nat) (done buf:Bs),s.length - i < k→i≤s.length→(buf.length:Int)=n→buf.take done.length=done→(done.length:Int)+(enc (s.drop i)).length=n →
    fT s n k ((done.length:Int),(i:Int),buf)=some (done++enc (s.drop i)):=by
  intro k
  induction k with
  | zero=>intro i done buf h; omega
  | succ k ih =>
    intro i done buf hk hi hb ht hl;show js s n (fT s n k) (done.length:Int) (i:Int) buf=_
    unfold js jq hC
    have hnn:(n.toNat:Int)=n:=Int.toNat_of_nonneg hn.1
    by_cases h:i < s.length
    · have hd:s.drop i=s[i]::s.drop (i+1):=aB h
      have h8:=s[i].toNat_lt
      have htl:=vR s[i]
      have hd1:(done.length:Int).toNat=done.length:=Int.toNat_natCast _
      rw [hd,oK] at hl ⊢
      simp only [List.length_append] at hl
      have hgA:∀ q:Option Bs,grd (co (s[i].toNat:Int) 256) q=q:=fun q=>bR (by omega)
      rw [bT (by omega),bR (by omega),bm,cF h,hgA,bm,yL,tab_ne,nM]
      cases hc:(nr s[i]).isNone with
      | false =>
        have e:=xf hc
        simp only [Bool.not_false,cond_true]
        rw [lx (by omega),hgA,bm,e,hd1]
        rw [lx (by omega),lx (by omega),bm,bD (by omega),bD (by omega),ht]
        have hlen:(done++e1 s[i]).length=done.length+(e1 s[i]).length:=by simp
        have ec:(done.length:Int)+((e1 s[i]).length:Int)=((done++e1 s[i]).length:Int):=by rw [hlen]; omega
        rw [ec,bx,ih (i+1) (done++e1 s[i]) _ (by omega) (by omega) (by simp; omega) (by rw [List.take_append_of_le_length (Nat.le_refl _),List.take_length]) (by rw [hlen]; omega)]
        simp
      | true =>
        have e:=ti hc
        rw [e] at hl ⊢
        simp only [List.length_singleton] at hl
        simp only [Bool.not_true,cond_false]
        rw [bR (by omega),bR (by omega),bm,bD (by omega),bD (by omega),hd1]
        have ec:(done.length:Int)+1=((done++[s[i]]).length:Int):=by simp
        have hlt:done.length < buf.length:=by omega
        have et:(buf.set done.length s[i]).take (done++[s[i]]).length=done++[s[i]]:=by
          rw [List.length_append,List.length_singleton,List.take_succ_eq_append_getElem (by simpa using hlt),List.take_set_of_le (Nat.le_refl _),ht]
          simp
        rw [ec,bx,ih (i+1) (done++[s[i]]) _ (by omega) (by omega) (by simpa using hb) et (by simp; omega)]
        simp
    · have hi2:s.drop i=[]:=aM (by omega)
      rw [hi2] at hl ⊢
      rw [bF (by omega),lx (by omega)]
      have hbl:buf.length=done.length:=by simp [enc] at hl; omega
      rw [← hbl,List.take_length] at ht
      rw [ht]; simp [enc]
theorem j3_eq (F:Nat) (s:Bs) (hs:s.length≤100000) (hF:110000 < F):eh F s ((s.length:Int)+dl s) (sps s)=some (enc s):=by
  have hl:=enc_len s
  unfold eh dl
  have e:(s.length:Int)+(((enc s).length:Int) - s.length)=(enc s).length:=by omega
  rw [e]
  cases h:sps s with
  | false=>rw [enc_no h,Bool.not_false,cond_true]
  | true =>
    rw [Bool.not_true,cond_false,bR (by omega)]
    have:=lay_loop s hs ((enc s).length:Int) (by omega) F 0 [] (List.replicate (Int.toNat ((enc s).length:Int)) 0) (by omega) (by omega) (by simp) (by simp) (by simp)
    simpa using this
theorem zB (c:UInt8) (r:Bs):dl (c::r)=((e1 c).length:Int) - 1+dl r:=by
  unfold dl; rw [oK]; simp; omega
theorem xZ (F:Nat) (hF:110000 < F) (s:Bs) (hs:s.length≤100000):∀ (k i:Nat) (n:Int) (an:Bool),s.length - i < k→i≤s.length→0≤n∧n≤100000+6*i →
    fS F s k (n,an,(i:Int))=eh F s (n+dl (s.drop i)) (an||sps (s.drop i)):=by
  intro k
  induction k with
  | zero=>intro i n an h; omega
  | succ k ih =>
    intro i n an hk hi hn;show jr F s (fS F s k) n an (i:Int)=_
    unfold jr gY
    by_cases h:i < s.length
    · have hd:s.drop i=s[i]::s.drop (i+1):=aB h
      have h8:=s[i].toNat_lt
      have htl:=vR s[i]
      have hgA:∀ q:Option Bs,grd (co (s[i].toNat:Int) 256) q=q:=fun q=>bR (by omega)
      rw [bT (by omega),bR (by omega),bm,cF h,hgA,bm,yL,tab_ne,nM,hd,zB]
      cases hc:(nr s[i]).isNone with
      | false =>
        have e:=xf hc
        have es:=tk s[i] (s.drop (i+1))
        rw [hc,Bool.not_false,Bool.true_or] at es
        rw [Bool.not_false,cond_true,hgA,bm,e,bD (by omega),bD (by omega),bD (by omega),bx,ih (i+1) _ _ (by omega) (by omega) (by omega),es,Bool.true_or,Bool.or_true]
        congr 1; omega
      | true =>
        have e:=ti hc
        have es:=tk s[i] (s.drop (i+1))
        rw [hc,Bool.not_true,Bool.false_or] at es
        rw [Bool.not_true,cond_false,bD (by omega),bx,ih (i+1) _ _ (by omega) (by omega) (by omega),es,e]
        congr 1; simp
    · have hi2:s.drop i=[]:=aM (by omega)
      rw [bF (by omega),hi2]
      have:dl []=0:=rfl
      rw [this]; simp [sps]
end Go.Pn
namespace Go.Pn
open Go.Pv Go.Av
def ct (c:UInt8) (s:Bs):Nat:=s.count c
theorem su (a c:UInt8) (s:Bs):ct a (c::s)=ct a s+if c=a then 1 else 0:=by
  unfold ct
  rw [List.count_cons]
  by_cases h:c=a <;> simp [h]
theorem tab_no {c:UInt8} (h1:c≠38) (h2:c≠60) (h3:c≠62) (h4:c≠34):nr c=none:=by
  unfold nr
  rw [if_neg h1,if_neg h2,if_neg h3,if_neg h4]
theorem tots (s:Bs):dl s=(ct 34 s:Int)*5+(ct 62 s:Int)*3+(ct 60 s:Int)*3+(ct 38 s:Int)*4∧sps s=decide (0 < ct 34 s+ct 62 s+ct 60 s+ct 38 s):=by
  induction s with
  | nil=>exact ⟨rfl,rfl⟩
  | cons c r ih =>
    obtain ⟨i1,i2⟩:=ih
    rw [zB,tk,i1,i2,su 34,su 62,su 60,su 38]
    by_cases h1:c=38
    · have e:(e1 c).length=5:=by rw [h1]; rfl
      have f:(nr c).isNone=false:=by rw [h1]; rfl
      rw [e,f,Bool.not_false,Bool.true_or,if_neg (show ¬ c=34 by rw [h1]; decide),if_neg (show ¬ c=62 by rw [h1]; decide),if_neg (show ¬ c=60 by rw [h1]; decide),if_pos h1]
      exact ⟨by omega,Eq.symm (decide_eq_true (by omega))⟩
    by_cases h2:c=60
    · have e:(e1 c).length=4:=by rw [h2]; rfl
      have f:(nr c).isNone=false:=by rw [h2]; rfl
      rw [e,f,Bool.not_false,Bool.true_or,if_neg (show ¬ c=34 by rw [h2]; decide),if_neg (show ¬ c=62 by rw [h2]; decide),if_pos h2,if_neg h1]
      exact ⟨by omega,Eq.symm (decide_eq_true (by omega))⟩
    by_cases h3:c=62
    · have e:(e1 c).length=4:=by rw [h3]; rfl
      have f:(nr c).isNone=false:=by rw [h3]; rfl
      rw [e,f,Bool.not_false,Bool.true_or,if_neg (show ¬ c=34 by rw [h3]; decide),if_pos h3,if_neg h2,if_neg h1]
      exact ⟨by omega,Eq.symm (decide_eq_true (by omega))⟩
    by_cases h4:c=34
    · have e:(e1 c).length=6:=by rw [h4]; rfl
      have f:(nr c).isNone=false:=by rw [h4]; rfl
      rw [e,f,Bool.not_false,Bool.true_or,if_pos h4,if_neg h3,if_neg h2,if_neg h1]
      exact ⟨by omega,Eq.symm (decide_eq_true (by omega))⟩
    · have f:=tab_no h1 h2 h3 h4
      have e:(e1 c).length=1:=by unfold e1; rw [f]; rfl
      have f':(nr c).isNone=true:=by rw [f]; rfl
      rw [e,f',Bool.not_true,Bool.false_or,if_neg h1,if_neg h2,if_neg h3,if_neg h4]
      exact ⟨by omega,rfl⟩
theorem oX (F:Nat) (s:Bs) (hs:s.length≤100000) (k i:Nat) (c:UInt8) (l:Bs) (n:Int) (an:Bool) (hi:i < 4) (he:at_ entRep (i:Int)=[c]) (ht:nr c=some l) (hl:1≤l.length∧l.length≤6) (hn:0≤n∧n≤10000000) :
    da F s (k+1) (n,an,(i:Int))=da F s k (n+(ct c s:Int)*((l.length:Int) - 1),an||decide (0 < ct c s),((i+1:Nat):Int)):=by
  show fU F s (da F s k) n an (i:Int)=_
  unfold fU gZ
  have hc:ct c s≤s.length:=List.count_le_length
  have h8:=c.toNat_lt
  have hcb:Go.Lib.countByte s (at_ [c] 0)=ct c s:=rfl
  have h4:entRep.length=4:=rfl
  rw [bT (by omega),bR (by omega),bm,he,lx (by simp),bm,hcb]
  generalize ct c s=q at hc ⊢
  have hm:0≤(q:Int)*((l.length:Int) - 1)∧(q:Int)*((l.length:Int) - 1)≤100000*5:=by
    refine ⟨Int.mul_nonneg (by omega) (by omega),?_⟩;exact Int.mul_le_mul (by omega) (by omega) (by omega) (by omega)
  by_cases h0:q=0
  · rw [h0,decide_eq_true (show ((0:Nat):Int)=0 from rfl),Bool.not_true,cond_false,bD (by omega),bx]
    rw [decide_eq_false (show ¬ 0 < 0 by omega),Bool.or_false]
    have:n+((0:Nat):Int)*((l.length:Int) - 1)=n:=by simp
    rw [this]
  · have a0:at_ [c] 0=c:=rfl
    rw [decide_eq_false (show ¬ ((q:Int)=0) by omega),Bool.not_false,cond_true,bR (by simp),bm,a0,bR (by omega),bm,yL,ht]
    have e:(Option.getD (some l) []:Bs)=l:=rfl
    rw [e,bD (by omega),bD (by omega),bD (by omega),bD (by omega),bx,decide_eq_true (show 0 < q by omega),Bool.or_true]
theorem long_end (F:Nat) (s:Bs) (k:Nat) (n:Int) (an:Bool):da F s (k+1) (n,an,((4:Nat):Int))=eh F s n an:=by
  show fU F s (da F s k) n an ((4:Nat):Int)=_
  unfold fU
  have h4:entRep.length=4:=rfl
  rw [bF (by omega)]
theorem rep_eq (F:Nat) (hF:110000 < F) (s:Bs) (hs:s.length≤100000):iO F s=some (enc s):=by
  have h4:entRep.length=4:=rfl
  unfold iO
  rw [bD (by omega)]
  by_cases hL:(entRep.length:Int)*8≤(s.length:Int)
  · rw [bT hL]
    obtain ⟨k,hk⟩:∃ k,F=k+1+1+1+1+1:=⟨F - 5,by omega⟩
    have c1:ct 34 s≤s.length:=List.count_le_length
    have c2:ct 62 s≤s.length:=List.count_le_length
    have c3:ct 60 s≤s.length:=List.count_le_length
    have e0:da F s F ((s.length:Int),false,0)=da F s (k+1+1+1+1+1) ((s.length:Int),false,((0:Nat):Int)):=by rw [← hk]; rfl
    rw [e0,oX F s hs _ 0 34 [38,113,117,111,116,59] _ _ (by omega) rfl rfl (by decide) (by omega),oX F s hs _ 1 62 [38,103,116,59] _ _ (by omega) rfl rfl (by decide) (by simp; omega),
      oX F s hs _ 2 60 [38,108,116,59] _ _ (by omega) rfl rfl (by decide) (by simp; omega),oX F s hs _ 3 38 [38,97,109,112,59] _ _ (by omega) rfl rfl (by decide) (by simp; omega)]
    refine (long_end F s k _ _).trans ?_;obtain ⟨t1,t2⟩:=tots s
    have:=j3_eq F s hs hF
    rw [t1,t2] at this
    rw [← this]
    have ea:((((false||decide (0 < ct 34 s))||decide (0 < ct 62 s))||decide (0 < ct 60 s))||decide (0 < ct 38 s))=decide (0 < ct 34 s+ct 62 s+ct 60 s+ct 38 s):=by
      rw [Bool.eq_iff_iff]
      simp only [Bool.false_or,Bool.or_eq_true,decide_eq_true_iff]
      omega
    rw [ea]
    congr 1
    simp
    omega
  · rw [bF hL]
    have:=xZ F hF s hs F 0 (s.length:Int) false (by omega) (by omega) (by omega)
    refine Eq.trans this ?_
    rw [List.drop_zero,Bool.false_or]
    exact j3_eq F s hs hF
theorem Ag (s:Bs) (hs:s.length≤100000):∀ (k i:Nat) (out:Bs),s.length - i < k→i≤s.length→out.length≤6*i →
    dP s k (out,(i:Int))=some (out++enc (s.drop i)):=by
  intro k
  induction k with
  | zero=>intro i out h; omega
  | succ k ih =>
    intro i out hk hi ho;show gR s (dP s k) out (i:Int)=_
    unfold gR gQ dA
    by_cases h:i < s.length
    · have hd:s.drop i=s[i]::s.drop (i+1):=aB h
      have go:∀ w:Bs,e1 s[i]=w→w.length≤6→dP s k (out++w,((i+1:Nat):Int))=some (out++enc (s.drop i)):=by
        intro w hw hl
        rw [ih (i+1) (out++w) (by omega) (by omega) (by simp; omega),hd,oK,hw]; simp
      rw [bT (by omega),bR (by omega),bm,cF h]
      by_cases h1:s[i]=38
      · rw [bT h1,cc (by simp; omega),bm,bD (by omega),bx]
        exact go _ (by rw [h1]; rfl) (by decide)
      rw [bF h1]
      by_cases h2:s[i]=60
      · rw [bT h2,cc (by simp; omega),bm,bD (by omega),bx]
        exact go _ (by rw [h2]; rfl) (by decide)
      rw [bF h2]
      by_cases h3:s[i]=62
      · rw [bT h3,cc (by simp; omega),bm,bD (by omega),bx]
        exact go _ (by rw [h3]; rfl) (by decide)
      rw [bF h3]
      by_cases h4:s[i]=34
      · rw [bT h4,cc (by simp; omega),bm,bD (by omega),bx]
        exact go _ (by rw [h4]; rfl) (by decide)
      rw [bF h4,bR (by omega),bm,cc (by simp; omega),bm,bD (by omega),bx]
      exact go [s[i]] (by unfold e1; rw [tab_no h1 h2 h3 h4]; rfl) (by simp)
    · have hd:s.drop i=[]:=aM (by omega)
      rw [bF (by omega),hd]; simp [enc]
theorem renc_eq (F:Nat) (hF:110000 < F) (s:Bs) (hs:s.length≤100000):iX F s=some (enc s):=by
  have:=Ag s hs F 0 [] (by omega) (by omega) (by simp)
  unfold iX
  simpa using this
end Go.Pn
namespace Go.Xm
open Go.Pv Go.Av
open Go.Pn (enc)
def wtA:List At→Nat
  | []=>0
  | a::r=>a.1.length+a.2.length+1+wtA r
def wtT (t:Tok):Nat:=t.2.1.length+t.2.2.1.length+wtA t.2.2.2+1
def wt:List Tok→Nat
  | []=>0
  | t::r=>wtT t+wt r
theorem yT:∀ a b:List At,wtA (a++b)=wtA a+wtA b
  | [],b=>by simp [wtA]
  | x::a,b=>by rw [List.cons_append,wtA,wtA,yT a b]; omega
theorem wt_app:∀ a b:List Tok,wt (a++b)=wt a+wt b
  | [],b=>by simp [wt]
  | x::a,b=>by rw [List.cons_append,wt,wt,wt_app a b]; omega
theorem pg:∀ a:List At,a.length≤wtA a
  | []=>Nat.le_refl _
  | x::a=>by have:=pg a; rw [List.length_cons,wtA]; omega
theorem rJ:∀ a:List Tok,a.length≤wt a
  | []=>Nat.le_refl _
  | x::a=>by have:=rJ a; rw [List.length_cons,wt,wtT]; omega
theorem yS {l:List Tok} {i:Nat} (h:i < l.length):wt (l.drop i)=wtT l[i]+wt (l.drop (i+1)):=by rw [aB h,wt]
theorem wZ {l:List At} {i:Nat} (h:i < l.length):wtA (l.drop i)=l[i].1.length+l[i].2.length+1+wtA (l.drop (i+1)):=by rw [aB h,wtA]
theorem yR (l:List Tok) (i:Nat):wt (l.take i)+wt (l.drop i)=wt l:=by
  rw [← wt_app,List.take_append_drop]
theorem wY (l:List At) (i:Nat):wtA (l.take i)+wtA (l.drop i)=wtA l:=by
  rw [← yT,List.take_append_drop]
theorem wt_mem:∀ {l:List Tok} {t:Tok},t∈l→wtT t≤wt l
  | x::l,t,h=>by
    rw [wt]
    rcases List.mem_cons.1 h with h | h
    · subst h; omega
    · have:=wt_mem h; omega
theorem wt_ats {l:List Tok}:AtS l (wt l):=fun t h=>by
  have:=wt_mem h
  have:=pg t.2.2.2
  unfold wtT at *
  omega
abbrev wrO (l:List Tok):Bs:=wr enc l
theorem tz:∀ l:List Tok,(wrO l).length≤6*wt l
  | []=>by simp [wr]
  | t::r=>by
    have ih:=tz r
    have ha:∀ as_:List At,((as_.map (wrA enc)).flatten).length≤6*wtA as_:=fun as_=>by
      induction as_ with
      | nil=>simp
      | cons a as_ iha =>
        have:=(Go.Pn.enc_len a.2).2
        have hA:(wrA enc a).length≤6*(a.1.length+a.2.length+1):=by
          unfold wrA
          simp only [List.length_append,List.length_singleton,List.length_cons,List.length_nil]
          omega
        rw [List.map_cons,List.flatten_cons,List.length_append,wtA]
        omega
    have h1:=ha t.2.2.2
    have h2:=(Go.Pn.enc_len t.2.2.1).2
    have ht:(wrT enc t).length≤6*wtT t:=by
      unfold wrT wtT
      split
      · simp only [List.length_append,List.length_singleton]; omega
      · split
        · simp only [List.length_append,List.length_singleton,List.length_cons,List.length_nil]; omega
        · omega
    unfold wrO wr at ih ⊢
    rw [List.map_cons,List.flatten_cons,List.length_append,wt]
    omega
theorem yU (l:List Tok) (i:Nat) (h:i < l.length):wrO (l.take (i+1))=wrO (l.take i)++wrT enc l[i]:=by
  unfold wrO wr
  rw [List.take_succ_eq_append_getElem h,List.map_append,List.flatten_append]
  simp
theorem grd_W {α:Type} {k:Option α} {l s:Bs} (h:l.length+s.length≤1000000000):grd (okW l s) k=k:=by
  unfold okW; rw [lx h]
section
variable {F:Nat} (hF:1500000 < F)
include hF
def wrR (F:Nat) (l:List Tok) (w:Bs):Bs×Int:=if w.length≤100000∧pO (dec F) w=(l,0) then (w,0) else ([],1)
theorem wr_j1 (l:List Tok) (w:Bs) (hw:w.length≤10000000) (hl:wt l≤1000000):jY F l w=some (wrR F l w):=by
  unfold jY wrR
  rw [grd_W (by simp; omega),cc (by omega)]
  by_cases h:w.length≤100000
  · rw [tok_eq hF h,show pO (dec F) w=((pO (dec F) w).1,(pO (dec F) w).2) from rfl,br]
    rw [zJ F _ _ (by have:=yX (d:=dec F) h; omega) (fun t ht=>Nat.le_trans (yY (Nat.le_refl _) t ht) (by omega)) (by omega),jc]
    by_cases e:(pO (dec F) w).2=0
    · rw [decide_eq_true e,oL,ns,dr]
      by_cases g:(pO (dec F) w).1=l
      · rw [decide_eq_true g,oL,Bool.or_self,cJ,if_pos ⟨h,by rw [← g,← e]⟩]
      · rw [decide_eq_false g,ns,Bool.false_or,dr,if_neg fun q=>g (congrArg Prod.fst q.2)]
    · rw [decide_eq_false e,ns,oL,Bool.true_or,dr,if_neg fun q=>e (congrArg Prod.snd q.2)]
  · rw [tok_over (by omega),br]
    rw [decide_eq_false (p:=(4:Int)=0) (by decide),ns,oL,mg,Bool.true_or,dr,if_neg fun q=>h q.1]
theorem wr_in (l:List Tok) (i:Nat) (hi:i < l.length) (hl:wtT l[i]≤100000) (hi2:l.length≤1000000) (rec11:Int×Bs→Option (Bs×Int)):∀ (n j:Nat) (w:Bs),l[i].2.2.2.length - j < n→j≤l[i].2.2.2.length→w.length+6*wtA (l[i].2.2.2.drop j)≤10000000 →
    ld F (i:Int) l[i] rec11 n ((j:Int),w)=fP (i:Int) rec11 (w++((l[i].2.2.2.drop j).map (wrA enc)).flatten++[62])
  | 0,j,w,h,_,_=>by omega
  | n+1,j,w,h,hj,hw=>by
    have hb:=hl
    have hb2:=pg l[i].2.2.2
    unfold wtT at hb
    show lg F (i:Int) l[i] rec11 (ld F (i:Int) l[i] rec11 n) (j:Int) w=_
    unfold lg
    by_cases g:j < l[i].2.2.2.length
    · have hd:=wZ g
      have ht:=wY l[i].2.2.2 j
      have he:=(Go.Pn.enc_len l[i].2.2.2[j].2).2
      rw [bT (by omega),bR (by omega),bm,cF g,cc (by simp; omega),bm,cc (by simp; omega),bm,Go.Pn.rep_eq F (by omega) _ (by omega),bb,cc (by simp; omega),bm,cc (by simp; omega),bm,
        grd_W (by simp; omega),bm,bD (by omega),bx,wr_in l i hi hl hi2 rec11 n (j+1) _ (by omega) (by omega) (by simp; omega),aB g,List.map_cons,List.flatten_cons]
      unfold wrA
      simp
    · rw [bF (by omega),aM (by omega)]
      unfold lc
      rw [grd_W (by simp; omega),bm]
      simp
theorem yV (l:List Tok) (hl:wt l≤1000000) (hM:∀ t∈l,wtT t≤100000):∀ (n i:Nat),l.length - i < n→i≤l.length→dq F l n ((i:Int),wrO (l.take i))=some (wrR F l (wrO l))
  | 0,i,h,_=>by omega
  | n+1,i,h,hi=>by
    have hll:=rJ l
    have hk:=tz (l.take i)
    have hk2:=yR l i
    show lf F l (dq F l n) (i:Int) (wrO (l.take i))=_
    unfold lf
    by_cases g:i < l.length
    · have hd:=yS g
      have hb:wtT l[i]=l[i].2.1.length+l[i].2.2.1.length+wtA l[i].2.2.2+1:=rfl
      have he:=(Go.Pn.enc_len l[i].2.2.1).2
      have hm:=hM _ (List.getElem_mem g)
      have ih:=yV l hl hM n (i+1) (by omega) (by omega)
      have go:∀ w:Bs,w=wrO (l.take i)++wrT enc l[i]→fP (i:Int) (dq F l n) w=some (wrR F l (wrO l)):=fun w e=>by
        unfold fP
        rw [bD (by omega),bx,e,← yU l i g]
        exact ih
      rw [bT (by omega),bR (by omega),bm,cF g]
      by_cases k0:l[i].1=0
      · rw [bT k0,cc (by simp; omega),bm,grd_W (by simp; omega),bm]
        have:=pg l[i].2.2.2
        have h1:=wr_in hF l i g hm (by omega) (dq F l n) F 0 (wrO (l.take i)++([60]++l[i].2.1)) (by omega) (by omega) (by simp; omega)
        refine Eq.trans h1 (go _ ?_)
        unfold wrT
        rw [if_pos k0,List.drop_zero]
        simp
      · rw [bF k0]
        by_cases k1:l[i].1=1
        · rw [bT k1,cc (by simp; omega),bm,cc (by simp; omega),bm,grd_W (by simp; omega),bm]
          refine go _ ?_
          unfold wrT
          rw [if_neg k0,if_pos k1]
        · rw [bF k1,Go.Pn.rep_eq F (by omega) _ (by omega),bb,grd_W (by omega),bm]
          refine go _ ?_
          unfold wrT
          rw [if_neg k0,if_neg k1]
    · have e:l.take i=l:=List.take_of_length_le (by omega)
      rw [bF (by omega),e]
      exact wr_j1 hF l _ (by have:=tz l; omega) hl
theorem Write_eq (l:List Tok) (hl:wt l≤1000000) (hM:∀ t∈l,wtT t≤100000):qn F l=some (wrR F l (wrO l)):=by
  have:=rJ l
  exact yV hF l hl hM F 0 (by omega) (by omega)
end
def fewA (as_:List At):Bool:=as_.all fun a=>decide (a.1.length≤200)&&decide (a.2.length≤200)
theorem Aq (a:At) (r:List At):fewA (a::r)=((decide (a.1.length≤200)&&decide (a.2.length≤200))&&fewA r):=Eq.symm (Eq.symm rfl)
theorem fewA_nil:fewA []=true:=Eq.symm (Eq.symm rfl)
def fewT (t:Tok):Bool:=((decide (t.2.1.length≤200)&&decide (t.2.2.1.length≤200))&&decide (t.2.2.2.length≤10))&&fewA t.2.2.2
theorem few_in (F:Nat) (l:List Tok) (i:Nat) (hi:i < l.length) (h10:l[i].2.2.2.length≤10) (rec7:Int→Option Bool):∀ (n j:Nat),l[i].2.2.2.length - j < n→j≤l[i].2.2.2.length →
    kw l (i:Int) rec7 n (j:Int)=bif fewA (l[i].2.2.2.drop j) then ja (i:Int) rec7 else some false
  | 0,j,h,_=>by omega
  | n+1,j,h,hj=>by
    show ky l (i:Int) rec7 (kw l (i:Int) rec7 n) (j:Int)=_
    unfold ky
    rw [bR (by omega),bm,cF hi]
    by_cases g:j < l[i].2.2.2.length
    · rw [bT (by omega),bR (by omega),bm,bR (by omega),bm,mQ (fun _=>by omega),bm,mQ (fun _=>by omega),bm,cF g,aB g,Aq]
      by_cases c1:l[i].2.2.2[j].1.length≤200
      · by_cases c2:l[i].2.2.2[j].2.length≤200
        · rw [decide_eq_true c1,decide_eq_true c2,decide_eq_false (p:=(200:Int) < (l[i].2.2.2[j].1.length:Int)) (by omega),decide_eq_false (p:=(200:Int) < (l[i].2.2.2[j].2.length:Int)) (by omega),Bool.or_self,cJ,bD (by omega),bx,few_in F l i hi h10 rec7 n (j+1) (by omega) (by omega),Bool.true_and,Bool.true_and]
        · rw [decide_eq_false c2,decide_eq_true (p:=(200:Int) < (l[i].2.2.2[j].2.length:Int)) (by omega),Bool.or_true,dr,Bool.and_false,Bool.false_and,cJ]
      · rw [decide_eq_false c1,decide_eq_true (p:=(200:Int) < (l[i].2.2.2[j].1.length:Int)) (by omega),Bool.true_or,dr,Bool.false_and,Bool.false_and,cJ]
    · rw [bF (by omega),aM (by omega),fewA_nil,dr]
theorem xE (F:Nat) (hF:1500000 < F) (l:List Tok) (hl:l.length≤40):∀ (n i:Nat),l.length - i < n→i≤l.length→dB F l n (i:Int)=some ((l.drop i).all fewT)
  | 0,i,h,_=>by omega
  | n+1,i,h,hi=>by
    show kx F l (dB F l n) (i:Int)=_
    unfold kx
    by_cases g:i < l.length
    · have ih:=xE F hF l hl n (i+1) (by omega) (by omega)
      rw [bT (by omega),bR (by omega),bm,mQ (fun _=>by omega),bm,mQ (fun _=>by omega),bm,cF g,aB g,List.all_cons]
      unfold fewT
      by_cases c1:l[i].2.1.length≤200
      · by_cases c2:l[i].2.2.1.length≤200
        · by_cases c3:l[i].2.2.2.length≤10
          · rw [decide_eq_true c1,decide_eq_true c2,decide_eq_true c3,decide_eq_false (p:=(200:Int) < (l[i].2.1.length:Int)) (by omega),decide_eq_false (p:=(200:Int) < (l[i].2.2.1.length:Int)) (by omega),decide_eq_false (p:=(10:Int) < (l[i].2.2.2.length:Int)) (by omega),Bool.or_self,Bool.or_self,cJ]
            have:=few_in F l i g c3 (dB F l n) F 0 (by omega) (by omega)
            refine Eq.trans this ?_
            rw [List.drop_zero,Bool.and_self,Bool.and_self,Bool.true_and]
            cases fewA l[i].2.2.2 with
            | false=>rw [cJ,Bool.false_and]
            | true =>
              rw [dr,Bool.true_and]
              unfold ja
              rw [bD (by omega),bx,ih]
              rfl
          · rw [decide_eq_false c3,decide_eq_true (p:=(10:Int) < (l[i].2.2.2.length:Int)) (by omega),Bool.or_true,dr,Bool.and_false,Bool.false_and,Bool.false_and]
        · rw [decide_eq_false c2,decide_eq_true (p:=(200:Int) < (l[i].2.2.1.length:Int)) (by omega),Bool.or_true,Bool.true_or,dr,Bool.and_false,Bool.false_and,Bool.false_and,Bool.false_and]
      · rw [decide_eq_false c1,decide_eq_true (p:=(200:Int) < (l[i].2.1.length:Int)) (by omega),Bool.true_or,Bool.true_or,dr,Bool.false_and,Bool.false_and,Bool.false_and,Bool.false_and]
    · rw [bF (by omega),aM (by omega)]; rfl
theorem zy:∀ {as_:List At},fewA as_=true→wtA as_≤401*as_.length
  | [],_=>by simp [wtA]
  | a::as_,h=>by
    unfold fewA at h
    rw [List.all_cons] at h
    obtain ⟨h1,h2⟩:=ands h;obtain ⟨h3,h4⟩:=ands h1
    have:=zy (as_:=as_) h2
    have:=of_decide_eq_true h3
    have:=of_decide_eq_true h4
    rw [wtA,List.length_cons]
    omega
theorem yO:∀ {l:List Tok},l.all fewT=true→wt l≤5000*l.length
  | [],_=>by simp [wt]
  | t::l,h=>by
    rw [List.all_cons] at h
    obtain ⟨h1,h2⟩:=ands h
    unfold fewT at h1
    obtain ⟨h3,h4⟩:=ands h1;obtain ⟨h5,h6⟩:=ands h3;obtain ⟨h7,h8⟩:=ands h5
    have:=yO (l:=l) h2
    have:=zy h4
    have:=of_decide_eq_true h6
    have:=of_decide_eq_true h7
    have:=of_decide_eq_true h8
    rw [wt,wtT,List.length_cons]
    omega
theorem yP (F:Nat) (hF:1500000 < F) (l:List Tok):kN F l 40=some true∧(wt l≤200000∧∀ t∈l,wtT t≤100000)∨kN F l 40=some false:=by
  unfold kN
  by_cases h:l.length≤40
  · rw [bF (by omega)]
    have e:dB F l F 0=some ((l.drop 0).all fewT):=xE F hF l h F 0 (by omega) (by omega)
    rw [e,List.drop_zero]
    cases g:l.all fewT with
    | true =>
      left
      have:=yO g
      refine ⟨rfl,by omega,fun t ht=>?_⟩
      have h1:=yO (l:=[t]) (by rw [List.all_cons,List.all_nil,Bool.and_true]; exact List.all_eq_true.1 g t ht)
      rw [wt,List.length_singleton] at h1
      omega
    | false=>right; rfl
  · right; rw [bT (by omega)]
end Go.Xm
