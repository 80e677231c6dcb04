/-
  Texts in one (only what XmlWrites needs): EntBW, XmlAP, XmlAW, XmlBP, XmlBW, XmlLP, XmlLW, RefEP.
-/
import Derived.Test.YteokdkimegepoaaGreatDoorZXmlWrites2
import Derived.Test.YteokdkimegepoaaGreatDoorShelf
import Derived.Lib.ItoaNum
import Derived.Lib.IndexLaws
import Derived.Test.YteokdkimegepoaaGreatDoorChecked
set_option linter.unusedVariables false
set_option linter.unusedSimpArgs false
set_option linter.unusedSectionVars false
namespace Go.Proofs.YteokdkimegepoaaGreatDoor
open Go.RowKit Go.Av Go.Pv
theorem ra:∀ (args:Array Value) (w:World),(callFunc 28 args).run Tryz.prog w=.ok (.enter 28 args) w:=fun _ _=>by kernel_rfl
theorem AZ:∀ (args:Array Value) (w:World),(callFunc 30 args).run Tryz.prog w=.ok (.enter 30 args) w:=fun _ _=>by kernel_rfl
theorem AJ:∀ (args:Array Value) (w:World),(callFunc 62 args).run Tryz.prog w=.ok (.enter 62 args) w:=fun _ _=>by kernel_rfl
theorem uN:∀ (args:Array Value) (w:World),(callFunc 93 args).run Tryz.prog w=.ok (.enter 93 args) w:=fun _ _=>by kernel_rfl
theorem yG:∀ (args:Array Value) (w:World),(callFunc 108 args).run Tryz.prog w=.ok (.enter 108 args) w:=fun _ _=>by kernel_rfl
theorem yD:∀ (args:Array Value) (w:World),(callFunc 122 args).run Tryz.prog w=.ok (.enter 122 args) w:=fun _ _=>by kernel_rfl
theorem yB:∀ (args:Array Value) (w:World),(callFunc 133 args).run Tryz.prog w=.ok (.enter 133 args) w:=fun _ _=>by kernel_rfl
theorem nD:∀ (args:Array Value) (w:World),(callFunc 134 args).run Tryz.prog w=.ok (.enter 134 args) w:=fun _ _=>by kernel_rfl
theorem yA:∀ (args:Array Value) (w:World),(callFunc 135 args).run Tryz.prog w=.ok (.enter 135 args) w:=fun _ _=>by kernel_rfl
theorem yy:∀ (args:Array Value) (w:World),(callFunc 149 args).run Tryz.prog w=.ok (.enter 149 args) w:=fun _ _=>by kernel_rfl
theorem te:∀ (args:Array Value) (w:World),(callFunc 150 args).run Tryz.prog w=.ok (.enter 150 args) w:=fun _ _=>by kernel_rfl
theorem yx:∀ (args:Array Value) (w:World),(callFunc 158 args).run Tryz.prog w=.ok (.enter 158 args) w:=fun _ _=>by kernel_rfl
theorem yw:∀ (args:Array Value) (w:World),(callFunc 159 args).run Tryz.prog w=.ok (.enter 159 args) w:=fun _ _=>by kernel_rfl
theorem yv:∀ (args:Array Value) (w:World),(callFunc 160 args).run Tryz.prog w=.ok (.enter 160 args) w:=fun _ _=>by kernel_rfl
set_option maxRecDepth 100000 in
set_option maxHeartbeats 1000000 in
theorem xW (F:Nat) (a1:Int) (r2:List UInt8) (r3:Bool) (H:kA F a1=some (r2,r3)):ACalls Tryz.prog 160 [i64 a1] [] (Ret (.tup [S r2,B r3]) []):=by
 unfold kA at H
 refine az Tryz.func160 rfl rfl ?_;show AW _ _ 35 _ _ _;refine ac<|aa ?_;show AR _ _ _ _ _ [0,1] _;refine za rfl<|za rfl<|ag<|ac<|aa ?_;show AR _ _ _ _ _ [0,1,2,3,4,5,6,7,8,9,10] _;refine zm rfl<|zS rfl (bI rfl rfl)<|zm rfl<|bk (l:=[6,7,8,9,10]) 10 (B ((decide (a1=9))||(decide (a1=10)))) (fun K=>?_) ?_
 ·rcases ap (decide (a1=9)) with h4 | h4
  ·refine zF h4 rfl<|zF h4 rfl<|zS rfl (aD (av:=.v _) rfl h4 rfl) ?_;exact K _ 2 _ (aw (ii h4)) rfl rfl
  ·refine zM h4 rfl<|zU h4 rfl (bI rfl rfl)<|zS rfl (aF (av:=.v _) rfl h4 rfl) ?_;exact K _ 2 _ (aw (ie h4)) rfl rfl
 refine zm rfl<|bk (l:=[10]) 14 (B (((decide (a1=9))||(decide (a1=10)))||(decide (a1=13)))) (fun K=>?_) ?_
 ·rcases ap ((decide (a1=9))||(decide (a1=10))) with h5 | h5
  ·refine zF h5 rfl<|zF h5 rfl<|zS rfl (aD (av:=.v _) rfl h5 rfl) ?_;exact K _ 2 _ (aw (ii h5)) rfl rfl
  ·refine zM h5 rfl<|zU h5 rfl (bI rfl rfl)<|zS rfl (aF (av:=.v _) rfl h5 rfl) ?_;exact K _ 2 _ (aw (ie h5)) rfl rfl
 refine za rfl<|ag<|ac<|ac ?_;obtain ⟨x7,e8,H⟩:=fZ H;obtain ⟨x10,e11,H⟩:=fZ H;obtain ⟨x13,e14,H⟩:=fZ H;refine aa ?_;show AR _ _ _ _ _ [0,1,2,3,4,5,6,7,8,9,10,11,12,13,14,15,16] _;refine zm rfl<|zS rfl (ca rfl)<|zm rfl<|bk (l:=[7,8,9,10,11,12,13,14,15,16]) 21 (B ((!(((decide (a1=9))||(decide (a1=10)))||(decide (a1=13))))&&(!x7))) (fun K=>?_) ?_
 ·rcases ap (!(((decide (a1=9))||(decide (a1=10)))||(decide (a1=13)))) with h6 | h6
  ·refine zM h6 rfl<|zT h6 rfl (aX rfl nD rfl (qp F a1 32 55295 x7 (e8 h6)) ?_);refine zU h6 rfl (ca rfl)<|zS rfl (aD (av:=.v _) rfl h6 rfl) ?_;exact K _ 3 _ (aw (cd h6)) rfl rfl
  ·refine zF h6 rfl<|zF h6 rfl<|zF h6 rfl<|zS rfl (aF (av:=.v _) rfl h6 rfl) ?_;exact K _ 3 _ (aw (cq h6)) rfl rfl
 refine zm rfl<|bk (l:=[12,13,14,15,16]) 26 (B (((!(((decide (a1=9))||(decide (a1=10)))||(decide (a1=13))))&&(!x7))&&(!x10))) (fun K=>?_) ?_
 ·rcases ap ((!(((decide (a1=9))||(decide (a1=10)))||(decide (a1=13))))&&(!x7)) with h9 | h9
  ·refine zM h9 rfl<|zT h9 rfl (aX rfl nD rfl (qp F a1 57344 65533 x10 (e11 h9)) ?_);refine zU h9 rfl (ca rfl)<|zS rfl (aD (av:=.v _) rfl h9 rfl) ?_;exact K _ 3 _ (aw (cd h9)) rfl rfl
  ·refine zF h9 rfl<|zF h9 rfl<|zF h9 rfl<|zS rfl (aF (av:=.v _) rfl h9 rfl) ?_;exact K _ 3 _ (aw (cq h9)) rfl rfl
 refine zm rfl<|bk (l:=[]) 31 (B ((((!(((decide (a1=9))||(decide (a1=10)))||(decide (a1=13))))&&(!x7))&&(!x10))&&(!x13))) (fun K=>?_) ?_
 ·rcases ap (((!(((decide (a1=9))||(decide (a1=10)))||(decide (a1=13))))&&(!x7))&&(!x10)) with h12 | h12
  ·refine zM h12 rfl<|zT h12 rfl (aX rfl nD rfl (qp F a1 65536 1114111 x13 (e14 h12)) ?_);refine zU h12 rfl (ca rfl)<|zS rfl (aD (av:=.v _) rfl h12 rfl) ?_;exact K _ 3 _ (aw (cd h12)) rfl rfl
  ·refine zF h12 rfl<|zF h12 rfl<|zF h12 rfl<|zS rfl (aF (av:=.v _) rfl h12 rfl) ?_;exact K _ 3 _ (aw (cq h12)) rfl rfl
 refine ag<|ax rfl (fun c15=>?_) (fun c15=>?_)
 ·replace H:=be c15 H;refine ac<|aa ?_;show AR _ _ _ _ _ [0,1] _;refine za rfl<|za rfl<|ag<|aQ ?_;obtain ⟨rfl,rfl⟩:=ek H;exact And.intro rfl (Exists.intro _ (Exists.intro _ ⟨bt rfl (.refl _) (.refl _),aK [] rfl,rfl,rfl⟩))
 ·replace H:=bf c15 H;refine aC<|ac ?_;obtain ⟨g16,H⟩:=aI H;obtain ⟨x17,e18,H⟩:=bz H;refine aa ?_;show AR _ _ _ _ _ [0,1,2,3,4] _;refine zm rfl<|zS rfl (uI (by kernel_rfl) fL rfl g16)<|zS rfl (pM fL ab rfl e18)<|za rfl<|za rfl<|ag<|aQ ?_;obtain ⟨rfl,rfl⟩:=ek H;exact And.intro rfl (Exists.intro _ (Exists.intro _ ⟨bt rfl (.refl _) (.refl _),aK [] rfl,rfl,rfl⟩))
abbrev _root_.Go.Av.fk := @Tryz.underlying181
set_option maxRecDepth 100000 in
set_option maxHeartbeats 1000000 in
theorem ww (F:Nat) (r1:List (List UInt8×Int)) (H:lR F=some r1):ACalls Tryz.prog 149 [] [] (Ret (mpI .i32 r1) []):=by
 unfold lR at H
 refine az Tryz.func149 rfl rfl ?_;show AW _ _ 3 _ _ _;refine ac<|aa ?_;show AR _ _ _ _ _ [0] _;refine za rfl<|ag<|ac<|aa ?_;show AR _ _ _ _ _ [0,1,2,3,4,5,6,7] _;refine AM.make (k:=.i32) rfl rfl<|AM.insert (s:=([97,109,112]:List UInt8)) rfl fk ab rfl (by decide)<|AM.insert (s:=([108,116]:List UInt8)) rfl fk ab rfl (by decide)<|AM.insert (s:=([103,116]:List UInt8)) rfl fk ab rfl (by decide)<|AM.insert (s:=([113,117,111,116]:List UInt8)) rfl fk ab rfl (by decide)<|AM.insert (s:=([97,112,111,115]:List UInt8)) rfl fk ab rfl (by decide)<|AM.done (es:=([(([97,109,112]:List UInt8),38),(([108,116]:List UInt8),60),(([103,116]:List UInt8),62),(([113,117,111,116]:List UInt8),34),(([97,112,111,115]:List UInt8),39)]:List (List UInt8×Int)))<|zS rfl (ah (av:=mpI _ _) rfl)<|zS rfl (aZ (av:=mpI _ _) rfl)<|ag<|aQ ?_;obtain rfl:=aq H;exact And.intro rfl (Exists.intro _ (Exists.intro _ ⟨aO rfl (.refl _),aK [] rfl,rfl,rfl⟩))
set_option maxRecDepth 100000 in
set_option maxHeartbeats 1000000 in
theorem qa (F:Nat) (a1:List UInt8) (a2:Int) (r3:List UInt8) (r4:Bool) (H:eF F a1 a2=some (r3,r4)):ACalls Tryz.prog 150 [S a1,i64 a2] [] (Ret (.tup [S r3,B r4]) []):=by
 unfold eF at H
 refine az Tryz.func150 rfl rfl ?_;show AW _ _ 41 _ _ _;refine ac<|aa ?_;show AR _ _ _ _ _ [0,1] _;refine za rfl<|za rfl<|ag<|ac<|ac ?_;obtain ⟨g6,H⟩:=cP H;obtain ⟨x7,e8,H⟩:=bz H;obtain ⟨g10,H⟩:=cP H;obtain ⟨x11,e12,H⟩:=bz H;obtain ⟨g14,H⟩:=cP H;obtain ⟨x15,e16,H⟩:=bz H;obtain ⟨x18,e19,H⟩:=fZ H;refine aa ?_;show AR _ _ _ _ _ [0,1,2,3,4,5,6,7,8,9,10,11,12,13,14,15,16,17,18,19,20] _;refine zm rfl<|zS rfl (cD rfl rfl)<|zm rfl<|bk (l:=[7,8,9,10,11,12,13,14,15,16,17,18,19,20]) 14 (B ((decide (a1=([]:List UInt8)))||(decide (x7=43)))) (fun K=>?_) ?_
 ·rcases ap (decide (a1=([]:List UInt8))) with h5 | h5
  ·refine zF h5 rfl<|zF h5 rfl<|zF h5 rfl<|zS rfl (aD (av:=.v _) rfl h5 rfl) ?_;exact K _ 3 _ (aw (ii h5)) rfl rfl
  ·refine zM h5 rfl<|zU h5 rfl (bg ab rfl rfl (g6 (nf h5)) e8)<|zU h5 rfl (eS (a:=x7) (b:=43) rfl rfl)<|zS rfl (aF (av:=.v _) rfl h5 rfl) ?_;exact K _ 3 _ (aw (ie h5)) rfl rfl
 refine zm rfl<|bk (l:=[12,13,14,15,16,17,18,19,20]) 19 (B (((decide (a1=([]:List UInt8)))||(decide (x7=43)))||(decide (x11=45)))) (fun K=>?_) ?_
 ·rcases ap ((decide (a1=([]:List UInt8)))||(decide (x7=43))) with h9 | h9
  ·refine zF h9 rfl<|zF h9 rfl<|zF h9 rfl<|zS rfl (aD (av:=.v _) rfl h9 rfl) ?_;exact K _ 3 _ (aw (ii h9)) rfl rfl
  ·refine zM h9 rfl<|zU h9 rfl (bg ab rfl rfl (g10 (nf h9)) e12)<|zU h9 rfl (eS (a:=x11) (b:=45) rfl rfl)<|zS rfl (aF (av:=.v _) rfl h9 rfl) ?_;exact K _ 3 _ (aw (ie h9)) rfl rfl
 refine zm rfl<|bk (l:=[17,18,19,20]) 24 (B ((((decide (a1=([]:List UInt8)))||(decide (x7=43)))||(decide (x11=45)))||(decide (x15=95)))) (fun K=>?_) ?_
 ·rcases ap (((decide (a1=([]:List UInt8)))||(decide (x7=43)))||(decide (x11=45))) with h13 | h13
  ·refine zF h13 rfl<|zF h13 rfl<|zF h13 rfl<|zS rfl (aD (av:=.v _) rfl h13 rfl) ?_;exact K _ 3 _ (aw (ii h13)) rfl rfl
  ·refine zM h13 rfl<|zU h13 rfl (bg ab rfl rfl (g14 (nf h13)) e16)<|zU h13 rfl (eS (a:=x15) (b:=95) rfl rfl)<|zS rfl (aF (av:=.v _) rfl h13 rfl) ?_;exact K _ 3 _ (aw (ie h13)) rfl rfl
 refine zm rfl<|bk (l:=[]) 28 (B (((((decide (a1=([]:List UInt8)))||(decide (x7=43)))||(decide (x11=45)))||(decide (x15=95)))||x18)) (fun K=>?_) ?_
 ·rcases ap ((((decide (a1=([]:List UInt8)))||(decide (x7=43)))||(decide (x11=45)))||(decide (x15=95))) with h17 | h17
  ·refine zF h17 rfl<|zF h17 rfl<|zS rfl (aD (av:=.v _) rfl h17 rfl) ?_;exact K _ 2 _ (aw (ii h17)) rfl rfl
  ·refine zM h17 rfl<|zT h17 rfl (aX rfl yx rfl (tW F a1 ([95]:List UInt8) x18 (e19 (nf h17))) ?_);refine zS rfl (aF (av:=.v _) rfl h17 rfl) ?_;exact K _ 2 _ (aw (ie h17)) rfl rfl
 refine ag<|ax rfl (fun c20=>?_) (fun c20=>?_)
 ·replace H:=be c20 H;refine ac<|aa ?_;show AR _ _ _ _ _ [0,1] _;refine za rfl<|za rfl<|ag<|aQ ?_;obtain ⟨rfl,rfl⟩:=ek H;exact And.intro rfl (Exists.intro _ (Exists.intro _ ⟨bt rfl (.refl _) (.refl _),aK [] rfl,rfl,rfl⟩))
 ·replace H:=bf c20 H;refine aC<|ac ?_;obtain ⟨x21,x22,e23,H⟩:=dd H;refine aa ?_;show AR _ _ _ _ _ [0,1,2,3,4,5,6,7] _;refine zm rfl<|zm rfl<|ar rfl rfl (aX rfl yw rfl (pC F a1 a2 0 x21 x22 e23) ?_);refine zS rfl (ah (av:=.tup _) rfl)<|zS rfl (ba (av:=.v _) rfl rfl)<|zS rfl (ba (av:=eAny _ _) rfl rfl)<|za rfl<|zS rfl (aZ (av:=eAny _ _) rfl)<|ag<|ac<|ac<|aa ?_;show AR _ _ _ _ _ [0,1] _;refine zS rfl (ah (av:=eAny _ _) rfl)<|zS rfl (yn fK rfl rfl)<|ag<|ax rfl (fun c24=>?_) (fun c24=>?_)
  ·replace H:=be c24 H;refine ac<|aa ?_;show AR _ _ _ _ _ [0,1] _;refine za rfl<|za rfl<|ag<|aQ ?_;obtain ⟨rfl,rfl⟩:=ek H;exact And.intro rfl (Exists.intro _ (Exists.intro _ ⟨bt rfl (.refl _) (.refl _),aK [] rfl,rfl,rfl⟩))
  ·replace H:=bf c24 H;refine aC<|ac ?_;obtain ⟨x25,x26,e27,H⟩:=dd H;refine aa ?_;show AR _ _ _ _ _ [0,1,2,3,4,5] _;refine zm rfl<|ar rfl rfl (aX rfl yv rfl (xW F x21 x25 x26 e27) ?_);refine zS rfl (ba (av:=.v _) rfl rfl)<|zS rfl (ba (av:=.v _) rfl rfl)<|za rfl<|za rfl<|ag<|aQ ?_;obtain ⟨rfl,rfl⟩:=ek H;exact And.intro rfl (Exists.intro _ (Exists.intro _ ⟨bt rfl (.refl _) (.refl _),aK [] rfl,rfl,rfl⟩))
set_option maxRecDepth 100000 in
set_option maxHeartbeats 1000000 in
theorem xU (F:Nat) (a1:List UInt8) (r2:List UInt8) (r3:Bool) (H:jK F a1=some (r2,r3)):ACalls Tryz.prog 135 [S a1] [] (Ret (.tup [S r2,B r3]) []):=by
 unfold jK at H
 refine az Tryz.func135 rfl rfl ?_;show AW _ _ 39 _ _ _;refine ac<|aa ?_;show AR _ _ _ _ _ [0,1] _;refine za rfl<|za rfl<|ag<|ac<|ac ?_;obtain ⟨x4,e5,H⟩:=cm H;refine aa ?_;show AR _ _ _ _ _ [0,1,2,3,4,5,6,7] _;refine ar rfl rfl (aX rfl yy rfl (ww F x4 e5) ?_);refine zm rfl<|zS rfl (Ao fk ab (fun _=>by kernel_rfl) rfl rfl)<|zS rfl (ah (av:=.tup _) rfl)<|zS rfl (ba (av:=.v _) rfl rfl)<|zS rfl (ba (av:=.v _) rfl rfl)<|za rfl<|za rfl<|ag<|ac<|aa ?_;show AR _ _ _ _ _ [0] _;refine zm rfl<|ag<|ax rfl (fun c6=>?_) (fun c6=>?_)
 ·replace H:=be c6 H;refine ac ?_;obtain ⟨x7,e8,H⟩:=bz H;refine aa ?_;show AR _ _ _ _ _ [0,1,2,3] _;refine zm rfl<|zS rfl (pM fL ab rfl e8)<|za rfl<|za rfl<|ag<|aQ ?_;obtain ⟨rfl,rfl⟩:=ek H;exact And.intro rfl (Exists.intro _ (Exists.intro _ ⟨bt rfl (.refl _) (.refl _),aK [] rfl,rfl,rfl⟩))
 ·replace H:=bf c6 H;refine aC<|ac<|ac ?_;obtain ⟨x9,e10,H⟩:=bz H;refine aa ?_;show AR _ _ _ _ _ [0,1,2,3,4,5,6] _;refine zm rfl<|ar rfl rfl (aX rfl uN rfl (show ACalls _ _ _ [] (Ret (.tup [S x9.1,B x9.2]) []) from by subst e10; exact mK a1 ([35,120]:List UInt8)) ?_);refine zS rfl (ah (av:=.tup _) rfl)<|zS rfl (ba (av:=.v _) rfl rfl)<|zS rfl (ba (av:=.v _) rfl rfl)<|za rfl<|za rfl<|ag<|ac<|aa ?_;show AR _ _ _ _ _ [0] _;refine zm rfl<|ag<|ax rfl (fun c11=>?_) (fun c11=>?_)
  ·replace H:=be c11 H;refine ac ?_;obtain ⟨x12,x13,e14,H⟩:=dd H;refine aa ?_;show AR _ _ _ _ _ [0,1,2,3,4,5] _;refine zm rfl<|ar rfl rfl (aX rfl te rfl (qa F x9.1 16 x12 x13 e14) ?_);refine zS rfl (ba (av:=.v _) rfl rfl)<|zS rfl (ba (av:=.v _) rfl rfl)<|za rfl<|za rfl<|ag<|aQ ?_;obtain ⟨rfl,rfl⟩:=ek H;exact And.intro rfl (Exists.intro _ (Exists.intro _ ⟨bt rfl (.refl _) (.refl _),aK [] rfl,rfl,rfl⟩))
  ·replace H:=bf c11 H;refine aC<|ac<|ac ?_;obtain ⟨x15,e16,H⟩:=bz H;refine aa ?_;show AR _ _ _ _ _ [0,1,2,3,4,5,6] _;refine zm rfl<|ar rfl rfl (aX rfl uN rfl (show ACalls _ _ _ [] (Ret (.tup [S x15.1,B x15.2]) []) from by subst e16; exact mK a1 ([35]:List UInt8)) ?_);refine zS rfl (ah (av:=.tup _) rfl)<|zS rfl (ba (av:=.v _) rfl rfl)<|zS rfl (ba (av:=.v _) rfl rfl)<|za rfl<|za rfl<|ag<|ac<|aa ?_;show AR _ _ _ _ _ [0] _;refine zm rfl<|ag<|ax rfl (fun c17=>?_) (fun c17=>?_)
   ·replace H:=be c17 H;refine ac ?_;obtain ⟨x18,x19,e20,H⟩:=dd H;refine aa ?_;show AR _ _ _ _ _ [0,1,2,3,4,5] _;refine zm rfl<|ar rfl rfl (aX rfl te rfl (qa F x15.1 10 x18 x19 e20) ?_);refine zS rfl (ba (av:=.v _) rfl rfl)<|zS rfl (ba (av:=.v _) rfl rfl)<|za rfl<|za rfl<|ag<|aQ ?_;obtain ⟨rfl,rfl⟩:=ek H;exact And.intro rfl (Exists.intro _ (Exists.intro _ ⟨bt rfl (.refl _) (.refl _),aK [] rfl,rfl,rfl⟩))
   ·replace H:=bf c17 H;refine aC<|ac<|aa ?_;show AR _ _ _ _ _ [0,1] _;refine za rfl<|za rfl<|ag<|aQ ?_;obtain ⟨rfl,rfl⟩:=ek H;exact And.intro rfl (Exists.intro _ (Exists.intro _ ⟨bt rfl (.refl _) (.refl _),aK [] rfl,rfl,rfl⟩))
set_option maxRecDepth 100000 in
set_option maxHeartbeats 1000000 in
theorem wx (F:Nat) (a1:List UInt8) (r2:List UInt8) (r3:Int) (H:kP F a1=some (r2,r3)):ACalls Tryz.prog 122 [S a1] [] (Ret (.tup [S r2,i64 r3]) []):=by
 unfold kP at H
 refine az Tryz.func122 rfl rfl ?_;show AW _ _ 33 _ _ _;refine ac<|aa ?_;show AR _ _ _ _ _ [0,1] _;refine za rfl<|za rfl<|ag<|ac ?_;obtain ⟨g4,H⟩:=aI H;obtain ⟨x5,e6,H⟩:=bz H;obtain ⟨g7,H⟩:=aI H;obtain ⟨g8,H⟩:=aI H;obtain ⟨g9,H⟩:=aI H;obtain ⟨x10,e11,H⟩:=cm H;refine aa ?_;show AR _ _ _ _ _ [0,1,2,3] _;refine zm rfl<|zS rfl (ee ab rfl rfl g4 e6)<|ar rfl rfl (aX rfl yB rfl (qf F x5 ([38,59]:List UInt8) x10 g7 g8 g9 e11) ?_);refine za rfl<|ag<|ac<|ac ?_;obtain ⟨x12,e13,H⟩:=cm H;obtain ⟨g15,H⟩:=cP H;obtain ⟨g16,H⟩:=cP H;obtain ⟨x17,e18,H⟩:=bz H;refine aa ?_;show AR _ _ _ _ _ [0,1,2,3,4,5,6,7,8,9] _;refine zm rfl<|ar rfl rfl (aX rfl nD rfl (qp F x10 1 10 x12 e13) ?_);refine zS rfl (ca rfl)<|zm rfl<|bk (l:=[]) 19 (B ((!x12)||(decide (x17=38)))) (fun K=>?_) ?_
 ·rcases ap (!x12) with h14 | h14
  ·refine zF h14 rfl<|zF h14 rfl<|zF h14 rfl<|zF h14 rfl<|zF h14 rfl<|zS rfl (aD (av:=.v _) rfl h14 rfl) ?_;exact K _ 5 _ (aw (ii h14)) rfl rfl
  ·refine zM h14 rfl<|zM h14 rfl<|zU h14 rfl (bB rfl rfl (g15 (nf h14)))<|zU h14 rfl (bg ab rfl rfl (g16 (nf h14)) e18)<|zU h14 rfl (eS (a:=x17) (b:=38) rfl rfl)<|zS rfl (aF (av:=.v _) rfl h14 rfl) ?_;exact K _ 5 _ (aw (ie h14)) rfl rfl
 refine ag<|ax rfl (fun c19=>?_) (fun c19=>?_)
 ·replace H:=be c19 H;refine ac<|aa ?_;show AR _ _ _ _ _ [0,1] _;refine za rfl<|za rfl<|ag<|aQ ?_;obtain ⟨rfl,rfl⟩:=ek H;exact And.intro rfl (Exists.intro _ (Exists.intro _ ⟨bt rfl (.refl _) (.refl _),aK [] rfl,rfl,rfl⟩))
 ·replace H:=bf c19 H;refine aC<|ac ?_;obtain ⟨g20,H⟩:=aI H;obtain ⟨g21,H⟩:=aI H;obtain ⟨x22,e23,H⟩:=bz H;obtain ⟨x24,x25,e26,H⟩:=dd H;refine aa ?_;show AR _ _ _ _ _ [0,1,2,3,4,5,6,7,8,9] _;refine zm rfl<|zm rfl<|zS rfl (bB rfl rfl g20)<|zS rfl (bQ ab rfl rfl rfl g21 e23)<|ar rfl rfl (aX rfl yA rfl (xU F x22 x24 x25 e26) ?_);refine zS rfl (ah (av:=.tup _) rfl)<|zS rfl (ba (av:=.v _) rfl rfl)<|zS rfl (ba (av:=.v _) rfl rfl)<|za rfl<|za rfl<|ag<|ac<|ac<|aa ?_;show AR _ _ _ _ _ [0,1] _;refine zm rfl<|zS rfl (ca rfl)<|ag<|ax rfl (fun c27=>?_) (fun c27=>?_)
  ·replace H:=be c27 H;refine ac<|aa ?_;show AR _ _ _ _ _ [0,1] _;refine za rfl<|za rfl<|ag<|aQ ?_;obtain ⟨rfl,rfl⟩:=ek H;exact And.intro rfl (Exists.intro _ (Exists.intro _ ⟨bt rfl (.refl _) (.refl _),aK [] rfl,rfl,rfl⟩))
  ·replace H:=bf c27 H;refine aC<|ac ?_;obtain ⟨g28,H⟩:=aI H;refine aa ?_;show AR _ _ _ _ _ [0,1,2,3,4] _;refine zm rfl<|zm rfl<|zS rfl (bB rfl rfl g28)<|za rfl<|za rfl<|ag<|aQ ?_;obtain ⟨rfl,rfl⟩:=ek H;exact And.intro rfl (Exists.intro _ (Exists.intro _ ⟨bt rfl (.refl _) (.refl _),aK [] rfl,rfl,rfl⟩))
set_option maxRecDepth 100000 in
set_option maxHeartbeats 1000000 in
theorem xV (F:Nat) (a1:List UInt8) (r2:List UInt8) (r3:Bool) (H:np F a1=some (r2,r3)):ACalls Tryz.prog 108 [S a1] [] (Ret (.tup [S r2,B r3]) []):=by
 unfold np at H
 refine az Tryz.func108 rfl rfl ?_;show AW _ _ 36 _ _ _;refine ac<|aa ?_;show AR _ _ _ _ _ [0,1] _;refine za rfl<|za rfl<|ag<|ac<|aa ?_;show AR _ _ _ _ _ [0] _;refine zX rfl (pJ (zs:=[(.pointer none),.slice none 0 0]) (by kernel_rfl)) ?_;rintro _ _ ⟨o4,rfl,rfl⟩;refine ag ?_
 refine gE 0 1 1 5 rfl rfl fun t5=>?_
 show AW _ _ _ _ _ ⟨_,_,[.tok t5 5,.obj o4 [.v (.pointer none),slE Enc.byte [] (some t5)],.ty o4 60]⟩;refine ac<|aa ?_;show AR _ _ _ _ _ [0] _;refine za rfl<|ag<|aR<|cl (X:=Nat×(List UInt8)×Bool×AV×(List UInt8)×Nat) (fun (n12,y6,y7,t8,y9,t10)=>⟨[(0,S y6),(4,.pt o4 0),(5,B y7)],[],[.obj o4 [t8,slE Enc.byte y9 (some t10)],.ty o4 60,.tok t10 5]⟩) (fun (n12,y6,y7,t8,y9,t10)=>iJ F n12 (y6,y7,y9)=some (r2,r3)∧(t8=.v (.pointer none)∨t8=.pt o4 0)) (fun (n12,y6,y7,t8,y9,t10)=>n12) (F,a1,true,(.v (.pointer none)),[],t5) ⟨H,.inl rfl⟩ (aP [1,1,0] (.cons (.refl _) (.cons (.refl _) (.cons (.refl _) (.nil _)))) rfl) ?_;rintro ⟨n12,y6,y7,t8,y9,t10⟩ ⟨H,ht8⟩;obtain ⟨n12,rfl,H⟩:=cO H;replace H:ls F (iJ F n12) y6 y7 y9=some (r2,r3):=H
 unfold ls at H
 refine aR<|ac ?_;obtain ⟨x13,e14,H⟩:=bz H;refine aa ?_;show AR _ _ _ _ _ [0,1,2] _;refine zm rfl<|ar rfl rfl (aX rfl AJ rfl (show ACalls _ _ _ [] (Ret (i64 x13) []) from by subst e14; exact fY y6 38) ?_);refine za rfl<|ag<|ac<|ac<|aa ?_;show AR _ _ _ _ _ [0,1] _;refine zm rfl<|zS rfl (bN rfl rfl)<|ag<|ax rfl (fun c15=>?_) (fun c15=>?_)
 ·replace H:=be c15 H;refine ac ?_;obtain ⟨g16,H⟩:=aI H;obtain ⟨x17,e18,H⟩:=bz H;refine aa ?_;show AR _ _ _ _ _ [0,1] _;refine zm rfl<|ar rfl rfl (aY [0,0,0] rfl ra rfl (ci  o4 (t8) ht8 y9 y6 t10 (qM g16)) rfl (fun c A' h=>by cases h.1) ?_)
  rintro av A' ⟨h,t19,rfl⟩; cases h
  rw [e18]
  refine ag<|ac ?_;obtain ⟨g20,H⟩:=aI H;refine aa ?_;show AR _ _ _ _ _ [0,1,2,3] _;refine ar rfl rfl (aY [0,1] rfl AZ rfl (lB  o4 (.pt o4 0) x17 t19 (okW0_s g20)) rfl (fun c A' h=>by cases h.1) ?_)
  rintro av A' ⟨h,rfl⟩; cases h
  refine zm rfl<|za rfl<|za rfl<|ag<|aQ ?_;obtain ⟨rfl,rfl⟩:=ek H;exact And.intro rfl (Exists.intro _ (Exists.intro _ ⟨bt rfl (.refl _) (.refl _),aK [] rfl,rfl,rfl⟩))
 ·replace H:=bf c15 H;refine aC<|ac ?_;obtain ⟨g21,H⟩:=aI H;obtain ⟨x22,e23,H⟩:=bz H;obtain ⟨g24,H⟩:=aI H;obtain ⟨x25,e26,H⟩:=bz H;refine aa ?_;show AR _ _ _ _ _ [0,1,2,3] _;refine zm rfl<|zm rfl<|zS rfl (qu ab rfl rfl g21 e23)<|ar rfl rfl (aY [0,0,0] rfl ra rfl (ci  o4 (t8) ht8 y9 x22 t10 (qM g24)) rfl (fun c A' h=>by cases h.1) ?_)
  rintro av A' ⟨h,t27,rfl⟩; cases h
  rw [e26]
  refine ag<|ac ?_;obtain ⟨g28,H⟩:=aI H;obtain ⟨x29,e30,H⟩:=bz H;refine aa ?_;show AR _ _ _ _ _ [0,1,2,3] _;refine zm rfl<|zm rfl<|zS rfl (ee ab rfl rfl g28 e30)<|za rfl<|ag<|ac ?_;obtain ⟨x31,x32,e33,H⟩:=dd H;refine aa ?_;show AR _ _ _ _ _ [0,1,2,3,4,5,6] _;refine zm rfl<|ar rfl rfl (aX rfl yD rfl (wx F x29 x31 x32 e33) ?_);refine zS rfl (ah (av:=.tup _) rfl)<|zS rfl (ba (av:=.v _) rfl rfl)<|zS rfl (ba (av:=.v _) rfl rfl)<|za rfl<|za rfl<|ag<|bq (X:=Bool×(List UInt8)×Int) (fun (y35,y36,y37)=>⟨[(0,S x29),(4,.pt o4 0),(5,B y35),(7,S y36),(8,i64 y37)],[],[.obj o4 [.pt o4 0,slE Enc.byte x25 (some t27)],.ty o4 60,.tok t27 5]⟩) (fun (y35,y36,y37)=>kc (iJ F n12) x25 x29 y35 y36 y37=some (r2,r3)) ?_ ?_
  ·refine ac<|aa ?_;show AR _ _ _ _ _ [0,1] _;refine zm rfl<|zS rfl (bI rfl rfl)<|ag<|ax rfl (fun c34=>?_) (fun c34=>?_)
   ·replace H:=be c34 H;refine aa ?_;show AR _ _ _ _ _ [0,1,2] _;refine za rfl<|za rfl<|za rfl<|ag ?_;exact Exists.intro (false,([38]:List UInt8),1) ⟨H,aP [0,0,0] (.cons (.refl _) (.cons (.refl _) (.cons (.refl _) (.cons (.refl _) (.cons (.refl _) (.nil _)))))) rfl⟩
   ·replace H:=bf c34 H;refine aC ?_;exact Exists.intro (y7,x31,x32) ⟨H,aP [0,0,0] (.cons (.refl _) (.cons (.refl _) (.cons (.refl _) (.cons (.refl _) (.cons (.refl _) (.nil _)))))) rfl⟩
  rintro ⟨y35,y36,y37⟩ H;replace H:kc (iJ F n12) x25 x29 y35 y36 y37=some (r2,r3):=H
  unfold kc at H
  refine ac ?_;obtain ⟨g39,H⟩:=aI H;obtain ⟨x40,e41,H⟩:=bz H;refine aa ?_;show AR _ _ _ _ _ [0,1] _;refine zm rfl<|ar rfl rfl (aY [0,0,0] rfl ra rfl (ci  o4 (.pt o4 0) (.inr rfl) x25 y36 t27 (qM g39)) rfl (fun c A' h=>by cases h.1) ?_)
  rintro av A' ⟨h,t42,rfl⟩; cases h
  rw [e41]
  refine ag ?_;obtain ⟨g43,H⟩:=aI H;obtain ⟨x44,e45,H⟩:=bz H;refine aa ?_;show AR _ _ _ _ _ [0,1,2,3] _;refine zm rfl<|zm rfl<|zS rfl (ee ab rfl rfl g43 e45)<|za rfl<|ag ?_;exact Exists.intro (n12,x44,y35,(.pt o4 0),x40,t42) ⟨⟨H,.inr rfl⟩,Nat.lt_succ_self _,aP [0,0,0] (.cons (.refl _) (.cons (.refl _) (.cons (.refl _) (.nil _)))) rfl⟩
set_option maxRecDepth 100000 in
set_option maxHeartbeats 1000000 in
theorem vB (F:Nat) (a1:List UInt8) (r2:List UInt8) (r3:Int) (H:ma F a1=some (r2,r3)):ACalls Tryz.prog 90 [S a1] [] (Ret (.tup [S r2,i64 r3]) []):=by
 unfold ma at H
 refine az Tryz.func90 rfl rfl ?_;show AW _ _ 14 _ _ _;refine ac<|aa ?_;show AR _ _ _ _ _ [0,1] _;refine za rfl<|za rfl<|ag<|ac ?_;obtain ⟨x4,x5,e6,H⟩:=dd H;refine aa ?_;show AR _ _ _ _ _ [0,1,2,3,4,5,6] _;refine zm rfl<|ar rfl rfl (aX rfl yG rfl (xV F a1 x4 x5 e6) ?_);refine zS rfl (ah (av:=.tup _) rfl)<|zS rfl (ba (av:=.v _) rfl rfl)<|zS rfl (ba (av:=.v _) rfl rfl)<|za rfl<|za rfl<|ag<|ac<|ac<|aa ?_;show AR _ _ _ _ _ [0,1] _;refine zm rfl<|zS rfl (ca rfl)<|ag<|ax rfl (fun c7=>?_) (fun c7=>?_)
 ·replace H:=be c7 H;refine ac<|aa ?_;show AR _ _ _ _ _ [0,1] _;refine za rfl<|za rfl<|ag<|aQ ?_;obtain ⟨rfl,rfl⟩:=ek H;exact And.intro rfl (Exists.intro _ (Exists.intro _ ⟨bt rfl (.refl _) (.refl _),aK [] rfl,rfl,rfl⟩))
 ·replace H:=bf c7 H;refine aC<|ac<|aa ?_;show AR _ _ _ _ _ [0,1,2] _;refine zm rfl<|za rfl<|za rfl<|ag<|aQ ?_;obtain ⟨rfl,rfl⟩:=ek H;exact And.intro rfl (Exists.intro _ (Exists.intro _ ⟨bt rfl (.refl _) (.refl _),aK [] rfl,rfl,rfl⟩))
end Go.Proofs.YteokdkimegepoaaGreatDoor
namespace Go.Pv
def xmla_k1:List UInt8:=[65,66,67,68,69,70,71,72,73,74,75,76,77,78,79,80,81,82,83,84,85,86,87,88,89,90,97,98,99,100,101,102,103,104,105,106,107,108,109,110,111,112,113,114,115,116,117,118,119,120,121,122,95,48,49,50,51,52,53,54,55,56,57,45,46,58]
def xmla_k2:List UInt8:=[65,66,67,68,69,70,71,72,73,74,75,76,77,78,79,80,81,82,83,84,85,86,87,88,89,90,97,98,99,100,101,102,103,104,105,106,107,108,109,110,111,112,113,114,115,116,117,118,119,120,121,122,95]
def ml:Option Bool :=
some true
def lb (a1:List UInt8) (rec4:Int→Option Bool) (y3:Int):Option Bool :=
bif decide (y3 < (a1.length:Int)) then
  grd (co y3 a1.length) <|
  lt (at_ a1 y3) fun x8 =>
  lt (Go.Lib.indexByte xmla_k1 x8) fun x10 =>
  bif decide (x10 < 0) then
    some false
  else
    grd (okI (y3+1)) <|
    rec4 (y3+1)
else
  ml
def la (a1:List UInt8) (n:Nat):Int→Option Bool :=
  loop (fun rec x=>lb a1 rec x) n
def ql (F:Nat) (a1:List UInt8):Option Bool :=
la a1 F 0
def nS (F:Nat) (a1:List UInt8):Option Bool :=
fq ((!decide (a1=([]:List UInt8)))&&(decide ((a1.length:Int)≤60))) (mb 1 a1.length) <|
lt (to_ a1 1) fun x6 =>
fq ((!decide (a1=([]:List UInt8)))&&(decide ((a1.length:Int)≤60))) (okS xmla_k2.length) <|
lt (Go.Lib.contains xmla_k2 x6) fun x9 =>
fq (((!decide (a1=([]:List UInt8)))&&(decide ((a1.length:Int)≤60)))&&x9) (okS a1.length) <|
fq (((!decide (a1=([]:List UInt8)))&&(decide ((a1.length:Int)≤60)))&&x9) (okS xmla_k1.length) <|
fq (((!decide (a1=([]:List UInt8)))&&(decide ((a1.length:Int)≤60)))&&x9) (km xmla_k1) <|
lt (Go.Lib.trimS a1 xmla_k1) fun x15 =>
lL ((((!decide (a1=([]:List UInt8)))&&(decide ((a1.length:Int)≤60)))&&x9)&&(decide (x15=([]:List UInt8)))) (ql F a1) fun x18 =>
some (((((!decide (a1=([]:List UInt8)))&&(decide ((a1.length:Int)≤60)))&&x9)&&(decide (x15=([]:List UInt8))))&&x18)
def di (F:Nat) (a1:Bool):Option (Res Unit) :=
bif !a1 then
  some (Res.pan 2)
else
  some (Res.ok ())
def ga (F:Nat) (a2:List UInt8) (a3:List (List UInt8)) (a5:Int) (a6:List (Int×(List UInt8)×(List UInt8)×List ((List UInt8)×List UInt8))) (a8:List UInt8):Option (Bool×(List UInt8)) :=
lt (Go.Lib.trimPrefix a2 a8,Go.Lib.hasPrefix a2 a8) fun x11 =>
some (x11.2,x11.1)
def jU (F:Nat) (a2:List UInt8) (a3:List (List UInt8)) (a5:Int) (a6:List (Int×(List UInt8)×(List UInt8)×List ((List UInt8)×List UInt8))) (a8:List UInt8):Option (Res ((List UInt8)×(List UInt8))) :=
grd (okS a2.length) <|
lt (Go.Lib.cut a2 a8) fun x12 =>
hZ (di F x12.2.2) fun x14 =>
some (Res.ok (x12.1,x12.2.1))
def lO (F:Nat) (a2:List UInt8) (a3:List (List UInt8)) (a5:Int) (a6:List (Int×(List UInt8)×(List UInt8)×List ((List UInt8)×List UInt8))):Option (Bool×(List UInt8)) :=
grd (okS ([9,10,13,32]:List UInt8).length) <|
grd (km ([9,10,13,32]:List UInt8)) <|
lt (Go.Lib.trimLeftS a2 ([9,10,13,32]:List UInt8)) fun x12 =>
some (decide ((x12.length:Int) < (a2.length:Int)),x12)
def kF (F:Nat) (a2:List UInt8) (y21:Int):Option (Res ((List UInt8)×(List UInt8))) :=
grd (mb y21 a2.length) <|
lt (to_ a2 y21) fun x24 =>
bnd (nS F x24) fun x26 =>
hZ (di F x26) fun x28 =>
grd (mb y21 a2.length) <|
lt (gW a2 y21) fun x32 =>
some (Res.ok (x24,x32))
def lW (F:Nat) (a2:List UInt8) (rec11:Int→Option (Res ((List UInt8)×(List UInt8)))) (y10:Int):Option (Res ((List UInt8)×(List UInt8))) :=
fq (decide (y10 < (a2.length:Int))) (co y10 a2.length) <|
lt (at_ a2 y10) fun x15 =>
lt (Go.Lib.indexByte xmla_k1 x15) fun x17 =>
bif (decide (y10 < (a2.length:Int)))&&(decide (0≤x17)) then
  grd (okI (y10+1)) <|
  rec11 (y10+1)
else
  kF F a2 y10
def lV (F:Nat) (a2:List UInt8) (n:Nat):Int→Option (Res ((List UInt8)×(List UInt8))) :=
  loop (fun rec x=>lW F a2 rec x) n
def mM (F:Nat) (a2:List UInt8) (a3:List (List UInt8)) (a5:Int) (a6:List (Int×(List UInt8)×(List UInt8)×List ((List UInt8)×List UInt8))):Option (Res ((List UInt8)×(List UInt8))) :=
lV F a2 F 0
def ke (F:Nat) (a1:List UInt8):Option (Res ((List UInt8))) :=
iE (ma F a1) fun x3 x4 =>
hZ (di F (decide (x4=0))) fun x6 =>
some (Res.ok x3)
def pf (F:Nat) (a2:List UInt8) (a3:List (List UInt8)) (a5:Int) (a6:List (Int×(List UInt8)×(List UInt8)×List ((List UInt8)×List UInt8))) (a8:List UInt8):Option ((List (Int×(List UInt8)×(List UInt8)×List ((List UInt8)×List UInt8)))) :=
bif !decide (a8=([]:List UInt8)) then
  grd (cI (a6.length+([(2,([]:List UInt8),a8,([]:List ((List UInt8)×List UInt8)))]:List (Int×(List UInt8)×(List UInt8)×List ((List UInt8)×List UInt8))).length)) <|
  lt (a6++([(2,([]:List UInt8),a8,([]:List ((List UInt8)×List UInt8)))]:List (Int×(List UInt8)×(List UInt8)×List ((List UInt8)×List UInt8)))) fun x14 =>
  some x14
else
  some a6
def mL (F:Nat) (a2:List UInt8) (a3:List (List UInt8)) (a5:Int) (a6:List (Int×(List UInt8)×(List UInt8)×List ((List UInt8)×List UInt8))) (a8:List UInt8):Option (Res ((List (Int×(List UInt8)×(List UInt8)×List ((List UInt8)×List UInt8)))×(List (List UInt8)))) :=
grd (okI ((a3.length:Int) - 1)) <|
fq (decide (0≤(a3.length:Int) - 1)) (co ((a3.length:Int) - 1) a3.length) <|
fq (decide (0≤(a3.length:Int) - 1)) (co ((a3.length:Int) - 1) a3.length) <|
lt (at_ a3 ((a3.length:Int) - 1)) fun x17 =>
hZ (di F ((decide (0≤(a3.length:Int) - 1))&&(decide (x17=a8)))) fun x19 =>
grd (mb ((a3.length:Int) - 1) a3.length) <|
lt (to_ a3 ((a3.length:Int) - 1)) fun x23 =>
grd (cI (a6.length+([(1,a8,([]:List UInt8),([]:List ((List UInt8)×List UInt8)))]:List (Int×(List UInt8)×(List UInt8)×List ((List UInt8)×List UInt8))).length)) <|
lt (a6++([(1,a8,([]:List UInt8),([]:List ((List UInt8)×List UInt8)))]:List (Int×(List UInt8)×(List UInt8)×List ((List UInt8)×List UInt8)))) fun x27 =>
some (Res.ok (x27,x23))
def gA (F:Nat) (a2:List UInt8) (a3:List (List UInt8)) (a5:Int) (a6:List (Int×(List UInt8)×(List UInt8)×List ((List UInt8)×List UInt8))) (y15:Int):Option (Res (Bool×(List UInt8)×(List (Int×(List UInt8)×(List UInt8)×List ((List UInt8)×List UInt8))))) :=
bif decide (y15=0) then
  some (Res.ok (false,a2,a6))
else
  grd (mb y15 a2.length) <|
  lt (to_ a2 y15) fun x19 =>
  grd (mb y15 a2.length) <|
  lt (gW a2 y15) fun x22 =>
  hZ (ke F x19) fun x24 =>
  bif decide ((a3.length:Int)=0) then
    bnd (oJ F x19) fun x28 =>
    hZ (di F (decide (x28=([]:List UInt8)))) fun x30 =>
    some (Res.ok (true,x22,a6))
  else
    bnd (pf F x22 a3 a5 a6 x24) fun x33 =>
    some (Res.ok (true,x22,x33))
def kz (F:Nat) (a2:List UInt8) (a3:List (List UInt8)) (a5:Int) (a6:List (Int×(List UInt8)×(List UInt8)×List ((List UInt8)×List UInt8))):Option (Res (Bool×(List UInt8)×(List (Int×(List UInt8)×(List UInt8)×List ((List UInt8)×List UInt8))))) :=
lt (Go.Lib.indexByte a2 60) fun x12 =>
bif decide (x12 < 0) then
  gA F a2 a3 a5 a6 (a2.length:Int)
else
  gA F a2 a3 a5 a6 x12
def kG (F:Nat) (a2:List UInt8) (a3:List (List UInt8)) (a5:Int) (a6:List (Int×(List UInt8)×(List UInt8)×List ((List UInt8)×List UInt8))):Option (Res (Bool×(List UInt8))) :=
iE (ga F a2 a3 a5 a6 ([60,33,45,45]:List UInt8)) fun x10 x11 =>
bif !x10 then
  some (Res.ok (false,x11))
else
  hZ (jU F x11 a3 a5 a6 ([45,45,62]:List UInt8)) fun x14 =>
  some (Res.ok (true,x14.2))
def rI (F:Nat) (a2:List UInt8) (a3:List (List UInt8)) (a5:Int) (a6:List (Int×(List UInt8)×(List UInt8)×List ((List UInt8)×List UInt8))):Option (Res (Bool×(List UInt8))) :=
iE (ga F a2 a3 a5 a6 ([60,63]:List UInt8)) fun x10 x11 =>
bif !x10 then
  some (Res.ok (false,x11))
else
  hZ (jU F x11 a3 a5 a6 ([63,62]:List UInt8)) fun x14 =>
  some (Res.ok (true,x14.2))
def mN (F:Nat) (a2:List UInt8) (a3:List (List UInt8)) (a5:Int) (a6:List (Int×(List UInt8)×(List UInt8)×List ((List UInt8)×List UInt8))):Option (Res (Bool×(List UInt8)×(List (Int×(List UInt8)×(List UInt8)×List ((List UInt8)×List UInt8))))) :=
iE (ga F a2 a3 a5 a6 ([60,33,91,67,68,65,84,65,91]:List UInt8)) fun x12 x13 =>
bif !x12 then
  some (Res.ok (false,x13,a6))
else
  hZ (jU F x13 a3 a5 a6 ([93,93,62]:List UInt8)) fun x16 =>
  hZ (di F (decide (0 < (a3.length:Int)))) fun x19 =>
  bnd (pf F x16.2 a3 a5 a6 x16.1) fun x22 =>
  some (Res.ok (true,x16.2,x22))
def rH (F:Nat) (a2:List UInt8) (a3:List (List UInt8)) (a5:Int) (a6:List (Int×(List UInt8)×(List UInt8)×List ((List UInt8)×List UInt8))):Option (Res (Bool×(List UInt8))) :=
iE (ga F a2 a3 a5 a6 ([60,33]:List UInt8)) fun x10 x11 =>
bif !x10 then
  some (Res.ok (false,x11))
else
  hZ (jU F x11 a3 a5 a6 ([62]:List UInt8)) fun x14 =>
  some (Res.ok (true,x14.2))
def kd (F:Nat) (a2:List UInt8) (a3:List (List UInt8)) (a5:Int) (a6:List (Int×(List UInt8)×(List UInt8)×List ((List UInt8)×List UInt8))):Option (Res (Bool×(List UInt8)×(List (Int×(List UInt8)×(List UInt8)×List ((List UInt8)×List UInt8)))×(List (List UInt8)))) :=
iE (ga F a2 a3 a5 a6 ([60,47]:List UInt8)) fun x14 x15 =>
bif !x14 then
  some (Res.ok (false,x15,a6,a3))
else
  hZ (mM F x15 a3 a5 a6) fun x18 =>
  iE (lO F x18.2 a3 a5 a6) fun x21 x22 =>
  iE (ga F x22 a3 a5 a6 ([62]:List UInt8)) fun x24 x25 =>
  hZ (di F x24) fun x27 =>
  hZ (mL F x25 a3 a5 a6 x18.1) fun x30 =>
  some (Res.ok (true,x25,x30.1,x30.2))
def jN (F:Nat) (a3:List (List UInt8)) (a5:Int) (a6:List (Int×(List UInt8)×(List UInt8)×List ((List UInt8)×List UInt8))) (x12:(List UInt8)×(List UInt8)) (y26:List UInt8) (y27:List UInt8):Option (Res ((List UInt8)×(List UInt8)×(List UInt8))) :=
hZ (jU F y27 a3 a5 a6 y26) fun x29 =>
grd (okS x29.1.length) <|
lt (Go.Lib.contains x29.1 ([60]:List UInt8)) fun x33 =>
hZ (di F (!x33)) fun x35 =>
hZ (ke F x29.1) fun x38 =>
some (Res.ok (x12.1,x38,x29.2))
def nQ (F:Nat) (a2:List UInt8) (a3:List (List UInt8)) (a5:Int) (a6:List (Int×(List UInt8)×(List UInt8)×List ((List UInt8)×List UInt8))):Option (Res ((List UInt8)×(List UInt8)×(List UInt8))) :=
hZ (mM F a2 a3 a5 a6) fun x12 =>
iE (ga F x12.2 a3 a5 a6 ([61,34]:List UInt8)) fun x16 x17 =>
bif !x16 then
  iE (ga F x17 a3 a5 a6 ([61,39]:List UInt8)) fun x20 x21 =>
  hZ (di F x20) fun x23 =>
  jN F a3 a5 a6 x12 ([39]:List UInt8) x21
else
  jN F a3 a5 a6 x12 ([34]:List UInt8) x17
def qm (F:Nat) (a1:List UInt8) (a2:List UInt8) (a4:List UInt8) (a5:List UInt8):Option Bool :=
some (decide (a4=a1))
def jE:Option Int :=
some (-1)
def gI (F:Nat) (a1:List ((List UInt8)×List UInt8)) (a4:List UInt8) (a5:List UInt8) (rec8:Int→Option Int) (y7:Int):Option Int :=
bif decide (y7 < (a1.length:Int)) then
  grd (co y7 a1.length) <|
  lt (at_ a1 y7) fun x12 =>
  bnd (qm F x12.1 x12.2 a4 a5) fun x14 =>
  bif x14 then
    some y7
  else
    grd (okI (y7+1)) <|
    rec8 (y7+1)
else
  jE
def ft (F:Nat) (a1:List ((List UInt8)×List UInt8)) (a4:List UInt8) (a5:List UInt8) (n:Nat):Int→Option Int :=
  loop (fun rec x=>gI F a1 a4 a5 rec x) n
def lE (F:Nat) (a1:List ((List UInt8)×List UInt8)) (a4:List UInt8) (a5:List UInt8):Option Int :=
ft F a1 a4 a5 F 0
def gK (F:Nat) (a1:List ((List UInt8)×List UInt8)) (a4:List UInt8) (a5:List UInt8):Option Bool :=
bnd (lE F a1 a4 a5) fun x7 =>
some (decide (0≤x7))
def gX (y57:List UInt8) (y66:Int) (y97:List (List UInt8)) (y98:List (Int×(List UInt8)×(List UInt8)×List ((List UInt8)×List UInt8))):Option (Res (Bool×(List UInt8)×Int×(List (Int×(List UInt8)×(List UInt8)×List ((List UInt8)×List UInt8)))×(List (List UInt8)))) :=
some (Res.ok (true,y57,y66,y98,y97))
def jj (F:Nat) (x19:(List UInt8)×(List UInt8)) (y56:Bool) (y57:List UInt8) (y66:Int) (y79:List (List UInt8)) (y87:List (Int×(List UInt8)×(List UInt8)×List ((List UInt8)×List UInt8))):Option (Res (Bool×(List UInt8)×Int×(List (Int×(List UInt8)×(List UInt8)×List ((List UInt8)×List UInt8)))×(List (List UInt8)))) :=
bif y56 then
  hZ (mL F y57 y79 y66 y87 x19.1) fun x91 =>
  gX y57 y66 x91.2 x91.1
else
  gX y57 y66 y79 y87
def ji (F:Nat) (a6:List (Int×(List UInt8)×(List UInt8)×List ((List UInt8)×List UInt8))) (x19:(List UInt8)×(List UInt8)) (y56:Bool) (y57:List UInt8) (y58:List ((List UInt8)×List UInt8)) (y66:Int) (y79:List (List UInt8)):Option (Res (Bool×(List UInt8)×Int×(List (Int×(List UInt8)×(List UInt8)×List ((List UInt8)×List UInt8)))×(List (List UInt8)))) :=
grd (cI (a6.length+([(0,x19.1,([]:List UInt8),y58)]:List (Int×(List UInt8)×(List UInt8)×List ((List UInt8)×List UInt8))).length)) <|
lt (a6++([(0,x19.1,([]:List UInt8),y58)]:List (Int×(List UInt8)×(List UInt8)×List ((List UInt8)×List UInt8)))) fun x83 =>
jj F x19 y56 y57 y66 y79 x83
def jh (F:Nat) (a6:List (Int×(List UInt8)×(List UInt8)×List ((List UInt8)×List UInt8))) (x19:(List UInt8)×(List UInt8)) (y56:Bool) (y57:List UInt8) (y58:List ((List UInt8)×List UInt8)) (y66:Int) (y75:List (List UInt8)):Option (Res (Bool×(List UInt8)×Int×(List (Int×(List UInt8)×(List UInt8)×List ((List UInt8)×List UInt8)))×(List (List UInt8)))) :=
bif decide (20 < (y75.length:Int)) then
  some (Res.pan 5)
else
  ji F a6 x19 y56 y57 y58 y66 y75
def fR (F:Nat) (a3:List (List UInt8)) (a6:List (Int×(List UInt8)×(List UInt8)×List ((List UInt8)×List UInt8))) (x19:(List UInt8)×(List UInt8)) (y56:Bool) (y57:List UInt8) (y58:List ((List UInt8)×List UInt8)) (y66:Int):Option (Res (Bool×(List UInt8)×Int×(List (Int×(List UInt8)×(List UInt8)×List ((List UInt8)×List UInt8)))×(List (List UInt8)))) :=
grd (cI (a3.length+([x19.1]:List (List UInt8)).length)) <|
lt (a3++([x19.1]:List (List UInt8))) fun x69 =>
jh F a6 x19 y56 y57 y58 y66 x69
def fQ (F:Nat) (a3:List (List UInt8)) (a5:Int) (a6:List (Int×(List UInt8)×(List UInt8)×List ((List UInt8)×List UInt8))) (x19:(List UInt8)×(List UInt8)) (y56:Bool) (y57:List UInt8) (y58:List ((List UInt8)×List UInt8)):Option (Res (Bool×(List UInt8)×Int×(List (Int×(List UInt8)×(List UInt8)×List ((List UInt8)×List UInt8)))×(List (List UInt8)))) :=
bif decide ((a3.length:Int)=0) then
  grd (okI (a5+1)) <|
  hZ (di F (decide (a5+1=1))) fun x63 =>
  fR F a3 a6 x19 y56 y57 y58 (a5+1)
else
  fR F a3 a6 x19 y56 y57 y58 a5
def jl (F:Nat) (a3:List (List UInt8)) (a5:Int) (a6:List (Int×(List UInt8)×(List UInt8)×List ((List UInt8)×List UInt8))) (x19:(List UInt8)×(List UInt8)) (rec27:((List ((List UInt8)×List UInt8))×(List UInt8))→Option (Res (Bool×(List UInt8)×Int×(List (Int×(List UInt8)×(List UInt8)×List ((List UInt8)×List UInt8)))×(List (List UInt8))))) (y24:List ((List UInt8)×List UInt8)) (y26:List UInt8):Option (Res (Bool×(List UInt8)×Int×(List (Int×(List UInt8)×(List UInt8)×List ((List UInt8)×List UInt8)))×(List (List UInt8)))) :=
iE (lO F y26 a3 a5 a6) fun x29 x30 =>
iE (ga F x30 a3 a5 a6 ([62]:List UInt8)) fun x32 x33 =>
bif x32 then
  fQ F a3 a5 a6 x19 false x33 y24
else
  iE (ga F x33 a3 a5 a6 ([47,62]:List UInt8)) fun x36 x37 =>
  bif x36 then
    fQ F a3 a5 a6 x19 true x37 y24
  else
    hZ (di F x29) fun x40 =>
    hZ (nQ F x37 a3 a5 a6) fun x43 =>
    bnd (gK F y24 x43.1 x43.2.1) fun x47 =>
    hZ (di F (!x47)) fun x49 =>
    grd (cI (y24.length+([(x43.1,x43.2.1)]:List ((List UInt8)×List UInt8)).length)) <|
    lt (y24++([(x43.1,x43.2.1)]:List ((List UInt8)×List UInt8))) fun x54 =>
    rec27 (x54,x43.2.2)
def jk (F:Nat) (a3:List (List UInt8)) (a5:Int) (a6:List (Int×(List UInt8)×(List UInt8)×List ((List UInt8)×List UInt8))) (x19:(List UInt8)×(List UInt8)) (n:Nat):((List ((List UInt8)×List UInt8))×(List UInt8))→Option (Res (Bool×(List UInt8)×Int×(List (Int×(List UInt8)×(List UInt8)×List ((List UInt8)×List UInt8)))×(List (List UInt8)))) :=
  loop (fun rec x=>jl F a3 a5 a6 x19 rec x.1 x.2) n
def jM (F:Nat) (a2:List UInt8) (a3:List (List UInt8)) (a5:Int) (a6:List (Int×(List UInt8)×(List UInt8)×List ((List UInt8)×List UInt8))):Option (Res (Bool×(List UInt8)×Int×(List (Int×(List UInt8)×(List UInt8)×List ((List UInt8)×List UInt8)))×(List (List UInt8)))) :=
iE (ga F a2 a3 a5 a6 ([60]:List UInt8)) fun x15 x16 =>
bif !x15 then
  some (Res.ok (false,x16,a5,a6,a3))
else
  hZ (mM F x16 a3 a5 a6) fun x19 =>
  jk F a3 a5 a6 x19 F ([],x19.2)
def nP (F:Nat) (a2:List UInt8) (a3:List (List UInt8)) (a5:Int) (a6:List (Int×(List UInt8)×(List UInt8)×List ((List UInt8)×List UInt8))):Option (Res ((List UInt8)×Int×(List (Int×(List UInt8)×(List UInt8)×List ((List UInt8)×List UInt8)))×(List (List UInt8)))) :=
hZ (kz F a2 a3 a5 a6) fun x14 =>
bif x14.1 then
  some (Res.ok (x14.2.1,a5,x14.2.2,a3))
else
  hZ (kG F x14.2.1 a3 a5 x14.2.2) fun x19 =>
  bif x19.1 then
    some (Res.ok (x19.2,a5,x14.2.2,a3))
  else
    hZ (rI F x19.2 a3 a5 x14.2.2) fun x23 =>
    bif x23.1 then
      some (Res.ok (x23.2,a5,x14.2.2,a3))
    else
      hZ (mN F x23.2 a3 a5 x14.2.2) fun x27 =>
      bif x27.1 then
        some (Res.ok (x27.2.1,a5,x27.2.2,a3))
      else
        hZ (rH F x27.2.1 a3 a5 x27.2.2) fun x32 =>
        bif x32.1 then
          some (Res.ok (x32.2,a5,x27.2.2,a3))
        else
          hZ (kd F x32.2 a3 a5 x27.2.2) fun x36 =>
          bif x36.1 then
            some (Res.ok (x36.2.1,a5,x36.2.2.1,x36.2.2.2))
          else
            hZ (jM F x36.2.1 x36.2.2.2 a5 x36.2.2.1) fun x42 =>
            bif x42.1 then
              some (Res.ok (x42.2.1,x42.2.2.1,x42.2.2.2.1,x42.2.2.2.2))
            else
              some (Res.ok (x42.2.1,x42.2.2.1,x42.2.2.2.1,x42.2.2.2.2))
def kq (F:Nat) (y26:List UInt8) (y28:List (List UInt8)) (y29:Int) (y30:List (Int×(List UInt8)×(List UInt8)×List ((List UInt8)×List UInt8))):Option ((List (Int×(List UInt8)×(List UInt8)×List ((List UInt8)×List UInt8)))×Int) :=
bndk (di F ((decide ((y28.length:Int)=0))&&(decide (0 < y29)))) (fun p36 =>
  some ([],p36)) fun x34 =>
some (y30,0)
def ku (F:Nat) (rec17:((List UInt8)×(List (List UInt8))×Int×(List (Int×(List UInt8)×(List UInt8)×List ((List UInt8)×List UInt8))))→Option ((List (Int×(List UInt8)×(List UInt8)×List ((List UInt8)×List UInt8)))×Int)) (y11:List UInt8) (y13:List (List UInt8)) (y14:Int) (y15:List (Int×(List UInt8)×(List UInt8)×List ((List UInt8)×List UInt8))):Option ((List (Int×(List UInt8)×(List UInt8)×List ((List UInt8)×List UInt8)))×Int) :=
bif !decide (y11=([]:List UInt8)) then
  bndk (nP F y11 y13 y14 y15) (fun p22 =>
    some ([],p22)) fun x20 =>
  rec17 (x20.1,x20.2.2.2,x20.2.1,x20.2.2.1)
else
  kq F y11 y13 y14 y15
def kr (F:Nat) (n:Nat):((List UInt8)×(List (List UInt8))×Int×(List (Int×(List UInt8)×(List UInt8)×List ((List UInt8)×List UInt8))))→Option ((List (Int×(List UInt8)×(List UInt8)×List ((List UInt8)×List UInt8)))×Int) :=
  loop (fun rec x=>ku F rec x.1 x.2.1 x.2.2.1 x.2.2.2) n
def kf (F:Nat) (a1:List UInt8):Option ((List (Int×(List UInt8)×(List UInt8)×List ((List UInt8)×List UInt8)))×Int) :=
bif decide (100000 < (a1.length:Int)) then
  some ([],4)
else
  kr F F (a1,([]:List (List UInt8)),0,[])
end Go.Pv
namespace Go.Proofs.YteokdkimegepoaaGreatDoor
open Go.RowKit Go.Av Go.Pv
theorem vg:∀ (args:Array Value) (w:World),(callFunc 18 args).run Tryz.prog w=.ok (.enter 18 args) w:=fun _ _=>by kernel_rfl
theorem rb:∀ (args:Array Value) (w:World),(callFunc 21 args).run Tryz.prog w=.ok (.enter 21 args) w:=fun _ _=>by kernel_rfl
theorem vf:∀ (args:Array Value) (w:World),(callFunc 22 args).run Tryz.prog w=.ok (.enter 22 args) w:=fun _ _=>by kernel_rfl
theorem cr:∀ (args:Array Value) (w:World),(callFunc 23 args).run Tryz.prog w=.ok (.enter 23 args) w:=fun _ _=>by kernel_rfl
theorem qZ:∀ (args:Array Value) (w:World),(callFunc 33 args).run Tryz.prog w=.ok (.enter 33 args) w:=fun _ _=>by kernel_rfl
theorem AX:∀ (args:Array Value) (w:World),(callFunc 34 args).run Tryz.prog w=.ok (.enter 34 args) w:=fun _ _=>by kernel_rfl
theorem AU:∀ (args:Array Value) (w:World),(callFunc 35 args).run Tryz.prog w=.ok (.enter 35 args) w:=fun _ _=>by kernel_rfl
theorem vc:∀ (args:Array Value) (w:World),(callFunc 37 args).run Tryz.prog w=.ok (.enter 37 args) w:=fun _ _=>by kernel_rfl
theorem vb:∀ (args:Array Value) (w:World),(callFunc 38 args).run Tryz.prog w=.ok (.enter 38 args) w:=fun _ _=>by kernel_rfl
theorem va:∀ (args:Array Value) (w:World),(callFunc 39 args).run Tryz.prog w=.ok (.enter 39 args) w:=fun _ _=>by kernel_rfl
theorem uZ:∀ (args:Array Value) (w:World),(callFunc 40 args).run Tryz.prog w=.ok (.enter 40 args) w:=fun _ _=>by kernel_rfl
theorem uY:∀ (args:Array Value) (w:World),(callFunc 41 args).run Tryz.prog w=.ok (.enter 41 args) w:=fun _ _=>by kernel_rfl
theorem uX:∀ (args:Array Value) (w:World),(callFunc 42 args).run Tryz.prog w=.ok (.enter 42 args) w:=fun _ _=>by kernel_rfl
theorem uW:∀ (args:Array Value) (w:World),(callFunc 43 args).run Tryz.prog w=.ok (.enter 43 args) w:=fun _ _=>by kernel_rfl
theorem qY:∀ (args:Array Value) (w:World),(callFunc 62 args).run Tryz.prog w=.ok (.enter 62 args) w:=fun _ _=>by kernel_rfl
theorem pa:∀ (args:Array Value) (w:World),(callFunc 64 args).run Tryz.prog w=.ok (.enter 64 args) w:=fun _ _=>by kernel_rfl
theorem uU:∀ (args:Array Value) (w:World),(callFunc 65 args).run Tryz.prog w=.ok (.enter 65 args) w:=fun _ _=>by kernel_rfl
theorem uT:∀ (args:Array Value) (w:World),(callFunc 66 args).run Tryz.prog w=.ok (.enter 66 args) w:=fun _ _=>by kernel_rfl
theorem eZ:∀ (args:Array Value) (w:World),(callFunc 67 args).run Tryz.prog w=.ok (.enter 67 args) w:=fun _ _=>by kernel_rfl
theorem ib:∀ (args:Array Value) (w:World),(callFunc 68 args).run Tryz.prog w=.ok (.enter 68 args) w:=fun _ _=>by kernel_rfl
theorem lS:∀ (args:Array Value) (w:World),(callFunc 69 args).run Tryz.prog w=.ok (.enter 69 args) w:=fun _ _=>by kernel_rfl
theorem uS:∀ (args:Array Value) (w:World),(callFunc 70 args).run Tryz.prog w=.ok (.enter 70 args) w:=fun _ _=>by kernel_rfl
theorem oZ:∀ (args:Array Value) (w:World),(callFunc 71 args).run Tryz.prog w=.ok (.enter 71 args) w:=fun _ _=>by kernel_rfl
theorem uR:∀ (args:Array Value) (w:World),(callFunc 72 args).run Tryz.prog w=.ok (.enter 72 args) w:=fun _ _=>by kernel_rfl
theorem uQ:∀ (args:Array Value) (w:World),(callFunc 73 args).run Tryz.prog w=.ok (.enter 73 args) w:=fun _ _=>by kernel_rfl
theorem AG:∀ (args:Array Value) (w:World),(callFunc 74 args).run Tryz.prog w=.ok (.enter 74 args) w:=fun _ _=>by kernel_rfl
theorem AD:∀ (args:Array Value) (w:World),(callFunc 90 args).run Tryz.prog w=.ok (.enter 90 args) w:=fun _ _=>by kernel_rfl
theorem AA:∀ (args:Array Value) (w:World),(callFunc 93 args).run Tryz.prog w=.ok (.enter 93 args) w:=fun _ _=>by kernel_rfl
theorem Az:∀ (args:Array Value) (w:World),(callFunc 94 args).run Tryz.prog w=.ok (.enter 94 args) w:=fun _ _=>by kernel_rfl
theorem Ay:∀ (args:Array Value) (w:World),(callFunc 95 args).run Tryz.prog w=.ok (.enter 95 args) w:=fun _ _=>by kernel_rfl
theorem Ax:∀ (args:Array Value) (w:World),(callFunc 96 args).run Tryz.prog w=.ok (.enter 96 args) w:=fun _ _=>by kernel_rfl
set_option maxRecDepth 100000 in
set_option maxHeartbeats 1000000 in
theorem xN (F:Nat) (a1:List UInt8) (r2:Bool) (H:ql F a1=some r2):ACalls Tryz.prog 35 [S a1] [] (Ret (B r2) []):=by
 unfold ql at H
 refine az Tryz.func35 rfl rfl ?_;show AW _ _ 15 _ _ _;refine ac<|aa ?_;show AR _ _ _ _ _ [0] _;refine za rfl<|ag<|bq (X:=Unit) (fun _=>⟨[],[],[]⟩) (fun _=>ml=some r2) ?_ ?_
 ·refine ac<|aa ?_;show AR _ _ _ _ _ [0,1,2] _;refine zm rfl<|zS rfl (aW ab rfl)<|zm rfl<|ag<|aR<|cl (X:=Nat×Int) (fun (n5,y3)=>⟨[(0,S a1),(5,i64 (a1.length:Int)),(6,i64 y3)],[],[]⟩) (fun (n5,y3)=>la a1 n5 y3=some r2) (fun (n5,y3)=>n5) (F,0) H (aP [] (.cons (.refl _) (.cons (.refl _) (.cons (.refl _) (.nil _)))) rfl) ?_;rintro ⟨n5,y3⟩ H;obtain ⟨n5,rfl,H⟩:=cO H;replace H:lb a1 (la a1 n5) y3=some r2:=H
  unfold lb at H
  refine ac<|aa ?_;show AR _ _ _ _ _ [0] _;refine zS rfl (bN rfl rfl)<|ag<|ac<|ax rfl (fun c6=>?_) (fun c6=>?_)
  ·replace H:=be c6 H;refine aC<|ac<|aR<|ac<|aa ?_;show AR _ _ _ _ _ [0,1] _;refine zm rfl<|za rfl<|ag<|ac ?_;obtain ⟨g7,H⟩:=aI H;obtain ⟨x8,e9,H⟩:=bz H;obtain ⟨x10,e11,H⟩:=bz H;refine aa ?_;show AR _ _ _ _ _ [0,1,2,3,4] _;refine zm rfl<|zm rfl<|zS rfl (bg ab rfl rfl g7 e9)<|ar rfl rfl (aX rfl qY rfl (show ACalls _ _ _ [] (Ret (i64 x10) []) from by subst e11; exact fY xmla_k1 x8) ?_);refine zS rfl (bN rfl rfl)<|ag<|ax rfl (fun c12=>?_) (fun c12=>?_)
   ·replace H:=be c12 H;refine ac<|aa ?_;show AR _ _ _ _ _ [0] _;refine za rfl<|ag<|aQ ?_;obtain rfl:=aq H;exact And.intro rfl (Exists.intro _ (Exists.intro _ ⟨aO rfl (.refl _),aK [] rfl,rfl,rfl⟩))
   ·replace H:=bf c12 H;refine aC ?_;obtain ⟨g13,H⟩:=aI H;refine aa ?_;show AR _ _ _ _ _ [0,1] _;refine zS rfl (bB rfl rfl g13)<|zm rfl<|ag ?_;exact Exists.intro (n5,y3+1) ⟨H,Nat.lt_succ_self _,aP [] (.cons (.refl _) (.cons (.refl _) (.cons (.refl _) (.nil _)))) rfl⟩
  ·replace H:=bf c6 H;refine bU ?_;exact Exists.intro () ⟨H,aP [] (.nil _) rfl⟩
 rintro _ H;replace H:ml=some r2:=H
 unfold ml at H
 refine ac<|aa ?_;show AR _ _ _ _ _ [0] _;refine za rfl<|ag<|aQ ?_;obtain rfl:=aq H;exact And.intro rfl (Exists.intro _ (Exists.intro _ ⟨aO rfl (.refl _),aK [] rfl,rfl,rfl⟩))
set_option maxRecDepth 100000 in
set_option maxHeartbeats 1000000 in
theorem oO (F:Nat) (a1:List UInt8) (r2:Bool) (H:nS F a1=some r2):ACalls Tryz.prog 18 [S a1] [] (Ret (B r2) []):=by
 unfold nS at H
 refine az Tryz.func18 rfl rfl ?_;show AW _ _ 24 _ _ _;refine ac<|aa ?_;show AR _ _ _ _ _ [0] _;refine za rfl<|ag<|ac ?_;obtain ⟨g5,H⟩:=cP H;obtain ⟨x6,e7,H⟩:=bz H;obtain ⟨g8,H⟩:=cP H;obtain ⟨x9,e10,H⟩:=bz H;obtain ⟨g12,H⟩:=cP H;obtain ⟨g13,H⟩:=cP H;obtain ⟨g14,H⟩:=cP H;obtain ⟨x15,e16,H⟩:=bz H;obtain ⟨x18,e19,H⟩:=fZ H;refine aa ?_;show AR _ _ _ _ _ [0,1,2,3,4,5,6,7,8,9,10,11,12,13,14,15,16,17,18,19,20,21] _;refine zm rfl<|zS rfl (pi rfl rfl)<|zm rfl<|bk (l:=[7,8,9,10,11,12,13,14,15,16,17,18,19,20,21]) 9 (B ((!decide (a1=([]:List UInt8)))&&(decide ((a1.length:Int)≤60)))) (fun K=>?_) ?_
 ·rcases ap (!decide (a1=([]:List UInt8))) with h3 | h3
  ·refine zM h3 rfl<|zU h3 rfl (aW ab rfl)<|zU h3 rfl (dW rfl rfl)<|zS rfl (aD (av:=.v _) rfl h3 rfl) ?_;exact K _ 3 _ (aw (cd h3)) rfl rfl
  ·refine zF h3 rfl<|zF h3 rfl<|zF h3 rfl<|zS rfl (aF (av:=.v _) rfl h3 rfl) ?_;exact K _ 3 _ (aw (cq h3)) rfl rfl
 refine zm rfl<|bk (l:=[12,13,14,15,16,17,18,19,20,21]) 14 (B (((!decide (a1=([]:List UInt8)))&&(decide ((a1.length:Int)≤60)))&&x9)) (fun K=>?_) ?_
 ·rcases ap ((!decide (a1=([]:List UInt8)))&&(decide ((a1.length:Int)≤60))) with h4 | h4
  ·refine zM h4 rfl<|zU h4 rfl (qu ab rfl rfl (g5 h4) e7)<|zT h4 rfl (aX rfl qZ rfl (show ACalls _ _ _ [] (Ret (B x9) []) from by subst e10; exact nx xmla_k2 x6 (pP (g8 h4))) ?_);refine zS rfl (aD (av:=.v _) rfl h4 rfl) ?_;exact K _ 3 _ (aw (cd h4)) rfl rfl
  ·refine zF h4 rfl<|zF h4 rfl<|zF h4 rfl<|zS rfl (aF (av:=.v _) rfl h4 rfl) ?_;exact K _ 3 _ (aw (cq h4)) rfl rfl
 refine zm rfl<|bk (l:=[17,18,19,20,21]) 19 (B ((((!decide (a1=([]:List UInt8)))&&(decide ((a1.length:Int)≤60)))&&x9)&&(decide (x15=([]:List UInt8))))) (fun K=>?_) ?_
 ·rcases ap (((!decide (a1=([]:List UInt8)))&&(decide ((a1.length:Int)≤60)))&&x9) with h11 | h11
  ·refine zM h11 rfl<|zT h11 rfl (aX rfl AX rfl (show ACalls _ _ _ [] (Ret (S x15) []) from by subst e16; exact lib_Trim a1 xmla_k1 (pP (g12 h11)) (pP (g13 h11)) (g14 h11)) ?_);refine zU h11 rfl (cD rfl rfl)<|zS rfl (aD (av:=.v _) rfl h11 rfl) ?_;exact K _ 3 _ (aw (cd h11)) rfl rfl
  ·refine zF h11 rfl<|zF h11 rfl<|zF h11 rfl<|zS rfl (aF (av:=.v _) rfl h11 rfl) ?_;exact K _ 3 _ (aw (cq h11)) rfl rfl
 refine zm rfl<|bk (l:=[21]) 23 (B (((((!decide (a1=([]:List UInt8)))&&(decide ((a1.length:Int)≤60)))&&x9)&&(decide (x15=([]:List UInt8))))&&x18)) (fun K=>?_) ?_
 ·rcases ap ((((!decide (a1=([]:List UInt8)))&&(decide ((a1.length:Int)≤60)))&&x9)&&(decide (x15=([]:List UInt8)))) with h17 | h17
  ·refine zM h17 rfl<|zT h17 rfl (aX rfl AU rfl (xN F a1 x18 (e19 h17)) ?_);refine zS rfl (aD (av:=.v _) rfl h17 rfl) ?_;exact K _ 2 _ (aw (cd h17)) rfl rfl
  ·refine zF h17 rfl<|zF h17 rfl<|zS rfl (aF (av:=.v _) rfl h17 rfl) ?_;exact K _ 2 _ (aw (cq h17)) rfl rfl
 refine za rfl<|ag<|aQ ?_;obtain rfl:=aq H;exact And.intro rfl (Exists.intro _ (Exists.intro _ ⟨aO rfl (.refl _),aK [] rfl,rfl,rfl⟩))
set_option maxRecDepth 100000 in
set_option maxHeartbeats 1000000 in
theorem rf (F:Nat) (a1:Bool) (rv:Res Unit) (H:di F a1=some rv):ACalls Tryz.prog 23 [B a1] [] (na (fun (r:Unit)=>(Ret (.tup []) [])) (fun e=>dR (.iface 46 (.agg #[.int .i64 e]))) rv):=by
 unfold di at H
 refine az Tryz.func23 rfl rfl ?_;show AW _ _ 6 _ _ _;refine ac<|aa ?_;show AR _ _ _ _ _ [0,1] _;refine zm rfl<|zS rfl (ca rfl)<|ag<|ax rfl (fun c2=>?_) (fun c2=>?_)
 ·replace H:=be c2 H;obtain rfl:=aq H;refine aa ?_;show AR _ _ _ _ _ [0,1,2] _;refine zS rfl (eH (zs:=[.int .i64 0]) (ps:=[(0,1)]) (cs:=[i64 2]) (by kernel_rfl) rfl rfl)<|zS rfl (bW (a:=.agg _) Tryz.underlying46 rfl rfl)<|ar rfl rfl (AO.panicT (c:=dR (.iface 46 (.agg #[.int .i64 2]))) rfl rfl ?_);exact And.intro rfl (Exists.intro [] ⟨bC _,rfl,rfl⟩)
 ·replace H:=bf c2 H;refine aC ?_;obtain rfl:=aq H;exact And.intro rfl (Exists.intro _ (Exists.intro _ ⟨bp rfl,aK [] rfl,rfl,rfl⟩))
theorem cH (F:Nat) (a1:Bool) (H:di F a1=some (Res.ok ())):ACalls Tryz.prog 23 [B a1] [] (Ret (.tup []) []):=rf F a1 _ H
theorem cu (F:Nat) (a1:Bool) (e:Int) (H:di F a1=some (Res.pan e)):ACalls Tryz.prog 23 [B a1] [] (fun ae A'=>ae=.pan ((fun e=>dR (.iface 46 (.agg #[.int .i64 e]))) e)∧A'=[]):=rf F a1 _ H
set_option maxRecDepth 100000 in
set_option maxHeartbeats 1000000 in
theorem eX (F:Nat) (o1:Nat) (a2:List UInt8) (a3:List (List UInt8)) (t4:Nat) (a5:Int) (a6:List (Int×(List UInt8)×(List UInt8)×List ((List UInt8)×List UInt8))) (t7:Nat) (a8:List UInt8) (r9:Bool) (r10:List UInt8) (H:ga F a2 a3 a5 a6 a8=some (r9,r10)):ACalls Tryz.prog 67 [.pt o1 0,S a8] [.obj o1 [S a2,.sk t4 a3.length,i64 a5,slE (Enc.prod Enc.int (Enc.prod Enc.str (Enc.prod Enc.str (Enc.sl (Enc.prod Enc.str Enc.str))))) a6 (some t7)],.stk t4 (Enc.str.fl a3),.tok t7 33] (fun e A'=>e=.ret (B r9)∧A'=[.obj o1 [S r10,.sk t4 a3.length,i64 a5,slE (Enc.prod Enc.int (Enc.prod Enc.str (Enc.prod Enc.str (Enc.sl (Enc.prod Enc.str Enc.str))))) a6 (some t7)],.stk t4 (Enc.str.fl a3),.tok t7 33]):=by
 unfold ga at H
 refine az Tryz.func67 rfl rfl ?_;show AW _ _ 21 _ _ _;refine ac<|aa ?_;show AR _ _ _ _ _ [0] _;refine za rfl<|ag<|ac ?_;obtain ⟨x11,e12,H⟩:=bz H;refine aa ?_;show AR _ _ _ _ _ [0,1,2,3,4,5,6,7,8,9,10] _;refine zS rfl (ah (av:=.pt _ _) rfl)<|zS rfl (am rfl)<|zS rfl (ai (n:=0) (by kernel_rfl) rfl)<|zR rfl (al (i:=0) ab rfl rfl rfl rfl)<|zm rfl<|ar rfl rfl (aX rfl AA rfl (show ACalls _ _ _ [] (Ret (.tup [S x11.1,B x11.2]) []) from by subst e12; exact mK a2 a8) ?_);refine zS rfl (ah (av:=.tup _) rfl)<|zS rfl (ba (av:=.v _) rfl rfl)<|zS rfl (ba (av:=.v _) rfl rfl)<|za rfl<|za rfl<|ag<|ac<|aa ?_;show AR _ _ _ _ _ [0,1,2,3,4] _;refine zS rfl (ah (av:=.pt _ _) rfl)<|zm rfl<|zS rfl (am rfl)<|zS rfl (ai (n:=0) (by kernel_rfl) rfl)<|s0 rfl rfl (aA (i:=0) (c:=.v _) (by kernel_rfl) rfl rfl rfl rfl (af rfl))<|ag<|ac<|aa ?_;show AR _ _ _ _ _ [0,1] _;refine zm rfl<|za rfl<|ag<|aQ ?_;obtain ⟨rfl,rfl⟩:=ek H;exact And.intro rfl (Exists.intro _ (Exists.intro _ ⟨aO rfl (.refl _),aK [0,0,0] rfl,rfl,rfl⟩))
set_option maxRecDepth 100000 in
set_option maxHeartbeats 1000000 in
theorem uj (F:Nat) (o1:Nat) (a2:List UInt8) (a3:List (List UInt8)) (t4:Nat) (a5:Int) (a6:List (Int×(List UInt8)×(List UInt8)×List ((List UInt8)×List UInt8))) (t7:Nat) (a8:List UInt8) (rv:Res ((List UInt8)×(List UInt8))) (H:jU F a2 a3 a5 a6 a8=some rv):ACalls Tryz.prog 68 [.pt o1 0,S a8] [.obj o1 [S a2,.sk t4 a3.length,i64 a5,slE (Enc.prod Enc.int (Enc.prod Enc.str (Enc.prod Enc.str (Enc.sl (Enc.prod Enc.str Enc.str))))) a6 (some t7)],.stk t4 (Enc.str.fl a3),.tok t7 33] (na (fun (r:(List UInt8)×(List UInt8))=>(fun e A'=>e=.ret (S r.1)∧A'=[.obj o1 [S r.2,.sk t4 a3.length,i64 a5,slE (Enc.prod Enc.int (Enc.prod Enc.str (Enc.prod Enc.str (Enc.sl (Enc.prod Enc.str Enc.str))))) a6 (some t7)],.stk t4 (Enc.str.fl a3),.tok t7 33])) (fun e=>dR (.iface 46 (.agg #[.int .i64 e]))) rv):=by
 unfold jU at H
 refine az Tryz.func68 rfl rfl ?_;show AW _ _ 25 _ _ _;refine ac<|aa ?_;show AR _ _ _ _ _ [0] _;refine za rfl<|ag<|ac ?_;obtain ⟨g11,H⟩:=aI H;obtain ⟨x12,e13,H⟩:=bz H;refine aa ?_;show AR _ _ _ _ _ [0,1,2,3,4,5,6,7,8,9,10,11,12] _;refine zS rfl (ah (av:=.pt _ _) rfl)<|zS rfl (am rfl)<|zS rfl (ai (n:=0) (by kernel_rfl) rfl)<|zR rfl (al (i:=0) ab rfl rfl rfl rfl)<|zm rfl<|ar rfl rfl (aX rfl Az rfl (show ACalls _ _ _ [] (Ret (.tup [S x12.1,S x12.2.1,B x12.2.2]) []) from by subst e13; exact lib_Cut a2 a8 (pP g11)) ?_);refine zS rfl (ah (av:=.tup _) rfl)<|zS rfl (ba (av:=.v _) rfl rfl)<|zS rfl (ba (av:=.v _) rfl rfl)<|zS rfl (ba (av:=.v _) rfl rfl)<|za rfl<|za rfl<|za rfl<|ag<|ac ?_
 rcases Or.symm (dE H) with ⟨p16,e15,H⟩ | ⟨x14,e15,H⟩
 ·subst H;refine aa ?_;show AR _ _ _ _ _ [0,1] _;refine zm rfl<|ar rfl rfl (cg (c:=dR (.iface 46 (.agg #[.int .i64 p16]))) [] rfl cr rfl (cu F x12.2.2 p16 e15) rfl ?_);exact And.intro rfl (Exists.intro [] ⟨bC _,rfl,rfl⟩)
 refine aa ?_;show AR _ _ _ _ _ [0,1] _;refine zm rfl<|ar rfl rfl (aX rfl cr rfl (cH F x12.2.2 e15) ?_);refine ag<|ac<|aa ?_;show AR _ _ _ _ _ [0,1,2,3,4] _;refine zS rfl (ah (av:=.pt _ _) rfl)<|zm rfl<|zS rfl (am rfl)<|zS rfl (ai (n:=0) (by kernel_rfl) rfl)<|s0 rfl rfl (aA (i:=0) (c:=.v _) (by kernel_rfl) rfl rfl rfl rfl (af rfl))<|ag<|ac<|aa ?_;show AR _ _ _ _ _ [0,1] _;refine zm rfl<|za rfl<|ag<|aQ ?_;obtain rfl:=aq H;exact And.intro rfl (Exists.intro _ (Exists.intro _ ⟨aO rfl (.refl _),aK [0,0,0] rfl,rfl,rfl⟩))
theorem kv (F:Nat) (o1:Nat) (a2:List UInt8) (a3:List (List UInt8)) (t4:Nat) (a5:Int) (a6:List (Int×(List UInt8)×(List UInt8)×List ((List UInt8)×List UInt8))) (t7:Nat) (a8:List UInt8) (r9:List UInt8) (r10:List UInt8) (H:jU F a2 a3 a5 a6 a8=some (Res.ok (r9,r10))):ACalls Tryz.prog 68 [.pt o1 0,S a8] [.obj o1 [S a2,.sk t4 a3.length,i64 a5,slE (Enc.prod Enc.int (Enc.prod Enc.str (Enc.prod Enc.str (Enc.sl (Enc.prod Enc.str Enc.str))))) a6 (some t7)],.stk t4 (Enc.str.fl a3),.tok t7 33] (fun e A'=>e=.ret (S r9)∧A'=[.obj o1 [S r10,.sk t4 a3.length,i64 a5,slE (Enc.prod Enc.int (Enc.prod Enc.str (Enc.prod Enc.str (Enc.sl (Enc.prod Enc.str Enc.str))))) a6 (some t7)],.stk t4 (Enc.str.fl a3),.tok t7 33]):=uj F o1 a2 a3 t4 a5 a6 t7 a8 _ H
theorem jo (F:Nat) (o1:Nat) (a2:List UInt8) (a3:List (List UInt8)) (t4:Nat) (a5:Int) (a6:List (Int×(List UInt8)×(List UInt8)×List ((List UInt8)×List UInt8))) (t7:Nat) (a8:List UInt8) (e:Int) (H:jU F a2 a3 a5 a6 a8=some (Res.pan e)):ACalls Tryz.prog 68 [.pt o1 0,S a8] [.obj o1 [S a2,.sk t4 a3.length,i64 a5,slE (Enc.prod Enc.int (Enc.prod Enc.str (Enc.prod Enc.str (Enc.sl (Enc.prod Enc.str Enc.str))))) a6 (some t7)],.stk t4 (Enc.str.fl a3),.tok t7 33] (fun ae A'=>ae=.pan ((fun e=>dR (.iface 46 (.agg #[.int .i64 e]))) e)∧A'=[]):=uj F o1 a2 a3 t4 a5 a6 t7 a8 _ H
set_option maxRecDepth 100000 in
set_option maxHeartbeats 1000000 in
theorem rg (F:Nat) (o1:Nat) (a2:List UInt8) (a3:List (List UInt8)) (t4:Nat) (a5:Int) (a6:List (Int×(List UInt8)×(List UInt8)×List ((List UInt8)×List UInt8))) (t7:Nat) (r8:Bool) (r9:List UInt8) (H:lO F a2 a3 a5 a6=some (r8,r9)):ACalls Tryz.prog 70 [.pt o1 0] [.obj o1 [S a2,.sk t4 a3.length,i64 a5,slE (Enc.prod Enc.int (Enc.prod Enc.str (Enc.prod Enc.str (Enc.sl (Enc.prod Enc.str Enc.str))))) a6 (some t7)],.stk t4 (Enc.str.fl a3),.tok t7 33] (fun e A'=>e=.ret (B r8)∧A'=[.obj o1 [S r9,.sk t4 a3.length,i64 a5,slE (Enc.prod Enc.int (Enc.prod Enc.str (Enc.prod Enc.str (Enc.sl (Enc.prod Enc.str Enc.str))))) a6 (some t7)],.stk t4 (Enc.str.fl a3),.tok t7 33]):=by
 unfold lO at H
 refine az Tryz.func70 rfl rfl ?_;show AW _ _ 24 _ _ _;refine ac<|aa ?_;show AR _ _ _ _ _ [0] _;refine za rfl<|ag<|ac<|aa ?_;show AR _ _ _ _ _ [0,1,2,3,4,5] _;refine zS rfl (ah (av:=.pt _ _) rfl)<|zS rfl (am rfl)<|zS rfl (ai (n:=0) (by kernel_rfl) rfl)<|zR rfl (al (i:=0) ab rfl rfl rfl rfl)<|zS rfl (aW ab rfl)<|za rfl<|ag<|ac ?_;obtain ⟨g10,H⟩:=aI H;obtain ⟨g11,H⟩:=aI H;obtain ⟨x12,e13,H⟩:=bz H;refine aa ?_;show AR _ _ _ _ _ [0,1,2,3,4,5,6,7,8] _;refine zS rfl (ah (av:=.pt _ _) rfl)<|zS rfl (ah (av:=.pt _ _) rfl)<|zS rfl (am rfl)<|zS rfl (ai (n:=0) (by kernel_rfl) rfl)<|zR rfl (al (i:=0) ab rfl rfl rfl rfl)<|ar rfl rfl (aX rfl Ay rfl (show ACalls _ _ _ [] (Ret (S x12) []) from by subst e13; exact vI a2 ([9,10,13,32]:List UInt8) (pP g10) g11) ?_);refine zS rfl (am rfl)<|zS rfl (ai (n:=0) (by kernel_rfl) rfl)<|s0 rfl rfl (aA (i:=0) (c:=.v _) (by kernel_rfl) rfl rfl rfl rfl (af rfl))<|ag<|ac<|aa ?_;show AR _ _ _ _ _ [0,1,2,3,4,5,6,7] _
 refine zS rfl (ah (av:=.pt _ _) rfl)<|zS rfl (am rfl)<|zS rfl (ai (n:=0) (by kernel_rfl) rfl)<|zR rfl (al (i:=0) ab rfl rfl rfl rfl)<|zS rfl (aW ab rfl)<|zm rfl<|zS rfl (bN rfl rfl)<|za rfl<|ag<|aQ ?_;obtain ⟨rfl,rfl⟩:=ek H;exact And.intro rfl (Exists.intro _ (Exists.intro _ ⟨aO rfl (.refl _),aK [0,0,0] rfl,rfl,rfl⟩))
set_option maxRecDepth 100000 in
set_option maxHeartbeats 1000000 in
theorem un (F:Nat) (o1:Nat) (a2:List UInt8) (a3:List (List UInt8)) (t4:Nat) (a5:Int) (a6:List (Int×(List UInt8)×(List UInt8)×List ((List UInt8)×List UInt8))) (t7:Nat) (rv:Res ((List UInt8)×(List UInt8))) (H:mM F a2 a3 a5 a6=some rv):ACalls Tryz.prog 69 [.pt o1 0] [.obj o1 [S a2,.sk t4 a3.length,i64 a5,slE (Enc.prod Enc.int (Enc.prod Enc.str (Enc.prod Enc.str (Enc.sl (Enc.prod Enc.str Enc.str))))) a6 (some t7)],.stk t4 (Enc.str.fl a3),.tok t7 33] (na (fun (r:(List UInt8)×(List UInt8))=>(fun e A'=>e=.ret (S r.1)∧A'=[.obj o1 [S r.2,.sk t4 a3.length,i64 a5,slE (Enc.prod Enc.int (Enc.prod Enc.str (Enc.prod Enc.str (Enc.sl (Enc.prod Enc.str Enc.str))))) a6 (some t7)],.stk t4 (Enc.str.fl a3),.tok t7 33])) (fun e=>dR (.iface 46 (.agg #[.int .i64 e]))) rv):=by
 unfold mM at H
 refine az Tryz.func69 rfl rfl ?_;show AW _ _ 43 _ _ _;refine ac<|aa ?_;show AR _ _ _ _ _ [0] _;refine za rfl<|ag<|ac<|aa ?_;show AR _ _ _ _ _ [0] _;refine za rfl<|ag<|bq (X:=Int) (fun y21=>⟨[(0,.pt o1 0),(3,i64 y21)],[],[.obj o1 [S a2,.sk t4 a3.length,i64 a5,slE (Enc.prod Enc.int (Enc.prod Enc.str (Enc.prod Enc.str (Enc.sl (Enc.prod Enc.str Enc.str))))) a6 (some t7)],.stk t4 (Enc.str.fl a3),.tok t7 33]⟩) (fun y21=>kF F a2 y21=some rv) ?_ ?_
 ·refine aR<|cl (X:=Nat×Int) (fun (n12,y10)=>⟨[(0,.pt o1 0),(3,i64 y10)],[],[.obj o1 [S a2,.sk t4 a3.length,i64 a5,slE (Enc.prod Enc.int (Enc.prod Enc.str (Enc.prod Enc.str (Enc.sl (Enc.prod Enc.str Enc.str))))) a6 (some t7)],.stk t4 (Enc.str.fl a3),.tok t7 33]⟩) (fun (n12,y10)=>lV F a2 n12 y10=some rv) (fun (n12,y10)=>n12) (F,0) H (aP [0,0,0] (.cons (.refl _) (.cons (.refl _) (.nil _))) rfl) ?_;rintro ⟨n12,y10⟩ H;obtain ⟨n12,rfl,H⟩:=cO H;replace H:lW F a2 (lV F a2 n12) y10=some rv:=H
  unfold lW at H
  refine ac<|ac ?_;obtain ⟨g14,H⟩:=cP H;obtain ⟨x15,e16,H⟩:=bz H;obtain ⟨x17,e18,H⟩:=bz H;refine aa ?_;show AR _ _ _ _ _ [0,1,2,3,4,5,6,7,8,9,10,11,12,13,14,15,16] _;refine zm rfl<|zS rfl (ah (av:=.pt _ _) rfl)<|zS rfl (am rfl)<|zS rfl (ai (n:=0) (by kernel_rfl) rfl)<|zR rfl (al (i:=0) ab rfl rfl rfl rfl)<|zS rfl (aW ab rfl)<|zS rfl (bN rfl rfl)<|zm rfl<|bk (l:=[]) 21 (B ((decide (y10 < (a2.length:Int)))&&(decide (0≤x17)))) (fun K=>?_) ?_
  ·rcases ap (decide (y10 < (a2.length:Int))) with h13 | h13
   ·refine zU h13 rfl (ah (av:=.pt _ _) rfl)<|zU h13 rfl (am rfl)<|zU h13 rfl (ai (n:=0) (by kernel_rfl) rfl)<|zT h13 rfl (cG rfl rfl (al (i:=0) ab rfl rfl rfl rfl) ?_);refine zM h13 rfl<|zU h13 rfl (bg ab rfl rfl (g14 h13) e16)<|zT h13 rfl (aX rfl qY rfl (show ACalls _ _ _ [] (Ret (i64 x17) []) from by subst e18; exact fY xmla_k1 x15) ?_);refine zU h13 rfl (cX rfl rfl)<|zS rfl (aD (av:=.v _) rfl h13 rfl) ?_;exact K _ 8 _ (aw (cd h13)) rfl rfl
   ·refine zF h13 rfl<|zF h13 rfl<|zF h13 rfl<|zF h13 rfl<|zF h13 rfl<|zF h13 rfl<|zF h13 rfl<|zF h13 rfl<|zS rfl (aF (av:=.v _) rfl h13 rfl) ?_;exact K _ 8 _ (aw (cq h13)) rfl rfl
  refine ag<|ax rfl (fun c19=>?_) (fun c19=>?_)
  ·replace H:=be c19 H;refine aC<|aR ?_;obtain ⟨g20,H⟩:=aI H;refine aa ?_;show AR _ _ _ _ _ [0,1,2] _;refine zm rfl<|zS rfl (bB rfl rfl g20)<|za rfl<|ag ?_;exact Exists.intro (n12,y10+1) ⟨H,Nat.lt_succ_self _,aP [0,0,0] (.cons (.refl _) (.cons (.refl _) (.nil _))) rfl⟩
  ·replace H:=bf c19 H;refine bU ?_;exact Exists.intro y10 ⟨H,aP [0,0,0] (.cons (.refl _) (.cons (.refl _) (.nil _))) rfl⟩
 rintro y21 H;replace H:kF F a2 y21=some rv:=H
 unfold kF at H
 refine ac ?_;obtain ⟨g23,H⟩:=aI H;obtain ⟨x24,e25,H⟩:=bz H;refine aa ?_;show AR _ _ _ _ _ [0,1,2,3,4,5,6] _;refine zS rfl (ah (av:=.pt _ _) rfl)<|zS rfl (am rfl)<|zS rfl (ai (n:=0) (by kernel_rfl) rfl)<|zR rfl (al (i:=0) ab rfl rfl rfl rfl)<|zm rfl<|zS rfl (qu ab rfl rfl g23 e25)<|za rfl<|ag<|ac ?_;obtain ⟨x26,e27,H⟩:=cm H
 rcases Or.symm (dE H) with ⟨p30,e29,H⟩ | ⟨x28,e29,H⟩
 ·subst H;refine aa ?_;show AR _ _ _ _ _ [0,1,2] _;refine zm rfl<|ar rfl rfl (aX rfl vg rfl (oO F x24 x26 e27) ?_);refine ar rfl rfl (cg (c:=dR (.iface 46 (.agg #[.int .i64 p30]))) [] rfl cr rfl (cu F x26 p30 e29) rfl ?_);exact And.intro rfl (Exists.intro [] ⟨bC _,rfl,rfl⟩)
 refine aa ?_;show AR _ _ _ _ _ [0,1,2] _;refine zm rfl<|ar rfl rfl (aX rfl vg rfl (oO F x24 x26 e27) ?_);refine ar rfl rfl (aX rfl cr rfl (cH F x26 e29) ?_);refine ag<|ac ?_;obtain ⟨g31,H⟩:=aI H;obtain ⟨x32,e33,H⟩:=bz H;refine aa ?_;show AR _ _ _ _ _ [0,1,2,3,4,5,6,7,8,9] _;refine zS rfl (ah (av:=.pt _ _) rfl)<|zS rfl (ah (av:=.pt _ _) rfl)<|zS rfl (am rfl)<|zS rfl (ai (n:=0) (by kernel_rfl) rfl)<|zR rfl (al (i:=0) ab rfl rfl rfl rfl)<|zm rfl<|zS rfl (ee ab rfl rfl g31 e33)<|zS rfl (am rfl)<|zS rfl (ai (n:=0) (by kernel_rfl) rfl)<|s0 rfl rfl (aA (i:=0) (c:=.v _) (by kernel_rfl) rfl rfl rfl rfl (af rfl))<|ag<|ac<|aa ?_;show AR _ _ _ _ _ [0,1] _;refine zm rfl<|za rfl<|ag<|aQ ?_;obtain rfl:=aq H;exact And.intro rfl (Exists.intro _ (Exists.intro _ ⟨aO rfl (.refl _),aK [0,0,0] rfl,rfl,rfl⟩))
theorem nu (F:Nat) (o1:Nat) (a2:List UInt8) (a3:List (List UInt8)) (t4:Nat) (a5:Int) (a6:List (Int×(List UInt8)×(List UInt8)×List ((List UInt8)×List UInt8))) (t7:Nat) (r8:List UInt8) (r9:List UInt8) (H:mM F a2 a3 a5 a6=some (Res.ok (r8,r9))):ACalls Tryz.prog 69 [.pt o1 0] [.obj o1 [S a2,.sk t4 a3.length,i64 a5,slE (Enc.prod Enc.int (Enc.prod Enc.str (Enc.prod Enc.str (Enc.sl (Enc.prod Enc.str Enc.str))))) a6 (some t7)],.stk t4 (Enc.str.fl a3),.tok t7 33] (fun e A'=>e=.ret (S r8)∧A'=[.obj o1 [S r9,.sk t4 a3.length,i64 a5,slE (Enc.prod Enc.int (Enc.prod Enc.str (Enc.prod Enc.str (Enc.sl (Enc.prod Enc.str Enc.str))))) a6 (some t7)],.stk t4 (Enc.str.fl a3),.tok t7 33]):=un F o1 a2 a3 t4 a5 a6 t7 _ H
theorem mH (F:Nat) (o1:Nat) (a2:List UInt8) (a3:List (List UInt8)) (t4:Nat) (a5:Int) (a6:List (Int×(List UInt8)×(List UInt8)×List ((List UInt8)×List UInt8))) (t7:Nat) (e:Int) (H:mM F a2 a3 a5 a6=some (Res.pan e)):ACalls Tryz.prog 69 [.pt o1 0] [.obj o1 [S a2,.sk t4 a3.length,i64 a5,slE (Enc.prod Enc.int (Enc.prod Enc.str (Enc.prod Enc.str (Enc.sl (Enc.prod Enc.str Enc.str))))) a6 (some t7)],.stk t4 (Enc.str.fl a3),.tok t7 33] (fun ae A'=>ae=.pan ((fun e=>dR (.iface 46 (.agg #[.int .i64 e]))) e)∧A'=[]):=un F o1 a2 a3 t4 a5 a6 t7 _ H
set_option maxRecDepth 100000 in
set_option maxHeartbeats 1000000 in
theorem ri (F:Nat) (a1:List UInt8) (rv:Res ((List UInt8))) (H:ke F a1=some rv):ACalls Tryz.prog 64 [S a1] [] (na (fun (r:(List UInt8))=>(Ret (S r) [])) (fun e=>dR (.iface 46 (.agg #[.int .i64 e]))) rv):=by
 unfold ke at H
 refine az Tryz.func64 rfl rfl ?_;show AW _ _ 14 _ _ _;refine ac<|aa ?_;show AR _ _ _ _ _ [0] _;refine za rfl<|ag<|ac ?_;obtain ⟨x3,x4,e5,H⟩:=dd H;refine aa ?_;show AR _ _ _ _ _ [0,1,2,3,4,5,6] _;refine zm rfl<|ar rfl rfl (aX rfl AD rfl (vB F a1 x3 x4 e5) ?_);refine zS rfl (ah (av:=.tup _) rfl)<|zS rfl (ba (av:=.v _) rfl rfl)<|zS rfl (ba (av:=.v _) rfl rfl)<|za rfl<|za rfl<|ag<|ac ?_
 rcases Or.symm (dE H) with ⟨p8,e7,H⟩ | ⟨x6,e7,H⟩
 ·subst H;refine aa ?_;show AR _ _ _ _ _ [0,1,2] _;refine zm rfl<|zS rfl (bI rfl rfl)<|ar rfl rfl (cg (c:=dR (.iface 46 (.agg #[.int .i64 p8]))) [] rfl cr rfl (cu F (decide (x4=0)) p8 e7) rfl ?_);exact And.intro rfl (Exists.intro [] ⟨bC _,rfl,rfl⟩)
 refine aa ?_;show AR _ _ _ _ _ [0,1,2] _;refine zm rfl<|zS rfl (bI rfl rfl)<|ar rfl rfl (aX rfl cr rfl (cH F (decide (x4=0)) e7) ?_);refine ag<|ac<|aa ?_;show AR _ _ _ _ _ [0,1] _;refine zm rfl<|za rfl<|ag<|aQ ?_;obtain rfl:=aq H;exact And.intro rfl (Exists.intro _ (Exists.intro _ ⟨aO rfl (.refl _),aK [] rfl,rfl,rfl⟩))
theorem oe (F:Nat) (a1:List UInt8) (r2:List UInt8) (H:ke F a1=some (Res.ok r2)):ACalls Tryz.prog 64 [S a1] [] (Ret (S r2) []):=ri F a1 _ H
theorem nE (F:Nat) (a1:List UInt8) (e:Int) (H:ke F a1=some (Res.pan e)):ACalls Tryz.prog 64 [S a1] [] (fun ae A'=>ae=.pan ((fun e=>dR (.iface 46 (.agg #[.int .i64 e]))) e)∧A'=[]):=ri F a1 _ H
abbrev _root_.Go.Av.ay := @Tryz.underlying24
set_option maxRecDepth 100000 in
set_option maxHeartbeats 1000000 in
theorem uk (F:Nat) (o1:Nat) (a2:List UInt8) (a3:List (List UInt8)) (t4:Nat) (a5:Int) (a6:List (Int×(List UInt8)×(List UInt8)×List ((List UInt8)×List UInt8))) (t7:Nat) (a8:List UInt8) (r9:List (Int×(List UInt8)×(List UInt8)×List ((List UInt8)×List UInt8))) (H:pf F a2 a3 a5 a6 a8=some r9):ACalls Tryz.prog 66 [.pt o1 0,S a8] [.obj o1 [S a2,.sk t4 a3.length,i64 a5,slE (Enc.prod Enc.int (Enc.prod Enc.str (Enc.prod Enc.str (Enc.sl (Enc.prod Enc.str Enc.str))))) a6 (some t7)],.stk t4 (Enc.str.fl a3),.tok t7 33] (fun e A'=>e=.ret (.tup [])∧∃ t10,A'=[.obj o1 [S a2,.sk t4 a3.length,i64 a5,slE (Enc.prod Enc.int (Enc.prod Enc.str (Enc.prod Enc.str (Enc.sl (Enc.prod Enc.str Enc.str))))) r9 (some t10)],.stk t4 (Enc.str.fl a3),.tok t10 33]):=by
 unfold pf at H
 refine az Tryz.func66 rfl rfl ?_;show AW _ _ 17 _ _ _;refine ac<|aa ?_;show AR _ _ _ _ _ [0,1] _;refine zm rfl<|zS rfl (pi rfl rfl)<|ag<|ax rfl (fun c11=>?_) (fun c11=>?_)
 ·replace H:=be c11 H;obtain ⟨g13,H⟩:=aI H;obtain ⟨x14,e15,H⟩:=bz H;refine aa ?_;show AR _ _ _ _ _ [0,1,2,3,4,5,6,7,8,9,10,11] _;refine zS rfl (ah (av:=.pt _ _) rfl)<|zS rfl (ah (av:=.pt _ _) rfl)<|zS rfl (am rfl)<|zS rfl (ai (n:=3) (by kernel_rfl) rfl)<|zR rfl (al (i:=0) ay rfl rfl rfl rfl)<|zm rfl<|zS rfl (eH (zs:=[.int .i64 0,.string ⟨#[]⟩,.string ⟨#[]⟩,.slice none 0 0]) (ps:=[(0,1),(1,1),(2,1),(3,1)]) (cs:=[i64 2,S ([]:List UInt8),S a8,aj]) (by kernel_rfl) rfl rfl)<|zR rfl (dL (ds:=[i64 2,S ([]:List UInt8),S a8,slE (Enc.prod Enc.str Enc.str) ([]:List ((List UInt8)×List UInt8)) none]) 12 (.cons (.refl _) (.cons (.refl _) (.cons (.refl _) (.cons (.nil _) (.nil))))) (hc:=rfl)<|cW (E:=(Enc.prod Enc.int (Enc.prod Enc.str (Enc.prod Enc.str (Enc.sl (Enc.prod Enc.str Enc.str)))))) (bytes:=64) (zs:=[.int .i64 0,.string ⟨#[]⟩,.string ⟨#[]⟩,.slice none 0 0]) (l:=([(2,([]:List UInt8),a8,([]:List ((List UInt8)×List UInt8)))]:List (Int×(List UInt8)×(List UInt8)×List ((List UInt8)×List UInt8)))) ay (by kernel_rfl) (by kernel_rfl) rfl rfl rfl rfl rfl)<|zX rfl (cM (E:=(Enc.prod Enc.int (Enc.prod Enc.str (Enc.prod Enc.str (Enc.sl (Enc.prod Enc.str Enc.str)))))) (bytes:=64) 2 ay ay rfl (by kernel_rfl) rfl rfl rfl rfl g13 e15) ?_;rintro _ _ ⟨t12,rfl,rfl⟩
  refine zS rfl (am rfl)<|zS rfl (ai (n:=3) (by kernel_rfl) rfl)<|s0 rfl rfl (aA (i:=0) (c:=slE _ _ _) (by kernel_rfl) rfl rfl rfl rfl (af rfl))<|ag ?_;obtain rfl:=aq H;exact And.intro rfl (Exists.intro _ (Exists.intro _ ⟨bp rfl,aK [0,0,0] rfl,rfl,t12,rfl⟩))
 ·replace H:=bf c11 H;refine aC ?_;obtain rfl:=aq H;exact And.intro rfl (Exists.intro _ (Exists.intro _ ⟨bp rfl,aK [0,0,0] rfl,rfl,t7,rfl⟩))
set_option maxRecDepth 100000 in
set_option maxHeartbeats 1000000 in
theorem um (F:Nat) (o1:Nat) (a2:List UInt8) (a3:List (List UInt8)) (t4:Nat) (a5:Int) (a6:List (Int×(List UInt8)×(List UInt8)×List ((List UInt8)×List UInt8))) (t7:Nat) (a8:List UInt8) (rv:Res ((List (Int×(List UInt8)×(List UInt8)×List ((List UInt8)×List UInt8)))×(List (List UInt8)))) (H:mL F a2 a3 a5 a6 a8=some rv):ACalls Tryz.prog 71 [.pt o1 0,S a8] [.obj o1 [S a2,.sk t4 a3.length,i64 a5,slE (Enc.prod Enc.int (Enc.prod Enc.str (Enc.prod Enc.str (Enc.sl (Enc.prod Enc.str Enc.str))))) a6 (some t7)],.stk t4 (Enc.str.fl a3),.tok t7 33] (na (fun (r:(List (Int×(List UInt8)×(List UInt8)×List ((List UInt8)×List UInt8)))×(List (List UInt8)))=>(fun e A'=>e=.ret (.tup [])∧∃ t10 t12,A'=[.obj o1 [S a2,.sk t10 r.2.length,i64 a5,slE (Enc.prod Enc.int (Enc.prod Enc.str (Enc.prod Enc.str (Enc.sl (Enc.prod Enc.str Enc.str))))) r.1 (some t12)],.stk t10 (Enc.str.fl r.2),.tok t12 33])) (fun e=>dR (.iface 46 (.agg #[.int .i64 e]))) rv):=by
 unfold mL at H
 refine az Tryz.func71 rfl rfl ?_;show AW _ _ 45 _ _ _;refine ac ?_;obtain ⟨g13,H⟩:=aI H;refine aa ?_;show AR _ _ _ _ _ [0,1,2,3,4,5,6] _;refine zS rfl (ah (av:=.pt _ _) rfl)<|zS rfl (am rfl)<|zS rfl (ai (n:=1) (by kernel_rfl) rfl)<|zR rfl (al (i:=0) ao rfl rfl rfl rfl)<|zS rfl (iQ ao rfl)<|zS rfl (mc rfl rfl g13)<|za rfl<|ag<|ac ?_;obtain ⟨g15,H⟩:=cP H;obtain ⟨g16,H⟩:=cP H;obtain ⟨x17,e18,H⟩:=bz H
 rcases Or.symm (dE H) with ⟨p21,e20,H⟩ | ⟨x19,e20,H⟩
 ·subst H;refine aa ?_;show AR _ _ _ _ _ [0,1,2,3,4,5,6,7,8,9,10,11,12,13] _;refine zm rfl<|zS rfl (cX rfl rfl)<|zm rfl<|bk (l:=[13]) 23 (B ((decide (0≤(a3.length:Int) - 1))&&(decide (x17=a8)))) (fun K=>?_) ?_
  ·rcases ap (decide (0≤(a3.length:Int) - 1)) with h14 | h14
   ·refine zU h14 rfl (ah (av:=.pt _ _) rfl)<|zU h14 rfl (am rfl)<|zU h14 rfl (ai (n:=1) (by kernel_rfl) rfl)<|zT h14 rfl (cG rfl rfl (al (i:=0) ao rfl rfl rfl rfl) ?_);refine zM h14 rfl<|zU h14 rfl (oq ao (by kernel_rfl) rfl rfl (g15 h14))<|zT h14 rfl (cG rfl rfl (ta (E:=Enc.str) 1 ab rfl rfl rfl rfl (g16 h14) e18 rfl) ?_);refine zM h14 rfl<|zU h14 rfl (cD rfl rfl)<|zS rfl (aD (av:=.v _) rfl h14 rfl) ?_;exact K _ 9 _ (aw (cd h14)) rfl rfl
   ·refine zF h14 rfl<|zF h14 rfl<|zF h14 rfl<|zF h14 rfl<|zF h14 rfl<|zF h14 rfl<|zF h14 rfl<|zF h14 rfl<|zF h14 rfl<|zS rfl (aF (av:=.v _) rfl h14 rfl) ?_;exact K _ 9 _ (aw (cq h14)) rfl rfl
  refine ar rfl rfl (cg (c:=dR (.iface 46 (.agg #[.int .i64 p21]))) [] rfl cr rfl (cu F ((decide (0≤(a3.length:Int) - 1))&&(decide (x17=a8))) p21 e20) rfl ?_);exact And.intro rfl (Exists.intro [] ⟨bC _,rfl,rfl⟩)
 refine aa ?_;show AR _ _ _ _ _ [0,1,2,3,4,5,6,7,8,9,10,11,12,13] _;refine zm rfl<|zS rfl (cX rfl rfl)<|zm rfl<|bk (l:=[13]) 23 (B ((decide (0≤(a3.length:Int) - 1))&&(decide (x17=a8)))) (fun K=>?_) ?_
 ·rcases ap (decide (0≤(a3.length:Int) - 1)) with h14 | h14
  ·refine zU h14 rfl (ah (av:=.pt _ _) rfl)<|zU h14 rfl (am rfl)<|zU h14 rfl (ai (n:=1) (by kernel_rfl) rfl)<|zT h14 rfl (cG rfl rfl (al (i:=0) ao rfl rfl rfl rfl) ?_);refine zM h14 rfl<|zU h14 rfl (oq ao (by kernel_rfl) rfl rfl (g15 h14))<|zT h14 rfl (cG rfl rfl (ta (E:=Enc.str) 1 ab rfl rfl rfl rfl (g16 h14) e18 rfl) ?_);refine zM h14 rfl<|zU h14 rfl (cD rfl rfl)<|zS rfl (aD (av:=.v _) rfl h14 rfl) ?_;exact K _ 9 _ (aw (cd h14)) rfl rfl
  ·refine zF h14 rfl<|zF h14 rfl<|zF h14 rfl<|zF h14 rfl<|zF h14 rfl<|zF h14 rfl<|zF h14 rfl<|zF h14 rfl<|zF h14 rfl<|zS rfl (aF (av:=.v _) rfl h14 rfl) ?_;exact K _ 9 _ (aw (cq h14)) rfl rfl
 refine ar rfl rfl (aX rfl cr rfl (cH F ((decide (0≤(a3.length:Int) - 1))&&(decide (x17=a8))) e20) ?_);refine ag<|ac ?_;obtain ⟨g22,H⟩:=aI H;obtain ⟨x23,e24,H⟩:=bz H;refine aa ?_;show AR _ _ _ _ _ [0,1,2,3,4,5,6,7,8,9] _;refine zS rfl (ah (av:=.pt _ _) rfl)<|zS rfl (ah (av:=.pt _ _) rfl)<|zS rfl (am rfl)<|zS rfl (ai (n:=1) (by kernel_rfl) rfl)<|zR rfl (al (i:=0) ao rfl rfl rfl rfl)<|zm rfl<|zR rfl (ym (E:=Enc.str) 1 ao (by kernel_rfl) rfl rfl rfl rfl g22 e24)<|zS rfl (am rfl)<|zS rfl (ai (n:=1) (by kernel_rfl) rfl)<|s0 rfl rfl (aA (i:=0) (c:=.sk _ _) (by kernel_rfl) rfl rfl rfl rfl (af rfl))<|ag ?_;obtain ⟨g26,H⟩:=aI H;obtain ⟨x27,e28,H⟩:=bz H;refine aa ?_;show AR _ _ _ _ _ [0,1,2,3,4,5,6,7,8,9,10,11] _
 refine zS rfl (ah (av:=.pt _ _) rfl)<|zS rfl (ah (av:=.pt _ _) rfl)<|zS rfl (am rfl)<|zS rfl (ai (n:=3) (by kernel_rfl) rfl)<|zR rfl (al (i:=0) ay rfl rfl rfl rfl)<|zm rfl<|zS rfl (eH (zs:=[.int .i64 0,.string ⟨#[]⟩,.string ⟨#[]⟩,.slice none 0 0]) (ps:=[(0,1),(1,1),(2,1),(3,1)]) (cs:=[i64 1,S a8,S ([]:List UInt8),aj]) (by kernel_rfl) rfl rfl)<|zR rfl (dL (ds:=[i64 1,S a8,S ([]:List UInt8),slE (Enc.prod Enc.str Enc.str) ([]:List ((List UInt8)×List UInt8)) none]) 40 (.cons (.refl _) (.cons (.refl _) (.cons (.refl _) (.cons (.nil _) (.nil))))) (hc:=rfl)<|cW (E:=(Enc.prod Enc.int (Enc.prod Enc.str (Enc.prod Enc.str (Enc.sl (Enc.prod Enc.str Enc.str)))))) (bytes:=64) (zs:=[.int .i64 0,.string ⟨#[]⟩,.string ⟨#[]⟩,.slice none 0 0]) (l:=([(1,a8,([]:List UInt8),([]:List ((List UInt8)×List UInt8)))]:List (Int×(List UInt8)×(List UInt8)×List ((List UInt8)×List UInt8)))) ay (by kernel_rfl) (by kernel_rfl) rfl rfl rfl rfl rfl)<|zX rfl (cM (E:=(Enc.prod Enc.int (Enc.prod Enc.str (Enc.prod Enc.str (Enc.sl (Enc.prod Enc.str Enc.str)))))) (bytes:=64) 2 ay ay rfl (by kernel_rfl) rfl rfl rfl rfl g26 e28) ?_;rintro _ _ ⟨t25,rfl,rfl⟩;refine zS rfl (am rfl)<|zS rfl (ai (n:=3) (by kernel_rfl) rfl)<|s0 rfl rfl (aA (i:=0) (c:=slE _ _ _) (by kernel_rfl) rfl rfl rfl rfl (af rfl))<|ag ?_
 obtain rfl:=aq H;exact And.intro rfl (Exists.intro _ (Exists.intro _ ⟨bp rfl,aK [0,0,0] rfl,rfl,t4,t25,rfl⟩))
theorem pW (F:Nat) (o1:Nat) (a2:List UInt8) (a3:List (List UInt8)) (t4:Nat) (a5:Int) (a6:List (Int×(List UInt8)×(List UInt8)×List ((List UInt8)×List UInt8))) (t7:Nat) (a8:List UInt8) (r11:List (Int×(List UInt8)×(List UInt8)×List ((List UInt8)×List UInt8))) (r9:List (List UInt8)) (H:mL F a2 a3 a5 a6 a8=some (Res.ok (r11,r9))):ACalls Tryz.prog 71 [.pt o1 0,S a8] [.obj o1 [S a2,.sk t4 a3.length,i64 a5,slE (Enc.prod Enc.int (Enc.prod Enc.str (Enc.prod Enc.str (Enc.sl (Enc.prod Enc.str Enc.str))))) a6 (some t7)],.stk t4 (Enc.str.fl a3),.tok t7 33] (fun e A'=>e=.ret (.tup [])∧∃ t10 t12,A'=[.obj o1 [S a2,.sk t10 r9.length,i64 a5,slE (Enc.prod Enc.int (Enc.prod Enc.str (Enc.prod Enc.str (Enc.sl (Enc.prod Enc.str Enc.str))))) r11 (some t12)],.stk t10 (Enc.str.fl r9),.tok t12 33]):=um F o1 a2 a3 t4 a5 a6 t7 a8 _ H
theorem po (F:Nat) (o1:Nat) (a2:List UInt8) (a3:List (List UInt8)) (t4:Nat) (a5:Int) (a6:List (Int×(List UInt8)×(List UInt8)×List ((List UInt8)×List UInt8))) (t7:Nat) (a8:List UInt8) (e:Int) (H:mL F a2 a3 a5 a6 a8=some (Res.pan e)):ACalls Tryz.prog 71 [.pt o1 0,S a8] [.obj o1 [S a2,.sk t4 a3.length,i64 a5,slE (Enc.prod Enc.int (Enc.prod Enc.str (Enc.prod Enc.str (Enc.sl (Enc.prod Enc.str Enc.str))))) a6 (some t7)],.stk t4 (Enc.str.fl a3),.tok t7 33] (fun ae A'=>ae=.pan ((fun e=>dR (.iface 46 (.agg #[.int .i64 e]))) e)∧A'=[]):=um F o1 a2 a3 t4 a5 a6 t7 a8 _ H
set_option maxRecDepth 100000 in
set_option maxHeartbeats 1000000 in
theorem sL (F:Nat) (o1:Nat) (a2:List UInt8) (a3:List (List UInt8)) (t4:Nat) (a5:Int) (a6:List (Int×(List UInt8)×(List UInt8)×List ((List UInt8)×List UInt8))) (t7:Nat) (rv:Res (Bool×(List UInt8)×(List (Int×(List UInt8)×(List UInt8)×List ((List UInt8)×List UInt8))))) (H:kz F a2 a3 a5 a6=some rv):ACalls Tryz.prog 37 [.pt o1 0] [.obj o1 [S a2,.sk t4 a3.length,i64 a5,slE (Enc.prod Enc.int (Enc.prod Enc.str (Enc.prod Enc.str (Enc.sl (Enc.prod Enc.str Enc.str))))) a6 (some t7)],.stk t4 (Enc.str.fl a3),.tok t7 33] (na (fun (r:Bool×(List UInt8)×(List (Int×(List UInt8)×(List UInt8)×List ((List UInt8)×List UInt8))))=>(fun e A'=>e=.ret (B r.1)∧∃ t11,A'=[.obj o1 [S r.2.1,.sk t4 a3.length,i64 a5,slE (Enc.prod Enc.int (Enc.prod Enc.str (Enc.prod Enc.str (Enc.sl (Enc.prod Enc.str Enc.str))))) r.2.2 (some t11)],.stk t4 (Enc.str.fl a3),.tok t11 33])) (fun e=>dR (.iface 46 (.agg #[.int .i64 e]))) rv):=by
 unfold kz at H
 refine az Tryz.func37 rfl rfl ?_;show AW _ _ 50 _ _ _;refine ac<|aa ?_;show AR _ _ _ _ _ [0] _;refine za rfl<|ag<|ac ?_;obtain ⟨x12,e13,H⟩:=bz H;refine aa ?_;show AR _ _ _ _ _ [0,1,2,3,4,5] _;refine zS rfl (ah (av:=.pt _ _) rfl)<|zS rfl (am rfl)<|zS rfl (ai (n:=0) (by kernel_rfl) rfl)<|zR rfl (al (i:=0) ab rfl rfl rfl rfl)<|ar rfl rfl (aX rfl qY rfl (show ACalls _ _ _ [] (Ret (i64 x12) []) from by subst e13; exact fY a2 60) ?_);refine za rfl<|ag<|bq (X:=Int) (fun y15=>⟨[(0,.pt o1 0),(3,i64 y15)],[],[.obj o1 [S a2,.sk t4 a3.length,i64 a5,slE (Enc.prod Enc.int (Enc.prod Enc.str (Enc.prod Enc.str (Enc.sl (Enc.prod Enc.str Enc.str))))) a6 (some t7)],.stk t4 (Enc.str.fl a3),.tok t7 33]⟩) (fun y15=>gA F a2 a3 a5 a6 y15=some rv) ?_ ?_
 ·refine ac<|aa ?_;show AR _ _ _ _ _ [0,1] _;refine zm rfl<|zS rfl (bN rfl rfl)<|ag<|ax rfl (fun c14=>?_) (fun c14=>?_)
  ·replace H:=be c14 H;refine aa ?_;show AR _ _ _ _ _ [0,1,2,3,4,5] _;refine zS rfl (ah (av:=.pt _ _) rfl)<|zS rfl (am rfl)<|zS rfl (ai (n:=0) (by kernel_rfl) rfl)<|zR rfl (al (i:=0) ab rfl rfl rfl rfl)<|zS rfl (aW ab rfl)<|za rfl<|ag ?_;exact Exists.intro (a2.length:Int) ⟨H,aP [0,0,0] (.cons (.refl _) (.cons (.refl _) (.nil _))) rfl⟩
  ·replace H:=bf c14 H;refine aC ?_;exact Exists.intro x12 ⟨H,aP [0,0,0] (.cons (.refl _) (.cons (.refl _) (.nil _))) rfl⟩
 rintro y15 H;replace H:gA F a2 a3 a5 a6 y15=some rv:=H
 unfold gA at H
 refine ac<|ac<|aa ?_;show AR _ _ _ _ _ [0,1] _;refine zm rfl<|zS rfl (bI rfl rfl)<|ag<|ax rfl (fun c17=>?_) (fun c17=>?_)
 ·replace H:=be c17 H;refine ac<|aa ?_;show AR _ _ _ _ _ [0] _;refine za rfl<|ag<|aQ ?_;obtain rfl:=aq H;exact And.intro rfl (Exists.intro _ (Exists.intro _ ⟨aO rfl (.refl _),aK [0,0,0] rfl,rfl,t7,rfl⟩))
 ·replace H:=bf c17 H;refine aC<|ac ?_;obtain ⟨g18,H⟩:=aI H;obtain ⟨x19,e20,H⟩:=bz H;refine aa ?_;show AR _ _ _ _ _ [0,1,2,3,4,5,6] _;refine zS rfl (ah (av:=.pt _ _) rfl)<|zS rfl (am rfl)<|zS rfl (ai (n:=0) (by kernel_rfl) rfl)<|zR rfl (al (i:=0) ab rfl rfl rfl rfl)<|zm rfl<|zS rfl (qu ab rfl rfl g18 e20)<|za rfl<|ag<|ac ?_;obtain ⟨g21,H⟩:=aI H;obtain ⟨x22,e23,H⟩:=bz H;refine aa ?_;show AR _ _ _ _ _ [0,1,2,3,4,5,6,7,8,9] _;refine zS rfl (ah (av:=.pt _ _) rfl)<|zS rfl (ah (av:=.pt _ _) rfl)<|zS rfl (am rfl)<|zS rfl (ai (n:=0) (by kernel_rfl) rfl)<|zR rfl (al (i:=0) ab rfl rfl rfl rfl)<|zm rfl<|zS rfl (ee ab rfl rfl g21 e23)<|zS rfl (am rfl)<|zS rfl (ai (n:=0) (by kernel_rfl) rfl)<|s0 rfl rfl (aA (i:=0) (c:=.v _) (by kernel_rfl) rfl rfl rfl rfl (af rfl))<|ag<|ac ?_
  rcases Or.symm (dE H) with ⟨p26,e25,H⟩ | ⟨x24,e25,H⟩
  ·subst H;refine aa ?_;show AR _ _ _ _ _ [0,1,2] _;refine zm rfl<|ar rfl rfl (cg (c:=dR (.iface 46 (.agg #[.int .i64 p26]))) [] rfl pa rfl (nE F x19 p26 e25) rfl ?_);exact And.intro rfl (Exists.intro [] ⟨bC _,rfl,rfl⟩)
  refine aa ?_;show AR _ _ _ _ _ [0,1,2] _;refine zm rfl<|ar rfl rfl (aX rfl pa rfl (oe F x19 x24 e25) ?_);refine za rfl<|ag<|ac<|ac<|aa ?_;show AR _ _ _ _ _ [0,1,2,3,4,5] _;refine zS rfl (ah (av:=.pt _ _) rfl)<|zS rfl (am rfl)<|zS rfl (ai (n:=1) (by kernel_rfl) rfl)<|zR rfl (al (i:=0) ao rfl rfl rfl rfl)<|zS rfl (iQ ao rfl)<|zS rfl (bI rfl rfl)<|ag<|ax rfl (fun c27=>?_) (fun c27=>?_)
  ·replace H:=be c27 H;refine ac ?_;obtain ⟨x28,e29,H⟩:=cm H
   rcases Or.symm (dE H) with ⟨p32,e31,H⟩ | ⟨x30,e31,H⟩
   ·subst H;refine aa ?_;show AR _ _ _ _ _ [0,1,2,3] _;refine zm rfl<|ar rfl rfl (aX rfl uU rfl (sN F x19 x28 e29) ?_);refine zS rfl (cD rfl rfl)<|ar rfl rfl (cg (c:=dR (.iface 46 (.agg #[.int .i64 p32]))) [] rfl cr rfl (cu F (decide (x28=([]:List UInt8))) p32 e31) rfl ?_);exact And.intro rfl (Exists.intro [] ⟨bC _,rfl,rfl⟩)
   refine aa ?_;show AR _ _ _ _ _ [0,1,2,3] _;refine zm rfl<|ar rfl rfl (aX rfl uU rfl (sN F x19 x28 e29) ?_);refine zS rfl (cD rfl rfl)<|ar rfl rfl (aX rfl cr rfl (cH F (decide (x28=([]:List UInt8))) e31) ?_);refine ag<|ac<|aa ?_;show AR _ _ _ _ _ [0] _;refine za rfl<|ag<|aQ ?_;obtain rfl:=aq H;exact And.intro rfl (Exists.intro _ (Exists.intro _ ⟨aO rfl (.refl _),aK [0,0,0] rfl,rfl,t7,rfl⟩))
  ·replace H:=bf c27 H;refine aC<|ac ?_;obtain ⟨x33,e34,H⟩:=cm H;refine aa ?_;show AR _ _ _ _ _ [0,1,2] _;refine zS rfl (ah (av:=.pt _ _) rfl)<|zm rfl<|ar rfl rfl (aY [0,0,0] rfl uT rfl (uk F o1 x22 a3 t4 a5 a6 t7 x24 x33 e34) rfl (fun c A' h=>by cases h.1) ?_)
   rintro av A' ⟨h,t35,rfl⟩; cases h
   refine ag<|ac<|aa ?_;show AR _ _ _ _ _ [0] _;refine za rfl<|ag<|aQ ?_;obtain rfl:=aq H;exact And.intro rfl (Exists.intro _ (Exists.intro _ ⟨aO rfl (.refl _),aK [0,0,0] rfl,rfl,t35,rfl⟩))
theorem tL (F:Nat) (o1:Nat) (a2:List UInt8) (a3:List (List UInt8)) (t4:Nat) (a5:Int) (a6:List (Int×(List UInt8)×(List UInt8)×List ((List UInt8)×List UInt8))) (t7:Nat) (r8:Bool) (r9:List UInt8) (r10:List (Int×(List UInt8)×(List UInt8)×List ((List UInt8)×List UInt8))) (H:kz F a2 a3 a5 a6=some (Res.ok (r8,r9,r10))):ACalls Tryz.prog 37 [.pt o1 0] [.obj o1 [S a2,.sk t4 a3.length,i64 a5,slE (Enc.prod Enc.int (Enc.prod Enc.str (Enc.prod Enc.str (Enc.sl (Enc.prod Enc.str Enc.str))))) a6 (some t7)],.stk t4 (Enc.str.fl a3),.tok t7 33] (fun e A'=>e=.ret (B r8)∧∃ t11,A'=[.obj o1 [S r9,.sk t4 a3.length,i64 a5,slE (Enc.prod Enc.int (Enc.prod Enc.str (Enc.prod Enc.str (Enc.sl (Enc.prod Enc.str Enc.str))))) r10 (some t11)],.stk t4 (Enc.str.fl a3),.tok t11 33]):=sL F o1 a2 a3 t4 a5 a6 t7 _ H
theorem sv (F:Nat) (o1:Nat) (a2:List UInt8) (a3:List (List UInt8)) (t4:Nat) (a5:Int) (a6:List (Int×(List UInt8)×(List UInt8)×List ((List UInt8)×List UInt8))) (t7:Nat) (e:Int) (H:kz F a2 a3 a5 a6=some (Res.pan e)):ACalls Tryz.prog 37 [.pt o1 0] [.obj o1 [S a2,.sk t4 a3.length,i64 a5,slE (Enc.prod Enc.int (Enc.prod Enc.str (Enc.prod Enc.str (Enc.sl (Enc.prod Enc.str Enc.str))))) a6 (some t7)],.stk t4 (Enc.str.fl a3),.tok t7 33] (fun ae A'=>ae=.pan ((fun e=>dR (.iface 46 (.agg #[.int .i64 e]))) e)∧A'=[]):=sL F o1 a2 a3 t4 a5 a6 t7 _ H
set_option maxRecDepth 100000 in
set_option maxHeartbeats 1000000 in
theorem pY (F:Nat) (o1:Nat) (a2:List UInt8) (a3:List (List UInt8)) (t4:Nat) (a5:Int) (a6:List (Int×(List UInt8)×(List UInt8)×List ((List UInt8)×List UInt8))) (t7:Nat) (rv:Res (Bool×(List UInt8))) (H:kG F a2 a3 a5 a6=some rv):ACalls Tryz.prog 38 [.pt o1 0] [.obj o1 [S a2,.sk t4 a3.length,i64 a5,slE (Enc.prod Enc.int (Enc.prod Enc.str (Enc.prod Enc.str (Enc.sl (Enc.prod Enc.str Enc.str))))) a6 (some t7)],.stk t4 (Enc.str.fl a3),.tok t7 33] (na (fun (r:Bool×(List UInt8))=>(fun e A'=>e=.ret (B r.1)∧A'=[.obj o1 [S r.2,.sk t4 a3.length,i64 a5,slE (Enc.prod Enc.int (Enc.prod Enc.str (Enc.prod Enc.str (Enc.sl (Enc.prod Enc.str Enc.str))))) a6 (some t7)],.stk t4 (Enc.str.fl a3),.tok t7 33])) (fun e=>dR (.iface 46 (.agg #[.int .i64 e]))) rv):=by
 unfold kG at H
 refine az Tryz.func38 rfl rfl ?_;show AW _ _ 8 _ _ _;refine ac<|aa ?_;show AR _ _ _ _ _ [0] _;refine za rfl<|ag<|ac<|ac ?_;obtain ⟨x10,x11,e12,H⟩:=dd H;refine aa ?_;show AR _ _ _ _ _ [0,1,2] _;refine zS rfl (ah (av:=.pt _ _) rfl)<|ar rfl rfl (aY [0,0,0] rfl eZ rfl (eX F o1 a2 a3 t4 a5 a6 t7 ([60,33,45,45]:List UInt8) x10 x11 e12) rfl (fun c A' h=>by cases h.1) ?_)
 rintro av A' ⟨h,rfl⟩; cases h
 refine zS rfl (ca rfl)<|ag<|ax rfl (fun c13=>?_) (fun c13=>?_)
 ·replace H:=be c13 H;refine ac<|aa ?_;show AR _ _ _ _ _ [0] _;refine za rfl<|ag<|aQ ?_;obtain rfl:=aq H;exact And.intro rfl (Exists.intro _ (Exists.intro _ ⟨aO rfl (.refl _),aK [0,0,0] rfl,rfl,rfl⟩))
 ·replace H:=bf c13 H;refine aC<|ac ?_
  rcases Or.symm (dE H) with ⟨p16,e15,H⟩ | ⟨x14,e15,H⟩
  ·subst H;refine aa ?_;show AR _ _ _ _ _ [0,1] _;refine zS rfl (ah (av:=.pt _ _) rfl)<|ar rfl rfl (cg (c:=dR (.iface 46 (.agg #[.int .i64 p16]))) [0,0,0] rfl ib rfl (jo F o1 x11 a3 t4 a5 a6 t7 ([45,45,62]:List UInt8) p16 e15) rfl ?_);exact And.intro rfl (Exists.intro [] ⟨bC _,rfl,rfl⟩)
  refine aa ?_;show AR _ _ _ _ _ [0,1] _;refine zS rfl (ah (av:=.pt _ _) rfl)<|ar rfl rfl (aY [0,0,0] rfl ib rfl (kv F o1 x11 a3 t4 a5 a6 t7 ([45,45,62]:List UInt8) x14.1 x14.2 e15) rfl (fun c A' h=>by cases h.1) ?_)
  rintro av A' ⟨h,rfl⟩; cases h
  refine ag<|ac<|aa ?_;show AR _ _ _ _ _ [0] _;refine za rfl<|ag<|aQ ?_;obtain rfl:=aq H;exact And.intro rfl (Exists.intro _ (Exists.intro _ ⟨aO rfl (.refl _),aK [0,0,0] rfl,rfl,rfl⟩))
theorem rQ (F:Nat) (o1:Nat) (a2:List UInt8) (a3:List (List UInt8)) (t4:Nat) (a5:Int) (a6:List (Int×(List UInt8)×(List UInt8)×List ((List UInt8)×List UInt8))) (t7:Nat) (r8:Bool) (r9:List UInt8) (H:kG F a2 a3 a5 a6=some (Res.ok (r8,r9))):ACalls Tryz.prog 38 [.pt o1 0] [.obj o1 [S a2,.sk t4 a3.length,i64 a5,slE (Enc.prod Enc.int (Enc.prod Enc.str (Enc.prod Enc.str (Enc.sl (Enc.prod Enc.str Enc.str))))) a6 (some t7)],.stk t4 (Enc.str.fl a3),.tok t7 33] (fun e A'=>e=.ret (B r8)∧A'=[.obj o1 [S r9,.sk t4 a3.length,i64 a5,slE (Enc.prod Enc.int (Enc.prod Enc.str (Enc.prod Enc.str (Enc.sl (Enc.prod Enc.str Enc.str))))) a6 (some t7)],.stk t4 (Enc.str.fl a3),.tok t7 33]):=pY F o1 a2 a3 t4 a5 a6 t7 _ H
theorem qF (F:Nat) (o1:Nat) (a2:List UInt8) (a3:List (List UInt8)) (t4:Nat) (a5:Int) (a6:List (Int×(List UInt8)×(List UInt8)×List ((List UInt8)×List UInt8))) (t7:Nat) (e:Int) (H:kG F a2 a3 a5 a6=some (Res.pan e)):ACalls Tryz.prog 38 [.pt o1 0] [.obj o1 [S a2,.sk t4 a3.length,i64 a5,slE (Enc.prod Enc.int (Enc.prod Enc.str (Enc.prod Enc.str (Enc.sl (Enc.prod Enc.str Enc.str))))) a6 (some t7)],.stk t4 (Enc.str.fl a3),.tok t7 33] (fun ae A'=>ae=.pan ((fun e=>dR (.iface 46 (.agg #[.int .i64 e]))) e)∧A'=[]):=pY F o1 a2 a3 t4 a5 a6 t7 _ H
set_option maxRecDepth 100000 in
set_option maxHeartbeats 1000000 in
theorem xb (F:Nat) (o1:Nat) (a2:List UInt8) (a3:List (List UInt8)) (t4:Nat) (a5:Int) (a6:List (Int×(List UInt8)×(List UInt8)×List ((List UInt8)×List UInt8))) (t7:Nat) (rv:Res (Bool×(List UInt8))) (H:rI F a2 a3 a5 a6=some rv):ACalls Tryz.prog 39 [.pt o1 0] [.obj o1 [S a2,.sk t4 a3.length,i64 a5,slE (Enc.prod Enc.int (Enc.prod Enc.str (Enc.prod Enc.str (Enc.sl (Enc.prod Enc.str Enc.str))))) a6 (some t7)],.stk t4 (Enc.str.fl a3),.tok t7 33] (na (fun (r:Bool×(List UInt8))=>(fun e A'=>e=.ret (B r.1)∧A'=[.obj o1 [S r.2,.sk t4 a3.length,i64 a5,slE (Enc.prod Enc.int (Enc.prod Enc.str (Enc.prod Enc.str (Enc.sl (Enc.prod Enc.str Enc.str))))) a6 (some t7)],.stk t4 (Enc.str.fl a3),.tok t7 33])) (fun e=>dR (.iface 46 (.agg #[.int .i64 e]))) rv):=by
 unfold rI at H
 refine az Tryz.func39 rfl rfl ?_;show AW _ _ 8 _ _ _;refine ac<|aa ?_;show AR _ _ _ _ _ [0] _;refine za rfl<|ag<|ac<|ac ?_;obtain ⟨x10,x11,e12,H⟩:=dd H;refine aa ?_;show AR _ _ _ _ _ [0,1,2] _;refine zS rfl (ah (av:=.pt _ _) rfl)<|ar rfl rfl (aY [0,0,0] rfl eZ rfl (eX F o1 a2 a3 t4 a5 a6 t7 ([60,63]:List UInt8) x10 x11 e12) rfl (fun c A' h=>by cases h.1) ?_)
 rintro av A' ⟨h,rfl⟩; cases h
 refine zS rfl (ca rfl)<|ag<|ax rfl (fun c13=>?_) (fun c13=>?_)
 ·replace H:=be c13 H;refine ac<|aa ?_;show AR _ _ _ _ _ [0] _;refine za rfl<|ag<|aQ ?_;obtain rfl:=aq H;exact And.intro rfl (Exists.intro _ (Exists.intro _ ⟨aO rfl (.refl _),aK [0,0,0] rfl,rfl,rfl⟩))
 ·replace H:=bf c13 H;refine aC<|ac ?_
  rcases Or.symm (dE H) with ⟨p16,e15,H⟩ | ⟨x14,e15,H⟩
  ·subst H;refine aa ?_;show AR _ _ _ _ _ [0,1] _;refine zS rfl (ah (av:=.pt _ _) rfl)<|ar rfl rfl (cg (c:=dR (.iface 46 (.agg #[.int .i64 p16]))) [0,0,0] rfl ib rfl (jo F o1 x11 a3 t4 a5 a6 t7 ([63,62]:List UInt8) p16 e15) rfl ?_);exact And.intro rfl (Exists.intro [] ⟨bC _,rfl,rfl⟩)
  refine aa ?_;show AR _ _ _ _ _ [0,1] _;refine zS rfl (ah (av:=.pt _ _) rfl)<|ar rfl rfl (aY [0,0,0] rfl ib rfl (kv F o1 x11 a3 t4 a5 a6 t7 ([63,62]:List UInt8) x14.1 x14.2 e15) rfl (fun c A' h=>by cases h.1) ?_)
  rintro av A' ⟨h,rfl⟩; cases h
  refine ag<|ac<|aa ?_;show AR _ _ _ _ _ [0] _;refine za rfl<|ag<|aQ ?_;obtain rfl:=aq H;exact And.intro rfl (Exists.intro _ (Exists.intro _ ⟨aO rfl (.refl _),aK [0,0,0] rfl,rfl,rfl⟩))
theorem wv (F:Nat) (o1:Nat) (a2:List UInt8) (a3:List (List UInt8)) (t4:Nat) (a5:Int) (a6:List (Int×(List UInt8)×(List UInt8)×List ((List UInt8)×List UInt8))) (t7:Nat) (r8:Bool) (r9:List UInt8) (H:rI F a2 a3 a5 a6=some (Res.ok (r8,r9))):ACalls Tryz.prog 39 [.pt o1 0] [.obj o1 [S a2,.sk t4 a3.length,i64 a5,slE (Enc.prod Enc.int (Enc.prod Enc.str (Enc.prod Enc.str (Enc.sl (Enc.prod Enc.str Enc.str))))) a6 (some t7)],.stk t4 (Enc.str.fl a3),.tok t7 33] (fun e A'=>e=.ret (B r8)∧A'=[.obj o1 [S r9,.sk t4 a3.length,i64 a5,slE (Enc.prod Enc.int (Enc.prod Enc.str (Enc.prod Enc.str (Enc.sl (Enc.prod Enc.str Enc.str))))) a6 (some t7)],.stk t4 (Enc.str.fl a3),.tok t7 33]):=xb F o1 a2 a3 t4 a5 a6 t7 _ H
theorem vr (F:Nat) (o1:Nat) (a2:List UInt8) (a3:List (List UInt8)) (t4:Nat) (a5:Int) (a6:List (Int×(List UInt8)×(List UInt8)×List ((List UInt8)×List UInt8))) (t7:Nat) (e:Int) (H:rI F a2 a3 a5 a6=some (Res.pan e)):ACalls Tryz.prog 39 [.pt o1 0] [.obj o1 [S a2,.sk t4 a3.length,i64 a5,slE (Enc.prod Enc.int (Enc.prod Enc.str (Enc.prod Enc.str (Enc.sl (Enc.prod Enc.str Enc.str))))) a6 (some t7)],.stk t4 (Enc.str.fl a3),.tok t7 33] (fun ae A'=>ae=.pan ((fun e=>dR (.iface 46 (.agg #[.int .i64 e]))) e)∧A'=[]):=xb F o1 a2 a3 t4 a5 a6 t7 _ H
set_option maxRecDepth 100000 in
set_option maxHeartbeats 1000000 in
theorem uo (F:Nat) (o1:Nat) (a2:List UInt8) (a3:List (List UInt8)) (t4:Nat) (a5:Int) (a6:List (Int×(List UInt8)×(List UInt8)×List ((List UInt8)×List UInt8))) (t7:Nat) (rv:Res (Bool×(List UInt8)×(List (Int×(List UInt8)×(List UInt8)×List ((List UInt8)×List UInt8))))) (H:mN F a2 a3 a5 a6=some rv):ACalls Tryz.prog 40 [.pt o1 0] [.obj o1 [S a2,.sk t4 a3.length,i64 a5,slE (Enc.prod Enc.int (Enc.prod Enc.str (Enc.prod Enc.str (Enc.sl (Enc.prod Enc.str Enc.str))))) a6 (some t7)],.stk t4 (Enc.str.fl a3),.tok t7 33] (na (fun (r:Bool×(List UInt8)×(List (Int×(List UInt8)×(List UInt8)×List ((List UInt8)×List UInt8))))=>(fun e A'=>e=.ret (B r.1)∧∃ t11,A'=[.obj o1 [S r.2.1,.sk t4 a3.length,i64 a5,slE (Enc.prod Enc.int (Enc.prod Enc.str (Enc.prod Enc.str (Enc.sl (Enc.prod Enc.str Enc.str))))) r.2.2 (some t11)],.stk t4 (Enc.str.fl a3),.tok t11 33])) (fun e=>dR (.iface 46 (.agg #[.int .i64 e]))) rv):=by
 unfold mN at H
 refine az Tryz.func40 rfl rfl ?_;show AW _ _ 19 _ _ _;refine ac<|aa ?_;show AR _ _ _ _ _ [0] _;refine za rfl<|ag<|ac<|ac ?_;obtain ⟨x12,x13,e14,H⟩:=dd H;refine aa ?_;show AR _ _ _ _ _ [0,1,2] _;refine zS rfl (ah (av:=.pt _ _) rfl)<|ar rfl rfl (aY [0,0,0] rfl eZ rfl (eX F o1 a2 a3 t4 a5 a6 t7 ([60,33,91,67,68,65,84,65,91]:List UInt8) x12 x13 e14) rfl (fun c A' h=>by cases h.1) ?_)
 rintro av A' ⟨h,rfl⟩; cases h
 refine zS rfl (ca rfl)<|ag<|ax rfl (fun c15=>?_) (fun c15=>?_)
 ·replace H:=be c15 H;refine ac<|aa ?_;show AR _ _ _ _ _ [0] _;refine za rfl<|ag<|aQ ?_;obtain rfl:=aq H;exact And.intro rfl (Exists.intro _ (Exists.intro _ ⟨aO rfl (.refl _),aK [0,0,0] rfl,rfl,t7,rfl⟩))
 ·replace H:=bf c15 H;refine aC<|ac ?_
  rcases Or.symm (dE H) with ⟨p18,e17,H⟩ | ⟨x16,e17,H⟩
  ·subst H;refine aa ?_;show AR _ _ _ _ _ [0,1,2] _;refine zS rfl (ah (av:=.pt _ _) rfl)<|ar rfl rfl (cg (c:=dR (.iface 46 (.agg #[.int .i64 p18]))) [0,0,0] rfl ib rfl (jo F o1 x13 a3 t4 a5 a6 t7 ([93,93,62]:List UInt8) p18 e17) rfl ?_);exact And.intro rfl (Exists.intro [] ⟨bC _,rfl,rfl⟩)
  refine aa ?_;show AR _ _ _ _ _ [0,1,2] _;refine zS rfl (ah (av:=.pt _ _) rfl)<|ar rfl rfl (aY [0,0,0] rfl ib rfl (kv F o1 x13 a3 t4 a5 a6 t7 ([93,93,62]:List UInt8) x16.1 x16.2 e17) rfl (fun c A' h=>by cases h.1) ?_)
  rintro av A' ⟨h,rfl⟩; cases h
  refine za rfl<|ag<|ac ?_
  rcases Or.symm (dE H) with ⟨p21,e20,H⟩ | ⟨x19,e20,H⟩
  ·subst H;refine aa ?_;show AR _ _ _ _ _ [0,1,2,3,4,5,6] _;refine zS rfl (ah (av:=.pt _ _) rfl)<|zS rfl (am rfl)<|zS rfl (ai (n:=1) (by kernel_rfl) rfl)<|zR rfl (al (i:=0) ao rfl rfl rfl rfl)<|zS rfl (iQ ao rfl)<|zS rfl (eN rfl rfl)<|ar rfl rfl (cg (c:=dR (.iface 46 (.agg #[.int .i64 p21]))) [] rfl cr rfl (cu F (decide (0 < (a3.length:Int))) p21 e20) rfl ?_);exact And.intro rfl (Exists.intro [] ⟨bC _,rfl,rfl⟩)
  refine aa ?_;show AR _ _ _ _ _ [0,1,2,3,4,5,6] _;refine zS rfl (ah (av:=.pt _ _) rfl)<|zS rfl (am rfl)<|zS rfl (ai (n:=1) (by kernel_rfl) rfl)<|zR rfl (al (i:=0) ao rfl rfl rfl rfl)<|zS rfl (iQ ao rfl)<|zS rfl (eN rfl rfl)<|ar rfl rfl (aX rfl cr rfl (cH F (decide (0 < (a3.length:Int))) e20) ?_);refine ag<|ac ?_;obtain ⟨x22,e23,H⟩:=cm H;refine aa ?_;show AR _ _ _ _ _ [0,1,2] _;refine zS rfl (ah (av:=.pt _ _) rfl)<|zm rfl<|ar rfl rfl (aY [0,0,0] rfl uT rfl (uk F o1 x16.2 a3 t4 a5 a6 t7 x16.1 x22 e23) rfl (fun c A' h=>by cases h.1) ?_)
  rintro av A' ⟨h,t24,rfl⟩; cases h
  refine ag<|ac<|aa ?_;show AR _ _ _ _ _ [0] _;refine za rfl<|ag<|aQ ?_;obtain rfl:=aq H;exact And.intro rfl (Exists.intro _ (Exists.intro _ ⟨aO rfl (.refl _),aK [0,0,0] rfl,rfl,t24,rfl⟩))
theorem vp (F:Nat) (o1:Nat) (a2:List UInt8) (a3:List (List UInt8)) (t4:Nat) (a5:Int) (a6:List (Int×(List UInt8)×(List UInt8)×List ((List UInt8)×List UInt8))) (t7:Nat) (r8:Bool) (r9:List UInt8) (r10:List (Int×(List UInt8)×(List UInt8)×List ((List UInt8)×List UInt8))) (H:mN F a2 a3 a5 a6=some (Res.ok (r8,r9,r10))):ACalls Tryz.prog 40 [.pt o1 0] [.obj o1 [S a2,.sk t4 a3.length,i64 a5,slE (Enc.prod Enc.int (Enc.prod Enc.str (Enc.prod Enc.str (Enc.sl (Enc.prod Enc.str Enc.str))))) a6 (some t7)],.stk t4 (Enc.str.fl a3),.tok t7 33] (fun e A'=>e=.ret (B r8)∧∃ t11,A'=[.obj o1 [S r9,.sk t4 a3.length,i64 a5,slE (Enc.prod Enc.int (Enc.prod Enc.str (Enc.prod Enc.str (Enc.sl (Enc.prod Enc.str Enc.str))))) r10 (some t11)],.stk t4 (Enc.str.fl a3),.tok t11 33]):=uo F o1 a2 a3 t4 a5 a6 t7 _ H
theorem tM (F:Nat) (o1:Nat) (a2:List UInt8) (a3:List (List UInt8)) (t4:Nat) (a5:Int) (a6:List (Int×(List UInt8)×(List UInt8)×List ((List UInt8)×List UInt8))) (t7:Nat) (e:Int) (H:mN F a2 a3 a5 a6=some (Res.pan e)):ACalls Tryz.prog 40 [.pt o1 0] [.obj o1 [S a2,.sk t4 a3.length,i64 a5,slE (Enc.prod Enc.int (Enc.prod Enc.str (Enc.prod Enc.str (Enc.sl (Enc.prod Enc.str Enc.str))))) a6 (some t7)],.stk t4 (Enc.str.fl a3),.tok t7 33] (fun ae A'=>ae=.pan ((fun e=>dR (.iface 46 (.agg #[.int .i64 e]))) e)∧A'=[]):=uo F o1 a2 a3 t4 a5 a6 t7 _ H
set_option maxRecDepth 100000 in
set_option maxHeartbeats 1000000 in
theorem xa (F:Nat) (o1:Nat) (a2:List UInt8) (a3:List (List UInt8)) (t4:Nat) (a5:Int) (a6:List (Int×(List UInt8)×(List UInt8)×List ((List UInt8)×List UInt8))) (t7:Nat) (rv:Res (Bool×(List UInt8))) (H:rH F a2 a3 a5 a6=some rv):ACalls Tryz.prog 41 [.pt o1 0] [.obj o1 [S a2,.sk t4 a3.length,i64 a5,slE (Enc.prod Enc.int (Enc.prod Enc.str (Enc.prod Enc.str (Enc.sl (Enc.prod Enc.str Enc.str))))) a6 (some t7)],.stk t4 (Enc.str.fl a3),.tok t7 33] (na (fun (r:Bool×(List UInt8))=>(fun e A'=>e=.ret (B r.1)∧A'=[.obj o1 [S r.2,.sk t4 a3.length,i64 a5,slE (Enc.prod Enc.int (Enc.prod Enc.str (Enc.prod Enc.str (Enc.sl (Enc.prod Enc.str Enc.str))))) a6 (some t7)],.stk t4 (Enc.str.fl a3),.tok t7 33])) (fun e=>dR (.iface 46 (.agg #[.int .i64 e]))) rv):=by
 unfold rH at H
 refine az Tryz.func41 rfl rfl ?_;show AW _ _ 8 _ _ _;refine ac<|aa ?_;show AR _ _ _ _ _ [0] _;refine za rfl<|ag<|ac<|ac ?_;obtain ⟨x10,x11,e12,H⟩:=dd H;refine aa ?_;show AR _ _ _ _ _ [0,1,2] _;refine zS rfl (ah (av:=.pt _ _) rfl)<|ar rfl rfl (aY [0,0,0] rfl eZ rfl (eX F o1 a2 a3 t4 a5 a6 t7 ([60,33]:List UInt8) x10 x11 e12) rfl (fun c A' h=>by cases h.1) ?_)
 rintro av A' ⟨h,rfl⟩; cases h
 refine zS rfl (ca rfl)<|ag<|ax rfl (fun c13=>?_) (fun c13=>?_)
 ·replace H:=be c13 H;refine ac<|aa ?_;show AR _ _ _ _ _ [0] _;refine za rfl<|ag<|aQ ?_;obtain rfl:=aq H;exact And.intro rfl (Exists.intro _ (Exists.intro _ ⟨aO rfl (.refl _),aK [0,0,0] rfl,rfl,rfl⟩))
 ·replace H:=bf c13 H;refine aC<|ac ?_
  rcases Or.symm (dE H) with ⟨p16,e15,H⟩ | ⟨x14,e15,H⟩
  ·subst H;refine aa ?_;show AR _ _ _ _ _ [0,1] _;refine zS rfl (ah (av:=.pt _ _) rfl)<|ar rfl rfl (cg (c:=dR (.iface 46 (.agg #[.int .i64 p16]))) [0,0,0] rfl ib rfl (jo F o1 x11 a3 t4 a5 a6 t7 ([62]:List UInt8) p16 e15) rfl ?_);exact And.intro rfl (Exists.intro [] ⟨bC _,rfl,rfl⟩)
  refine aa ?_;show AR _ _ _ _ _ [0,1] _;refine zS rfl (ah (av:=.pt _ _) rfl)<|ar rfl rfl (aY [0,0,0] rfl ib rfl (kv F o1 x11 a3 t4 a5 a6 t7 ([62]:List UInt8) x14.1 x14.2 e15) rfl (fun c A' h=>by cases h.1) ?_)
  rintro av A' ⟨h,rfl⟩; cases h
  refine ag<|ac<|aa ?_;show AR _ _ _ _ _ [0] _;refine za rfl<|ag<|aQ ?_;obtain rfl:=aq H;exact And.intro rfl (Exists.intro _ (Exists.intro _ ⟨aO rfl (.refl _),aK [0,0,0] rfl,rfl,rfl⟩))
theorem wu (F:Nat) (o1:Nat) (a2:List UInt8) (a3:List (List UInt8)) (t4:Nat) (a5:Int) (a6:List (Int×(List UInt8)×(List UInt8)×List ((List UInt8)×List UInt8))) (t7:Nat) (r8:Bool) (r9:List UInt8) (H:rH F a2 a3 a5 a6=some (Res.ok (r8,r9))):ACalls Tryz.prog 41 [.pt o1 0] [.obj o1 [S a2,.sk t4 a3.length,i64 a5,slE (Enc.prod Enc.int (Enc.prod Enc.str (Enc.prod Enc.str (Enc.sl (Enc.prod Enc.str Enc.str))))) a6 (some t7)],.stk t4 (Enc.str.fl a3),.tok t7 33] (fun e A'=>e=.ret (B r8)∧A'=[.obj o1 [S r9,.sk t4 a3.length,i64 a5,slE (Enc.prod Enc.int (Enc.prod Enc.str (Enc.prod Enc.str (Enc.sl (Enc.prod Enc.str Enc.str))))) a6 (some t7)],.stk t4 (Enc.str.fl a3),.tok t7 33]):=xa F o1 a2 a3 t4 a5 a6 t7 _ H
theorem vo (F:Nat) (o1:Nat) (a2:List UInt8) (a3:List (List UInt8)) (t4:Nat) (a5:Int) (a6:List (Int×(List UInt8)×(List UInt8)×List ((List UInt8)×List UInt8))) (t7:Nat) (e:Int) (H:rH F a2 a3 a5 a6=some (Res.pan e)):ACalls Tryz.prog 41 [.pt o1 0] [.obj o1 [S a2,.sk t4 a3.length,i64 a5,slE (Enc.prod Enc.int (Enc.prod Enc.str (Enc.prod Enc.str (Enc.sl (Enc.prod Enc.str Enc.str))))) a6 (some t7)],.stk t4 (Enc.str.fl a3),.tok t7 33] (fun ae A'=>ae=.pan ((fun e=>dR (.iface 46 (.agg #[.int .i64 e]))) e)∧A'=[]):=xa F o1 a2 a3 t4 a5 a6 t7 _ H
set_option maxRecDepth 100000 in
set_option maxHeartbeats 1000000 in
theorem rh (F:Nat) (o1:Nat) (a2:List UInt8) (a3:List (List UInt8)) (t4:Nat) (a5:Int) (a6:List (Int×(List UInt8)×(List UInt8)×List ((List UInt8)×List UInt8))) (t7:Nat) (rv:Res (Bool×(List UInt8)×(List (Int×(List UInt8)×(List UInt8)×List ((List UInt8)×List UInt8)))×(List (List UInt8)))) (H:kd F a2 a3 a5 a6=some rv):ACalls Tryz.prog 42 [.pt o1 0] [.obj o1 [S a2,.sk t4 a3.length,i64 a5,slE (Enc.prod Enc.int (Enc.prod Enc.str (Enc.prod Enc.str (Enc.sl (Enc.prod Enc.str Enc.str))))) a6 (some t7)],.stk t4 (Enc.str.fl a3),.tok t7 33] (na (fun (r:Bool×(List UInt8)×(List (Int×(List UInt8)×(List UInt8)×List ((List UInt8)×List UInt8)))×(List (List UInt8)))=>(fun e A'=>e=.ret (B r.1)∧∃ t11 t13,A'=[.obj o1 [S r.2.1,.sk t11 r.2.2.2.length,i64 a5,slE (Enc.prod Enc.int (Enc.prod Enc.str (Enc.prod Enc.str (Enc.sl (Enc.prod Enc.str Enc.str))))) r.2.2.1 (some t13)],.stk t11 (Enc.str.fl r.2.2.2),.tok t13 33])) (fun e=>dR (.iface 46 (.agg #[.int .i64 e]))) rv):=by
 unfold kd at H
 refine az Tryz.func42 rfl rfl ?_;show AW _ _ 17 _ _ _;refine ac<|aa ?_;show AR _ _ _ _ _ [0] _;refine za rfl<|ag<|ac<|ac ?_;obtain ⟨x14,x15,e16,H⟩:=dd H;refine aa ?_;show AR _ _ _ _ _ [0,1,2] _;refine zS rfl (ah (av:=.pt _ _) rfl)<|ar rfl rfl (aY [0,0,0] rfl eZ rfl (eX F o1 a2 a3 t4 a5 a6 t7 ([60,47]:List UInt8) x14 x15 e16) rfl (fun c A' h=>by cases h.1) ?_)
 rintro av A' ⟨h,rfl⟩; cases h
 refine zS rfl (ca rfl)<|ag<|ax rfl (fun c17=>?_) (fun c17=>?_)
 ·replace H:=be c17 H;refine ac<|aa ?_;show AR _ _ _ _ _ [0] _;refine za rfl<|ag<|aQ ?_;obtain rfl:=aq H;exact And.intro rfl (Exists.intro _ (Exists.intro _ ⟨aO rfl (.refl _),aK [0,0,0] rfl,rfl,t4,t7,rfl⟩))
 ·replace H:=bf c17 H;refine aC<|ac ?_
  rcases Or.symm (dE H) with ⟨p20,e19,H⟩ | ⟨x18,e19,H⟩
  ·subst H;refine aa ?_;show AR _ _ _ _ _ [0,1,2] _;refine zS rfl (ah (av:=.pt _ _) rfl)<|ar rfl rfl (cg (c:=dR (.iface 46 (.agg #[.int .i64 p20]))) [0,0,0] rfl lS rfl (mH F o1 x15 a3 t4 a5 a6 t7 p20 e19) rfl ?_);exact And.intro rfl (Exists.intro [] ⟨bC _,rfl,rfl⟩)
  refine aa ?_;show AR _ _ _ _ _ [0,1,2] _;refine zS rfl (ah (av:=.pt _ _) rfl)<|ar rfl rfl (aY [0,0,0] rfl lS rfl (nu F o1 x15 a3 t4 a5 a6 t7 x18.1 x18.2 e19) rfl (fun c A' h=>by cases h.1) ?_)
  rintro av A' ⟨h,rfl⟩; cases h
  refine za rfl<|ag<|ac ?_;obtain ⟨x21,x22,e23,H⟩:=dd H;refine aa ?_;show AR _ _ _ _ _ [0,1] _;refine zS rfl (ah (av:=.pt _ _) rfl)<|ar rfl rfl (aY [0,0,0] rfl uS rfl (rg F o1 x18.2 a3 t4 a5 a6 t7 x21 x22 e23) rfl (fun c A' h=>by cases h.1) ?_)
  rintro av A' ⟨h,rfl⟩; cases h
  refine ag<|ac ?_;obtain ⟨x24,x25,e26,H⟩:=dd H
  rcases Or.symm (dE H) with ⟨p29,e28,H⟩ | ⟨x27,e28,H⟩
  ·subst H;refine aa ?_;show AR _ _ _ _ _ [0,1,2] _;refine zS rfl (ah (av:=.pt _ _) rfl)<|ar rfl rfl (aY [0,0,0] rfl eZ rfl (eX F o1 x22 a3 t4 a5 a6 t7 ([62]:List UInt8) x24 x25 e26) rfl (fun c A' h=>by cases h.1) ?_)
   rintro av A' ⟨h,rfl⟩; cases h
   refine ar rfl rfl (cg (c:=dR (.iface 46 (.agg #[.int .i64 p29]))) [] rfl cr rfl (cu F x24 p29 e28) rfl ?_);exact And.intro rfl (Exists.intro [] ⟨bC _,rfl,rfl⟩)
  refine aa ?_;show AR _ _ _ _ _ [0,1,2] _;refine zS rfl (ah (av:=.pt _ _) rfl)<|ar rfl rfl (aY [0,0,0] rfl eZ rfl (eX F o1 x22 a3 t4 a5 a6 t7 ([62]:List UInt8) x24 x25 e26) rfl (fun c A' h=>by cases h.1) ?_)
  rintro av A' ⟨h,rfl⟩; cases h
  refine ar rfl rfl (aX rfl cr rfl (cH F x24 e28) ?_);refine ag<|ac ?_
  rcases Or.symm (dE H) with ⟨p32,e31,H⟩ | ⟨x30,e31,H⟩
  ·subst H;refine aa ?_;show AR _ _ _ _ _ [0,1,2] _;refine zS rfl (ah (av:=.pt _ _) rfl)<|zm rfl<|ar rfl rfl (cg (c:=dR (.iface 46 (.agg #[.int .i64 p32]))) [0,0,0] rfl oZ rfl (po F o1 x25 a3 t4 a5 a6 t7 x18.1 p32 e31) rfl ?_);exact And.intro rfl (Exists.intro [] ⟨bC _,rfl,rfl⟩)
  refine aa ?_;show AR _ _ _ _ _ [0,1,2] _;refine zS rfl (ah (av:=.pt _ _) rfl)<|zm rfl<|ar rfl rfl (aY [0,0,0] rfl oZ rfl (pW F o1 x25 a3 t4 a5 a6 t7 x18.1 x30.1 x30.2 e31) rfl (fun c A' h=>by cases h.1) ?_)
  rintro av A' ⟨h,t33,t34,rfl⟩; cases h
  refine ag<|ac<|aa ?_;show AR _ _ _ _ _ [0] _;refine za rfl<|ag<|aQ ?_;obtain rfl:=aq H;exact And.intro rfl (Exists.intro _ (Exists.intro _ ⟨aO rfl (.refl _),aK [0,0,0] rfl,rfl,t33,t34,rfl⟩))
theorem sw (F:Nat) (o1:Nat) (a2:List UInt8) (a3:List (List UInt8)) (t4:Nat) (a5:Int) (a6:List (Int×(List UInt8)×(List UInt8)×List ((List UInt8)×List UInt8))) (t7:Nat) (r8:Bool) (r9:List UInt8) (r12:List (Int×(List UInt8)×(List UInt8)×List ((List UInt8)×List UInt8))) (r10:List (List UInt8)) (H:kd F a2 a3 a5 a6=some (Res.ok (r8,r9,r12,r10))):ACalls Tryz.prog 42 [.pt o1 0] [.obj o1 [S a2,.sk t4 a3.length,i64 a5,slE (Enc.prod Enc.int (Enc.prod Enc.str (Enc.prod Enc.str (Enc.sl (Enc.prod Enc.str Enc.str))))) a6 (some t7)],.stk t4 (Enc.str.fl a3),.tok t7 33] (fun e A'=>e=.ret (B r8)∧∃ t11 t13,A'=[.obj o1 [S r9,.sk t11 r10.length,i64 a5,slE (Enc.prod Enc.int (Enc.prod Enc.str (Enc.prod Enc.str (Enc.sl (Enc.prod Enc.str Enc.str))))) r12 (some t13)],.stk t11 (Enc.str.fl r10),.tok t13 33]):=rh F o1 a2 a3 t4 a5 a6 t7 _ H
theorem rO (F:Nat) (o1:Nat) (a2:List UInt8) (a3:List (List UInt8)) (t4:Nat) (a5:Int) (a6:List (Int×(List UInt8)×(List UInt8)×List ((List UInt8)×List UInt8))) (t7:Nat) (e:Int) (H:kd F a2 a3 a5 a6=some (Res.pan e)):ACalls Tryz.prog 42 [.pt o1 0] [.obj o1 [S a2,.sk t4 a3.length,i64 a5,slE (Enc.prod Enc.int (Enc.prod Enc.str (Enc.prod Enc.str (Enc.sl (Enc.prod Enc.str Enc.str))))) a6 (some t7)],.stk t4 (Enc.str.fl a3),.tok t7 33] (fun ae A'=>ae=.pan ((fun e=>dR (.iface 46 (.agg #[.int .i64 e]))) e)∧A'=[]):=rh F o1 a2 a3 t4 a5 a6 t7 _ H
abbrev _root_.Go.Av.bM := @Tryz.underlying44
set_option maxRecDepth 100000 in
set_option maxHeartbeats 1000000 in
theorem up (F:Nat) (o1:Nat) (a2:List UInt8) (a3:List (List UInt8)) (t4:Nat) (a5:Int) (a6:List (Int×(List UInt8)×(List UInt8)×List ((List UInt8)×List UInt8))) (t7:Nat) (rv:Res ((List UInt8)×(List UInt8)×(List UInt8))) (H:nQ F a2 a3 a5 a6=some rv):ACalls Tryz.prog 72 [.pt o1 0] [.obj o1 [S a2,.sk t4 a3.length,i64 a5,slE (Enc.prod Enc.int (Enc.prod Enc.str (Enc.prod Enc.str (Enc.sl (Enc.prod Enc.str Enc.str))))) a6 (some t7)],.stk t4 (Enc.str.fl a3),.tok t7 33] (na (fun (r:(List UInt8)×(List UInt8)×(List UInt8))=>(fun e A'=>e=.ret (.agg [S r.1,S r.2.1])∧A'=[.obj o1 [S r.2.2,.sk t4 a3.length,i64 a5,slE (Enc.prod Enc.int (Enc.prod Enc.str (Enc.prod Enc.str (Enc.sl (Enc.prod Enc.str Enc.str))))) a6 (some t7)],.stk t4 (Enc.str.fl a3),.tok t7 33])) (fun e=>dR (.iface 46 (.agg #[.int .i64 e]))) rv):=by
 unfold nQ at H
 refine az Tryz.func72 rfl rfl ?_;show AW _ _ 26 _ _ _;refine ac<|aa ?_;show AR _ _ _ _ _ [0] _;refine zX rfl (dw (zs:=[.string ⟨#[]⟩,.string ⟨#[]⟩]) (by kernel_rfl)) ?_;rintro _ _ ⟨o11,rfl,rfl⟩;refine ag<|ac ?_
 rcases Or.symm (dE H) with ⟨p14,e13,H⟩ | ⟨x12,e13,H⟩
 ·subst H;refine aa ?_;show AR _ _ _ _ _ [0,1,2,3,4] _;refine zS rfl (ah (av:=.pt _ _) rfl)<|ar rfl rfl (cg (c:=dR (.iface 46 (.agg #[.int .i64 p14]))) [1,1,1] rfl lS rfl (mH F o1 a2 a3 t4 a5 a6 t7 p14 e13) rfl ?_);exact And.intro rfl (Exists.intro [] ⟨bC _,rfl,rfl⟩)
 refine aa ?_;show AR _ _ _ _ _ [0,1,2,3,4] _;refine zS rfl (ah (av:=.pt _ _) rfl)<|ar rfl rfl (aY [1,1,1] rfl lS rfl (nu F o1 a2 a3 t4 a5 a6 t7 x12.1 x12.2 e13) rfl (fun c A' h=>by cases h.1) ?_)
 rintro av A' ⟨h,rfl⟩; cases h
 refine zS rfl (eH (zs:=[.string ⟨#[]⟩,.string ⟨#[]⟩]) (ps:=[(0,1),(1,1)]) (cs:=[S x12.1,S ([]:List UInt8)]) (by kernel_rfl) rfl rfl)<|zX rfl (dw (zs:=[.string ⟨#[]⟩,.string ⟨#[]⟩]) (by kernel_rfl)) ?_;rintro _ _ ⟨o15,rfl,rfl⟩;refine s0 rfl rfl (cn (i:=0) (vs:=[S x12.1,S ([]:List UInt8)]) (by kernel_rfl) rfl rfl (by simp [cE,slE]) rfl (af rfl))<|ag<|ac<|aa ?_;show AR _ _ _ _ _ [0] _;refine za rfl<|ag<|bq (X:=(List UInt8)×(List UInt8)) (fun (y26,y27)=>⟨[(0,.pt o1 0),(2,.pt o11 0),(3,.pt o15 0),(4,S y26)],[],[.obj o1 [S y27,.sk t4 a3.length,i64 a5,slE (Enc.prod Enc.int (Enc.prod Enc.str (Enc.prod Enc.str (Enc.sl (Enc.prod Enc.str Enc.str))))) a6 (some t7)],.obj o15 [S x12.1,S ([]:List UInt8)],.obj o11 [S ([]:List UInt8),S ([]:List UInt8)],.stk t4 (Enc.str.fl a3),.tok t7 33]⟩) (fun (y26,y27)=>jN F a3 a5 a6 x12 y26 y27=some rv) ?_ ?_
 ·refine ac ?_;obtain ⟨x16,x17,e18,H⟩:=dd H;refine aa ?_;show AR _ _ _ _ _ [0,1,2] _;refine zS rfl (ah (av:=.pt _ _) rfl)<|ar rfl rfl (aY [1,1,1] rfl eZ rfl (eX F o1 x12.2 a3 t4 a5 a6 t7 ([61,34]:List UInt8) x16 x17 e18) rfl (fun c A' h=>by cases h.1) ?_)
  rintro av A' ⟨h,rfl⟩; cases h
  refine zS rfl (ca rfl)<|ag<|ax rfl (fun c19=>?_) (fun c19=>?_)
  ·replace H:=be c19 H;refine ac ?_;obtain ⟨x20,x21,e22,H⟩:=dd H
   rcases Or.symm (dE H) with ⟨p25,e24,H⟩ | ⟨x23,e24,H⟩
   ·subst H;refine aa ?_;show AR _ _ _ _ _ [0,1,2] _;refine zS rfl (ah (av:=.pt _ _) rfl)<|ar rfl rfl (aY [0,0,0] rfl eZ rfl (eX F o1 x17 a3 t4 a5 a6 t7 ([61,39]:List UInt8) x20 x21 e22) rfl (fun c A' h=>by cases h.1) ?_)
    rintro av A' ⟨h,rfl⟩; cases h
    refine ar rfl rfl (cg (c:=dR (.iface 46 (.agg #[.int .i64 p25]))) [] rfl cr rfl (cu F x20 p25 e24) rfl ?_);exact And.intro rfl (Exists.intro [] ⟨bC _,rfl,rfl⟩)
   refine aa ?_;show AR _ _ _ _ _ [0,1,2] _;refine zS rfl (ah (av:=.pt _ _) rfl)<|ar rfl rfl (aY [0,0,0] rfl eZ rfl (eX F o1 x17 a3 t4 a5 a6 t7 ([61,39]:List UInt8) x20 x21 e22) rfl (fun c A' h=>by cases h.1) ?_)
   rintro av A' ⟨h,rfl⟩; cases h
   refine ar rfl rfl (aX rfl cr rfl (cH F x20 e24) ?_);refine ag<|aa ?_;show AR _ _ _ _ _ [0] _;refine za rfl<|ag ?_;exact Exists.intro (([39]:List UInt8),x21) ⟨H,aP [0,2,2,0,0] (.cons (.refl _) (.cons (.refl _) (.cons (.refl _) (.cons (.refl _) (.nil _))))) rfl⟩
  ·replace H:=bf c19 H;refine aC ?_;exact Exists.intro (([34]:List UInt8),x17) ⟨H,aP [0,2,2,0,0] (.cons (.refl _) (.cons (.refl _) (.cons (.refl _) (.cons (.refl _) (.nil _))))) rfl⟩
 rintro ⟨y26,y27⟩ H;replace H:jN F a3 a5 a6 x12 y26 y27=some rv:=H
 unfold jN at H
 refine ac ?_
 rcases Or.symm (dE H) with ⟨p31,e30,H⟩ | ⟨x29,e30,H⟩
 ·subst H;refine aa ?_;show AR _ _ _ _ _ [0,1,2,3] _;refine zS rfl (ah (av:=.pt _ _) rfl)<|zm rfl<|ar rfl rfl (cg (c:=dR (.iface 46 (.agg #[.int .i64 p31]))) [0,2,2] rfl ib rfl (jo F o1 y27 a3 t4 a5 a6 t7 y26 p31 e30) rfl ?_);exact And.intro rfl (Exists.intro [] ⟨bC _,rfl,rfl⟩)
 refine aa ?_;show AR _ _ _ _ _ [0,1,2,3] _;refine zS rfl (ah (av:=.pt _ _) rfl)<|zm rfl<|ar rfl rfl (aY [0,2,2] rfl ib rfl (kv F o1 y27 a3 t4 a5 a6 t7 y26 x29.1 x29.2 e30) rfl (fun c A' h=>by cases h.1) ?_)
 rintro av A' ⟨h,rfl⟩; cases h
 refine za rfl<|ag<|ac ?_;obtain ⟨g32,H⟩:=aI H;obtain ⟨x33,e34,H⟩:=bz H
 rcases Or.symm (dE H) with ⟨p37,e36,H⟩ | ⟨x35,e36,H⟩
 ·subst H;refine aa ?_;show AR _ _ _ _ _ [0,1,2,3] _;refine zm rfl<|ar rfl rfl (aX rfl qZ rfl (show ACalls _ _ _ [] (Ret (B x33) []) from by subst e34; exact nx x29.1 ([60]:List UInt8) (pP g32)) ?_);refine zS rfl (ca rfl)<|ar rfl rfl (cg (c:=dR (.iface 46 (.agg #[.int .i64 p37]))) [] rfl cr rfl (cu F (!x33) p37 e36) rfl ?_);exact And.intro rfl (Exists.intro [] ⟨bC _,rfl,rfl⟩)
 refine aa ?_;show AR _ _ _ _ _ [0,1,2,3] _;refine zm rfl<|ar rfl rfl (aX rfl qZ rfl (show ACalls _ _ _ [] (Ret (B x33) []) from by subst e34; exact nx x29.1 ([60]:List UInt8) (pP g32)) ?_);refine zS rfl (ca rfl)<|ar rfl rfl (aX rfl cr rfl (cH F (!x33) e36) ?_);refine ag<|ac ?_
 rcases Or.symm (dE H) with ⟨p40,e39,H⟩ | ⟨x38,e39,H⟩
 ·subst H;refine aa ?_;show AR _ _ _ _ _ [0,1,2,3] _;refine zm rfl<|ar rfl rfl (cg (c:=dR (.iface 46 (.agg #[.int .i64 p40]))) [] rfl pa rfl (nE F x29.1 p40 e39) rfl ?_);exact And.intro rfl (Exists.intro [] ⟨bC _,rfl,rfl⟩)
 refine aa ?_;show AR _ _ _ _ _ [0,1,2,3] _;refine zm rfl<|ar rfl rfl (aX rfl pa rfl (oe F x29.1 x38 e39) ?_);refine zS rfl (ai (n:=1) (by kernel_rfl) rfl)<|s0 rfl rfl (aA (i:=3) (c:=.v _) (by kernel_rfl) rfl rfl rfl rfl (af rfl))<|ag<|ac<|aa ?_;show AR _ _ _ _ _ [0,1] _;refine zR rfl (fN (i:=3) (n:=2) bM rfl (by kernel_rfl) rfl rfl (af rfl))<|s0 rfl rfl (cn (i:=4) (vs:=[S x12.1,S x38]) (by kernel_rfl) rfl rfl (by simp [cE,slE]) rfl (af rfl))<|ag<|aQ ?_;obtain rfl:=aq H;exact And.intro rfl (Exists.intro _ (Exists.intro _ ⟨rc (oC rfl (CellV.agg (off:=0) (cs:=[S x12.1,S x38]) (n:=2) 4 bM rfl (by kernel_rfl) rfl rfl (af rfl))),aK [0,0,0] rfl,rfl,rfl⟩))
theorem vq (F:Nat) (o1:Nat) (a2:List UInt8) (a3:List (List UInt8)) (t4:Nat) (a5:Int) (a6:List (Int×(List UInt8)×(List UInt8)×List ((List UInt8)×List UInt8))) (t7:Nat) (r8:List UInt8) (r9:List UInt8) (r10:List UInt8) (H:nQ F a2 a3 a5 a6=some (Res.ok (r8,r9,r10))):ACalls Tryz.prog 72 [.pt o1 0] [.obj o1 [S a2,.sk t4 a3.length,i64 a5,slE (Enc.prod Enc.int (Enc.prod Enc.str (Enc.prod Enc.str (Enc.sl (Enc.prod Enc.str Enc.str))))) a6 (some t7)],.stk t4 (Enc.str.fl a3),.tok t7 33] (fun e A'=>e=.ret (.agg [S r8,S r9])∧A'=[.obj o1 [S r10,.sk t4 a3.length,i64 a5,slE (Enc.prod Enc.int (Enc.prod Enc.str (Enc.prod Enc.str (Enc.sl (Enc.prod Enc.str Enc.str))))) a6 (some t7)],.stk t4 (Enc.str.fl a3),.tok t7 33]):=up F o1 a2 a3 t4 a5 a6 t7 _ H
theorem tN (F:Nat) (o1:Nat) (a2:List UInt8) (a3:List (List UInt8)) (t4:Nat) (a5:Int) (a6:List (Int×(List UInt8)×(List UInt8)×List ((List UInt8)×List UInt8))) (t7:Nat) (e:Int) (H:nQ F a2 a3 a5 a6=some (Res.pan e)):ACalls Tryz.prog 72 [.pt o1 0] [.obj o1 [S a2,.sk t4 a3.length,i64 a5,slE (Enc.prod Enc.int (Enc.prod Enc.str (Enc.prod Enc.str (Enc.sl (Enc.prod Enc.str Enc.str))))) a6 (some t7)],.stk t4 (Enc.str.fl a3),.tok t7 33] (fun ae A'=>ae=.pan ((fun e=>dR (.iface 46 (.agg #[.int .i64 e]))) e)∧A'=[]):=up F o1 a2 a3 t4 a5 a6 t7 _ H
set_option maxRecDepth 100000 in
set_option maxHeartbeats 1000000 in
theorem xO (F:Nat) (a1:List UInt8) (a2:List UInt8) (o3:Nat) (a4:List UInt8) (a5:List UInt8) (r6:Bool) (H:qm F a1 a2 a4 a5=some r6):ACalls Tryz.prog 74 [.agg [S a1,S a2],.pt o3 0] [.obj o3 [S a4,S a5]] (fun e A'=>e=.ret (B r6)∧A'=[.obj o3 [S a4,S a5]]):=by
 unfold qm at H
 refine az Tryz.func74 rfl rfl ?_;show AW _ _ 9 _ _ _;refine ac<|aa ?_;show AR _ _ _ _ _ [0,1] _;refine zR rfl (qS rfl (.inr ⟨_,rfl⟩))<|za rfl<|ag<|ac<|aa ?_;show AR _ _ _ _ _ [0,1,2,3,4,5] _;refine zS rfl (ai (n:=0) (by kernel_rfl) rfl)<|zR rfl (al (i:=0) ab rfl rfl rfl rfl)<|zS rfl (aN (n:=0) (by kernel_rfl) rfl (af rfl))<|zS rfl (aG ab rfl rfl)<|zS rfl (cD rfl rfl)<|za rfl<|ag<|aQ ?_;obtain rfl:=aq H;exact And.intro rfl (Exists.intro _ (Exists.intro _ ⟨aO rfl (.refl _),aK [0] rfl,rfl,rfl⟩))
abbrev _root_.Go.Av.aH := @Tryz.underlying31
set_option maxRecDepth 100000 in
set_option maxHeartbeats 1000000 in
theorem sx (F:Nat) (a1:List ((List UInt8)×List UInt8)) (q2:Option Nat) (o3:Nat) (a4:List UInt8) (a5:List UInt8) (r6:Int) (H:lE F a1 a4 a5=some r6):ACalls Tryz.prog 96 [slE (Enc.prod Enc.str Enc.str) a1 q2,.fn (.func 74) [] [.pt o3 0]] [.obj o3 [S a4,S a5]] (fun e A'=>e=.ret (i64 r6)∧A'=[.obj o3 [S a4,S a5]]):=by
 unfold lE at H
 refine az Tryz.func96 rfl rfl ?_;show AW _ _ 19 _ _ _;refine ac<|aa ?_;show AR _ _ _ _ _ [0] _;refine za rfl<|ag<|bq (X:=Unit) (fun _=>⟨[],[],[.obj o3 [S a4,S a5]]⟩) (fun _=>jE=some r6) ?_ ?_
 ·refine ac<|aa ?_;show AR _ _ _ _ _ [0,1,2] _;refine zS rfl (ah (av:=slE _ _ _) rfl)<|zS rfl (bh aH rfl)<|zm rfl<|ag<|aR<|cl (X:=Nat×Int) (fun (n9,y7)=>⟨[(0,slE (Enc.prod Enc.str Enc.str) a1 q2),(1,.fn (.func 74) [] [.pt o3 0]),(7,i64 (a1.length:Int)),(8,i64 y7)],[],[.obj o3 [S a4,S a5]]⟩) (fun (n9,y7)=>ft F a1 a4 a5 n9 y7=some r6) (fun (n9,y7)=>n9) (F,0) H (aP [0] (.cons (.refl _) (.cons (.refl _) (.cons (.refl _) (.cons (.refl _) (.nil _))))) rfl) ?_;rintro ⟨n9,y7⟩ H;obtain ⟨n9,rfl,H⟩:=cO H;replace H:gI F a1 a4 a5 (ft F a1 a4 a5 n9) y7=some r6:=H
  unfold gI at H
  refine ac<|aa ?_;show AR _ _ _ _ _ [0] _;refine zS rfl (bN rfl rfl)<|ag<|ac<|ax rfl (fun c10=>?_) (fun c10=>?_)
  ·replace H:=be c10 H;refine aC<|ac<|aR<|ac<|aa ?_;show AR _ _ _ _ _ [0,1] _;refine zm rfl<|za rfl<|ag<|ac ?_;obtain ⟨g11,H⟩:=aI H;obtain ⟨x12,e13,H⟩:=bz H;obtain ⟨x14,e15,H⟩:=cm H;refine aa ?_;show AR _ _ _ _ _ [0,1,2,3,4,5] _;refine zS rfl (ah (av:=.fn _ _ _) rfl)<|zS rfl (ah (av:=slE _ _ _) rfl)<|zm rfl<|zS rfl (bA (E:=(Enc.prod Enc.str Enc.str)) aH (by kernel_rfl) rfl rfl g11 e13)<|zS rfl (cx bM rfl (n:=2) (by kernel_rfl) rfl (af rfl))<|ar rfl rfl (AO.callFAt [0] rfl (.inl rfl) AG rfl (xO F x12.1 x12.2 o3 a4 a5 x14 e15) rfl (fun c A' h=>by cases h.1) ?_)
   rintro av A' ⟨h,rfl⟩; cases h
   refine ag<|ax rfl (fun c16=>?_) (fun c16=>?_)
   ·replace H:=be c16 H;refine ac<|aa ?_;show AR _ _ _ _ _ [0,1] _;refine zm rfl<|za rfl<|ag<|aQ ?_;obtain rfl:=aq H;exact And.intro rfl (Exists.intro _ (Exists.intro _ ⟨aO rfl (.refl _),aK [0] rfl,rfl,rfl⟩))
   ·replace H:=bf c16 H;refine aC ?_;obtain ⟨g17,H⟩:=aI H;refine aa ?_;show AR _ _ _ _ _ [0,1] _;refine zS rfl (bB rfl rfl g17)<|zm rfl<|ag ?_;exact Exists.intro (n9,y7+1) ⟨H,Nat.lt_succ_self _,aP [0] (.cons (.refl _) (.cons (.refl _) (.cons (.refl _) (.cons (.refl _) (.nil _))))) rfl⟩
  ·replace H:=bf c10 H;refine bU ?_;exact Exists.intro () ⟨H,aP [0] (.nil _) rfl⟩
 rintro _ H;replace H:jE=some r6:=H
 unfold jE at H
 refine ac<|aa ?_;show AR _ _ _ _ _ [0] _;refine za rfl<|ag<|aQ ?_;obtain rfl:=aq H;exact And.intro rfl (Exists.intro _ (Exists.intro _ ⟨aO rfl (.refl _),aK [0] rfl,rfl,rfl⟩))
set_option maxRecDepth 100000 in
set_option maxHeartbeats 1000000 in
theorem mj (F:Nat) (a1:List ((List UInt8)×List UInt8)) (q2:Option Nat) (o3:Nat) (a4:List UInt8) (a5:List UInt8) (r6:Bool) (H:gK F a1 a4 a5=some r6):ACalls Tryz.prog 73 [slE (Enc.prod Enc.str Enc.str) a1 q2,.fn (.func 74) [] [.pt o3 0]] [.obj o3 [S a4,S a5]] (fun e A'=>e=.ret (B r6)∧A'=[.obj o3 [S a4,S a5]]):=by
 unfold gK at H
 refine az Tryz.func73 rfl rfl ?_;show AW _ _ 9 _ _ _;refine ac<|aa ?_;show AR _ _ _ _ _ [0] _;refine za rfl<|ag<|ac ?_;obtain ⟨x7,e8,H⟩:=cm H;refine aa ?_;show AR _ _ _ _ _ [0,1,2,3,4] _;refine zS rfl (ah (av:=slE _ _ _) rfl)<|zS rfl (ah (av:=.fn _ _ _) rfl)<|ar rfl rfl (aY [0] rfl Ax rfl (sx F a1 q2 o3 a4 a5 x7 e8) rfl (fun c A' h=>by cases h.1) ?_)
 rintro av A' ⟨h,rfl⟩; cases h
 refine zS rfl (cX rfl rfl)<|za rfl<|ag<|aQ ?_;obtain rfl:=aq H;exact And.intro rfl (Exists.intro _ (Exists.intro _ ⟨aO rfl (.refl _),aK [0] rfl,rfl,rfl⟩))
abbrev _root_.Go.Av.au := @Tryz.underlying3
abbrev _root_.Go.Av.cA := @Tryz.underlying33
set_option maxRecDepth 100000 in
set_option maxHeartbeats 1000000 in
theorem pX (F:Nat) (o1:Nat) (a2:List UInt8) (a3:List (List UInt8)) (t4:Nat) (a5:Int) (a6:List (Int×(List UInt8)×(List UInt8)×List ((List UInt8)×List UInt8))) (t7:Nat) (rv:Res (Bool×(List UInt8)×Int×(List (Int×(List UInt8)×(List UInt8)×List ((List UInt8)×List UInt8)))×(List (List UInt8)))) (H:jM F a2 a3 a5 a6=some rv):ACalls Tryz.prog 43 [.pt o1 0] [.obj o1 [S a2,.sk t4 a3.length,i64 a5,slE (Enc.prod Enc.int (Enc.prod Enc.str (Enc.prod Enc.str (Enc.sl (Enc.prod Enc.str Enc.str))))) a6 (some t7)],.stk t4 (Enc.str.fl a3),.tok t7 33] (na (fun (r:Bool×(List UInt8)×Int×(List (Int×(List UInt8)×(List UInt8)×List ((List UInt8)×List UInt8)))×(List (List UInt8)))=>(fun e A'=>e=.ret (B r.1)∧∃ t11 t14,A'=[.obj o1 [S r.2.1,.sk t11 r.2.2.2.2.length,i64 r.2.2.1,slE (Enc.prod Enc.int (Enc.prod Enc.str (Enc.prod Enc.str (Enc.sl (Enc.prod Enc.str Enc.str))))) r.2.2.2.1 (some t14)],.stk t11 (Enc.str.fl r.2.2.2.2),.tok t14 33])) (fun e=>dR (.iface 46 (.agg #[.int .i64 e]))) rv):=by
 unfold jM at H
 refine az Tryz.func43 rfl rfl ?_;show AW _ _ 88 _ _ _;refine ac<|aa ?_;show AR _ _ _ _ _ [0] _;refine za rfl<|ag<|ac<|ac ?_;obtain ⟨x15,x16,e17,H⟩:=dd H;refine aa ?_;show AR _ _ _ _ _ [0,1,2] _;refine zS rfl (ah (av:=.pt _ _) rfl)<|ar rfl rfl (aY [0,0,0] rfl eZ rfl (eX F o1 a2 a3 t4 a5 a6 t7 ([60]:List UInt8) x15 x16 e17) rfl (fun c A' h=>by cases h.1) ?_)
 rintro av A' ⟨h,rfl⟩; cases h
 refine zS rfl (ca rfl)<|ag<|ax rfl (fun c18=>?_) (fun c18=>?_)
 ·replace H:=be c18 H;refine ac<|aa ?_;show AR _ _ _ _ _ [0] _;refine za rfl<|ag<|aQ ?_;obtain rfl:=aq H;exact And.intro rfl (Exists.intro _ (Exists.intro _ ⟨aO rfl (.refl _),aK [0,0,0] rfl,rfl,t4,t7,rfl⟩))
 ·replace H:=bf c18 H;refine aC<|ac ?_
  rcases Or.symm (dE H) with ⟨p21,e20,H⟩ | ⟨x19,e20,H⟩
  ·subst H;refine aa ?_;show AR _ _ _ _ _ [0,1,2,3,4] _;refine zS rfl (ah (av:=.pt _ _) rfl)<|ar rfl rfl (cg (c:=dR (.iface 46 (.agg #[.int .i64 p21]))) [0,0,0] rfl lS rfl (mH F o1 x16 a3 t4 a5 a6 t7 p21 e20) rfl ?_);exact And.intro rfl (Exists.intro [] ⟨bC _,rfl,rfl⟩)
  refine aa ?_;show AR _ _ _ _ _ [0,1,2,3,4] _;refine zS rfl (ah (av:=.pt _ _) rfl)<|ar rfl rfl (aY [0,0,0] rfl lS rfl (nu F o1 x16 a3 t4 a5 a6 t7 x19.1 x19.2 e20) rfl (fun c A' h=>by cases h.1) ?_)
  rintro av A' ⟨h,rfl⟩; cases h
  refine zS rfl (eH (zs:=[.int .i64 0,.string ⟨#[]⟩,.string ⟨#[]⟩,.slice none 0 0]) (ps:=[(0,1),(1,1),(2,1),(3,1)]) (cs:=[i64 0,S x19.1,S ([]:List UInt8),aj]) (by kernel_rfl) rfl rfl)<|zX rfl (dw (zs:=[.int .i64 0,.string ⟨#[]⟩,.string ⟨#[]⟩,.slice none 0 0]) (by kernel_rfl)) ?_;rintro _ _ ⟨o22,rfl,rfl⟩;refine s0 rfl rfl (cn (i:=0) (vs:=[i64 0,S x19.1,S ([]:List UInt8),aj]) (by kernel_rfl) rfl rfl (by simp [cE,slE]) rfl (af rfl))<|ag ?_
  refine gE 0 3 2 44 rfl rfl fun t23=>?_
  show AW _ _ _ _ _ ⟨_,_,[.tok t23 44,.obj o22 [i64 0,S x19.1,S ([]:List UInt8),slE (Enc.prod Enc.str Enc.str) [] (some t23)],.obj o1 [S x19.2,.sk t4 a3.length,i64 a5,slE (Enc.prod Enc.int (Enc.prod Enc.str (Enc.prod Enc.str (Enc.sl (Enc.prod Enc.str Enc.str))))) a6 (some t7)],.stk t4 (Enc.str.fl a3),.tok t7 33]⟩;refine ac<|aa ?_;show AR _ _ _ _ _ [0] _;refine za rfl<|ag<|bq (X:=Bool×(List UInt8)×(List ((List UInt8)×List UInt8))×Nat) (fun (y56,y57,y58,t59)=>⟨[(0,.pt o1 0),(3,.pt o22 0),(4,B y56)],[],[.obj o1 [S y57,.sk t4 a3.length,i64 a5,slE (Enc.prod Enc.int (Enc.prod Enc.str (Enc.prod Enc.str (Enc.sl (Enc.prod Enc.str Enc.str))))) a6 (some t7)],.obj o22 [i64 0,S x19.1,S ([]:List UInt8),slE (Enc.prod Enc.str Enc.str) y58 (some t59)],.stk t4 (Enc.str.fl a3),.tok t7 33,.tok t59 44]⟩) (fun (y56,y57,y58,t59)=>fQ F a3 a5 a6 x19 y56 y57 y58=some rv) ?_ ?_
  ·refine aR<|cl (X:=Nat×(List ((List UInt8)×List UInt8))×Nat×(List UInt8)) (fun (n28,y24,t25,y26)=>⟨[(0,.pt o1 0),(3,.pt o22 0),(4,B false)],[],[.obj o22 [i64 0,S x19.1,S ([]:List UInt8),slE (Enc.prod Enc.str Enc.str) y24 (some t25)],.obj o1 [S y26,.sk t4 a3.length,i64 a5,slE (Enc.prod Enc.int (Enc.prod Enc.str (Enc.prod Enc.str (Enc.sl (Enc.prod Enc.str Enc.str))))) a6 (some t7)],.stk t4 (Enc.str.fl a3),.tok t25 44,.tok t7 33]⟩) (fun (n28,y24,t25,y26)=>jk F a3 a5 a6 x19 n28 (y24,y26)=some rv) (fun (n28,y24,t25,y26)=>n28) (F,[],t23,x19.2) H (aP [1,1,1,0,0] (.cons (.refl _) (.cons (.refl _) (.cons (.refl _) (.nil _)))) rfl) ?_;rintro ⟨n28,y24,t25,y26⟩ H;obtain ⟨n28,rfl,H⟩:=cO H;replace H:jl F a3 a5 a6 x19 (jk F a3 a5 a6 x19 n28) y24 y26=some rv:=H
   unfold jl at H
   refine aR<|ac ?_;obtain ⟨x29,x30,e31,H⟩:=dd H;refine aa ?_;show AR _ _ _ _ _ [0,1,2] _;refine zS rfl (ah (av:=.pt _ _) rfl)<|ar rfl rfl (aY [1,1,2] rfl uS rfl (rg F o1 y26 a3 t4 a5 a6 t7 x29 x30 e31) rfl (fun c A' h=>by cases h.1) ?_)
   rintro av A' ⟨h,rfl⟩; cases h
   refine za rfl<|ag<|ac<|ac ?_;obtain ⟨x32,x33,e34,H⟩:=dd H;refine aa ?_;show AR _ _ _ _ _ [0,1] _;refine zS rfl (ah (av:=.pt _ _) rfl)<|ar rfl rfl (aY [0,0,0] rfl eZ rfl (eX F o1 x30 a3 t4 a5 a6 t7 ([62]:List UInt8) x32 x33 e34) rfl (fun c A' h=>by cases h.1) ?_)
   rintro av A' ⟨h,rfl⟩; cases h
   refine ag<|ax rfl (fun c35=>?_) (fun c35=>?_)
   ·replace H:=be c35 H;refine bU ?_;exact Exists.intro (false,x33,y24,t25) ⟨H,aP [0,2,0,0,0] (.cons (.refl _) (.cons (.refl _) (.cons (.refl _) (.nil _)))) rfl⟩
   ·replace H:=bf c35 H;refine aC<|ac<|ac ?_;obtain ⟨x36,x37,e38,H⟩:=dd H;refine aa ?_;show AR _ _ _ _ _ [0,1] _;refine zS rfl (ah (av:=.pt _ _) rfl)<|ar rfl rfl (aY [0,0,0] rfl eZ rfl (eX F o1 x33 a3 t4 a5 a6 t7 ([47,62]:List UInt8) x36 x37 e38) rfl (fun c A' h=>by cases h.1) ?_)
    rintro av A' ⟨h,rfl⟩; cases h
    refine ag<|ax rfl (fun c39=>?_) (fun c39=>?_)
    ·replace H:=be c39 H;refine ac<|aa ?_;show AR _ _ _ _ _ [0] _;refine za rfl<|ag<|bU ?_;exact Exists.intro (true,x37,y24,t25) ⟨H,aP [0,2,0,0,0] (.cons (.refl _) (.cons (.refl _) (.cons (.refl _) (.nil _)))) rfl⟩
    ·replace H:=bf c39 H;refine aC<|ac ?_
     rcases Or.symm (dE H) with ⟨p42,e41,H⟩ | ⟨x40,e41,H⟩
     ·subst H;refine aa ?_;show AR _ _ _ _ _ [0,1] _;refine zm rfl<|ar rfl rfl (cg (c:=dR (.iface 46 (.agg #[.int .i64 p42]))) [] rfl cr rfl (cu F x29 p42 e41) rfl ?_);exact And.intro rfl (Exists.intro [] ⟨bC _,rfl,rfl⟩)
     refine aa ?_;show AR _ _ _ _ _ [0,1] _;refine zm rfl<|ar rfl rfl (aX rfl cr rfl (cH F x29 e41) ?_);refine ag<|ac ?_
     rcases Or.symm (dE H) with ⟨p45,e44,H⟩ | ⟨x43,e44,H⟩
     ·subst H;refine aa ?_;show AR _ _ _ _ _ [0,1,2,3] _;refine zS rfl (ah (av:=.pt _ _) rfl)<|ar rfl rfl (cg (c:=dR (.iface 46 (.agg #[.int .i64 p45]))) [0,0,0] rfl uR rfl (tN F o1 x37 a3 t4 a5 a6 t7 p45 e44) rfl ?_);exact And.intro rfl (Exists.intro [] ⟨bC _,rfl,rfl⟩)
     refine aa ?_;show AR _ _ _ _ _ [0,1,2,3] _;refine zS rfl (ah (av:=.pt _ _) rfl)<|ar rfl rfl (aY [0,0,0] rfl uR rfl (vq F o1 x37 a3 t4 a5 a6 t7 x43.1 x43.2.1 x43.2.2 e44) rfl (fun c A' h=>by cases h.1) ?_)
     rintro av A' ⟨h,rfl⟩; cases h
     refine zX rfl (dw (zs:=[.string ⟨#[]⟩,.string ⟨#[]⟩]) (by kernel_rfl)) ?_;rintro _ _ ⟨o46,rfl,rfl⟩;refine s0 rfl rfl (cn (i:=0) (vs:=[S x43.1,S x43.2.1]) (by kernel_rfl) rfl rfl (by simp [cE,slE]) rfl (af rfl))<|ag<|ac ?_;obtain ⟨x47,e48,H⟩:=cm H
     rcases Or.symm (dE H) with ⟨p51,e50,H⟩ | ⟨x49,e50,H⟩
     ·subst H;refine aa ?_;show AR _ _ _ _ _ [0,1,2,3,4,5] _;refine zS rfl (ai (n:=3) (by kernel_rfl) rfl)<|zR rfl (al (i:=4) aH rfl rfl rfl rfl)<|zS rfl (lI rfl rfl)<|ar rfl rfl (aY [0] rfl uQ rfl (mj F y24 (some t25) o46 x43.1 x43.2.1 x47 e48) rfl (fun c A' h=>by cases h.1) ?_)
      rintro av A' ⟨h,rfl⟩; cases h
      refine zS rfl (ca rfl)<|ar rfl rfl (cg (c:=dR (.iface 46 (.agg #[.int .i64 p51]))) [] rfl cr rfl (cu F (!x47) p51 e50) rfl ?_);exact And.intro rfl (Exists.intro [] ⟨bC _,rfl,rfl⟩)
     refine aa ?_;show AR _ _ _ _ _ [0,1,2,3,4,5] _;refine zS rfl (ai (n:=3) (by kernel_rfl) rfl)<|zR rfl (al (i:=4) aH rfl rfl rfl rfl)<|zS rfl (lI rfl rfl)<|ar rfl rfl (aY [0] rfl uQ rfl (mj F y24 (some t25) o46 x43.1 x43.2.1 x47 e48) rfl (fun c A' h=>by cases h.1) ?_)
     rintro av A' ⟨h,rfl⟩; cases h
     refine zS rfl (ca rfl)<|ar rfl rfl (aX rfl cr rfl (cH F (!x47) e50) ?_);refine ag ?_;obtain ⟨g53,H⟩:=aI H;obtain ⟨x54,e55,H⟩:=bz H;refine aa ?_;show AR _ _ _ _ _ [0,1,2,3,4,5,6] _;refine zS rfl (ai (n:=3) (by kernel_rfl) rfl)<|zR rfl (al (i:=4) aH rfl rfl rfl rfl)<|zR rfl (fN (i:=0) (n:=2) bM rfl (by kernel_rfl) rfl rfl (af rfl))<|zR rfl (cW (E:=(Enc.prod Enc.str Enc.str)) (bytes:=32) (zs:=[.string ⟨#[]⟩,.string ⟨#[]⟩]) (l:=([(x43.1,x43.2.1)]:List ((List UInt8)×List UInt8))) aH (by kernel_rfl) (by kernel_rfl) rfl rfl rfl rfl rfl)<|zX rfl (cM (E:=(Enc.prod Enc.str Enc.str)) (bytes:=32) 5 aH aH rfl (by kernel_rfl) rfl rfl rfl rfl g53 e55) ?_;rintro _ _ ⟨t52,rfl,rfl⟩;refine zS rfl (ai (n:=3) (by kernel_rfl) rfl)<|s0 rfl rfl (aA (i:=4) (c:=slE _ _ _) (by kernel_rfl) rfl rfl rfl rfl (af rfl))<|ag ?_;exact Exists.intro (n28,x54,t52,x43.2.2) ⟨H,Nat.lt_succ_self _,aP [4,1,1,2,1] (.cons (.refl _) (.cons (.refl _) (.cons (.refl _) (.nil _)))) rfl⟩
  rintro ⟨y56,y57,y58,t59⟩ H;replace H:fQ F a3 a5 a6 x19 y56 y57 y58=some rv:=H
  unfold fQ at H
  refine bq (X:=Int) (fun y66=>⟨[(0,.pt o1 0),(3,.pt o22 0),(4,B y56)],[],[.obj o1 [S y57,.sk t4 a3.length,i64 y66,slE (Enc.prod Enc.int (Enc.prod Enc.str (Enc.prod Enc.str (Enc.sl (Enc.prod Enc.str Enc.str))))) a6 (some t7)],.obj o22 [i64 0,S x19.1,S ([]:List UInt8),slE (Enc.prod Enc.str Enc.str) y58 (some t59)],.stk t4 (Enc.str.fl a3),.tok t7 33,.tok t59 44]⟩) (fun y66=>fR F a3 a6 x19 y56 y57 y58 y66=some rv) ?_ ?_
  ·refine ac<|aa ?_;show AR _ _ _ _ _ [0,1,2,3,4,5] _;refine zS rfl (ah (av:=.pt _ _) rfl)<|zS rfl (am rfl)<|zS rfl (ai (n:=1) (by kernel_rfl) rfl)<|zR rfl (al (i:=0) ao rfl rfl rfl rfl)<|zS rfl (iQ ao rfl)<|zS rfl (bI rfl rfl)<|ag<|ax rfl (fun c61=>?_) (fun c61=>?_)
   ·replace H:=be c61 H;refine ac ?_;obtain ⟨g62,H⟩:=aI H;refine aa ?_;show AR _ _ _ _ _ [0,1,2,3,4,5,6,7] _;refine zS rfl (ah (av:=.pt _ _) rfl)<|zS rfl (am rfl)<|zS rfl (ai (n:=2) (by kernel_rfl) rfl)<|zR rfl (al (i:=0) au rfl rfl rfl rfl)<|zS rfl (bB rfl rfl g62)<|zS rfl (am rfl)<|zS rfl (ai (n:=2) (by kernel_rfl) rfl)<|s0 rfl rfl (aA (i:=0) (c:=.v _) (by kernel_rfl) rfl rfl rfl rfl (af rfl))<|ag ?_
    rcases Or.symm (dE H) with ⟨p65,e64,H⟩ | ⟨x63,e64,H⟩
    ·subst H;refine aa ?_;show AR _ _ _ _ _ [0,1,2,3,4,5] _;refine zS rfl (ah (av:=.pt _ _) rfl)<|zS rfl (am rfl)<|zS rfl (ai (n:=2) (by kernel_rfl) rfl)<|zR rfl (al (i:=0) au rfl rfl rfl rfl)<|zS rfl (bI rfl rfl)<|ar rfl rfl (cg (c:=dR (.iface 46 (.agg #[.int .i64 p65]))) [] rfl cr rfl (cu F (decide (a5+1=1)) p65 e64) rfl ?_);exact And.intro rfl (Exists.intro [] ⟨bC _,rfl,rfl⟩)
    refine aa ?_;show AR _ _ _ _ _ [0,1,2,3,4,5] _;refine zS rfl (ah (av:=.pt _ _) rfl)<|zS rfl (am rfl)<|zS rfl (ai (n:=2) (by kernel_rfl) rfl)<|zR rfl (al (i:=0) au rfl rfl rfl rfl)<|zS rfl (bI rfl rfl)<|ar rfl rfl (aX rfl cr rfl (cH F (decide (a5+1=1)) e64) ?_);refine ag ?_;exact Exists.intro (a5+1) ⟨H,aP [0,0,0,0,0] (.cons (.refl _) (.cons (.refl _) (.cons (.refl _) (.nil _)))) rfl⟩
   ·replace H:=bf c61 H;refine aC ?_;exact Exists.intro a5 ⟨H,aP [0,0,0,0,0] (.cons (.refl _) (.cons (.refl _) (.cons (.refl _) (.nil _)))) rfl⟩
  rintro y66 H;replace H:fR F a3 a6 x19 y56 y57 y58 y66=some rv:=H
  unfold fR at H
  refine bq (X:=Nat×(List (List UInt8))) (fun (t78,y79)=>⟨[(0,.pt o1 0),(3,.pt o22 0),(4,B y56)],[],[.obj o1 [S y57,.sk t78 y79.length,i64 y66,slE (Enc.prod Enc.int (Enc.prod Enc.str (Enc.prod Enc.str (Enc.sl (Enc.prod Enc.str Enc.str))))) a6 (some t7)],.obj o22 [i64 0,S x19.1,S ([]:List UInt8),slE (Enc.prod Enc.str Enc.str) y58 (some t59)],.stk t78 (Enc.str.fl y79),.tok t7 33,.tok t59 44]⟩) (fun (t78,y79)=>ji F a6 x19 y56 y57 y58 y66 y79=some rv) ?_ ?_
  ·refine bq (X:=Nat×(List (List UInt8))) (fun (t74,y75)=>⟨[(0,.pt o1 0),(3,.pt o22 0),(4,B y56)],[],[.obj o1 [S y57,.sk t74 y75.length,i64 y66,slE (Enc.prod Enc.int (Enc.prod Enc.str (Enc.prod Enc.str (Enc.sl (Enc.prod Enc.str Enc.str))))) a6 (some t7)],.obj o22 [i64 0,S x19.1,S ([]:List UInt8),slE (Enc.prod Enc.str Enc.str) y58 (some t59)],.stk t74 (Enc.str.fl y75),.tok t7 33,.tok t59 44]⟩) (fun (t74,y75)=>jh F a6 x19 y56 y57 y58 y66 y75=some rv) ?_ ?_
   ·obtain ⟨g68,H⟩:=aI H;obtain ⟨x69,e70,H⟩:=bz H;refine bn (by kernel_rfl) ?_;show AI _ _ _ _ _ 12 (Array.replicate 12 false) _;refine zk 0 rfl (ah (av:=.pt _ _) rfl) ?_;show zI 12 1;refine zk 1 rfl (ah (av:=.pt _ _) rfl) ?_;show zI 12 3;refine zk 2 rfl (am rfl) ?_;show zI 12 7;refine zk 3 rfl (ai (n:=1) (by kernel_rfl) rfl) ?_;show zI 12 15;refine zk 5 rfl (ai (n:=1) (by kernel_rfl) rfl) ?_;show zI 12 47;refine dj (i:=4) (j:=6) (by kernel_rfl) rfl rfl rfl rfl ?_ ?_
    ·refine aJ rfl (al (i:=0) ao rfl rfl rfl rfl) ?_;show zI 12 63;refine bj (i:=6) (by kernel_rfl) rfl rfl<|aJ rfl (al (i:=1) ab rfl rfl rfl rfl) ?_;show zI 12 127;refine bj (i:=7) (by kernel_rfl) rfl rfl<|aJ rfl (ce (E:=Enc.str) (bytes:=16) (xs:=[.tmp 60]) (l:=([x19.1]:List (List UInt8))) ao (by kernel_rfl) rfl rfl (by decide) rfl rfl) ?_;show zI 12 255;refine bj (i:=8) (by kernel_rfl) rfl rfl<|dC rfl (ny (E:=Enc.str) (bytes:=16) 2 ao ao rfl (by kernel_rfl) rfl rfl rfl rfl rfl rfl rfl g68 e70) ?_;rintro _ _ ⟨t71,rfl,rfl⟩;show zI 12 511;refine zk 9 rfl (am rfl) ?_;show zI 12 1023;refine zk 10 rfl (ai (n:=1) (by kernel_rfl) rfl) ?_;show zI 12 2047;refine bj (i:=11) (by kernel_rfl) rfl rfl<|dY (aA (i:=0) (c:=.sk _ _) (by kernel_rfl) rfl rfl rfl rfl (af rfl)) ?_;show zI 12 4095;refine bw rfl ?_;exact Exists.intro (t71,x69) ⟨H,aP [0,0,0,0,0] (.cons (.refl _) (.cons (.refl _) (.cons (.refl _) (.nil _)))) rfl⟩
    ·refine aJ rfl (al (i:=1) ab rfl rfl rfl rfl) ?_;show zI 12 111;refine dj (i:=4) (j:=7) (by kernel_rfl) rfl rfl rfl rfl ?_ ?_
     ·refine aJ rfl (al (i:=0) ao rfl rfl rfl rfl) ?_;show zI 12 127;refine bj (i:=7) (by kernel_rfl) rfl rfl<|aJ rfl (ce (E:=Enc.str) (bytes:=16) (xs:=[.tmp 60]) (l:=([x19.1]:List (List UInt8))) ao (by kernel_rfl) rfl rfl (by decide) rfl rfl) ?_;show zI 12 255;refine bj (i:=8) (by kernel_rfl) rfl rfl<|dC rfl (ny (E:=Enc.str) (bytes:=16) 2 ao ao rfl (by kernel_rfl) rfl rfl rfl rfl rfl rfl rfl g68 e70) ?_;rintro _ _ ⟨t72,rfl,rfl⟩;show zI 12 511;refine zk 9 rfl (am rfl) ?_;show zI 12 1023;refine zk 10 rfl (ai (n:=1) (by kernel_rfl) rfl) ?_;show zI 12 2047;refine bj (i:=11) (by kernel_rfl) rfl rfl<|dY (aA (i:=0) (c:=.sk _ _) (by kernel_rfl) rfl rfl rfl rfl (af rfl)) ?_;show zI 12 4095;refine bw rfl ?_;exact Exists.intro (t72,x69) ⟨H,aP [0,0,0,0,0] (.cons (.refl _) (.cons (.refl _) (.cons (.refl _) (.nil _)))) rfl⟩
     ·refine aJ rfl (ce (E:=Enc.str) (bytes:=16) (xs:=[.tmp 60]) (l:=([x19.1]:List (List UInt8))) ao (by kernel_rfl) rfl rfl (by decide) rfl rfl) ?_;show zI 12 239;refine bj (i:=4) (by kernel_rfl) rfl rfl<|aJ rfl (al (i:=0) ao rfl rfl rfl rfl) ?_;show zI 12 255;refine bj (i:=8) (by kernel_rfl) rfl rfl<|dC rfl (ny (E:=Enc.str) (bytes:=16) 2 ao ao rfl (by kernel_rfl) rfl rfl rfl rfl rfl rfl rfl g68 e70) ?_;rintro _ _ ⟨t73,rfl,rfl⟩;show zI 12 511;refine zk 9 rfl (am rfl) ?_;show zI 12 1023;refine zk 10 rfl (ai (n:=1) (by kernel_rfl) rfl) ?_;show zI 12 2047;refine bj (i:=11) (by kernel_rfl) rfl rfl<|dY (aA (i:=0) (c:=.sk _ _) (by kernel_rfl) rfl rfl rfl rfl (af rfl)) ?_;show zI 12 4095;refine bw rfl ?_;exact Exists.intro (t73,x69) ⟨H,aP [0,0,0,0,0] (.cons (.refl _) (.cons (.refl _) (.cons (.refl _) (.nil _)))) rfl⟩
   rintro ⟨t74,y75⟩ H;replace H:jh F a6 x19 y56 y57 y58 y66 y75=some rv:=H
   unfold jh at H
   refine ac<|aa ?_;show AR _ _ _ _ _ [0,1,2,3,4,5] _;refine zS rfl (ah (av:=.pt _ _) rfl)<|zS rfl (am rfl)<|zS rfl (ai (n:=1) (by kernel_rfl) rfl)<|zR rfl (al (i:=0) ao rfl rfl rfl rfl)<|zS rfl (iQ ao rfl)<|zS rfl (eN rfl rfl)<|ag<|ax rfl (fun c77=>?_) (fun c77=>?_)
   ·replace H:=be c77 H;obtain rfl:=aq H;refine aa ?_;show AR _ _ _ _ _ [0,1,2] _;refine zS rfl (eH (zs:=[.int .i64 0]) (ps:=[(0,1)]) (cs:=[i64 5]) (by kernel_rfl) rfl rfl)<|zS rfl (bW (a:=.agg _) Tryz.underlying46 rfl rfl)<|ar rfl rfl (AO.panicT (c:=dR (.iface 46 (.agg #[.int .i64 5]))) rfl rfl ?_);exact And.intro rfl (Exists.intro [] ⟨bC _,rfl,rfl⟩)
   ·replace H:=bf c77 H;refine aC ?_;exact Exists.intro (t74,y75) ⟨H,aP [0,0,0,0,0] (.cons (.refl _) (.cons (.refl _) (.cons (.refl _) (.nil _)))) rfl⟩
  rintro ⟨t78,y79⟩ H;replace H:ji F a6 x19 y56 y57 y58 y66 y79=some rv:=H
  unfold ji at H
  refine bq (X:=(List (Int×(List UInt8)×(List UInt8)×List ((List UInt8)×List UInt8)))×Nat) (fun (y87,t88)=>⟨[(0,.pt o1 0),(3,.pt o22 0),(4,B y56)],[],[.obj o1 [S y57,.sk t78 y79.length,i64 y66,slE (Enc.prod Enc.int (Enc.prod Enc.str (Enc.prod Enc.str (Enc.sl (Enc.prod Enc.str Enc.str))))) y87 (some t88)],.obj o22 [i64 0,S x19.1,S ([]:List UInt8),slE (Enc.prod Enc.str Enc.str) y58 (some t59)],.stk t78 (Enc.str.fl y79),.tok t88 33,.tok t59 44]⟩) (fun (y87,t88)=>jj F x19 y56 y57 y66 y79 y87=some rv) ?_ ?_
  ·obtain ⟨g82,H⟩:=aI H;obtain ⟨x83,e84,H⟩:=bz H;refine bn (by kernel_rfl) ?_;show AI _ _ _ _ _ 11 (Array.replicate 11 false) _;refine zk 0 rfl (ah (av:=.pt _ _) rfl) ?_;show zI 11 1;refine zk 1 rfl (ah (av:=.pt _ _) rfl) ?_;show zI 11 3;refine zk 2 rfl (am rfl) ?_;show zI 11 7;refine zk 3 rfl (ai (n:=3) (by kernel_rfl) rfl) ?_;show zI 11 15;refine dj (i:=4) (j:=5) (by kernel_rfl) rfl rfl rfl rfl ?_ ?_
   ·refine aJ rfl (al (i:=0) ay rfl rfl rfl rfl) ?_;show zI 11 31;refine bj (i:=5) (by kernel_rfl) rfl rfl<|aJ rfl (fN (i:=1) (n:=4) cA rfl (by kernel_rfl) rfl rfl (af rfl)) ?_;show zI 11 63;refine bj (i:=6) (by kernel_rfl) rfl rfl<|aJ rfl (dL (ds:=[i64 0,S x19.1,S ([]:List UInt8),slE (Enc.prod Enc.str Enc.str) y58 none]) 78 (.cons (.refl _) (.cons (.refl _) (.cons (.refl _) (.cons (.tok _ _ _) (.nil))))) (hc:=rfl)<|cW (E:=(Enc.prod Enc.int (Enc.prod Enc.str (Enc.prod Enc.str (Enc.sl (Enc.prod Enc.str Enc.str)))))) (bytes:=64) (zs:=[.int .i64 0,.string ⟨#[]⟩,.string ⟨#[]⟩,.slice none 0 0]) (l:=([(0,x19.1,([]:List UInt8),y58)]:List (Int×(List UInt8)×(List UInt8)×List ((List UInt8)×List UInt8)))) ay (by kernel_rfl) (by kernel_rfl) rfl rfl rfl rfl rfl) ?_;show zI 11 127;refine bj (i:=7) (by kernel_rfl) rfl rfl<|dC rfl (cM (E:=(Enc.prod Enc.int (Enc.prod Enc.str (Enc.prod Enc.str (Enc.sl (Enc.prod Enc.str Enc.str)))))) (bytes:=64) 3 ay ay rfl (by kernel_rfl) rfl rfl rfl rfl g82 e84) ?_;rintro _ _ ⟨t81,rfl,rfl⟩;show zI 11 255;refine zk 8 rfl (am rfl) ?_;show zI 11 511;refine zk 9 rfl (ai (n:=3) (by kernel_rfl) rfl) ?_;show zI 11 1023;refine bj (i:=10) (by kernel_rfl) rfl rfl<|dY (aA (i:=0) (c:=slE _ _ _) (by kernel_rfl) rfl rfl rfl rfl (af rfl)) ?_;show zI 11 2047;refine bw rfl ?_
    exact Exists.intro (x83,t81) ⟨H,aP [0,0,0,0,0] (.cons (.refl _) (.cons (.refl _) (.cons (.refl _) (.nil _)))) rfl⟩
   ·refine aJ rfl (fN (i:=1) (n:=4) cA rfl (by kernel_rfl) rfl rfl (af rfl)) ?_;show zI 11 47;refine dj (i:=4) (j:=6) (by kernel_rfl) rfl rfl rfl rfl ?_ ?_
    ·refine aJ rfl (al (i:=0) ay rfl rfl rfl rfl) ?_;show zI 11 63;refine bj (i:=6) (by kernel_rfl) rfl rfl<|aJ rfl (dL (ds:=[i64 0,S x19.1,S ([]:List UInt8),slE (Enc.prod Enc.str Enc.str) y58 none]) 78 (.cons (.refl _) (.cons (.refl _) (.cons (.refl _) (.cons (.tok _ _ _) (.nil))))) (hc:=rfl)<|cW (E:=(Enc.prod Enc.int (Enc.prod Enc.str (Enc.prod Enc.str (Enc.sl (Enc.prod Enc.str Enc.str)))))) (bytes:=64) (zs:=[.int .i64 0,.string ⟨#[]⟩,.string ⟨#[]⟩,.slice none 0 0]) (l:=([(0,x19.1,([]:List UInt8),y58)]:List (Int×(List UInt8)×(List UInt8)×List ((List UInt8)×List UInt8)))) ay (by kernel_rfl) (by kernel_rfl) rfl rfl rfl rfl rfl) ?_;show zI 11 127;refine bj (i:=7) (by kernel_rfl) rfl rfl<|dC rfl (cM (E:=(Enc.prod Enc.int (Enc.prod Enc.str (Enc.prod Enc.str (Enc.sl (Enc.prod Enc.str Enc.str)))))) (bytes:=64) 3 ay ay rfl (by kernel_rfl) rfl rfl rfl rfl g82 e84) ?_;rintro _ _ ⟨t85,rfl,rfl⟩;show zI 11 255;refine zk 8 rfl (am rfl) ?_;show zI 11 511;refine zk 9 rfl (ai (n:=3) (by kernel_rfl) rfl) ?_;show zI 11 1023;refine bj (i:=10) (by kernel_rfl) rfl rfl<|dY (aA (i:=0) (c:=slE _ _ _) (by kernel_rfl) rfl rfl rfl rfl (af rfl)) ?_;show zI 11 2047;refine bw rfl ?_;exact Exists.intro (x83,t85) ⟨H,aP [0,0,0,0,0] (.cons (.refl _) (.cons (.refl _) (.cons (.refl _) (.nil _)))) rfl⟩
    ·refine aJ rfl (dL (ds:=[i64 0,S x19.1,S ([]:List UInt8),slE (Enc.prod Enc.str Enc.str) y58 none]) 78 (.cons (.refl _) (.cons (.refl _) (.cons (.refl _) (.cons (.tok _ _ _) (.nil))))) (hc:=rfl)<|cW (E:=(Enc.prod Enc.int (Enc.prod Enc.str (Enc.prod Enc.str (Enc.sl (Enc.prod Enc.str Enc.str)))))) (bytes:=64) (zs:=[.int .i64 0,.string ⟨#[]⟩,.string ⟨#[]⟩,.slice none 0 0]) (l:=([(0,x19.1,([]:List UInt8),y58)]:List (Int×(List UInt8)×(List UInt8)×List ((List UInt8)×List UInt8)))) ay (by kernel_rfl) (by kernel_rfl) rfl rfl rfl rfl rfl) ?_;show zI 11 111;refine bj (i:=4) (by kernel_rfl) rfl rfl<|aJ rfl (al (i:=0) ay rfl rfl rfl rfl) ?_;show zI 11 127;refine bj (i:=7) (by kernel_rfl) rfl rfl<|dC rfl (cM (E:=(Enc.prod Enc.int (Enc.prod Enc.str (Enc.prod Enc.str (Enc.sl (Enc.prod Enc.str Enc.str)))))) (bytes:=64) 3 ay ay rfl (by kernel_rfl) rfl rfl rfl rfl g82 e84) ?_;rintro _ _ ⟨t86,rfl,rfl⟩;show zI 11 255;refine zk 8 rfl (am rfl) ?_;show zI 11 511;refine zk 9 rfl (ai (n:=3) (by kernel_rfl) rfl) ?_;show zI 11 1023;refine bj (i:=10) (by kernel_rfl) rfl rfl<|dY (aA (i:=0) (c:=slE _ _ _) (by kernel_rfl) rfl rfl rfl rfl (af rfl)) ?_;show zI 11 2047;refine bw rfl ?_;exact Exists.intro (x83,t86) ⟨H,aP [0,0,0,0,0] (.cons (.refl _) (.cons (.refl _) (.cons (.refl _) (.nil _)))) rfl⟩
  rintro ⟨y87,t88⟩ H;replace H:jj F x19 y56 y57 y66 y79 y87=some rv:=H
  unfold jj at H
  refine bq (X:=Nat×(List (List UInt8))×(List (Int×(List UInt8)×(List UInt8)×List ((List UInt8)×List UInt8)))×Nat) (fun (t96,y97,y98,t99)=>⟨[],[],[.obj o1 [S y57,.sk t96 y97.length,i64 y66,slE (Enc.prod Enc.int (Enc.prod Enc.str (Enc.prod Enc.str (Enc.sl (Enc.prod Enc.str Enc.str))))) y98 (some t99)],.stk t96 (Enc.str.fl y97),.tok t99 33]⟩) (fun (t96,y97,y98,t99)=>gX y57 y66 y97 y98=some rv) ?_ ?_
  ·refine ac<|aa ?_;show AR _ _ _ _ _ [0] _;refine zm rfl<|ag<|ax rfl (fun c90=>?_) (fun c90=>?_)
   ·replace H:=be c90 H
    rcases Or.symm (dE H) with ⟨p93,e92,H⟩ | ⟨x91,e92,H⟩
    ·subst H;refine aa ?_;show AR _ _ _ _ _ [0,1,2,3] _;refine zS rfl (ah (av:=.pt _ _) rfl)<|zS rfl (ai (n:=1) (by kernel_rfl) rfl)<|zR rfl (al (i:=1) ab rfl rfl rfl rfl)<|ar rfl rfl (cg (c:=dR (.iface 46 (.agg #[.int .i64 p93]))) [0,1,1] rfl oZ rfl (po F o1 y57 y79 t78 y66 y87 t88 x19.1 p93 e92) rfl ?_);exact And.intro rfl (Exists.intro [] ⟨bC _,rfl,rfl⟩)
    refine aa ?_;show AR _ _ _ _ _ [0,1,2,3] _;refine zS rfl (ah (av:=.pt _ _) rfl)<|zS rfl (ai (n:=1) (by kernel_rfl) rfl)<|zR rfl (al (i:=1) ab rfl rfl rfl rfl)<|ar rfl rfl (aY [0,1,1] rfl oZ rfl (pW F o1 y57 y79 t78 y66 y87 t88 x19.1 x91.1 x91.2 e92) rfl (fun c A' h=>by cases h.1) ?_)
    rintro av A' ⟨h,t94,t95,rfl⟩; cases h
    refine ag ?_;exact Exists.intro (t94,x91.2,x91.1,t95) ⟨H,aP [0,0,0] (.nil _) rfl⟩
   ·replace H:=bf c90 H;refine aC ?_;exact Exists.intro (t78,y79,y87,t88) ⟨H,aP [0,1,1] (.nil _) rfl⟩
  rintro ⟨t96,y97,y98,t99⟩ H;replace H:gX y57 y66 y97 y98=some rv:=H
  unfold gX at H
  refine ac<|aa ?_;show AR _ _ _ _ _ [0] _;refine za rfl<|ag<|aQ ?_;obtain rfl:=aq H;exact And.intro rfl (Exists.intro _ (Exists.intro _ ⟨aO rfl (.refl _),aK [0,0,0] rfl,rfl,t96,t99,rfl⟩))
theorem rP (F:Nat) (o1:Nat) (a2:List UInt8) (a3:List (List UInt8)) (t4:Nat) (a5:Int) (a6:List (Int×(List UInt8)×(List UInt8)×List ((List UInt8)×List UInt8))) (t7:Nat) (r8:Bool) (r9:List UInt8) (r12:Int) (r13:List (Int×(List UInt8)×(List UInt8)×List ((List UInt8)×List UInt8))) (r10:List (List UInt8)) (H:jM F a2 a3 a5 a6=some (Res.ok (r8,r9,r12,r13,r10))):ACalls Tryz.prog 43 [.pt o1 0] [.obj o1 [S a2,.sk t4 a3.length,i64 a5,slE (Enc.prod Enc.int (Enc.prod Enc.str (Enc.prod Enc.str (Enc.sl (Enc.prod Enc.str Enc.str))))) a6 (some t7)],.stk t4 (Enc.str.fl a3),.tok t7 33] (fun e A'=>e=.ret (B r8)∧∃ t11 t14,A'=[.obj o1 [S r9,.sk t11 r10.length,i64 r12,slE (Enc.prod Enc.int (Enc.prod Enc.str (Enc.prod Enc.str (Enc.sl (Enc.prod Enc.str Enc.str))))) r13 (some t14)],.stk t11 (Enc.str.fl r10),.tok t14 33]):=pX F o1 a2 a3 t4 a5 a6 t7 _ H
theorem qE (F:Nat) (o1:Nat) (a2:List UInt8) (a3:List (List UInt8)) (t4:Nat) (a5:Int) (a6:List (Int×(List UInt8)×(List UInt8)×List ((List UInt8)×List UInt8))) (t7:Nat) (e:Int) (H:jM F a2 a3 a5 a6=some (Res.pan e)):ACalls Tryz.prog 43 [.pt o1 0] [.obj o1 [S a2,.sk t4 a3.length,i64 a5,slE (Enc.prod Enc.int (Enc.prod Enc.str (Enc.prod Enc.str (Enc.sl (Enc.prod Enc.str Enc.str))))) a6 (some t7)],.stk t4 (Enc.str.fl a3),.tok t7 33] (fun ae A'=>ae=.pan ((fun e=>dR (.iface 46 (.agg #[.int .i64 e]))) e)∧A'=[]):=pX F o1 a2 a3 t4 a5 a6 t7 _ H
abbrev _root_.Go.Av.ew := @Tryz.underlying70
abbrev _root_.Go.Av.dp := @Tryz.underlying71
set_option maxRecDepth 100000 in
set_option maxHeartbeats 1000000 in
theorem ul (F:Nat) (o1:Nat) (a2:List UInt8) (a3:List (List UInt8)) (t4:Nat) (a5:Int) (a6:List (Int×(List UInt8)×(List UInt8)×List ((List UInt8)×List UInt8))) (t7:Nat) (rv:Res ((List UInt8)×Int×(List (Int×(List UInt8)×(List UInt8)×List ((List UInt8)×List UInt8)))×(List (List UInt8)))) (H:nP F a2 a3 a5 a6=some rv):ACalls Tryz.prog 22 [.pt o1 0] [.obj o1 [S a2,.sk t4 a3.length,i64 a5,slE (Enc.prod Enc.int (Enc.prod Enc.str (Enc.prod Enc.str (Enc.sl (Enc.prod Enc.str Enc.str))))) a6 (some t7)],.stk t4 (Enc.str.fl a3),.tok t7 33] (na (fun (r:(List UInt8)×Int×(List (Int×(List UInt8)×(List UInt8)×List ((List UInt8)×List UInt8)))×(List (List UInt8)))=>(fun e A'=>e=.ret (.tup [])∧∃ t10 t13,A'=[.obj o1 [S r.1,.sk t10 r.2.2.2.length,i64 r.2.1,slE (Enc.prod Enc.int (Enc.prod Enc.str (Enc.prod Enc.str (Enc.sl (Enc.prod Enc.str Enc.str))))) r.2.2.1 (some t13)],.stk t10 (Enc.str.fl r.2.2.2),.tok t13 33])) (fun e=>dR (.iface 46 (.agg #[.int .i64 e]))) rv):=by
 unfold nP at H
 refine az Tryz.func22 rfl rfl ?_;show AW _ _ 14 _ _ _;refine ac<|aa ?_;show AR _ _ _ _ _ [0,1,2] _;refine zR rfl (ce (E:=mS) (bytes:=8) (xs:=[.func 37,.func 38,.func 39,.func 40,.func 41,.func 42,.func 43]) (l:=([37,38,39,40,41,42,43]:List Nat)) dp (by kernel_rfl) rfl rfl (by decide) rfl rfl)<|zS rfl (bo (av':=i64 7) (bh dp rfl) rfl)<|zm rfl<|ag<|aR<|rd 9<|ac<|aa ?_;show AR _ _ _ _ _ [0] _;refine zS rfl (bo (av':=B true) (bN rfl rfl) (aw (by decide)))<|ag<|ac<|ax rfl (fun _=>?_) (fun hx=>bP rfl hx);refine aC<|ac<|aR<|ac<|aa ?_;show AR _ _ _ _ _ [0,1,2] _;refine zS rfl (bH (E:=mS) (m:=0) dp (by kernel_rfl) rfl rfl rfl rfl)<|zS rfl (aG ew rfl rfl)<|za rfl<|ag<|ac ?_
 rcases Or.symm (dE H) with ⟨p16,e15,H⟩ | ⟨x14,e15,H⟩
 ·subst H;refine aa ?_;show AR _ _ _ _ _ [0,1,2] _;refine zm rfl<|zS rfl (ah (av:=.pt _ _) rfl)<|ar rfl rfl (AO.callFPan (c:=dR (.iface 46 (.agg #[.int .i64 p16]))) [0,0,0] rfl (.inr ⟨rfl,rfl,rfl⟩) vc rfl (sv F o1 a2 a3 t4 a5 a6 t7 p16 e15) rfl ?_);exact And.intro rfl (Exists.intro [] ⟨bC _,rfl,rfl⟩)
 refine aa ?_;show AR _ _ _ _ _ [0,1,2] _;refine zm rfl<|zS rfl (ah (av:=.pt _ _) rfl)<|ar rfl rfl (AO.callFAt [0,0,0] rfl (.inr ⟨rfl,rfl,rfl⟩) vc rfl (tL F o1 a2 a3 t4 a5 a6 t7 x14.1 x14.2.1 x14.2.2 e15) rfl (fun c A' h=>by cases h.1) ?_)
 rintro av A' ⟨h,t17,rfl⟩; cases h
 refine ag<|ax rfl (fun c18=>?_) (fun c18=>?_)
 ·replace H:=be c18 H;refine aQ ?_;obtain rfl:=aq H;exact And.intro rfl (Exists.intro _ (Exists.intro _ ⟨bp rfl,aK [0,0,0] rfl,rfl,t4,t17,rfl⟩))
 ·replace H:=bf c18 H;refine aC<|aa ?_;show AR _ _ _ _ _ [0,1] _;refine zS rfl (bo (av':=i64 1) (bB rfl rfl (by decide)) rfl)<|zm rfl<|ag<|ac<|aa ?_;show AR _ _ _ _ _ [0] _;refine zS rfl (bo (av':=B true) (bN rfl rfl) (aw (by decide)))<|ag<|ac<|ax rfl (fun _=>?_) (fun hx=>bP rfl hx);refine aC<|ac<|aR<|ac<|aa ?_;show AR _ _ _ _ _ [0,1,2] _;refine zS rfl (bH (E:=mS) (m:=1) dp (by kernel_rfl) rfl rfl rfl rfl)<|zS rfl (aG ew rfl rfl)<|za rfl<|ag<|ac ?_
  rcases Or.symm (dE H) with ⟨p21,e20,H⟩ | ⟨x19,e20,H⟩
  ·subst H;refine aa ?_;show AR _ _ _ _ _ [0,1,2] _;refine zm rfl<|zS rfl (ah (av:=.pt _ _) rfl)<|ar rfl rfl (AO.callFPan (c:=dR (.iface 46 (.agg #[.int .i64 p21]))) [0,0,0] rfl (.inr ⟨rfl,rfl,rfl⟩) vb rfl (qF F o1 x14.2.1 a3 t4 a5 x14.2.2 t17 p21 e20) rfl ?_);exact And.intro rfl (Exists.intro [] ⟨bC _,rfl,rfl⟩)
  refine aa ?_;show AR _ _ _ _ _ [0,1,2] _;refine zm rfl<|zS rfl (ah (av:=.pt _ _) rfl)<|ar rfl rfl (AO.callFAt [0,0,0] rfl (.inr ⟨rfl,rfl,rfl⟩) vb rfl (rQ F o1 x14.2.1 a3 t4 a5 x14.2.2 t17 x19.1 x19.2 e20) rfl (fun c A' h=>by cases h.1) ?_)
  rintro av A' ⟨h,rfl⟩; cases h
  refine ag<|ax rfl (fun c22=>?_) (fun c22=>?_)
  ·replace H:=be c22 H;refine aQ ?_;obtain rfl:=aq H;exact And.intro rfl (Exists.intro _ (Exists.intro _ ⟨bp rfl,aK [0,0,0] rfl,rfl,t4,t17,rfl⟩))
  ·replace H:=bf c22 H;refine aC<|aa ?_;show AR _ _ _ _ _ [0,1] _;refine zS rfl (bo (av':=i64 2) (bB rfl rfl (by decide)) rfl)<|zm rfl<|ag<|ac<|aa ?_;show AR _ _ _ _ _ [0] _;refine zS rfl (bo (av':=B true) (bN rfl rfl) (aw (by decide)))<|ag<|ac<|ax rfl (fun _=>?_) (fun hx=>bP rfl hx);refine aC<|ac<|aR<|ac<|aa ?_;show AR _ _ _ _ _ [0,1,2] _;refine zS rfl (bH (E:=mS) (m:=2) dp (by kernel_rfl) rfl rfl rfl rfl)<|zS rfl (aG ew rfl rfl)<|za rfl<|ag<|ac ?_
   rcases Or.symm (dE H) with ⟨p25,e24,H⟩ | ⟨x23,e24,H⟩
   ·subst H;refine aa ?_;show AR _ _ _ _ _ [0,1,2] _;refine zm rfl<|zS rfl (ah (av:=.pt _ _) rfl)<|ar rfl rfl (AO.callFPan (c:=dR (.iface 46 (.agg #[.int .i64 p25]))) [0,0,0] rfl (.inr ⟨rfl,rfl,rfl⟩) va rfl (vr F o1 x19.2 a3 t4 a5 x14.2.2 t17 p25 e24) rfl ?_);exact And.intro rfl (Exists.intro [] ⟨bC _,rfl,rfl⟩)
   refine aa ?_;show AR _ _ _ _ _ [0,1,2] _;refine zm rfl<|zS rfl (ah (av:=.pt _ _) rfl)<|ar rfl rfl (AO.callFAt [0,0,0] rfl (.inr ⟨rfl,rfl,rfl⟩) va rfl (wv F o1 x19.2 a3 t4 a5 x14.2.2 t17 x23.1 x23.2 e24) rfl (fun c A' h=>by cases h.1) ?_)
   rintro av A' ⟨h,rfl⟩; cases h
   refine ag<|ax rfl (fun c26=>?_) (fun c26=>?_)
   ·replace H:=be c26 H;refine aQ ?_;obtain rfl:=aq H;exact And.intro rfl (Exists.intro _ (Exists.intro _ ⟨bp rfl,aK [0,0,0] rfl,rfl,t4,t17,rfl⟩))
   ·replace H:=bf c26 H;refine aC<|aa ?_;show AR _ _ _ _ _ [0,1] _;refine zS rfl (bo (av':=i64 3) (bB rfl rfl (by decide)) rfl)<|zm rfl<|ag<|ac<|aa ?_;show AR _ _ _ _ _ [0] _;refine zS rfl (bo (av':=B true) (bN rfl rfl) (aw (by decide)))<|ag<|ac<|ax rfl (fun _=>?_) (fun hx=>bP rfl hx);refine aC<|ac<|aR<|ac<|aa ?_;show AR _ _ _ _ _ [0,1,2] _;refine zS rfl (bH (E:=mS) (m:=3) dp (by kernel_rfl) rfl rfl rfl rfl)<|zS rfl (aG ew rfl rfl)<|za rfl<|ag<|ac ?_
    rcases Or.symm (dE H) with ⟨p29,e28,H⟩ | ⟨x27,e28,H⟩
    ·subst H;refine aa ?_;show AR _ _ _ _ _ [0,1,2] _;refine zm rfl<|zS rfl (ah (av:=.pt _ _) rfl)<|ar rfl rfl (AO.callFPan (c:=dR (.iface 46 (.agg #[.int .i64 p29]))) [0,0,0] rfl (.inr ⟨rfl,rfl,rfl⟩) uZ rfl (tM F o1 x23.2 a3 t4 a5 x14.2.2 t17 p29 e28) rfl ?_);exact And.intro rfl (Exists.intro [] ⟨bC _,rfl,rfl⟩)
    refine aa ?_;show AR _ _ _ _ _ [0,1,2] _;refine zm rfl<|zS rfl (ah (av:=.pt _ _) rfl)<|ar rfl rfl (AO.callFAt [0,0,0] rfl (.inr ⟨rfl,rfl,rfl⟩) uZ rfl (vp F o1 x23.2 a3 t4 a5 x14.2.2 t17 x27.1 x27.2.1 x27.2.2 e28) rfl (fun c A' h=>by cases h.1) ?_)
    rintro av A' ⟨h,t30,rfl⟩; cases h
    refine ag<|ax rfl (fun c31=>?_) (fun c31=>?_)
    ·replace H:=be c31 H;refine aQ ?_;obtain rfl:=aq H;exact And.intro rfl (Exists.intro _ (Exists.intro _ ⟨bp rfl,aK [0,0,0] rfl,rfl,t4,t30,rfl⟩))
    ·replace H:=bf c31 H;refine aC<|aa ?_;show AR _ _ _ _ _ [0,1] _;refine zS rfl (bo (av':=i64 4) (bB rfl rfl (by decide)) rfl)<|zm rfl<|ag<|ac<|aa ?_;show AR _ _ _ _ _ [0] _;refine zS rfl (bo (av':=B true) (bN rfl rfl) (aw (by decide)))<|ag<|ac<|ax rfl (fun _=>?_) (fun hx=>bP rfl hx);refine aC<|ac<|aR<|ac<|aa ?_;show AR _ _ _ _ _ [0,1,2] _;refine zS rfl (bH (E:=mS) (m:=4) dp (by kernel_rfl) rfl rfl rfl rfl)<|zS rfl (aG ew rfl rfl)<|za rfl<|ag<|ac ?_
     rcases Or.symm (dE H) with ⟨p34,e33,H⟩ | ⟨x32,e33,H⟩
     ·subst H;refine aa ?_;show AR _ _ _ _ _ [0,1,2] _;refine zm rfl<|zS rfl (ah (av:=.pt _ _) rfl)<|ar rfl rfl (AO.callFPan (c:=dR (.iface 46 (.agg #[.int .i64 p34]))) [0,0,0] rfl (.inr ⟨rfl,rfl,rfl⟩) uY rfl (vo F o1 x27.2.1 a3 t4 a5 x27.2.2 t30 p34 e33) rfl ?_);exact And.intro rfl (Exists.intro [] ⟨bC _,rfl,rfl⟩)
     refine aa ?_;show AR _ _ _ _ _ [0,1,2] _;refine zm rfl<|zS rfl (ah (av:=.pt _ _) rfl)<|ar rfl rfl (AO.callFAt [0,0,0] rfl (.inr ⟨rfl,rfl,rfl⟩) uY rfl (wu F o1 x27.2.1 a3 t4 a5 x27.2.2 t30 x32.1 x32.2 e33) rfl (fun c A' h=>by cases h.1) ?_)
     rintro av A' ⟨h,rfl⟩; cases h
     refine ag<|ax rfl (fun c35=>?_) (fun c35=>?_)
     ·replace H:=be c35 H;refine aQ ?_;obtain rfl:=aq H;exact And.intro rfl (Exists.intro _ (Exists.intro _ ⟨bp rfl,aK [0,0,0] rfl,rfl,t4,t30,rfl⟩))
     ·replace H:=bf c35 H;refine aC<|aa ?_;show AR _ _ _ _ _ [0,1] _;refine zS rfl (bo (av':=i64 5) (bB rfl rfl (by decide)) rfl)<|zm rfl<|ag<|ac<|aa ?_;show AR _ _ _ _ _ [0] _;refine zS rfl (bo (av':=B true) (bN rfl rfl) (aw (by decide)))<|ag<|ac<|ax rfl (fun _=>?_) (fun hx=>bP rfl hx);refine aC<|ac<|aR<|ac<|aa ?_;show AR _ _ _ _ _ [0,1,2] _;refine zS rfl (bH (E:=mS) (m:=5) dp (by kernel_rfl) rfl rfl rfl rfl)<|zS rfl (aG ew rfl rfl)<|za rfl<|ag<|ac ?_
      rcases Or.symm (dE H) with ⟨p38,e37,H⟩ | ⟨x36,e37,H⟩
      ·subst H;refine aa ?_;show AR _ _ _ _ _ [0,1,2] _;refine zm rfl<|zS rfl (ah (av:=.pt _ _) rfl)<|ar rfl rfl (AO.callFPan (c:=dR (.iface 46 (.agg #[.int .i64 p38]))) [0,0,0] rfl (.inr ⟨rfl,rfl,rfl⟩) uX rfl (rO F o1 x32.2 a3 t4 a5 x27.2.2 t30 p38 e37) rfl ?_);exact And.intro rfl (Exists.intro [] ⟨bC _,rfl,rfl⟩)
      refine aa ?_;show AR _ _ _ _ _ [0,1,2] _;refine zm rfl<|zS rfl (ah (av:=.pt _ _) rfl)<|ar rfl rfl (AO.callFAt [0,0,0] rfl (.inr ⟨rfl,rfl,rfl⟩) uX rfl (sw F o1 x32.2 a3 t4 a5 x27.2.2 t30 x36.1 x36.2.1 x36.2.2.1 x36.2.2.2 e37) rfl (fun c A' h=>by cases h.1) ?_)
      rintro av A' ⟨h,t39,t40,rfl⟩; cases h
      refine ag<|ax rfl (fun c41=>?_) (fun c41=>?_)
      ·replace H:=be c41 H;refine aQ ?_;obtain rfl:=aq H;exact And.intro rfl (Exists.intro _ (Exists.intro _ ⟨bp rfl,aK [0,0,0] rfl,rfl,t39,t40,rfl⟩))
      ·replace H:=bf c41 H;refine aC<|aa ?_;show AR _ _ _ _ _ [0,1] _;refine zS rfl (bo (av':=i64 6) (bB rfl rfl (by decide)) rfl)<|zm rfl<|ag<|ac<|aa ?_;show AR _ _ _ _ _ [0] _;refine zS rfl (bo (av':=B true) (bN rfl rfl) (aw (by decide)))<|ag<|ac<|ax rfl (fun _=>?_) (fun hx=>bP rfl hx);refine aC<|ac<|aR<|ac<|aa ?_;show AR _ _ _ _ _ [0,1,2] _;refine zS rfl (bH (E:=mS) (m:=6) dp (by kernel_rfl) rfl rfl rfl rfl)<|zS rfl (aG ew rfl rfl)<|za rfl<|ag<|ac ?_
       rcases Or.symm (dE H) with ⟨p44,e43,H⟩ | ⟨x42,e43,H⟩
       ·subst H;refine aa ?_;show AR _ _ _ _ _ [0,1,2] _;refine zm rfl<|zS rfl (ah (av:=.pt _ _) rfl)<|ar rfl rfl (AO.callFPan (c:=dR (.iface 46 (.agg #[.int .i64 p44]))) [0,0,0] rfl (.inr ⟨rfl,rfl,rfl⟩) uW rfl (qE F o1 x36.2.1 x36.2.2.2 t39 a5 x36.2.2.1 t40 p44 e43) rfl ?_);exact And.intro rfl (Exists.intro [] ⟨bC _,rfl,rfl⟩)
       refine aa ?_;show AR _ _ _ _ _ [0,1,2] _;refine zm rfl<|zS rfl (ah (av:=.pt _ _) rfl)<|ar rfl rfl (AO.callFAt [0,0,0] rfl (.inr ⟨rfl,rfl,rfl⟩) uW rfl (rP F o1 x36.2.1 x36.2.2.2 t39 a5 x36.2.2.1 t40 x42.1 x42.2.1 x42.2.2.1 x42.2.2.2.1 x42.2.2.2.2 e43) rfl (fun c A' h=>by cases h.1) ?_)
       rintro av A' ⟨h,t45,t46,rfl⟩; cases h
       refine ag<|ax rfl (fun c47=>?_) (fun c47=>?_)
       ·replace H:=be c47 H;refine aQ ?_;obtain rfl:=aq H;exact And.intro rfl (Exists.intro _ (Exists.intro _ ⟨bp rfl,aK [0,0,0] rfl,rfl,t45,t46,rfl⟩))
       ·replace H:=bf c47 H;refine aC<|aa ?_;show AR _ _ _ _ _ [0,1] _;refine zS rfl (bo (av':=i64 7) (bB rfl rfl (by decide)) rfl)<|zm rfl<|ag<|ac<|aa ?_;show AR _ _ _ _ _ [0] _;refine zS rfl (bo (av':=B false) (bN rfl rfl) (aw (by decide)))<|ag<|ac<|ax rfl (fun hx=>bP hx rfl) (fun _=>?_);refine bU ?_;obtain rfl:=aq H;exact And.intro rfl (Exists.intro _ (Exists.intro _ ⟨bp rfl,aK [0,0,0] rfl,rfl,t45,t46,rfl⟩))
theorem vn (F:Nat) (o1:Nat) (a2:List UInt8) (a3:List (List UInt8)) (t4:Nat) (a5:Int) (a6:List (Int×(List UInt8)×(List UInt8)×List ((List UInt8)×List UInt8))) (t7:Nat) (r8:List UInt8) (r11:Int) (r12:List (Int×(List UInt8)×(List UInt8)×List ((List UInt8)×List UInt8))) (r9:List (List UInt8)) (H:nP F a2 a3 a5 a6=some (Res.ok (r8,r11,r12,r9))):ACalls Tryz.prog 22 [.pt o1 0] [.obj o1 [S a2,.sk t4 a3.length,i64 a5,slE (Enc.prod Enc.int (Enc.prod Enc.str (Enc.prod Enc.str (Enc.sl (Enc.prod Enc.str Enc.str))))) a6 (some t7)],.stk t4 (Enc.str.fl a3),.tok t7 33] (fun e A'=>e=.ret (.tup [])∧∃ t10 t13,A'=[.obj o1 [S r8,.sk t10 r9.length,i64 r11,slE (Enc.prod Enc.int (Enc.prod Enc.str (Enc.prod Enc.str (Enc.sl (Enc.prod Enc.str Enc.str))))) r12 (some t13)],.stk t10 (Enc.str.fl r9),.tok t13 33]):=ul F o1 a2 a3 t4 a5 a6 t7 _ H
theorem tK (F:Nat) (o1:Nat) (a2:List UInt8) (a3:List (List UInt8)) (t4:Nat) (a5:Int) (a6:List (Int×(List UInt8)×(List UInt8)×List ((List UInt8)×List UInt8))) (t7:Nat) (e:Int) (H:nP F a2 a3 a5 a6=some (Res.pan e)):ACalls Tryz.prog 22 [.pt o1 0] [.obj o1 [S a2,.sk t4 a3.length,i64 a5,slE (Enc.prod Enc.int (Enc.prod Enc.str (Enc.prod Enc.str (Enc.sl (Enc.prod Enc.str Enc.str))))) a6 (some t7)],.stk t4 (Enc.str.fl a3),.tok t7 33] (fun ae A'=>ae=.pan ((fun e=>dR (.iface 46 (.agg #[.int .i64 e]))) e)∧A'=[]):=ul F o1 a2 a3 t4 a5 a6 t7 _ H
abbrev _root_.Go.Av.bZ := @Tryz.underlying25
set_option maxRecDepth 100000 in
set_option maxHeartbeats 1000000 in
theorem rj (F:Nat) (a1:List UInt8) (q2:Option Nat) (r3:List (Int×(List UInt8)×(List UInt8)×List ((List UInt8)×List UInt8))) (r4:Int) (H:kf F a1=some (r3,r4)):ACalls Tryz.prog 10 [slE Enc.byte a1 q2] [] (Ret (.tup [slE (Enc.prod Enc.int (Enc.prod Enc.str (Enc.prod Enc.str (Enc.sl (Enc.prod Enc.str Enc.str))))) r3 none,i64 r4]) []):=by
 unfold kf at H
 refine nJ [2,3] Tryz.func10 rfl rfl ?_;show AW _ _ 38 _ _ _;refine ac<|aa ?_;show AR _ _ _ _ _ [0,1] _;refine zX rfl (dw (zs:=[.slice none 0 0]) (by kernel_rfl)) ?_;rintro _ _ ⟨o5,rfl,rfl⟩;refine zX rfl (dw (zs:=[.int .i64 0]) (by kernel_rfl)) ?_;rintro _ _ ⟨o6,rfl,rfl⟩;refine ag<|ac<|ac<|aa ?_;show AR _ _ _ _ _ [0,1,2] _;refine zS rfl (ah (av:=slE _ _ _) rfl)<|zS rfl (bh ak rfl)<|zS rfl (eN rfl rfl)<|ag<|ax rfl (fun c7=>?_) (fun c7=>?_)
 ·replace H:=be c7 H;refine ac<|aa ?_;show AR _ _ _ _ _ [0,1] _;refine s0 rfl rfl (aA (i:=1) (c:=.v _) (by kernel_rfl) rfl rfl rfl rfl (af rfl))<|s0 rfl rfl (aA (i:=0) (c:=.v _) (by kernel_rfl) rfl rfl rfl rfl (af rfl))<|ag<|aQ ?_;obtain ⟨rfl,rfl⟩:=ek H;exact Exists.intro _ (Exists.intro _ ⟨mF rfl ((CellV.one (c:=.v _) 1 ay rfl rfl rfl rfl).oneW (.nil _)) (CellV.one (c:=.v _) 0 bZ rfl rfl rfl rfl),aK [] rfl,rfl,rfl⟩)
 ·replace H:=bf c7 H;refine aC<|ac<|aa ?_;show AR _ _ _ _ _ [0,1] _;refine zS rfl (lI rfl rfl)<|ar rfl rfl (AO.defer rfl ?_);show AR _ _ _ _ _ _ ⟨_,[.call (.func 21) [.pt o5 0,.pt o6 0] []],_⟩;refine ag<|ac<|aa ?_;show AR _ _ _ _ _ [0,1,2,3,4] _;refine zS rfl (ah (av:=slE _ _ _) rfl)<|zS rfl (bV ak bi ab rfl)<|zS rfl (eH (zs:=[.string ⟨#[]⟩,.slice none 0 0,.int .i64 0,.slice none 0 0]) (ps:=[(0,1),(1,1),(2,1),(3,1)]) (cs:=[S a1,aj,i64 0,aj]) (by kernel_rfl) rfl rfl)<|zX rfl (vW rfl (.inr ⟨_,rfl⟩)) ?_;rintro _ _ ⟨o8,rfl,rfl⟩;refine zS rfl (aZ (av:=.pt _ _) rfl)<|ag ?_
  refine AW.nil_stkAt 0 1 rfl rfl fun t9=>?_
  show AW _ _ _ _ _ ⟨_,_,[.stk t9 (Enc.str.fl ([]:List (List UInt8))),.obj o8 [S a1,.sk t9 (([]:List (List UInt8)).length),i64 0,aj],.obj o6 [i64 0],.obj o5 [aj]]⟩
  refine gE 1 3 4 33 rfl rfl fun t10=>?_
  show AW _ _ _ _ _ ⟨_,_,[.tok t10 33,.stk t9 (Enc.str.fl ([]:List (List UInt8))),.obj o8 [S a1,.sk t9 (([]:List (List UInt8)).length),i64 0,slE (Enc.prod Enc.int (Enc.prod Enc.str (Enc.prod Enc.str (Enc.sl (Enc.prod Enc.str Enc.str))))) [] (some t10)],.obj o6 [i64 0],.obj o5 [aj]]⟩;refine bq (X:=(List UInt8)×Nat×(List (List UInt8))×Int×(List (Int×(List UInt8)×(List UInt8)×List ((List UInt8)×List UInt8)))×Nat) (fun (y26,t27,y28,y29,y30,t31)=>⟨[(2,.pt o5 0),(3,.pt o6 0),(4,.pt o8 0)],[.call (.func 21) [.pt o5 0,.pt o6 0] []],[.obj o8 [S y26,.sk t27 y28.length,i64 y29,slE (Enc.prod Enc.int (Enc.prod Enc.str (Enc.prod Enc.str (Enc.sl (Enc.prod Enc.str Enc.str))))) y30 (some t31)],.obj o6 [i64 0],.obj o5 [aj],.stk t27 (Enc.str.fl y28),.tok t31 33]⟩) (fun (y26,t27,y28,y29,y30,t31)=>kq F y26 y28 y29 y30=some (r3,r4)) ?_ ?_
  ·refine aR<|cl (X:=Nat×(List UInt8)×Nat×(List (List UInt8))×Int×(List (Int×(List UInt8)×(List UInt8)×List ((List UInt8)×List UInt8)))×Nat) (fun (n18,y11,t12,y13,y14,y15,t16)=>⟨[(2,.pt o5 0),(3,.pt o6 0),(4,.pt o8 0)],[.call (.func 21) [.pt o5 0,.pt o6 0] []],[.obj o8 [S y11,.sk t12 y13.length,i64 y14,slE (Enc.prod Enc.int (Enc.prod Enc.str (Enc.prod Enc.str (Enc.sl (Enc.prod Enc.str Enc.str))))) y15 (some t16)],.obj o6 [i64 0],.obj o5 [aj],.stk t12 (Enc.str.fl y13),.tok t16 33]⟩) (fun (n18,y11,t12,y13,y14,y15,t16)=>kr F n18 (y11,y13,y14,y15)=some (r3,r4)) (fun (n18,y11,t12,y13,y14,y15,t16)=>n18) (F,a1,t9,([]:List (List UInt8)),0,[],t10) H (aP [2,2,2,1,0] (.cons (.refl _) (.cons (.refl _) (.cons (.refl _) (.nil _)))) rfl) ?_;rintro ⟨n18,y11,t12,y13,y14,y15,t16⟩ H;obtain ⟨n18,rfl,H⟩:=cO H;replace H:ku F (kr F n18) y11 y13 y14 y15=some (r3,r4):=H
   unfold ku at H
   refine ac<|ac<|aa ?_;show AR _ _ _ _ _ [0,1,2,3,4] _;refine zS rfl (ah (av:=.pt _ _) rfl)<|zS rfl (am rfl)<|zS rfl (ai (n:=0) (by kernel_rfl) rfl)<|zR rfl (al (i:=0) ab rfl rfl rfl rfl)<|zS rfl (pi rfl rfl)<|ag<|ax rfl (fun c19=>?_) (fun c19=>?_)
   ·replace H:=be c19 H;refine aC<|aR ?_
    rcases Or.symm (bndk_s H) with ⟨p22,e21,H⟩ | ⟨x20,e21,H⟩
    ·refine aa ?_;show AR _ _ _ _ _ [0,1] _;refine zS rfl (ah (av:=.pt _ _) rfl)<|ar rfl rfl (cg (c:=dR (.iface 46 (.agg #[.int .i64 p22]))) [0,2,2] rfl vf rfl (tK F o8 y11 y13 t12 y14 y15 t16 p22 e21) rfl ?_);refine Exists.intro [(2,.pt o5 0),(3,.pt o6 0)] ⟨by simp,.cons (.refl _) (.cons (.refl _) (.nil _)),?_⟩;show ALeaves _ _ _ _ _ [.call (.func 21) [.pt o5 0,.pt o6 0] []] _ [.obj o6 [i64 0],.obj o5 [aj]];refine jD (v:=.tup []) (u1:=(.panicking [{ v:=(.iface 46 (.agg #[.int .i64 p22])),recovered:=true }])) (A2:=[.obj o6 [i64 p22],.obj o5 [aj]]) [0,0] (fun h=>by cases h) rb rfl ?_ ?_
     ·show ADCalls _ _ [.pt o5 0,.pt o6 0] [.obj o6 [i64 0],.obj o5 [aj]] _ _;refine jJ (av:=.ifc 46 (.agg [i64 p22])) (l:=[1]) Tryz.func21 rfl rfl rfl rfl rfl Recovers.pan rfl (fun cs=>?_);refine ASR.op rfl rfl ((aZ (av:=.ifc _ _) rfl).opR _)<|ASR.nil<|ac<|aa ?_;show AR _ _ _ _ _ [0,1] _;refine zS rfl (ah (av:=.ifc _ _) rfl)<|zS rfl (rz (ms:=[]) (.inr rfl) Tryz.underlying20 rfl rfl)<|ag<|ax rfl (fun _=>?_) (fun hx=>bP rfl hx);refine ac<|aa ?_;show AR _ _ _ _ _ [0,1,2,3,4,5,6,7] _;refine zS rfl (ah (av:=.ifc _ _) rfl)<|zS rfl (nG Tryz.underlying46 rfl rfl)<|zS rfl (ah (av:=.tup _) rfl)<|zS rfl (ba (av:=.agg _) rfl rfl)<|zS rfl (ba (av:=.v _) rfl rfl)<|zX rfl (dw (zs:=[.int .i64 0]) (by kernel_rfl)) ?_;rintro _ _ ⟨o23,rfl,rfl⟩;refine s0 rfl rfl (cn (i:=0) (vs:=[i64 p22]) (by kernel_rfl) rfl rfl (by simp [cE,slE]) rfl (af rfl))<|za rfl<|ag<|ac<|ac<|aa ?_;show AR _ _ _ _ _ [0,1] _;refine zm rfl<|zS rfl (ca rfl)<|ag<|ax rfl (fun hx=>bP hx rfl) (fun _=>?_);refine aC<|bn (by kernel_rfl) ?_;show AI _ _ _ _ _ 4 (Array.replicate 4 false) _;refine zk 0 rfl (ai (n:=0) (by kernel_rfl) rfl) ?_;show zI 4 1;refine dj (i:=1) (j:=2) (by kernel_rfl) rfl rfl rfl rfl ?_ ?_
      ·refine aJ rfl (al (i:=0) bZ rfl rfl rfl rfl) ?_;show zI 4 3;refine bj (i:=2) (by kernel_rfl) rfl rfl<|dY (aA (i:=2) (c:=.v _) (by kernel_rfl) rfl rfl rfl rfl (af rfl)) ?_;show zI 4 7;refine bj (i:=3) (by kernel_rfl) rfl rfl<|dY (aA (i:=1) (c:=.v _) (by kernel_rfl) rfl rfl rfl rfl (af rfl)) ?_;show zI 4 15;refine bw rfl ?_;exact And.intro rfl (Exists.intro _ (Exists.intro _ ⟨bp rfl,aK [1,1] rfl,rfl,rfl,rfl⟩))
      ·refine dY (aA (i:=2) (c:=.v _) (by kernel_rfl) rfl rfl rfl rfl (af rfl)) ?_;show zI 4 5;refine bj (i:=1) (by kernel_rfl) rfl rfl<|aJ rfl (al (i:=0) bZ rfl rfl rfl rfl) ?_;show zI 4 7;refine bj (i:=3) (by kernel_rfl) rfl rfl<|dY (aA (i:=1) (c:=.v _) (by kernel_rfl) rfl rfl rfl rfl (af rfl)) ?_;show zI 4 15;refine bw rfl ?_;exact And.intro rfl (Exists.intro _ (Exists.intro _ ⟨bp rfl,aK [1,1] rfl,rfl,rfl,rfl⟩))
     show ALeaves _ _ _ _ _ [] .returning [.obj o6 [i64 p22],.obj o5 [aj]];obtain ⟨rfl,rfl⟩:=ek H;exact Exists.intro _ (Exists.intro _ ⟨mF rfl ((CellV.one (c:=.v _) 1 ay rfl rfl rfl rfl).oneW (.nil _)) (CellV.one (c:=.v _) 0 bZ rfl rfl rfl rfl),aK [] rfl,rfl,rfl⟩)
    refine aa ?_;show AR _ _ _ _ _ [0,1] _;refine zS rfl (ah (av:=.pt _ _) rfl)<|ar rfl rfl (aY [0,2,2] rfl vf rfl (vn F o8 y11 y13 t12 y14 y15 t16 x20.1 x20.2.1 x20.2.2.1 x20.2.2.2 e21) rfl (fun c A' h=>by cases h.1) ?_)
    rintro av A' ⟨h,t24,t25,rfl⟩; cases h
    refine ag ?_;exact Exists.intro (n18,x20.1,t24,x20.2.2.2,x20.2.1,x20.2.2.1,t25) ⟨H,Nat.lt_succ_self _,aP [0,2,2,0,0] (.cons (.refl _) (.cons (.refl _) (.cons (.refl _) (.nil _)))) rfl⟩
   ·replace H:=bf c19 H;refine bU ?_;exact Exists.intro (y11,t12,y13,y14,y15,t16) ⟨H,aP [0,0,0,0,0] (.cons (.refl _) (.cons (.refl _) (.cons (.refl _) (.nil _)))) rfl⟩
  rintro ⟨y26,t27,y28,y29,y30,t31⟩ H;replace H:kq F y26 y28 y29 y30=some (r3,r4):=H
  unfold kq at H
  refine ac ?_
  rcases Or.symm (bndk_s H) with ⟨p36,e35,H⟩ | ⟨x34,e35,H⟩
  ·refine aa ?_;show AR _ _ _ _ _ [0,1,2,3,4,5,6,7,8,9,10,11,12,13] _;refine zS rfl (ah (av:=.pt _ _) rfl)<|zS rfl (am rfl)<|zS rfl (ai (n:=1) (by kernel_rfl) rfl)<|zR rfl (al (i:=0) ao rfl rfl rfl rfl)<|zS rfl (iQ ao rfl)<|zS rfl (bI rfl rfl)<|zm rfl<|bk (l:=[13]) 32 (B ((decide ((y28.length:Int)=0))&&(decide (0 < y29)))) (fun K=>?_) ?_
   ·rcases ap (decide ((y28.length:Int)=0)) with h33 | h33
    ·refine zU h33 rfl (ah (av:=.pt _ _) rfl)<|zU h33 rfl (am rfl)<|zU h33 rfl (ai (n:=2) (by kernel_rfl) rfl)<|zT h33 rfl (cG rfl rfl (al (i:=0) au rfl rfl rfl rfl) ?_);refine zU h33 rfl (eN rfl rfl)<|zS rfl (aD (av:=.v _) rfl h33 rfl) ?_;exact K _ 5 _ (aw (cd h33)) rfl rfl
    ·refine zF h33 rfl<|zF h33 rfl<|zF h33 rfl<|zF h33 rfl<|zF h33 rfl<|zS rfl (aF (av:=.v _) rfl h33 rfl) ?_;exact K _ 5 _ (aw (cq h33)) rfl rfl
   refine ar rfl rfl (cg (c:=dR (.iface 46 (.agg #[.int .i64 p36]))) [] rfl cr rfl (cu F ((decide ((y28.length:Int)=0))&&(decide (0 < y29))) p36 e35) rfl ?_);refine Exists.intro [(2,.pt o5 0),(3,.pt o6 0)] ⟨by simp,.cons (.refl _) (.cons (.refl _) (.nil _)),?_⟩;show ALeaves _ _ _ _ _ [.call (.func 21) [.pt o5 0,.pt o6 0] []] _ [.obj o8 [S y26,.sk t27 y28.length,i64 y29,slE (Enc.prod Enc.int (Enc.prod Enc.str (Enc.prod Enc.str (Enc.sl (Enc.prod Enc.str Enc.str))))) y30 (some t31)],.obj o6 [i64 0],.obj o5 [aj],.stk t27 (Enc.str.fl y28),.tok t31 33];refine jD (v:=.tup []) (u1:=(.panicking [{ v:=(.iface 46 (.agg #[.int .i64 p36])),recovered:=true }])) (A2:=[.obj o6 [i64 p36],.obj o5 [aj]]) [1,1] (fun h=>by cases h) rb rfl ?_ ?_
   ·show ADCalls _ _ [.pt o5 0,.pt o6 0] [.obj o6 [i64 0],.obj o5 [aj]] _ _;refine jJ (av:=.ifc 46 (.agg [i64 p36])) (l:=[1]) Tryz.func21 rfl rfl rfl rfl rfl Recovers.pan rfl (fun cs=>?_);refine ASR.op rfl rfl ((aZ (av:=.ifc _ _) rfl).opR _)<|ASR.nil<|ac<|aa ?_;show AR _ _ _ _ _ [0,1] _;refine zS rfl (ah (av:=.ifc _ _) rfl)<|zS rfl (rz (ms:=[]) (.inr rfl) Tryz.underlying20 rfl rfl)<|ag<|ax rfl (fun _=>?_) (fun hx=>bP rfl hx);refine ac<|aa ?_;show AR _ _ _ _ _ [0,1,2,3,4,5,6,7] _;refine zS rfl (ah (av:=.ifc _ _) rfl)<|zS rfl (nG Tryz.underlying46 rfl rfl)<|zS rfl (ah (av:=.tup _) rfl)<|zS rfl (ba (av:=.agg _) rfl rfl)<|zS rfl (ba (av:=.v _) rfl rfl)<|zX rfl (dw (zs:=[.int .i64 0]) (by kernel_rfl)) ?_;rintro _ _ ⟨o37,rfl,rfl⟩;refine s0 rfl rfl (cn (i:=0) (vs:=[i64 p36]) (by kernel_rfl) rfl rfl (by simp [cE,slE]) rfl (af rfl))<|za rfl<|ag<|ac<|ac<|aa ?_;show AR _ _ _ _ _ [0,1] _;refine zm rfl<|zS rfl (ca rfl)<|ag<|ax rfl (fun hx=>bP hx rfl) (fun _=>?_);refine aC<|bn (by kernel_rfl) ?_;show AI _ _ _ _ _ 4 (Array.replicate 4 false) _;refine zk 0 rfl (ai (n:=0) (by kernel_rfl) rfl) ?_;show zI 4 1;refine dj (i:=1) (j:=2) (by kernel_rfl) rfl rfl rfl rfl ?_ ?_
    ·refine aJ rfl (al (i:=0) bZ rfl rfl rfl rfl) ?_;show zI 4 3;refine bj (i:=2) (by kernel_rfl) rfl rfl<|dY (aA (i:=2) (c:=.v _) (by kernel_rfl) rfl rfl rfl rfl (af rfl)) ?_;show zI 4 7;refine bj (i:=3) (by kernel_rfl) rfl rfl<|dY (aA (i:=1) (c:=.v _) (by kernel_rfl) rfl rfl rfl rfl (af rfl)) ?_;show zI 4 15;refine bw rfl ?_;exact And.intro rfl (Exists.intro _ (Exists.intro _ ⟨bp rfl,aK [1,1] rfl,rfl,rfl,rfl⟩))
    ·refine dY (aA (i:=2) (c:=.v _) (by kernel_rfl) rfl rfl rfl rfl (af rfl)) ?_;show zI 4 5;refine bj (i:=1) (by kernel_rfl) rfl rfl<|aJ rfl (al (i:=0) bZ rfl rfl rfl rfl) ?_;show zI 4 7;refine bj (i:=3) (by kernel_rfl) rfl rfl<|dY (aA (i:=1) (c:=.v _) (by kernel_rfl) rfl rfl rfl rfl (af rfl)) ?_;show zI 4 15;refine bw rfl ?_;exact And.intro rfl (Exists.intro _ (Exists.intro _ ⟨bp rfl,aK [1,1] rfl,rfl,rfl,rfl⟩))
   show ALeaves _ _ _ _ _ [] .returning [.obj o6 [i64 p36],.obj o5 [aj],.obj o8 [S y26,.sk t27 y28.length,i64 y29,slE (Enc.prod Enc.int (Enc.prod Enc.str (Enc.prod Enc.str (Enc.sl (Enc.prod Enc.str Enc.str))))) y30 (some t31)],.stk t27 (Enc.str.fl y28),.tok t31 33];obtain ⟨rfl,rfl⟩:=ek H;exact Exists.intro _ (Exists.intro _ ⟨mF rfl ((CellV.one (c:=.v _) 1 ay rfl rfl rfl rfl).oneW (.nil _)) (CellV.one (c:=.v _) 0 bZ rfl rfl rfl rfl),aK [] rfl,rfl,rfl⟩)
  refine aa ?_;show AR _ _ _ _ _ [0,1,2,3,4,5,6,7,8,9,10,11,12,13] _;refine zS rfl (ah (av:=.pt _ _) rfl)<|zS rfl (am rfl)<|zS rfl (ai (n:=1) (by kernel_rfl) rfl)<|zR rfl (al (i:=0) ao rfl rfl rfl rfl)<|zS rfl (iQ ao rfl)<|zS rfl (bI rfl rfl)<|zm rfl<|bk (l:=[13]) 32 (B ((decide ((y28.length:Int)=0))&&(decide (0 < y29)))) (fun K=>?_) ?_
  ·rcases ap (decide ((y28.length:Int)=0)) with h33 | h33
   ·refine zU h33 rfl (ah (av:=.pt _ _) rfl)<|zU h33 rfl (am rfl)<|zU h33 rfl (ai (n:=2) (by kernel_rfl) rfl)<|zT h33 rfl (cG rfl rfl (al (i:=0) au rfl rfl rfl rfl) ?_);refine zU h33 rfl (eN rfl rfl)<|zS rfl (aD (av:=.v _) rfl h33 rfl) ?_;exact K _ 5 _ (aw (cd h33)) rfl rfl
   ·refine zF h33 rfl<|zF h33 rfl<|zF h33 rfl<|zF h33 rfl<|zF h33 rfl<|zS rfl (aF (av:=.v _) rfl h33 rfl) ?_;exact K _ 5 _ (aw (cq h33)) rfl rfl
  refine ar rfl rfl (aX rfl cr rfl (cH F ((decide ((y28.length:Int)=0))&&(decide (0 < y29))) e35) ?_);refine ag<|ac<|aa ?_;show AR _ _ _ _ _ [0,1,2,3,4,5] _;refine zS rfl (ah (av:=.pt _ _) rfl)<|zS rfl (am rfl)<|zS rfl (ai (n:=3) (by kernel_rfl) rfl)<|zR rfl (al (i:=0) ay rfl rfl rfl rfl)<|s0 rfl rfl (aA (i:=2) (c:=slE _ _ _) (by kernel_rfl) rfl rfl rfl rfl (af rfl))<|s0 rfl rfl (aA (i:=1) (c:=.v _) (by kernel_rfl) rfl rfl rfl rfl (af rfl))<|ag<|aQ ?_;show ALeaves _ _ _ _ _ [.call (.func 21) [.pt o5 0,.pt o6 0] []] _ [.obj o8 [S y26,.sk t27 y28.length,i64 y29,slE (Enc.prod Enc.int (Enc.prod Enc.str (Enc.prod Enc.str (Enc.sl (Enc.prod Enc.str Enc.str))))) y30 (some t31)],.obj o6 [i64 0],.obj o5 [slE (Enc.prod Enc.int (Enc.prod Enc.str (Enc.prod Enc.str (Enc.sl (Enc.prod Enc.str Enc.str))))) y30 (some t31)],.stk t27 (Enc.str.fl y28),.tok t31 33];refine jD (v:=.tup []) (u1:=.returning) (A2:=[.obj o6 [i64 0],.obj o5 [slE (Enc.prod Enc.int (Enc.prod Enc.str (Enc.prod Enc.str (Enc.sl (Enc.prod Enc.str Enc.str))))) y30 (some t31)]]) [1,1] (fun h=>by cases h) rb rfl ?_ ?_
  ·show ADCalls _ _ [.pt o5 0,.pt o6 0] [.obj o6 [i64 0],.obj o5 [slE (Enc.prod Enc.int (Enc.prod Enc.str (Enc.prod Enc.str (Enc.sl (Enc.prod Enc.str Enc.str))))) y30 (some t31)]] _ _;refine jJ (av:=.v .nilIface) (l:=[1]) Tryz.func21 rfl rfl rfl rfl rfl Recovers.ret rfl (fun cs=>?_);refine ASR.op rfl rfl ((asg rfl).opR _)<|ASR.nil<|ac<|aa ?_;show AR _ _ _ _ _ [0,1] _;refine zm rfl<|zS rfl (pN (n:=0) (t:=0) (k:=.i64) Tryz.underlying20 rfl rfl)<|ag<|ax rfl (fun hx=>bP hx rfl) (fun _=>?_);refine aC ?_;exact And.intro rfl (Exists.intro _ (Exists.intro _ ⟨bp rfl,aK [0,0] rfl,rfl,rfl,rfl⟩))
  show ALeaves _ _ _ _ _ [] .returning [.obj o6 [i64 0],.obj o5 [slE (Enc.prod Enc.int (Enc.prod Enc.str (Enc.prod Enc.str (Enc.sl (Enc.prod Enc.str Enc.str))))) y30 (some t31)],.obj o8 [S y26,.sk t27 y28.length,i64 y29,slE (Enc.prod Enc.int (Enc.prod Enc.str (Enc.prod Enc.str (Enc.sl (Enc.prod Enc.str Enc.str))))) y30 (some t31)],.stk t27 (Enc.str.fl y28),.tok t31 33];obtain ⟨rfl,rfl⟩:=ek H;exact Exists.intro _ (Exists.intro _ ⟨mF rfl ((CellV.one (c:=slE _ _ _) 1 ay rfl rfl rfl rfl).oneW (.tok _ _ _)) (CellV.one (c:=.v _) 0 bZ rfl rfl rfl rfl),aK [] rfl,rfl,rfl⟩)
end Go.Proofs.YteokdkimegepoaaGreatDoor
namespace Go.Pv
def mm:Option Bool :=
some true
def li (a1:List ((List UInt8)×List UInt8)) (a3:List ((List UInt8)×List UInt8)) (rec8:Int→Option Bool) (y7:Int):Option Bool :=
bif decide (y7 < (a1.length:Int)) then
  grd (co y7 a1.length) <|
  lt (at_ a1 y7) fun x12 =>
  grd (co y7 a3.length) <|
  lt (at_ a3 y7) fun x15 =>
  bif !((decide (x12.1=x15.1))&&(decide (x12.2=x15.2))) then
    some false
  else
    grd (okI (y7+1)) <|
    rec8 (y7+1)
else
  mm
def lh (a1:List ((List UInt8)×List UInt8)) (a3:List ((List UInt8)×List UInt8)) (n:Nat):Int→Option Bool :=
  loop (fun rec x=>li a1 a3 rec x) n
def oE (F:Nat) (a1:List ((List UInt8)×List UInt8)) (a3:List ((List UInt8)×List UInt8)):Option Bool :=
bif !decide ((a1.length:Int)=(a3.length:Int)) then
  some false
else
  lh a1 a3 F 0
def qo (F:Nat) (a1:Int) (a2:List UInt8) (a3:List UInt8) (a4:List ((List UInt8)×List UInt8)) (a5:Int) (a6:List UInt8) (a7:List UInt8) (a8:List ((List UInt8)×List UInt8)):Option Bool :=
lL (((decide (a1=a5))&&(decide (a2=a6)))&&(decide (a3=a7))) (oE F a4 a8) fun x13 =>
some ((((decide (a1=a5))&&(decide (a2=a6)))&&(decide (a3=a7)))&&x13)
def jF:Option Bool :=
some true
def gJ (F:Nat) (a1:List (Int×(List UInt8)×(List UInt8)×List ((List UInt8)×List UInt8))) (a3:List (Int×(List UInt8)×(List UInt8)×List ((List UInt8)×List UInt8))) (rec8:Int→Option Bool) (y7:Int):Option Bool :=
bif decide (y7 < (a1.length:Int)) then
  grd (co y7 a1.length) <|
  lt (at_ a1 y7) fun x12 =>
  grd (co y7 a3.length) <|
  lt (at_ a3 y7) fun x16 =>
  bnd (qo F x12.1 x12.2.1 x12.2.2.1 x12.2.2.2 x16.1 x16.2.1 x16.2.2.1 x16.2.2.2) fun x19 =>
  bif !x19 then
    some false
  else
    grd (okI (y7+1)) <|
    rec8 (y7+1)
else
  jF
def fu (F:Nat) (a1:List (Int×(List UInt8)×(List UInt8)×List ((List UInt8)×List UInt8))) (a3:List (Int×(List UInt8)×(List UInt8)×List ((List UInt8)×List UInt8))) (n:Nat):Int→Option Bool :=
  loop (fun rec x=>gJ F a1 a3 rec x) n
def lF (F:Nat) (a1:List (Int×(List UInt8)×(List UInt8)×List ((List UInt8)×List UInt8))) (a3:List (Int×(List UInt8)×(List UInt8)×List ((List UInt8)×List UInt8))):Option Bool :=
bif !decide ((a1.length:Int)=(a3.length:Int)) then
  some false
else
  fu F a1 a3 F 0
def nR (F:Nat) (a1:List (Int×(List UInt8)×(List UInt8)×List ((List UInt8)×List UInt8))) (a3:List (Int×(List UInt8)×(List UInt8)×List ((List UInt8)×List UInt8))):Option Bool :=
bnd (lF F a1 a3) fun x6 =>
some x6
def kS:Option Int :=
some (-1)
def jn (a1:List UInt8) (a2:UInt8) (rec6:Int→Option Int) (y5:Int):Option Int :=
bif decide (0≤y5) then
  grd (co y5 a1.length) <|
  lt (at_ a1 y5) fun x10 =>
  bif decide (x10=a2) then
    some y5
  else
    grd (okI (y5 - 1)) <|
    rec6 (y5 - 1)
else
  kS
def jm (a1:List UInt8) (a2:UInt8) (n:Nat):Int→Option Int :=
  loop (fun rec x=>jn a1 a2 rec x) n
def nz (F:Nat) (a1:List UInt8) (a2:UInt8):Option Int :=
grd (okI ((a1.length:Int) - 1)) <|
jm a1 a2 F ((a1.length:Int) - 1)
def iR (F:Nat) (a1:List UInt8) (a2:UInt8):Option Int :=
bnd (nz F a1 a2) fun x4 =>
some x4
def md (F:Nat) (a1:List UInt8):Option ((List UInt8)) :=
bnd (iR F a1 58) fun x3 =>
grd (okI (x3+1)) <|
grd (mb (x3+1) a1.length) <|
lt (gW a1 (x3+1)) fun x7 =>
some x7
end Go.Pv
namespace Go.Proofs.YteokdkimegepoaaGreatDoor
open Go.RowKit Go.Av Go.Pv
theorem Bc:∀ (args:Array Value) (w:World),(callFunc 25 args).run Tryz.prog w=.ok (.enter 25 args) w:=fun _ _=>by kernel_rfl
theorem Bb:∀ (args:Array Value) (w:World),(callFunc 26 args).run Tryz.prog w=.ok (.enter 26 args) w:=fun _ _=>by kernel_rfl
theorem Ba:∀ (args:Array Value) (w:World),(callFunc 27 args).run Tryz.prog w=.ok (.enter 27 args) w:=fun _ _=>by kernel_rfl
theorem AQ:∀ (args:Array Value) (w:World),(callFunc 36 args).run Tryz.prog w=.ok (.enter 36 args) w:=fun _ _=>by kernel_rfl
theorem AH:∀ (args:Array Value) (w:World),(callFunc 63 args).run Tryz.prog w=.ok (.enter 63 args) w:=fun _ _=>by kernel_rfl
set_option maxRecDepth 100000 in
set_option maxHeartbeats 1000000 in
theorem xR (F:Nat) (a1:List ((List UInt8)×List UInt8)) (q2:Option Nat) (a3:List ((List UInt8)×List UInt8)) (q4:Option Nat) (r5:Bool) (H:oE F a1 a3=some r5):ACalls Tryz.prog 27 [slE (Enc.prod Enc.str Enc.str) a1 q2,slE (Enc.prod Enc.str Enc.str) a3 q4] [] (Ret (B r5) []):=by
 unfold oE at H
 refine az Tryz.func27 rfl rfl ?_;show AW _ _ 26 _ _ _;refine ac<|aa ?_;show AR _ _ _ _ _ [0] _;refine za rfl<|ag<|ac<|ac<|aa ?_;show AR _ _ _ _ _ [0,1,2,3,4] _;refine zS rfl (ah (av:=slE _ _ _) rfl)<|zS rfl (bh aH rfl)<|zS rfl (ah (av:=slE _ _ _) rfl)<|zS rfl (bh aH rfl)<|zS rfl (dD rfl rfl)<|ag<|ax rfl (fun c6=>?_) (fun c6=>?_)
 ·replace H:=be c6 H;refine ac<|aa ?_;show AR _ _ _ _ _ [0] _;refine za rfl<|ag<|aQ ?_;obtain rfl:=aq H;exact And.intro rfl (Exists.intro _ (Exists.intro _ ⟨aO rfl (.refl _),aK [] rfl,rfl,rfl⟩))
 ·replace H:=bf c6 H;refine aC<|bq (X:=Unit) (fun _=>⟨[],[],[]⟩) (fun _=>mm=some r5) ?_ ?_
  ·refine ac<|aa ?_;show AR _ _ _ _ _ [0,1,2] _;refine zS rfl (ah (av:=slE _ _ _) rfl)<|zS rfl (bh aH rfl)<|zm rfl<|ag<|aR<|cl (X:=Nat×Int) (fun (n9,y7)=>⟨[(0,slE (Enc.prod Enc.str Enc.str) a1 q2),(1,slE (Enc.prod Enc.str Enc.str) a3 q4),(12,i64 (a1.length:Int)),(13,i64 y7)],[],[]⟩) (fun (n9,y7)=>lh a1 a3 n9 y7=some r5) (fun (n9,y7)=>n9) (F,0) H (aP [] (.cons (.refl _) (.cons (.refl _) (.cons (.refl _) (.cons (.refl _) (.nil _))))) rfl) ?_;rintro ⟨n9,y7⟩ H;obtain ⟨n9,rfl,H⟩:=cO H;replace H:li a1 a3 (lh a1 a3 n9) y7=some r5:=H
   unfold li at H
   refine ac<|aa ?_;show AR _ _ _ _ _ [0] _;refine zS rfl (bN rfl rfl)<|ag<|ac<|ax rfl (fun c10=>?_) (fun c10=>?_)
   ·replace H:=be c10 H;refine aC<|ac<|aR<|ac<|aa ?_;show AR _ _ _ _ _ [0,1] _;refine zm rfl<|za rfl<|ag<|ac ?_;obtain ⟨g11,H⟩:=aI H;obtain ⟨x12,e13,H⟩:=bz H;obtain ⟨g14,H⟩:=aI H;obtain ⟨x15,e16,H⟩:=bz H;refine bn (by kernel_rfl) ?_;show AI _ _ _ _ _ 9 (Array.replicate 9 false) _;refine zk 0 rfl (ah (av:=slE _ _ _) rfl) ?_;show zI 9 1;refine zk 1 rfl (mv rfl) ?_;show zI 9 3;refine zk 2 rfl (bA (E:=(Enc.prod Enc.str Enc.str)) aH (by kernel_rfl) rfl rfl g11 e13) ?_;show zI 9 7;refine zk 3 rfl (cx bM rfl (n:=2) (by kernel_rfl) rfl (af rfl)) ?_;show zI 9 15;refine zk 4 rfl (ah (av:=slE _ _ _) rfl) ?_;show zI 9 31;refine zk 5 rfl (mv rfl) ?_;show zI 9 63;refine zk 6 rfl (bA (E:=(Enc.prod Enc.str Enc.str)) aH (by kernel_rfl) rfl rfl g14 e16) ?_;show zI 9 127;refine zk 7 rfl (cx bM rfl (n:=2) (by kernel_rfl) rfl (af rfl)) ?_;show zI 9 255;refine zk 8 rfl (pz (r:=(decide (x12.1=x15.1))&&(decide (x12.2=x15.2))) (.inr rfl) bM (by kernel_rfl) (by kernel_rfl) (by kernel_rfl) rfl rfl rfl (by simp only [List.all_cons,List.all_nil,id,zf,Bool.and_true])) ?_;show zI 9 511;refine bw rfl<|ax rfl (fun c17=>?_) (fun c17=>?_)
    ·replace H:=be c17 H;refine ac<|aa ?_;show AR _ _ _ _ _ [0] _;refine za rfl<|ag<|aQ ?_;obtain rfl:=aq H;exact And.intro rfl (Exists.intro _ (Exists.intro _ ⟨aO rfl (.refl _),aK [] rfl,rfl,rfl⟩))
    ·replace H:=bf c17 H;refine aC ?_;obtain ⟨g18,H⟩:=aI H;refine aa ?_;show AR _ _ _ _ _ [0,1] _;refine zS rfl (bB rfl rfl g18)<|zm rfl<|ag ?_;exact Exists.intro (n9,y7+1) ⟨H,Nat.lt_succ_self _,aP [] (.cons (.refl _) (.cons (.refl _) (.cons (.refl _) (.cons (.refl _) (.nil _))))) rfl⟩
   ·replace H:=bf c10 H;refine bU ?_;exact Exists.intro () ⟨H,aP [] (.nil _) rfl⟩
  rintro _ H;replace H:mm=some r5:=H
  unfold mm at H
  refine ac<|aa ?_;show AR _ _ _ _ _ [0] _;refine za rfl<|ag<|aQ ?_;obtain rfl:=aq H;exact And.intro rfl (Exists.intro _ (Exists.intro _ ⟨aO rfl (.refl _),aK [] rfl,rfl,rfl⟩))
set_option maxRecDepth 100000 in
set_option maxHeartbeats 1000000 in
theorem xQ (F:Nat) (a1:Int) (a2:List UInt8) (a3:List UInt8) (a4:List ((List UInt8)×List UInt8)) (a5:Int) (a6:List UInt8) (a7:List UInt8) (a8:List ((List UInt8)×List UInt8)) (r9:Bool) (H:qo F a1 a2 a3 a4 a5 a6 a7 a8=some r9):ACalls Tryz.prog 26 [.agg [i64 a1,S a2,S a3,slE (Enc.prod Enc.str Enc.str) a4 none],.agg [i64 a5,S a6,S a7,slE (Enc.prod Enc.str Enc.str) a8 none]] [] (Ret (B r9) []):=by
 unfold qo at H
 refine az Tryz.func26 rfl rfl ?_;show AW _ _ 31 _ _ _;refine ac<|aa ?_;show AR _ _ _ _ _ [0,1,2] _;refine zR rfl (qS rfl (.inr ⟨_,rfl⟩))<|zR rfl (qS rfl (.inr ⟨_,rfl⟩))<|za rfl<|ag<|ac ?_;obtain ⟨x13,e14,H⟩:=fZ H;refine aa ?_;show AR _ _ _ _ _ [0,1,2,3,4,5,6,7,8,9,10,11,12,13,14,15,16,17,18,19,20,21,22,23,24,25,26] _;refine zS rfl (aN (n:=0) (by kernel_rfl) rfl (af rfl))<|zS rfl (aG au rfl rfl)<|zS rfl (aN (n:=0) (by kernel_rfl) rfl (af rfl))<|zS rfl (aG au rfl rfl)<|zS rfl (bI rfl rfl)<|zm rfl<|bk (l:=[12,13,14,15,16,17,18,19,20,21,22,23,24,25,26]) 16 (B ((decide (a1=a5))&&(decide (a2=a6)))) (fun K=>?_) ?_
 ·rcases ap (decide (a1=a5)) with h10 | h10
  ·refine zU h10 rfl (aN (n:=1) (by kernel_rfl) rfl (af rfl))<|zU h10 rfl (aG ab rfl rfl)<|zU h10 rfl (aN (n:=1) (by kernel_rfl) rfl (af rfl))<|zU h10 rfl (aG ab rfl rfl)<|zU h10 rfl (cD rfl rfl)<|zS rfl (aD (av:=.v _) rfl h10 rfl) ?_;exact K _ 5 _ (aw (cd h10)) rfl rfl
  ·refine zF h10 rfl<|zF h10 rfl<|zF h10 rfl<|zF h10 rfl<|zF h10 rfl<|zS rfl (aF (av:=.v _) rfl h10 rfl) ?_;exact K _ 5 _ (aw (cq h10)) rfl rfl
 refine zm rfl<|bk (l:=[19,20,21,22,23,24,25,26]) 23 (B (((decide (a1=a5))&&(decide (a2=a6)))&&(decide (a3=a7)))) (fun K=>?_) ?_
 ·rcases ap ((decide (a1=a5))&&(decide (a2=a6))) with h11 | h11
  ·refine zU h11 rfl (aN (n:=2) (by kernel_rfl) rfl (af rfl))<|zU h11 rfl (aG ab rfl rfl)<|zU h11 rfl (aN (n:=2) (by kernel_rfl) rfl (af rfl))<|zU h11 rfl (aG ab rfl rfl)<|zU h11 rfl (cD rfl rfl)<|zS rfl (aD (av:=.v _) rfl h11 rfl) ?_;exact K _ 5 _ (aw (cd h11)) rfl rfl
  ·refine zF h11 rfl<|zF h11 rfl<|zF h11 rfl<|zF h11 rfl<|zF h11 rfl<|zS rfl (aF (av:=.v _) rfl h11 rfl) ?_;exact K _ 5 _ (aw (cq h11)) rfl rfl
 refine zm rfl<|bk (l:=[26]) 30 (B ((((decide (a1=a5))&&(decide (a2=a6)))&&(decide (a3=a7)))&&x13)) (fun K=>?_) ?_
 ·rcases ap (((decide (a1=a5))&&(decide (a2=a6)))&&(decide (a3=a7))) with h12 | h12
  ·refine zU h12 rfl (aN (n:=3) (by kernel_rfl) rfl (af rfl))<|zU h12 rfl (aG aH rfl rfl)<|zU h12 rfl (aN (n:=3) (by kernel_rfl) rfl (af rfl))<|zU h12 rfl (aG aH rfl rfl)<|zT h12 rfl (aX rfl Ba rfl (xR F a4 none a8 none x13 (e14 h12)) ?_);refine zS rfl (aD (av:=.v _) rfl h12 rfl) ?_;exact K _ 5 _ (aw (cd h12)) rfl rfl
  ·refine zF h12 rfl<|zF h12 rfl<|zF h12 rfl<|zF h12 rfl<|zF h12 rfl<|zS rfl (aF (av:=.v _) rfl h12 rfl) ?_;exact K _ 5 _ (aw (cq h12)) rfl rfl
 refine za rfl<|ag<|aQ ?_;obtain rfl:=aq H;exact And.intro rfl (Exists.intro _ (Exists.intro _ ⟨aO rfl (.refl _),aK [] rfl,rfl,rfl⟩))
set_option maxRecDepth 100000 in
set_option maxHeartbeats 1000000 in
theorem sy (F:Nat) (a1:List (Int×(List UInt8)×(List UInt8)×List ((List UInt8)×List UInt8))) (q2:Option Nat) (a3:List (Int×(List UInt8)×(List UInt8)×List ((List UInt8)×List UInt8))) (q4:Option Nat) (r5:Bool) (H:lF F a1 a3=some r5):ACalls Tryz.prog 25 [slE (Enc.prod Enc.int (Enc.prod Enc.str (Enc.prod Enc.str (Enc.sl (Enc.prod Enc.str Enc.str))))) a1 q2,slE (Enc.prod Enc.int (Enc.prod Enc.str (Enc.prod Enc.str (Enc.sl (Enc.prod Enc.str Enc.str))))) a3 q4,.v (.func (.func 26) #[] #[])] [] (Ret (B r5) []):=by
 unfold lF at H
 refine az Tryz.func25 rfl rfl ?_;show AW _ _ 32 _ _ _;refine ac<|aa ?_;show AR _ _ _ _ _ [0] _;refine za rfl<|ag<|ac<|ac<|aa ?_;show AR _ _ _ _ _ [0,1,2,3,4] _;refine zS rfl (ah (av:=slE _ _ _) rfl)<|zS rfl (bh ay rfl)<|zS rfl (ah (av:=slE _ _ _) rfl)<|zS rfl (bh ay rfl)<|zS rfl (dD rfl rfl)<|ag<|ax rfl (fun c6=>?_) (fun c6=>?_)
 ·replace H:=be c6 H;refine ac<|aa ?_;show AR _ _ _ _ _ [0] _;refine za rfl<|ag<|aQ ?_;obtain rfl:=aq H;exact And.intro rfl (Exists.intro _ (Exists.intro _ ⟨aO rfl (.refl _),aK [] rfl,rfl,rfl⟩))
 ·replace H:=bf c6 H;refine aC<|bq (X:=Unit) (fun _=>⟨[],[],[]⟩) (fun _=>jF=some r5) ?_ ?_
  ·refine ac<|aa ?_;show AR _ _ _ _ _ [0,1,2] _;refine zS rfl (ah (av:=slE _ _ _) rfl)<|zS rfl (bh ay rfl)<|zm rfl<|ag<|aR<|cl (X:=Nat×Int) (fun (n9,y7)=>⟨[(1,slE (Enc.prod Enc.int (Enc.prod Enc.str (Enc.prod Enc.str (Enc.sl (Enc.prod Enc.str Enc.str))))) a3 q4),(2,.v (.func (.func 26) #[] #[])),(15,slE (Enc.prod Enc.int (Enc.prod Enc.str (Enc.prod Enc.str (Enc.sl (Enc.prod Enc.str Enc.str))))) a1 q2),(16,i64 (a1.length:Int)),(17,i64 y7)],[],[]⟩) (fun (n9,y7)=>fu F a1 a3 n9 y7=some r5) (fun (n9,y7)=>n9) (F,0) H (aP [] (.cons (.refl _) (.cons (.refl _) (.cons (.refl _) (.cons (.refl _) (.cons (.refl _) (.nil _)))))) rfl) ?_;rintro ⟨n9,y7⟩ H;obtain ⟨n9,rfl,H⟩:=cO H;replace H:gJ F a1 a3 (fu F a1 a3 n9) y7=some r5:=H
   unfold gJ at H
   refine ac<|aa ?_;show AR _ _ _ _ _ [0] _;refine zS rfl (bN rfl rfl)<|ag<|ac<|ax rfl (fun c10=>?_) (fun c10=>?_)
   ·replace H:=be c10 H;refine aC<|ac<|aR<|ac ?_;obtain ⟨g11,H⟩:=aI H;obtain ⟨x12,e13,H⟩:=bz H;refine aa ?_;show AR _ _ _ _ _ [0,1,2,3,4,5] _;refine zm rfl<|zS rfl (bA (E:=(Enc.prod Enc.int (Enc.prod Enc.str (Enc.prod Enc.str (Enc.sl (Enc.prod Enc.str Enc.str)))))) ay (by kernel_rfl) rfl rfl g11 e13)<|zS rfl (cx cA rfl (n:=4) (by kernel_rfl) rfl (af rfl))<|zX rfl (dw (zs:=[.int .i64 0,.string ⟨#[]⟩,.string ⟨#[]⟩,.slice none 0 0]) (by kernel_rfl)) ?_;rintro _ _ ⟨o14,rfl,rfl⟩;refine za rfl<|s0 rfl rfl (cn (i:=0) (vs:=[i64 x12.1,S x12.2.1,S x12.2.2.1,slE (Enc.prod Enc.str Enc.str) x12.2.2.2 none]) (by kernel_rfl) rfl rfl (by simp [cE,slE]) rfl (af rfl))<|AR.freezeCp 8 0 rfl rfl ?_;show AR _ _ _ _ _ _ ⟨_,_,[]⟩;refine ag<|ac ?_;obtain ⟨g15,H⟩:=aI H;obtain ⟨x16,e17,H⟩:=bz H;refine aa ?_;show AR _ _ _ _ _ [0,1,2,3,4,5] _;refine zS rfl (ah (av:=slE _ _ _) rfl)<|zm rfl<|zS rfl (bA (E:=(Enc.prod Enc.int (Enc.prod Enc.str (Enc.prod Enc.str (Enc.sl (Enc.prod Enc.str Enc.str)))))) ay (by kernel_rfl) rfl rfl g15 e17)<|zS rfl (cx cA rfl (n:=4) (by kernel_rfl) rfl (af rfl))<|zX rfl (dw (zs:=[.int .i64 0,.string ⟨#[]⟩,.string ⟨#[]⟩,.slice none 0 0]) (by kernel_rfl)) ?_;rintro _ _ ⟨o18,rfl,rfl⟩
    refine s0 rfl rfl (cn (i:=0) (vs:=[i64 x16.1,S x16.2.1,S x16.2.2.1,slE (Enc.prod Enc.str Enc.str) x16.2.2.2 none]) (by kernel_rfl) rfl rfl (by simp [cE,slE]) rfl (af rfl))<|AR.freezeCp 9 0 rfl rfl ?_;show AR _ _ _ _ _ _ ⟨_,_,[]⟩;refine ag<|ac ?_;obtain ⟨x19,e20,H⟩:=cm H;refine aa ?_;show AR _ _ _ _ _ [0,1,2,3,4] _;refine zm rfl<|zS rfl (cx cA rfl (n:=4) (by kernel_rfl) rfl (af rfl))<|zS rfl (cx cA rfl (n:=4) (by kernel_rfl) rfl (af rfl))<|ar rfl rfl (AO.callFp rfl (.inr ⟨rfl,rfl,rfl⟩) Bb rfl (xQ F x12.1 x12.2.1 x12.2.2.1 x12.2.2.2 x16.1 x16.2.1 x16.2.2.1 x16.2.2.2 x19 e20) ?_);refine zS rfl (ca rfl)<|ag<|ax rfl (fun c21=>?_) (fun c21=>?_)
    ·replace H:=be c21 H;refine ac<|aa ?_;show AR _ _ _ _ _ [0] _;refine za rfl<|ag<|aQ ?_;obtain rfl:=aq H;exact And.intro rfl (Exists.intro _ (Exists.intro _ ⟨aO rfl (.refl _),aK [] rfl,rfl,rfl⟩))
    ·replace H:=bf c21 H;refine aC ?_;obtain ⟨g22,H⟩:=aI H;refine aa ?_;show AR _ _ _ _ _ [0,1] _;refine zS rfl (bB rfl rfl g22)<|zm rfl<|ag ?_;exact Exists.intro (n9,y7+1) ⟨H,Nat.lt_succ_self _,aP [] (.cons (.refl _) (.cons (.refl _) (.cons (.refl _) (.cons (.refl _) (.cons (.refl _) (.nil _)))))) rfl⟩
   ·replace H:=bf c10 H;refine bU ?_;exact Exists.intro () ⟨H,aP [] (.nil _) rfl⟩
  rintro _ H;replace H:jF=some r5:=H
  unfold jF at H
  refine ac<|aa ?_;show AR _ _ _ _ _ [0] _;refine za rfl<|ag<|aQ ?_;obtain rfl:=aq H;exact And.intro rfl (Exists.intro _ (Exists.intro _ ⟨aO rfl (.refl _),aK [] rfl,rfl,rfl⟩))
set_option maxRecDepth 100000 in
set_option maxHeartbeats 1000000 in
theorem qO (F:Nat) (a1:List (Int×(List UInt8)×(List UInt8)×List ((List UInt8)×List UInt8))) (q2:Option Nat) (a3:List (Int×(List UInt8)×(List UInt8)×List ((List UInt8)×List UInt8))) (q4:Option Nat) (r5:Bool) (H:nR F a1 a3=some r5):ACalls Tryz.prog 13 [slE (Enc.prod Enc.int (Enc.prod Enc.str (Enc.prod Enc.str (Enc.sl (Enc.prod Enc.str Enc.str))))) a1 q2,slE (Enc.prod Enc.int (Enc.prod Enc.str (Enc.prod Enc.str (Enc.sl (Enc.prod Enc.str Enc.str))))) a3 q4] [] (Ret (B r5) []):=by
 unfold nR at H
 refine az Tryz.func13 rfl rfl ?_;show AW _ _ 8 _ _ _;refine ac<|aa ?_;show AR _ _ _ _ _ [0] _;refine za rfl<|ag<|ac ?_;obtain ⟨x6,e7,H⟩:=cm H;refine aa ?_;show AR _ _ _ _ _ [0,1,2,3] _;refine zS rfl (ah (av:=slE _ _ _) rfl)<|zS rfl (ah (av:=slE _ _ _) rfl)<|ar rfl rfl (aX rfl Bc rfl (sy F a1 q2 a3 q4 x6 e7) ?_);refine za rfl<|ag<|aQ ?_;obtain rfl:=aq H;exact And.intro rfl (Exists.intro _ (Exists.intro _ ⟨aO rfl (.refl _),aK [] rfl,rfl,rfl⟩))
set_option maxRecDepth 100000 in
set_option maxHeartbeats 1000000 in
theorem vt (F:Nat) (a1:List UInt8) (a2:UInt8) (r3:Int) (H:nz F a1 a2=some r3):ACalls Tryz.prog 63 [S a1,u8 a2] [] (Ret (i64 r3) []):=by
 unfold nz at H
 refine az Tryz.func63 rfl rfl ?_;show AW _ _ 19 _ _ _;refine ac<|aa ?_;show AR _ _ _ _ _ [0] _;refine za rfl<|ag<|bq (X:=Unit) (fun _=>⟨[],[],[]⟩) (fun _=>kS=some r3) ?_ ?_
 ·refine ac ?_;obtain ⟨g4,H⟩:=aI H;refine aa ?_;show AR _ _ _ _ _ [0,1,2,3] _;refine zm rfl<|zS rfl (aW ab rfl)<|zS rfl (mc rfl rfl g4)<|za rfl<|ag<|aR<|cl (X:=Nat×Int) (fun (n7,y5)=>⟨[(0,S a1),(1,u8 a2),(5,i64 y5)],[],[]⟩) (fun (n7,y5)=>jm a1 a2 n7 y5=some r3) (fun (n7,y5)=>n7) (F,(a1.length:Int) - 1) H (aP [] (.cons (.refl _) (.cons (.refl _) (.cons (.refl _) (.nil _)))) rfl) ?_;rintro ⟨n7,y5⟩ H;obtain ⟨n7,rfl,H⟩:=cO H;replace H:jn a1 a2 (jm a1 a2 n7) y5=some r3:=H
  unfold jn at H
  refine ac<|ac<|aa ?_;show AR _ _ _ _ _ [0,1] _;refine zm rfl<|zS rfl (cX rfl rfl)<|ag<|ax rfl (fun c8=>?_) (fun c8=>?_)
  ·replace H:=be c8 H;refine aC<|ac<|aR<|ac ?_;obtain ⟨g9,H⟩:=aI H;obtain ⟨x10,e11,H⟩:=bz H;refine aa ?_;show AR _ _ _ _ _ [0,1,2,3,4] _;refine zm rfl<|zm rfl<|zS rfl (bg ab rfl rfl g9 e11)<|zm rfl<|zS rfl (eS (a:=x10) (b:=a2) rfl rfl)<|ag<|ax rfl (fun c12=>?_) (fun c12=>?_)
   ·replace H:=be c12 H;refine ac<|aa ?_;show AR _ _ _ _ _ [0,1] _;refine zm rfl<|za rfl<|ag<|aQ ?_;obtain rfl:=aq H;exact And.intro rfl (Exists.intro _ (Exists.intro _ ⟨aO rfl (.refl _),aK [] rfl,rfl,rfl⟩))
   ·replace H:=bf c12 H;refine aC ?_;obtain ⟨g13,H⟩:=aI H;refine aa ?_;show AR _ _ _ _ _ [0,1,2] _;refine zm rfl<|zS rfl (mc rfl rfl g13)<|za rfl<|ag ?_;exact Exists.intro (n7,y5 - 1) ⟨H,Nat.lt_succ_self _,aP [] (.cons (.refl _) (.cons (.refl _) (.cons (.refl _) (.nil _)))) rfl⟩
  ·replace H:=bf c8 H;refine bU ?_;exact Exists.intro () ⟨H,aP [] (.nil _) rfl⟩
 rintro _ H;replace H:kS=some r3:=H
 unfold kS at H
 refine ac<|aa ?_;show AR _ _ _ _ _ [0] _;refine za rfl<|ag<|aQ ?_;obtain rfl:=aq H;exact And.intro rfl (Exists.intro _ (Exists.intro _ ⟨aO rfl (.refl _),aK [] rfl,rfl,rfl⟩))
set_option maxRecDepth 100000 in
set_option maxHeartbeats 1000000 in
theorem pB (F:Nat) (a1:List UInt8) (a2:UInt8) (r3:Int) (H:iR F a1 a2=some r3):ACalls Tryz.prog 36 [S a1,u8 a2] [] (Ret (i64 r3) []):=by
 unfold iR at H
 refine az Tryz.func36 rfl rfl ?_;show AW _ _ 8 _ _ _;refine ac<|aa ?_;show AR _ _ _ _ _ [0] _;refine za rfl<|ag<|ac ?_;obtain ⟨x4,e5,H⟩:=cm H;refine aa ?_;show AR _ _ _ _ _ [0,1,2,3] _;refine zm rfl<|zm rfl<|ar rfl rfl (aX rfl AH rfl (vt F a1 a2 x4 e5) ?_);refine za rfl<|ag<|aQ ?_;obtain rfl:=aq H;exact And.intro rfl (Exists.intro _ (Exists.intro _ ⟨aO rfl (.refl _),aK [] rfl,rfl,rfl⟩))
set_option maxRecDepth 100000 in
set_option maxHeartbeats 1000000 in
theorem sM (F:Nat) (a1:List UInt8) (r2:List UInt8) (H:md F a1=some r2):ACalls Tryz.prog 19 [S a1] [] (Ret (S r2) []):=by
 unfold md at H
 refine az Tryz.func19 rfl rfl ?_;show AW _ _ 8 _ _ _;refine ac<|aa ?_;show AR _ _ _ _ _ [0] _;refine za rfl<|ag<|ac ?_;obtain ⟨x3,e4,H⟩:=cm H;obtain ⟨g5,H⟩:=aI H;obtain ⟨g6,H⟩:=aI H;obtain ⟨x7,e8,H⟩:=bz H;refine aa ?_;show AR _ _ _ _ _ [0,1,2,3,4,5] _;refine zm rfl<|zm rfl<|ar rfl rfl (aX rfl AQ rfl (pB F a1 58 x3 e4) ?_);refine zS rfl (bB rfl rfl g5)<|zS rfl (ee ab rfl rfl g6 e8)<|za rfl<|ag<|aQ ?_;obtain rfl:=aq H;exact And.intro rfl (Exists.intro _ (Exists.intro _ ⟨aO rfl (.refl _),aK [] rfl,rfl,rfl⟩))
end Go.Proofs.YteokdkimegepoaaGreatDoor
namespace Go.Pv
def kW:Option Bool :=
some true
def hH (y7:Int) (rec8:Int→Option Bool):Option Bool :=
grd (okI (y7+1)) <|
rec8 (y7+1)
def jv (a1:List (Int×(List UInt8)×(List UInt8)×List ((List UInt8)×List UInt8))) (a3:List (Int×(List UInt8)×(List UInt8)×List ((List UInt8)×List UInt8))) (y7:Int) (rec8:Int→Option Bool) (rec40:Int→Option Bool) (y39:Int):Option Bool :=
grd (co y7 a1.length) <|
lt (at_ a1 y7) fun x43 =>
bif decide (y39 < (x43.2.2.2.length:Int)) then
  grd (co y7 a1.length) <|
  lt (at_ a1 y7) fun x47 =>
  grd (co y39 x47.2.2.2.length) <|
  lt (at_ x47.2.2.2 y39) fun x50 =>
  grd (co y7 a3.length) <|
  lt (at_ a3 y7) fun x53 =>
  grd (co y39 x53.2.2.2.length) <|
  lt (at_ x53.2.2.2 y39) fun x56 =>
  bif !((decide (x50.1=x56.1))&&(decide (x50.2=x56.2))) then
    some false
  else
    grd (okI (y39+1)) <|
    rec40 (y39+1)
else
  hH y7 rec8
def jt (a1:List (Int×(List UInt8)×(List UInt8)×List ((List UInt8)×List UInt8))) (a3:List (Int×(List UInt8)×(List UInt8)×List ((List UInt8)×List UInt8))) (y7:Int) (rec8:Int→Option Bool) (n:Nat):Int→Option Bool :=
  loop (fun rec x=>jv a1 a3 y7 rec8 rec x) n
def ju (F:Nat) (a1:List (Int×(List UInt8)×(List UInt8)×List ((List UInt8)×List UInt8))) (a3:List (Int×(List UInt8)×(List UInt8)×List ((List UInt8)×List UInt8))) (rec8:Int→Option Bool) (y7:Int):Option Bool :=
bif decide (y7 < (a1.length:Int)) then
  grd (co y7 a1.length) <|
  lt (at_ a1 y7) fun x12 =>
  grd (co y7 a3.length) <|
  lt (at_ a3 y7) fun x15 =>
  fq (!(!decide (x12.1=x15.1))) (co y7 a1.length) <|
  lt (at_ a1 y7) fun x19 =>
  fq (!(!decide (x12.1=x15.1))) (co y7 a3.length) <|
  lt (at_ a3 y7) fun x22 =>
  fq (!((!decide (x12.1=x15.1))||(!decide (x19.2.1=x22.2.1)))) (co y7 a1.length) <|
  lt (at_ a1 y7) fun x26 =>
  fq (!((!decide (x12.1=x15.1))||(!decide (x19.2.1=x22.2.1)))) (co y7 a3.length) <|
  lt (at_ a3 y7) fun x29 =>
  fq (!(((!decide (x12.1=x15.1))||(!decide (x19.2.1=x22.2.1)))||(!decide (x26.2.2.1=x29.2.2.1)))) (co y7 a1.length) <|
  lt (at_ a1 y7) fun x33 =>
  fq (!(((!decide (x12.1=x15.1))||(!decide (x19.2.1=x22.2.1)))||(!decide (x26.2.2.1=x29.2.2.1)))) (co y7 a3.length) <|
  lt (at_ a3 y7) fun x36 =>
  bif (((!decide (x12.1=x15.1))||(!decide (x19.2.1=x22.2.1)))||(!decide (x26.2.2.1=x29.2.2.1)))||(!decide ((x33.2.2.2.length:Int)=(x36.2.2.2.length:Int))) then
    some false
  else
    jt a1 a3 y7 rec8 F 0
else
  kW
def dv (F:Nat) (a1:List (Int×(List UInt8)×(List UInt8)×List ((List UInt8)×List UInt8))) (a3:List (Int×(List UInt8)×(List UInt8)×List ((List UInt8)×List UInt8))) (n:Nat):Int→Option Bool :=
  loop (fun rec x=>ju F a1 a3 rec x) n
def jO (F:Nat) (a1:List (Int×(List UInt8)×(List UInt8)×List ((List UInt8)×List UInt8))) (a3:List (Int×(List UInt8)×(List UInt8)×List ((List UInt8)×List UInt8))):Option Bool :=
bif !decide ((a1.length:Int)=(a3.length:Int)) then
  some false
else
  dv F a1 a3 F 0
def ln (F:Nat):Option Bool :=
iE (kf F ([60,97,32,98,61,34,49,34,62,120,38,97,109,112,59,60]++[99,47,62,60,47,97,62]:List UInt8)) fun x3 x4 =>
bnd (jO F x3 ([(0,([97]:List UInt8),([]:List UInt8),([(([98]:List UInt8),([49]:List UInt8))]:List ((List UInt8)×List UInt8))),(2,([]:List UInt8),([120,38]:List UInt8),([]:List ((List UInt8)×List UInt8))),(0,([99]:List UInt8),([]:List UInt8),([]:List ((List UInt8)×List UInt8))),(1,([99]:List UInt8),([]:List UInt8),([]:List ((List UInt8)×List UInt8))),(1,([97]:List UInt8),([]:List UInt8),([]:List ((List UInt8)×List UInt8)))]:List (Int×(List UInt8)×(List UInt8)×List ((List UInt8)×List UInt8)))) fun x6 =>
lL ((decide (x4=0))&&x6) (nS F ([97,58,98]:List UInt8)) fun x10 =>
lL (((decide (x4=0))&&x6)&&x10) (md F ([97,58,98]:List UInt8)) fun x13 =>
lL ((((decide (x4=0))&&x6)&&x10)&&(decide (x13=([98]:List UInt8)))) (nR F x3 ([(0,([97]:List UInt8),([]:List UInt8),([(([98]:List UInt8),([49]:List UInt8))]:List ((List UInt8)×List UInt8))),(2,([]:List UInt8),([120,38]:List UInt8),([]:List ((List UInt8)×List UInt8))),(0,([99]:List UInt8),([]:List UInt8),([]:List ((List UInt8)×List UInt8))),(1,([99]:List UInt8),([]:List UInt8),([]:List ((List UInt8)×List UInt8))),(1,([97]:List UInt8),([]:List UInt8),([]:List ((List UInt8)×List UInt8)))]:List (Int×(List UInt8)×(List UInt8)×List ((List UInt8)×List UInt8)))) fun x16 =>
some (((((decide (x4=0))&&x6)&&x10)&&(decide (x13=([98]:List UInt8))))&&x16)
def lJ:Option Bool :=
some true
def ja (y6:Int) (rec7:Int→Option Bool):Option Bool :=
grd (okI (y6+1)) <|
rec7 (y6+1)
def ky (a1:List (Int×(List UInt8)×(List UInt8)×List ((List UInt8)×List UInt8))) (y6:Int) (rec7:Int→Option Bool) (rec23:Int→Option Bool) (y22:Int):Option Bool :=
grd (co y6 a1.length) <|
lt (at_ a1 y6) fun x26 =>
bif decide (y22 < (x26.2.2.2.length:Int)) then
  grd (co y6 a1.length) <|
  lt (at_ a1 y6) fun x30 =>
  grd (co y22 x30.2.2.2.length) <|
  lt (at_ x30.2.2.2 y22) fun x33 =>
  fq (!(decide (200 < (x33.1.length:Int)))) (co y6 a1.length) <|
  lt (at_ a1 y6) fun x37 =>
  fq (!(decide (200 < (x33.1.length:Int)))) (co y22 x37.2.2.2.length) <|
  lt (at_ x37.2.2.2 y22) fun x40 =>
  bif (decide (200 < (x33.1.length:Int)))||(decide (200 < (x40.2.length:Int))) then
    some false
  else
    grd (okI (y22+1)) <|
    rec23 (y22+1)
else
  ja y6 rec7
def kw (a1:List (Int×(List UInt8)×(List UInt8)×List ((List UInt8)×List UInt8))) (y6:Int) (rec7:Int→Option Bool) (n:Nat):Int→Option Bool :=
  loop (fun rec x=>ky a1 y6 rec7 rec x) n
def kx (F:Nat) (a1:List (Int×(List UInt8)×(List UInt8)×List ((List UInt8)×List UInt8))) (rec7:Int→Option Bool) (y6:Int):Option Bool :=
bif decide (y6 < (a1.length:Int)) then
  grd (co y6 a1.length) <|
  lt (at_ a1 y6) fun x11 =>
  fq (!(decide (200 < (x11.2.1.length:Int)))) (co y6 a1.length) <|
  lt (at_ a1 y6) fun x15 =>
  fq (!((decide (200 < (x11.2.1.length:Int)))||(decide (200 < (x15.2.2.1.length:Int))))) (co y6 a1.length) <|
  lt (at_ a1 y6) fun x19 =>
  bif ((decide (200 < (x11.2.1.length:Int)))||(decide (200 < (x15.2.2.1.length:Int))))||(decide (10 < (x19.2.2.2.length:Int))) then
    some false
  else
    kw a1 y6 rec7 F 0
else
  lJ
def dB (F:Nat) (a1:List (Int×(List UInt8)×(List UInt8)×List ((List UInt8)×List UInt8))) (n:Nat):Int→Option Bool :=
  loop (fun rec x=>kx F a1 rec x) n
def kN (F:Nat) (a1:List (Int×(List UInt8)×(List UInt8)×List ((List UInt8)×List UInt8))) (a3:Int):Option Bool :=
bif decide (a3 < (a1.length:Int)) then
  some false
else
  dB F a1 F 0
end Go.Pv
namespace Go.Proofs.YteokdkimegepoaaGreatDoor
open Go.RowKit Go.Av Go.Pv
theorem BA:∀ (args:Array Value) (w:World),(callFunc 10 args).run Tryz.prog w=.ok (.enter 10 args) w:=fun _ _=>by kernel_rfl
theorem Bt:∀ (args:Array Value) (w:World),(callFunc 12 args).run Tryz.prog w=.ok (.enter 12 args) w:=fun _ _=>by kernel_rfl
theorem Bo:∀ (args:Array Value) (w:World),(callFunc 13 args).run Tryz.prog w=.ok (.enter 13 args) w:=fun _ _=>by kernel_rfl
theorem Bg:∀ (args:Array Value) (w:World),(callFunc 18 args).run Tryz.prog w=.ok (.enter 18 args) w:=fun _ _=>by kernel_rfl
theorem Bf:∀ (args:Array Value) (w:World),(callFunc 19 args).run Tryz.prog w=.ok (.enter 19 args) w:=fun _ _=>by kernel_rfl
set_option maxRecDepth 100000 in
set_option maxHeartbeats 1000000 in
theorem nv (F:Nat) (a1:List (Int×(List UInt8)×(List UInt8)×List ((List UInt8)×List UInt8))) (q2:Option Nat) (a3:List (Int×(List UInt8)×(List UInt8)×List ((List UInt8)×List UInt8))) (q4:Option Nat) (r5:Bool) (H:jO F a1 a3=some r5):ACalls Tryz.prog 12 [slE (Enc.prod Enc.int (Enc.prod Enc.str (Enc.prod Enc.str (Enc.sl (Enc.prod Enc.str Enc.str))))) a1 q2,slE (Enc.prod Enc.int (Enc.prod Enc.str (Enc.prod Enc.str (Enc.sl (Enc.prod Enc.str Enc.str))))) a3 q4] [] (Ret (B r5) []):=by
 unfold jO at H
 refine az Tryz.func12 rfl rfl ?_;show AW _ _ 97 _ _ _;refine ac<|aa ?_;show AR _ _ _ _ _ [0] _;refine za rfl<|ag<|ac<|ac<|aa ?_;show AR _ _ _ _ _ [0,1,2,3,4] _;refine zS rfl (ah (av:=slE _ _ _) rfl)<|zS rfl (bh ay rfl)<|zS rfl (ah (av:=slE _ _ _) rfl)<|zS rfl (bh ay rfl)<|zS rfl (dD rfl rfl)<|ag<|ax rfl (fun c6=>?_) (fun c6=>?_)
 ·replace H:=be c6 H;refine ac<|aa ?_;show AR _ _ _ _ _ [0] _;refine za rfl<|ag<|aQ ?_;obtain rfl:=aq H;exact And.intro rfl (Exists.intro _ (Exists.intro _ ⟨aO rfl (.refl _),aK [] rfl,rfl,rfl⟩))
 ·replace H:=bf c6 H;refine aC<|bq (X:=Unit) (fun _=>⟨[],[],[]⟩) (fun _=>kW=some r5) ?_ ?_
  ·refine ac<|aa ?_;show AR _ _ _ _ _ [0] _;refine za rfl<|ag<|aR<|cl (X:=Nat×Int) (fun (n9,y7)=>⟨[(0,slE (Enc.prod Enc.int (Enc.prod Enc.str (Enc.prod Enc.str (Enc.sl (Enc.prod Enc.str Enc.str))))) a1 q2),(1,slE (Enc.prod Enc.int (Enc.prod Enc.str (Enc.prod Enc.str (Enc.sl (Enc.prod Enc.str Enc.str))))) a3 q4),(5,i64 y7)],[],[]⟩) (fun (n9,y7)=>dv F a1 a3 n9 y7=some r5) (fun (n9,y7)=>n9) (F,0) H (aP [] (.cons (.refl _) (.cons (.refl _) (.cons (.refl _) (.nil _)))) rfl) ?_;rintro ⟨n9,y7⟩ H;obtain ⟨n9,rfl,H⟩:=cO H;replace H:ju F a1 a3 (dv F a1 a3 n9) y7=some r5:=H
   unfold ju at H
   refine ac<|ac<|aa ?_;show AR _ _ _ _ _ [0,1,2,3] _;refine zm rfl<|zS rfl (ah (av:=slE _ _ _) rfl)<|zS rfl (bh ay rfl)<|zS rfl (bN rfl rfl)<|ag<|ax rfl (fun c10=>?_) (fun c10=>?_)
   ·replace H:=be c10 H;refine aC<|bq (X:=Unit) (fun _=>⟨[(0,slE (Enc.prod Enc.int (Enc.prod Enc.str (Enc.prod Enc.str (Enc.sl (Enc.prod Enc.str Enc.str))))) a1 q2),(1,slE (Enc.prod Enc.int (Enc.prod Enc.str (Enc.prod Enc.str (Enc.sl (Enc.prod Enc.str Enc.str))))) a3 q4),(5,i64 y7)],[],[]⟩) (fun _=>hH y7 (dv F a1 a3 n9)=some r5) ?_ ?_
    ·refine aR<|ac<|ac ?_;obtain ⟨g11,H⟩:=aI H;obtain ⟨x12,e13,H⟩:=bz H;obtain ⟨g14,H⟩:=aI H;obtain ⟨x15,e16,H⟩:=bz H;obtain ⟨g18,H⟩:=cP H;obtain ⟨x19,e20,H⟩:=bz H;obtain ⟨g21,H⟩:=cP H;obtain ⟨x22,e23,H⟩:=bz H;obtain ⟨g25,H⟩:=cP H;obtain ⟨x26,e27,H⟩:=bz H;obtain ⟨g28,H⟩:=cP H;obtain ⟨x29,e30,H⟩:=bz H;obtain ⟨g32,H⟩:=cP H;obtain ⟨x33,e34,H⟩:=bz H;obtain ⟨g35,H⟩:=cP H;obtain ⟨x36,e37,H⟩:=bz H;refine bn (by kernel_rfl) ?_;show AI _ _ _ _ _ 52 (Array.replicate 52 false) _;refine zk 0 rfl (ah (av:=slE _ _ _) rfl) ?_;show zI 52 1;refine zk 1 rfl (mv rfl) ?_;show zI 52 3;refine zk 2 rfl (bA (E:=(Enc.prod Enc.int (Enc.prod Enc.str (Enc.prod Enc.str (Enc.sl (Enc.prod Enc.str Enc.str)))))) ay (by kernel_rfl) rfl rfl g11 e13) ?_;show zI 52 7;refine zk 3 rfl (aN (n:=0) (by kernel_rfl) rfl (af rfl)) ?_;show zI 52 15;refine zk 4 rfl (aG au rfl rfl) ?_;show zI 52 31;refine zk 5 rfl (ah (av:=slE _ _ _) rfl) ?_;show zI 52 63;refine zk 6 rfl (mv rfl) ?_;show zI 52 127;refine zk 7 rfl (bA (E:=(Enc.prod Enc.int (Enc.prod Enc.str (Enc.prod Enc.str (Enc.sl (Enc.prod Enc.str Enc.str)))))) ay (by kernel_rfl) rfl rfl g14 e16) ?_;show zI 52 255;refine zk 8 rfl (aN (n:=0) (by kernel_rfl) rfl (af rfl)) ?_;show zI 52 511;refine zk 9 rfl (aG au rfl rfl) ?_;show zI 52 1023
     refine zk 10 rfl (dD rfl rfl) ?_;show zI 52 2047;refine zk 11 rfl (mv rfl) ?_;show zI 52 4095;refine AI.meet 28 (zb 52 16777215) 41 (B ((!decide (x12.1=x15.1))||(!decide (x19.2.1=x22.2.1)))) (fun K23=>?_) ?_
     ·refine ic (t:=29) rfl (fun h17=>?_) (fun h17=>?_)
      ·refine aU (i:=12) rfl rfl (by kernel_rfl) (by kernel_rfl) (by kernel_rfl) rfl rfl rfl (fun _ _ h=>h) h17 ?_;show zI 52 8191;refine aU (i:=13) rfl rfl (by kernel_rfl) (by kernel_rfl) (by kernel_rfl) rfl rfl rfl (fun _ _ h=>h) h17 ?_;show zI 52 16383;refine aU (i:=14) rfl rfl (by kernel_rfl) (by kernel_rfl) (by kernel_rfl) rfl rfl rfl (fun _ _ h=>h) h17 ?_;show zI 52 32767;refine aU (i:=15) rfl rfl (by kernel_rfl) (by kernel_rfl) (by kernel_rfl) rfl rfl rfl (fun _ _ h=>h) h17 ?_;show zI 52 65535;refine aU (i:=16) rfl rfl (by kernel_rfl) (by kernel_rfl) (by kernel_rfl) rfl rfl rfl (fun _ _ h=>h) h17 ?_;show zI 52 131071;refine aU (i:=17) rfl rfl (by kernel_rfl) (by kernel_rfl) (by kernel_rfl) rfl rfl rfl (fun _ _ h=>h) h17 ?_;show zI 52 262143;refine aU (i:=18) rfl rfl (by kernel_rfl) (by kernel_rfl) (by kernel_rfl) rfl rfl rfl (fun _ _ h=>h) h17 ?_;show zI 52 524287;refine aU (i:=19) rfl rfl (by kernel_rfl) (by kernel_rfl) (by kernel_rfl) rfl rfl rfl (fun _ _ h=>h) h17 ?_;show zI 52 1048575;refine aU (i:=20) rfl rfl (by kernel_rfl) (by kernel_rfl) (by kernel_rfl) rfl rfl rfl (fun _ _ h=>h) h17 ?_;show zI 52 2097151;refine aU (i:=21) rfl rfl (by kernel_rfl) (by kernel_rfl) (by kernel_rfl) rfl rfl rfl (fun _ _ h=>h) h17 ?_;show zI 52 4194303;refine aU (i:=22) rfl rfl (by kernel_rfl) (by kernel_rfl) (by kernel_rfl) rfl rfl rfl (fun _ _ h=>h) h17 ?_;show zI 52 8388607
       refine zk 23 rfl (bo (av':=B ((!decide (x12.1=x15.1))||(!decide (x19.2.1=x22.2.1)))) (aD (av:=.v _) rfl h17 rfl) (aw (ii h17))) ?_;show zI 52 16777215;exact K23 _ 11 rfl rfl
      ·refine aL (i:=12) rfl rfl (by kernel_rfl) (by kernel_rfl) (by kernel_rfl) rfl rfl rfl (fun _ _ h=>h) h17 (ah (av:=slE _ _ _) rfl) ?_;show zI 52 8191;refine aL (i:=13) rfl rfl (by kernel_rfl) (by kernel_rfl) (by kernel_rfl) rfl rfl rfl (fun _ _ h=>h) h17 (mv rfl) ?_;show zI 52 16383;refine aL (i:=14) rfl rfl (by kernel_rfl) (by kernel_rfl) (by kernel_rfl) rfl rfl rfl (fun _ _ h=>h) h17 (bA (E:=(Enc.prod Enc.int (Enc.prod Enc.str (Enc.prod Enc.str (Enc.sl (Enc.prod Enc.str Enc.str)))))) ay (by kernel_rfl) rfl rfl (g18 (nf h17)) e20) ?_;show zI 52 32767;refine aL (i:=15) rfl rfl (by kernel_rfl) (by kernel_rfl) (by kernel_rfl) rfl rfl rfl (fun _ _ h=>h) h17 (aN (n:=1) (by kernel_rfl) rfl (af rfl)) ?_;show zI 52 65535;refine aL (i:=16) rfl rfl (by kernel_rfl) (by kernel_rfl) (by kernel_rfl) rfl rfl rfl (fun _ _ h=>h) h17 (aG ab rfl rfl) ?_;show zI 52 131071;refine aL (i:=17) rfl rfl (by kernel_rfl) (by kernel_rfl) (by kernel_rfl) rfl rfl rfl (fun _ _ h=>h) h17 (ah (av:=slE _ _ _) rfl) ?_;show zI 52 262143;refine aL (i:=18) rfl rfl (by kernel_rfl) (by kernel_rfl) (by kernel_rfl) rfl rfl rfl (fun _ _ h=>h) h17 (mv rfl) ?_;show zI 52 524287
       refine aL (i:=19) rfl rfl (by kernel_rfl) (by kernel_rfl) (by kernel_rfl) rfl rfl rfl (fun _ _ h=>h) h17 (bA (E:=(Enc.prod Enc.int (Enc.prod Enc.str (Enc.prod Enc.str (Enc.sl (Enc.prod Enc.str Enc.str)))))) ay (by kernel_rfl) rfl rfl (g21 (nf h17)) e23) ?_;show zI 52 1048575;refine aL (i:=20) rfl rfl (by kernel_rfl) (by kernel_rfl) (by kernel_rfl) rfl rfl rfl (fun _ _ h=>h) h17 (aN (n:=1) (by kernel_rfl) rfl (af rfl)) ?_;show zI 52 2097151;refine aL (i:=21) rfl rfl (by kernel_rfl) (by kernel_rfl) (by kernel_rfl) rfl rfl rfl (fun _ _ h=>h) h17 (aG ab rfl rfl) ?_;show zI 52 4194303;refine aL (i:=22) rfl rfl (by kernel_rfl) (by kernel_rfl) (by kernel_rfl) rfl rfl rfl (fun _ _ h=>h) h17 (pi rfl rfl) ?_;show zI 52 8388607;refine zk 23 rfl (bo (av':=B ((!decide (x12.1=x15.1))||(!decide (x19.2.1=x22.2.1)))) (aF (av:=.v _) rfl h17 rfl) (aw (ie h17))) ?_;show zI 52 16777215;exact K23 _ 11 rfl rfl
     refine zk 24 rfl (mv rfl) ?_;show zI 52 33554431;refine AI.meet 15 (zb 52 137438953471) 54 (B (((!decide (x12.1=x15.1))||(!decide (x19.2.1=x22.2.1)))||(!decide (x26.2.2.1=x29.2.2.1)))) (fun K36=>?_) ?_
     ·refine ic (t:=42) rfl (fun h24=>?_) (fun h24=>?_)
      ·refine aU (i:=25) rfl rfl (by kernel_rfl) (by kernel_rfl) (by kernel_rfl) rfl rfl rfl (fun _ _ h=>h) h24 ?_;show zI 52 67108863;refine aU (i:=26) rfl rfl (by kernel_rfl) (by kernel_rfl) (by kernel_rfl) rfl rfl rfl (fun _ _ h=>h) h24 ?_;show zI 52 134217727;refine aU (i:=27) rfl rfl (by kernel_rfl) (by kernel_rfl) (by kernel_rfl) rfl rfl rfl (fun _ _ h=>h) h24 ?_;show zI 52 268435455;refine aU (i:=28) rfl rfl (by kernel_rfl) (by kernel_rfl) (by kernel_rfl) rfl rfl rfl (fun _ _ h=>h) h24 ?_;show zI 52 536870911;refine aU (i:=29) rfl rfl (by kernel_rfl) (by kernel_rfl) (by kernel_rfl) rfl rfl rfl (fun _ _ h=>h) h24 ?_;show zI 52 1073741823;refine aU (i:=30) rfl rfl (by kernel_rfl) (by kernel_rfl) (by kernel_rfl) rfl rfl rfl (fun _ _ h=>h) h24 ?_;show zI 52 2147483647;refine aU (i:=31) rfl rfl (by kernel_rfl) (by kernel_rfl) (by kernel_rfl) rfl rfl rfl (fun _ _ h=>h) h24 ?_;show zI 52 4294967295;refine aU (i:=32) rfl rfl (by kernel_rfl) (by kernel_rfl) (by kernel_rfl) rfl rfl rfl (fun _ _ h=>h) h24 ?_;show zI 52 8589934591;refine aU (i:=33) rfl rfl (by kernel_rfl) (by kernel_rfl) (by kernel_rfl) rfl rfl rfl (fun _ _ h=>h) h24 ?_;show zI 52 17179869183;refine aU (i:=34) rfl rfl (by kernel_rfl) (by kernel_rfl) (by kernel_rfl) rfl rfl rfl (fun _ _ h=>h) h24 ?_;show zI 52 34359738367;refine aU (i:=35) rfl rfl (by kernel_rfl) (by kernel_rfl) (by kernel_rfl) rfl rfl rfl (fun _ _ h=>h) h24 ?_;show zI 52 68719476735
       refine zk 36 rfl (bo (av':=B (((!decide (x12.1=x15.1))||(!decide (x19.2.1=x22.2.1)))||(!decide (x26.2.2.1=x29.2.2.1)))) (aD (av:=.v _) rfl h24 rfl) (aw (ii h24))) ?_;show zI 52 137438953471;exact K36 _ 11 rfl rfl
      ·refine aL (i:=25) rfl rfl (by kernel_rfl) (by kernel_rfl) (by kernel_rfl) rfl rfl rfl (fun _ _ h=>h) h24 (ah (av:=slE _ _ _) rfl) ?_;show zI 52 67108863;refine aL (i:=26) rfl rfl (by kernel_rfl) (by kernel_rfl) (by kernel_rfl) rfl rfl rfl (fun _ _ h=>h) h24 (mv rfl) ?_;show zI 52 134217727;refine aL (i:=27) rfl rfl (by kernel_rfl) (by kernel_rfl) (by kernel_rfl) rfl rfl rfl (fun _ _ h=>h) h24 (bA (E:=(Enc.prod Enc.int (Enc.prod Enc.str (Enc.prod Enc.str (Enc.sl (Enc.prod Enc.str Enc.str)))))) ay (by kernel_rfl) rfl rfl (g25 (nf h24)) e27) ?_;show zI 52 268435455;refine aL (i:=28) rfl rfl (by kernel_rfl) (by kernel_rfl) (by kernel_rfl) rfl rfl rfl (fun _ _ h=>h) h24 (aN (n:=2) (by kernel_rfl) rfl (af rfl)) ?_;show zI 52 536870911;refine aL (i:=29) rfl rfl (by kernel_rfl) (by kernel_rfl) (by kernel_rfl) rfl rfl rfl (fun _ _ h=>h) h24 (aG ab rfl rfl) ?_;show zI 52 1073741823;refine aL (i:=30) rfl rfl (by kernel_rfl) (by kernel_rfl) (by kernel_rfl) rfl rfl rfl (fun _ _ h=>h) h24 (ah (av:=slE _ _ _) rfl) ?_;show zI 52 2147483647;refine aL (i:=31) rfl rfl (by kernel_rfl) (by kernel_rfl) (by kernel_rfl) rfl rfl rfl (fun _ _ h=>h) h24 (mv rfl) ?_;show zI 52 4294967295
       refine aL (i:=32) rfl rfl (by kernel_rfl) (by kernel_rfl) (by kernel_rfl) rfl rfl rfl (fun _ _ h=>h) h24 (bA (E:=(Enc.prod Enc.int (Enc.prod Enc.str (Enc.prod Enc.str (Enc.sl (Enc.prod Enc.str Enc.str)))))) ay (by kernel_rfl) rfl rfl (g28 (nf h24)) e30) ?_;show zI 52 8589934591;refine aL (i:=33) rfl rfl (by kernel_rfl) (by kernel_rfl) (by kernel_rfl) rfl rfl rfl (fun _ _ h=>h) h24 (aN (n:=2) (by kernel_rfl) rfl (af rfl)) ?_;show zI 52 17179869183;refine aL (i:=34) rfl rfl (by kernel_rfl) (by kernel_rfl) (by kernel_rfl) rfl rfl rfl (fun _ _ h=>h) h24 (aG ab rfl rfl) ?_;show zI 52 34359738367;refine aL (i:=35) rfl rfl (by kernel_rfl) (by kernel_rfl) (by kernel_rfl) rfl rfl rfl (fun _ _ h=>h) h24 (pi rfl rfl) ?_;show zI 52 68719476735;refine zk 36 rfl (bo (av':=B (((!decide (x12.1=x15.1))||(!decide (x19.2.1=x22.2.1)))||(!decide (x26.2.2.1=x29.2.2.1)))) (aF (av:=.v _) rfl h24 rfl) (aw (ie h24))) ?_;show zI 52 137438953471;exact K36 _ 11 rfl rfl
     refine zk 37 rfl (mv rfl) ?_;show zI 52 274877906943;refine AI.meet 0 (zb 52 4503599627370495) 69 (B ((((!decide (x12.1=x15.1))||(!decide (x19.2.1=x22.2.1)))||(!decide (x26.2.2.1=x29.2.2.1)))||(!decide ((x33.2.2.2.length:Int)=(x36.2.2.2.length:Int))))) (fun K51=>?_) ?_
     ·refine ic (t:=55) rfl (fun h31=>?_) (fun h31=>?_)
      ·refine aU (i:=38) rfl rfl (by kernel_rfl) (by kernel_rfl) (by kernel_rfl) rfl rfl rfl (fun _ _ h=>h) h31 ?_;show zI 52 549755813887;refine aU (i:=39) rfl rfl (by kernel_rfl) (by kernel_rfl) (by kernel_rfl) rfl rfl rfl (fun _ _ h=>h) h31 ?_;show zI 52 1099511627775;refine aU (i:=40) rfl rfl (by kernel_rfl) (by kernel_rfl) (by kernel_rfl) rfl rfl rfl (fun _ _ h=>h) h31 ?_;show zI 52 2199023255551;refine aU (i:=41) rfl rfl (by kernel_rfl) (by kernel_rfl) (by kernel_rfl) rfl rfl rfl (fun _ _ h=>h) h31 ?_;show zI 52 4398046511103;refine aU (i:=42) rfl rfl (by kernel_rfl) (by kernel_rfl) (by kernel_rfl) rfl rfl rfl (fun _ _ h=>h) h31 ?_;show zI 52 8796093022207;refine aU (i:=43) rfl rfl (by kernel_rfl) (by kernel_rfl) (by kernel_rfl) rfl rfl rfl (fun _ _ h=>h) h31 ?_;show zI 52 17592186044415;refine aU (i:=44) rfl rfl (by kernel_rfl) (by kernel_rfl) (by kernel_rfl) rfl rfl rfl (fun _ _ h=>h) h31 ?_;show zI 52 35184372088831;refine aU (i:=45) rfl rfl (by kernel_rfl) (by kernel_rfl) (by kernel_rfl) rfl rfl rfl (fun _ _ h=>h) h31 ?_;show zI 52 70368744177663;refine aU (i:=46) rfl rfl (by kernel_rfl) (by kernel_rfl) (by kernel_rfl) rfl rfl rfl (fun _ _ h=>h) h31 ?_;show zI 52 140737488355327;refine aU (i:=47) rfl rfl (by kernel_rfl) (by kernel_rfl) (by kernel_rfl) rfl rfl rfl (fun _ _ h=>h) h31 ?_;show zI 52 281474976710655;refine aU (i:=48) rfl rfl (by kernel_rfl) (by kernel_rfl) (by kernel_rfl) rfl rfl rfl (fun _ _ h=>h) h31 ?_;show zI 52 562949953421311
       refine aU (i:=49) rfl rfl (by kernel_rfl) (by kernel_rfl) (by kernel_rfl) rfl rfl rfl (fun _ _ h=>h) h31 ?_;show zI 52 1125899906842623;refine aU (i:=50) rfl rfl (by kernel_rfl) (by kernel_rfl) (by kernel_rfl) rfl rfl rfl (fun _ _ h=>h) h31 ?_;show zI 52 2251799813685247;refine zk 51 rfl (bo (av':=B ((((!decide (x12.1=x15.1))||(!decide (x19.2.1=x22.2.1)))||(!decide (x26.2.2.1=x29.2.2.1)))||(!decide ((x33.2.2.2.length:Int)=(x36.2.2.2.length:Int))))) (aD (av:=.v _) rfl h31 rfl) (aw (ii h31))) ?_;show zI 52 4503599627370495;exact K51 _ 13 rfl rfl
      ·refine aL (i:=38) rfl rfl (by kernel_rfl) (by kernel_rfl) (by kernel_rfl) rfl rfl rfl (fun _ _ h=>h) h31 (ah (av:=slE _ _ _) rfl) ?_;show zI 52 549755813887;refine aL (i:=39) rfl rfl (by kernel_rfl) (by kernel_rfl) (by kernel_rfl) rfl rfl rfl (fun _ _ h=>h) h31 (mv rfl) ?_;show zI 52 1099511627775;refine aL (i:=40) rfl rfl (by kernel_rfl) (by kernel_rfl) (by kernel_rfl) rfl rfl rfl (fun _ _ h=>h) h31 (bA (E:=(Enc.prod Enc.int (Enc.prod Enc.str (Enc.prod Enc.str (Enc.sl (Enc.prod Enc.str Enc.str)))))) ay (by kernel_rfl) rfl rfl (g32 (nf h31)) e34) ?_;show zI 52 2199023255551;refine aL (i:=41) rfl rfl (by kernel_rfl) (by kernel_rfl) (by kernel_rfl) rfl rfl rfl (fun _ _ h=>h) h31 (aN (n:=3) (by kernel_rfl) rfl (af rfl)) ?_;show zI 52 4398046511103;refine aL (i:=42) rfl rfl (by kernel_rfl) (by kernel_rfl) (by kernel_rfl) rfl rfl rfl (fun _ _ h=>h) h31 (aG aH rfl rfl) ?_;show zI 52 8796093022207;refine aL (i:=43) rfl rfl (by kernel_rfl) (by kernel_rfl) (by kernel_rfl) rfl rfl rfl (fun _ _ h=>h) h31 (bh aH rfl) ?_;show zI 52 17592186044415;refine aL (i:=44) rfl rfl (by kernel_rfl) (by kernel_rfl) (by kernel_rfl) rfl rfl rfl (fun _ _ h=>h) h31 (ah (av:=slE _ _ _) rfl) ?_;show zI 52 35184372088831;refine aL (i:=45) rfl rfl (by kernel_rfl) (by kernel_rfl) (by kernel_rfl) rfl rfl rfl (fun _ _ h=>h) h31 (mv rfl) ?_;show zI 52 70368744177663
       refine aL (i:=46) rfl rfl (by kernel_rfl) (by kernel_rfl) (by kernel_rfl) rfl rfl rfl (fun _ _ h=>h) h31 (bA (E:=(Enc.prod Enc.int (Enc.prod Enc.str (Enc.prod Enc.str (Enc.sl (Enc.prod Enc.str Enc.str)))))) ay (by kernel_rfl) rfl rfl (g35 (nf h31)) e37) ?_;show zI 52 140737488355327;refine aL (i:=47) rfl rfl (by kernel_rfl) (by kernel_rfl) (by kernel_rfl) rfl rfl rfl (fun _ _ h=>h) h31 (aN (n:=3) (by kernel_rfl) rfl (af rfl)) ?_;show zI 52 281474976710655;refine aL (i:=48) rfl rfl (by kernel_rfl) (by kernel_rfl) (by kernel_rfl) rfl rfl rfl (fun _ _ h=>h) h31 (aG aH rfl rfl) ?_;show zI 52 562949953421311;refine aL (i:=49) rfl rfl (by kernel_rfl) (by kernel_rfl) (by kernel_rfl) rfl rfl rfl (fun _ _ h=>h) h31 (bh aH rfl) ?_;show zI 52 1125899906842623;refine aL (i:=50) rfl rfl (by kernel_rfl) (by kernel_rfl) (by kernel_rfl) rfl rfl rfl (fun _ _ h=>h) h31 (dD rfl rfl) ?_;show zI 52 2251799813685247;refine zk 51 rfl (bo (av':=B ((((!decide (x12.1=x15.1))||(!decide (x19.2.1=x22.2.1)))||(!decide (x26.2.2.1=x29.2.2.1)))||(!decide ((x33.2.2.2.length:Int)=(x36.2.2.2.length:Int))))) (aF (av:=.v _) rfl h31 rfl) (aw (ie h31))) ?_;show zI 52 4503599627370495;exact K51 _ 13 rfl rfl
     refine bw rfl<|ax rfl (fun c38=>?_) (fun c38=>?_)
     ·replace H:=be c38 H;refine ac<|aa ?_;show AR _ _ _ _ _ [0] _;refine za rfl<|ag<|aQ ?_;obtain rfl:=aq H;exact And.intro rfl (Exists.intro _ (Exists.intro _ ⟨aO rfl (.refl _),aK [] rfl,rfl,rfl⟩))
     ·replace H:=bf c38 H;refine aC<|ac<|aa ?_;show AR _ _ _ _ _ [0] _;refine za rfl<|ag<|aR<|cl (X:=Nat×Int) (fun (n41,y39)=>⟨[(0,slE (Enc.prod Enc.int (Enc.prod Enc.str (Enc.prod Enc.str (Enc.sl (Enc.prod Enc.str Enc.str))))) a1 q2),(1,slE (Enc.prod Enc.int (Enc.prod Enc.str (Enc.prod Enc.str (Enc.sl (Enc.prod Enc.str Enc.str))))) a3 q4),(5,i64 y7),(6,i64 y39)],[],[]⟩) (fun (n41,y39)=>jt a1 a3 y7 (dv F a1 a3 n9) n41 y39=some r5) (fun (n41,y39)=>n41) (F,0) H (aP [] (.cons (.refl _) (.cons (.refl _) (.cons (.refl _) (.cons (.refl _) (.nil _))))) rfl) ?_;rintro ⟨n41,y39⟩ H;obtain ⟨n41,rfl,H⟩:=cO H;replace H:jv a1 a3 y7 (dv F a1 a3 n9) (jt a1 a3 y7 (dv F a1 a3 n9) n41) y39=some r5:=H
      unfold jv at H
      refine ac<|ac ?_;obtain ⟨g42,H⟩:=aI H;obtain ⟨x43,e44,H⟩:=bz H;refine aa ?_;show AR _ _ _ _ _ [0,1,2,3,4,5,6,7] _;refine zm rfl<|zS rfl (ah (av:=slE _ _ _) rfl)<|zm rfl<|zS rfl (bA (E:=(Enc.prod Enc.int (Enc.prod Enc.str (Enc.prod Enc.str (Enc.sl (Enc.prod Enc.str Enc.str)))))) ay (by kernel_rfl) rfl rfl g42 e44)<|zS rfl (aN (n:=3) (by kernel_rfl) rfl (af rfl))<|zS rfl (aG aH rfl rfl)<|zS rfl (bh aH rfl)<|zS rfl (bN rfl rfl)<|ag<|ax rfl (fun c45=>?_) (fun c45=>?_)
      ·replace H:=be c45 H;refine aC<|ac<|aR<|ac ?_;obtain ⟨g46,H⟩:=aI H;obtain ⟨x47,e48,H⟩:=bz H;obtain ⟨g49,H⟩:=aI H;obtain ⟨x50,e51,H⟩:=bz H;obtain ⟨g52,H⟩:=aI H;obtain ⟨x53,e54,H⟩:=bz H;obtain ⟨g55,H⟩:=aI H;obtain ⟨x56,e57,H⟩:=bz H;refine bn (by kernel_rfl) ?_;show AI _ _ _ _ _ 17 (Array.replicate 17 false) _;refine zk 0 rfl (ah (av:=slE _ _ _) rfl) ?_;show zI 17 1;refine zk 1 rfl (mv rfl) ?_;show zI 17 3;refine zk 2 rfl (bA (E:=(Enc.prod Enc.int (Enc.prod Enc.str (Enc.prod Enc.str (Enc.sl (Enc.prod Enc.str Enc.str)))))) ay (by kernel_rfl) rfl rfl g46 e48) ?_;show zI 17 7;refine zk 3 rfl (aN (n:=3) (by kernel_rfl) rfl (af rfl)) ?_;show zI 17 15;refine zk 4 rfl (aG aH rfl rfl) ?_;show zI 17 31;refine zk 5 rfl (mv rfl) ?_;show zI 17 63;refine zk 6 rfl (bA (E:=(Enc.prod Enc.str Enc.str)) aH (by kernel_rfl) rfl rfl g49 e51) ?_;show zI 17 127;refine zk 7 rfl (cx bM rfl (n:=2) (by kernel_rfl) rfl (af rfl)) ?_;show zI 17 255;refine zk 8 rfl (ah (av:=slE _ _ _) rfl) ?_;show zI 17 511;refine zk 9 rfl (mv rfl) ?_;show zI 17 1023;refine zk 10 rfl (bA (E:=(Enc.prod Enc.int (Enc.prod Enc.str (Enc.prod Enc.str (Enc.sl (Enc.prod Enc.str Enc.str)))))) ay (by kernel_rfl) rfl rfl g52 e54) ?_;show zI 17 2047;refine zk 11 rfl (aN (n:=3) (by kernel_rfl) rfl (af rfl)) ?_
       show zI 17 4095;refine zk 12 rfl (aG aH rfl rfl) ?_;show zI 17 8191;refine zk 13 rfl (mv rfl) ?_;show zI 17 16383;refine zk 14 rfl (bA (E:=(Enc.prod Enc.str Enc.str)) aH (by kernel_rfl) rfl rfl g55 e57) ?_;show zI 17 32767;refine zk 15 rfl (cx bM rfl (n:=2) (by kernel_rfl) rfl (af rfl)) ?_;show zI 17 65535;refine zk 16 rfl (pz (r:=(decide (x50.1=x56.1))&&(decide (x50.2=x56.2))) (.inr rfl) bM (by kernel_rfl) (by kernel_rfl) (by kernel_rfl) rfl rfl rfl (by simp only [List.all_cons,List.all_nil,id,zf,Bool.and_true])) ?_;show zI 17 131071;refine bw rfl<|ax rfl (fun c58=>?_) (fun c58=>?_)
       ·replace H:=be c58 H;refine ac<|aa ?_;show AR _ _ _ _ _ [0] _;refine za rfl<|ag<|aQ ?_;obtain rfl:=aq H;exact And.intro rfl (Exists.intro _ (Exists.intro _ ⟨aO rfl (.refl _),aK [] rfl,rfl,rfl⟩))
       ·replace H:=bf c58 H;refine aC ?_;obtain ⟨g59,H⟩:=aI H;refine aa ?_;show AR _ _ _ _ _ [0,1,2] _;refine zm rfl<|zS rfl (bB rfl rfl g59)<|za rfl<|ag ?_;exact Exists.intro (n41,y39+1) ⟨H,Nat.lt_succ_self _,aP [] (.cons (.refl _) (.cons (.refl _) (.cons (.refl _) (.cons (.refl _) (.nil _))))) rfl⟩
      ·replace H:=bf c45 H;refine bU ?_;exact Exists.intro () ⟨H,aP [] (.cons (.refl _) (.cons (.refl _) (.cons (.refl _) (.nil _)))) rfl⟩
    rintro _ H;replace H:hH y7 (dv F a1 a3 n9)=some r5:=H
    unfold hH at H
    obtain ⟨g61,H⟩:=aI H;refine aa ?_;show AR _ _ _ _ _ [0,1,2] _;refine zm rfl<|zS rfl (bB rfl rfl g61)<|za rfl<|ag ?_;exact Exists.intro (n9,y7+1) ⟨H,Nat.lt_succ_self _,aP [] (.cons (.refl _) (.cons (.refl _) (.cons (.refl _) (.nil _)))) rfl⟩
   ·replace H:=bf c10 H;refine bU ?_;exact Exists.intro () ⟨H,aP [] (.nil _) rfl⟩
  rintro _ H;replace H:kW=some r5:=H
  unfold kW at H
  refine ac<|aa ?_;show AR _ _ _ _ _ [0] _;refine za rfl<|ag<|aQ ?_;obtain rfl:=aq H;exact And.intro rfl (Exists.intro _ (Exists.intro _ ⟨aO rfl (.refl _),aK [] rfl,rfl,rfl⟩))
set_option maxRecDepth 100000 in
set_option maxHeartbeats 1000000 in
theorem tV (F:Nat) (r1:Bool) (H:ln F=some r1):ACalls Tryz.prog 9 [] [] (Ret (B r1) []):=by
 unfold ln at H
 refine az Tryz.func9 rfl rfl ?_;show AW _ _ 39 _ _ _;refine ac<|aa ?_;show AR _ _ _ _ _ [0] _;refine za rfl<|ag<|ac ?_;obtain ⟨x3,x4,e5,H⟩:=dd H;refine aa ?_;show AR _ _ _ _ _ [0,1,2,3,4,5,6,7] _;refine zX rfl (ye (E:=Enc.byte) (bytes:=1) (xs:=[.const _,.const _,.const _,.const _,.const _,.const _,.const _,.const _,.const _,.const _,.const _,.const _,.const _,.const _,.const _,.const _]++[.const _,.const _,.const _,.const _,.const _,.const _,.const _]) (l:=([60,97,32,98,61,34,49,34,62,120,38,97,109,112,59,60]++[99,47,62,60,47,97,62]:List UInt8)) ak (by kernel_rfl) rfl rfl (by decide) rfl rfl) ?_;rintro _ _ ⟨t2,rfl,rfl⟩;refine zR rfl (uc 0 ak bi rfl (by simp) rfl)<|ar rfl rfl (aX rfl BA rfl (rj F ([60,97,32,98,61,34,49,34,62,120,38,97,109,112,59,60]++[99,47,62,60,47,97,62]:List UInt8) (some t2) x3 x4 e5) ?_);refine zS rfl (ah (av:=.tup _) rfl)<|zS rfl (ba (av:=slE _ _ _) rfl rfl)<|zS rfl (ba (av:=.v _) rfl rfl)<|zS rfl (aZ (av:=slE _ _ _) rfl)<|za rfl<|ag<|ac<|aa ?_;show AR _ _ _ _ _ [0,1,2,3,4,5,6,7,8] _
 refine zS rfl (eH (zs:=[.string ⟨#[]⟩,.string ⟨#[]⟩]) (ps:=[(0,1),(1,1)]) (cs:=[S ([98]:List UInt8),S ([49]:List UInt8)]) (by kernel_rfl) rfl rfl)<|zR rfl (cW (E:=(Enc.prod Enc.str Enc.str)) (bytes:=32) (zs:=[.string ⟨#[]⟩,.string ⟨#[]⟩]) (l:=([(([98]:List UInt8),([49]:List UInt8))]:List ((List UInt8)×List UInt8))) aH (by kernel_rfl) (by kernel_rfl) rfl rfl rfl rfl rfl)<|zS rfl (eH (zs:=[.int .i64 0,.string ⟨#[]⟩,.string ⟨#[]⟩,.slice none 0 0]) (ps:=[(0,1),(1,1),(2,1),(3,1)]) (cs:=[i64 0,S ([97]:List UInt8),S ([]:List UInt8),slE (Enc.prod Enc.str Enc.str) ([(([98]:List UInt8),([49]:List UInt8))]:List ((List UInt8)×List UInt8)) none]) (by kernel_rfl) rfl rfl)<|zS rfl (eH (zs:=[.int .i64 0,.string ⟨#[]⟩,.string ⟨#[]⟩,.slice none 0 0]) (ps:=[(0,1),(1,1),(2,1),(3,1)]) (cs:=[i64 2,S ([]:List UInt8),S ([120,38]:List UInt8),aj]) (by kernel_rfl) rfl rfl)<|zS rfl (eH (zs:=[.int .i64 0,.string ⟨#[]⟩,.string ⟨#[]⟩,.slice none 0 0]) (ps:=[(0,1),(1,1),(2,1),(3,1)]) (cs:=[i64 0,S ([99]:List UInt8),S ([]:List UInt8),aj]) (by kernel_rfl) rfl rfl)<|zS rfl (eH (zs:=[.int .i64 0,.string ⟨#[]⟩,.string ⟨#[]⟩,.slice none 0 0]) (ps:=[(0,1),(1,1),(2,1),(3,1)]) (cs:=[i64 1,S ([99]:List UInt8),S ([]:List UInt8),aj]) (by kernel_rfl) rfl rfl)<|zS rfl (eH (zs:=[.int .i64 0,.string ⟨#[]⟩,.string ⟨#[]⟩,.slice none 0 0]) (ps:=[(0,1),(1,1),(2,1),(3,1)]) (cs:=[i64 1,S ([97]:List UInt8),S ([]:List UInt8),aj]) (by kernel_rfl) rfl rfl)<|zR rfl (dL (ds:=[i64 2,S ([]:List UInt8),S ([120,38]:List UInt8),slE (Enc.prod Enc.str Enc.str) ([]:List ((List UInt8)×List UInt8)) none]) 14 (.cons (.refl _) (.cons (.refl _) (.cons (.refl _) (.cons (.nil _) (.nil))))) (hc:=rfl)<|dL (ds:=[i64 0,S ([99]:List UInt8),S ([]:List UInt8),slE (Enc.prod Enc.str Enc.str) ([]:List ((List UInt8)×List UInt8)) none]) 15 (.cons (.refl _) (.cons (.refl _) (.cons (.refl _) (.cons (.nil _) (.nil))))) (hc:=rfl)<|dL (ds:=[i64 1,S ([99]:List UInt8),S ([]:List UInt8),slE (Enc.prod Enc.str Enc.str) ([]:List ((List UInt8)×List UInt8)) none]) 16 (.cons (.refl _) (.cons (.refl _) (.cons (.refl _) (.cons (.nil _) (.nil))))) (hc:=rfl)<|dL (ds:=[i64 1,S ([97]:List UInt8),S ([]:List UInt8),slE (Enc.prod Enc.str Enc.str) ([]:List ((List UInt8)×List UInt8)) none]) 17 (.cons (.refl _) (.cons (.refl _) (.cons (.refl _) (.cons (.nil _) (.nil))))) (hc:=rfl)<|cW (E:=(Enc.prod Enc.int (Enc.prod Enc.str (Enc.prod Enc.str (Enc.sl (Enc.prod Enc.str Enc.str)))))) (bytes:=64) (zs:=[.int .i64 0,.string ⟨#[]⟩,.string ⟨#[]⟩,.slice none 0 0]) (l:=([(0,([97]:List UInt8),([]:List UInt8),([(([98]:List UInt8),([49]:List UInt8))]:List ((List UInt8)×List UInt8))),(2,([]:List UInt8),([120,38]:List UInt8),([]:List ((List UInt8)×List UInt8))),(0,([99]:List UInt8),([]:List UInt8),([]:List ((List UInt8)×List UInt8))),(1,([99]:List UInt8),([]:List UInt8),([]:List ((List UInt8)×List UInt8))),(1,([97]:List UInt8),([]:List UInt8),([]:List ((List UInt8)×List UInt8)))]:List (Int×(List UInt8)×(List UInt8)×List ((List UInt8)×List UInt8)))) ay (by kernel_rfl) (by kernel_rfl) rfl rfl rfl rfl rfl)<|zS rfl (aZ (av:=slE _ _ _) rfl)<|ag<|ac ?_
 obtain ⟨x6,e7,H⟩:=cm H;refine aa ?_;show AR _ _ _ _ _ [0,1,2,3] _;refine zS rfl (ah (av:=slE _ _ _) rfl)<|zS rfl (ah (av:=slE _ _ _) rfl)<|ar rfl rfl (aX rfl Bt rfl (nv F x3 none ([(0,([97]:List UInt8),([]:List UInt8),([(([98]:List UInt8),([49]:List UInt8))]:List ((List UInt8)×List UInt8))),(2,([]:List UInt8),([120,38]:List UInt8),([]:List ((List UInt8)×List UInt8))),(0,([99]:List UInt8),([]:List UInt8),([]:List ((List UInt8)×List UInt8))),(1,([99]:List UInt8),([]:List UInt8),([]:List ((List UInt8)×List UInt8))),(1,([97]:List UInt8),([]:List UInt8),([]:List ((List UInt8)×List UInt8)))]:List (Int×(List UInt8)×(List UInt8)×List ((List UInt8)×List UInt8))) none x6 e7) ?_);refine za rfl<|ag<|ac ?_;obtain ⟨x10,e11,H⟩:=fZ H;obtain ⟨x13,e14,H⟩:=fZ H;obtain ⟨x16,e17,H⟩:=fZ H;refine aa ?_;show AR _ _ _ _ _ [0,1,2,3,4,5,6,7,8,9,10,11,12,13,14,15,16,17] _;refine zm rfl<|zS rfl (bI rfl rfl)<|zm rfl<|bk (l:=[5,6,7,8,9,10,11,12,13,14,15,16,17]) 26 (B ((decide (x4=0))&&x6)) (fun K=>?_) ?_
 ·rcases ap (decide (x4=0)) with h8 | h8
  ·refine zM h8 rfl<|zS rfl (aD (av:=.v _) rfl h8 rfl) ?_;exact K _ 1 _ (aw (cd h8)) rfl rfl
  ·refine zF h8 rfl<|zS rfl (aF (av:=.v _) rfl h8 rfl) ?_;exact K _ 1 _ (aw (cq h8)) rfl rfl
 refine zm rfl<|bk (l:=[8,9,10,11,12,13,14,15,16,17]) 29 (B (((decide (x4=0))&&x6)&&x10)) (fun K=>?_) ?_
 ·rcases ap ((decide (x4=0))&&x6) with h9 | h9
  ·refine zT h9 rfl (aX rfl Bg rfl (oO F ([97,58,98]:List UInt8) x10 (e11 h9)) ?_);refine zS rfl (aD (av:=.v _) rfl h9 rfl) ?_;exact K _ 1 _ (aw (cd h9)) rfl rfl
  ·refine zF h9 rfl<|zS rfl (aF (av:=.v _) rfl h9 rfl) ?_;exact K _ 1 _ (aw (cq h9)) rfl rfl
 refine zm rfl<|bk (l:=[12,13,14,15,16,17]) 33 (B ((((decide (x4=0))&&x6)&&x10)&&(decide (x13=([98]:List UInt8))))) (fun K=>?_) ?_
 ·rcases ap (((decide (x4=0))&&x6)&&x10) with h12 | h12
  ·refine zT h12 rfl (aX rfl Bf rfl (sM F ([97,58,98]:List UInt8) x13 (e14 h12)) ?_);refine zU h12 rfl (cD rfl rfl)<|zS rfl (aD (av:=.v _) rfl h12 rfl) ?_;exact K _ 2 _ (aw (cd h12)) rfl rfl
  ·refine zF h12 rfl<|zF h12 rfl<|zS rfl (aF (av:=.v _) rfl h12 rfl) ?_;exact K _ 2 _ (aw (cq h12)) rfl rfl
 refine zm rfl<|bk (l:=[17]) 38 (B (((((decide (x4=0))&&x6)&&x10)&&(decide (x13=([98]:List UInt8))))&&x16)) (fun K=>?_) ?_
 ·rcases ap ((((decide (x4=0))&&x6)&&x10)&&(decide (x13=([98]:List UInt8)))) with h15 | h15
  ·refine zU h15 rfl (ah (av:=slE _ _ _) rfl)<|zU h15 rfl (ah (av:=slE _ _ _) rfl)<|zT h15 rfl (aX rfl Bo rfl (qO F x3 none ([(0,([97]:List UInt8),([]:List UInt8),([(([98]:List UInt8),([49]:List UInt8))]:List ((List UInt8)×List UInt8))),(2,([]:List UInt8),([120,38]:List UInt8),([]:List ((List UInt8)×List UInt8))),(0,([99]:List UInt8),([]:List UInt8),([]:List ((List UInt8)×List UInt8))),(1,([99]:List UInt8),([]:List UInt8),([]:List ((List UInt8)×List UInt8))),(1,([97]:List UInt8),([]:List UInt8),([]:List ((List UInt8)×List UInt8)))]:List (Int×(List UInt8)×(List UInt8)×List ((List UInt8)×List UInt8))) none x16 (e17 h15)) ?_);refine zS rfl (aD (av:=.v _) rfl h15 rfl) ?_;exact K _ 3 _ (aw (cd h15)) rfl rfl
  ·refine zF h15 rfl<|zF h15 rfl<|zF h15 rfl<|zS rfl (aF (av:=.v _) rfl h15 rfl) ?_;exact K _ 3 _ (aw (cq h15)) rfl rfl
 refine za rfl<|ag<|aQ ?_;obtain rfl:=aq H;exact And.intro rfl (Exists.intro _ (Exists.intro _ ⟨aO rfl (.refl _),aK [] rfl,rfl,rfl⟩))
set_option maxRecDepth 100000 in
set_option maxHeartbeats 1000000 in
theorem rk (F:Nat) (a1:List (Int×(List UInt8)×(List UInt8)×List ((List UInt8)×List UInt8))) (q2:Option Nat) (a3:Int) (r4:Bool) (H:kN F a1 a3=some r4):ACalls Tryz.prog 14 [slE (Enc.prod Enc.int (Enc.prod Enc.str (Enc.prod Enc.str (Enc.sl (Enc.prod Enc.str Enc.str))))) a1 q2,i64 a3] [] (Ret (B r4) []):=by
 unfold kN at H
 refine az Tryz.func14 rfl rfl ?_;show AW _ _ 76 _ _ _;refine ac<|aa ?_;show AR _ _ _ _ _ [0] _;refine za rfl<|ag<|ac<|ac<|aa ?_;show AR _ _ _ _ _ [0,1,2,3] _;refine zS rfl (ah (av:=slE _ _ _) rfl)<|zS rfl (bh ay rfl)<|zm rfl<|zS rfl (eN rfl rfl)<|ag<|ax rfl (fun c5=>?_) (fun c5=>?_)
 ·replace H:=be c5 H;refine ac<|aa ?_;show AR _ _ _ _ _ [0] _;refine za rfl<|ag<|aQ ?_;obtain rfl:=aq H;exact And.intro rfl (Exists.intro _ (Exists.intro _ ⟨aO rfl (.refl _),aK [] rfl,rfl,rfl⟩))
 ·replace H:=bf c5 H;refine aC<|bq (X:=Unit) (fun _=>⟨[],[],[]⟩) (fun _=>lJ=some r4) ?_ ?_
  ·refine ac<|aa ?_;show AR _ _ _ _ _ [0] _;refine za rfl<|ag<|aR<|cl (X:=Nat×Int) (fun (n8,y6)=>⟨[(0,slE (Enc.prod Enc.int (Enc.prod Enc.str (Enc.prod Enc.str (Enc.sl (Enc.prod Enc.str Enc.str))))) a1 q2),(5,i64 y6)],[],[]⟩) (fun (n8,y6)=>dB F a1 n8 y6=some r4) (fun (n8,y6)=>n8) (F,0) H (aP [] (.cons (.refl _) (.cons (.refl _) (.nil _))) rfl) ?_;rintro ⟨n8,y6⟩ H;obtain ⟨n8,rfl,H⟩:=cO H;replace H:kx F a1 (dB F a1 n8) y6=some r4:=H
   unfold kx at H
   refine ac<|ac<|aa ?_;show AR _ _ _ _ _ [0,1,2,3] _;refine zm rfl<|zS rfl (ah (av:=slE _ _ _) rfl)<|zS rfl (bh ay rfl)<|zS rfl (bN rfl rfl)<|ag<|ax rfl (fun c9=>?_) (fun c9=>?_)
   ·replace H:=be c9 H;refine aC<|bq (X:=Unit) (fun _=>⟨[(0,slE (Enc.prod Enc.int (Enc.prod Enc.str (Enc.prod Enc.str (Enc.sl (Enc.prod Enc.str Enc.str))))) a1 q2),(5,i64 y6)],[],[]⟩) (fun _=>ja y6 (dB F a1 n8)=some r4) ?_ ?_
    ·refine aR<|ac<|ac ?_;obtain ⟨g10,H⟩:=aI H;obtain ⟨x11,e12,H⟩:=bz H;obtain ⟨g14,H⟩:=cP H;obtain ⟨x15,e16,H⟩:=bz H;obtain ⟨g18,H⟩:=cP H;obtain ⟨x19,e20,H⟩:=bz H;refine aa ?_;show AR _ _ _ _ _ [0,1,2,3,4,5,6,7,8,9,10,11,12,13,14,15,16,17,18,19,20,21,22,23,24] _;refine zS rfl (ah (av:=slE _ _ _) rfl)<|zm rfl<|zS rfl (bA (E:=(Enc.prod Enc.int (Enc.prod Enc.str (Enc.prod Enc.str (Enc.sl (Enc.prod Enc.str Enc.str)))))) ay (by kernel_rfl) rfl rfl g10 e12)<|zS rfl (aN (n:=1) (by kernel_rfl) rfl (af rfl))<|zS rfl (aG ab rfl rfl)<|zS rfl (aW ab rfl)<|zS rfl (eN rfl rfl)<|zm rfl<|bk (l:=[16,17,18,19,20,21,22,23,24]) 32 (B ((decide (200 < (x11.2.1.length:Int)))||(decide (200 < (x15.2.2.1.length:Int))))) (fun K=>?_) ?_
     ·rcases ap (decide (200 < (x11.2.1.length:Int))) with h13 | h13
      ·refine zF h13 rfl<|zF h13 rfl<|zF h13 rfl<|zF h13 rfl<|zF h13 rfl<|zF h13 rfl<|zF h13 rfl<|zS rfl (aD (av:=.v _) rfl h13 rfl) ?_;exact K _ 7 _ (aw (ii h13)) rfl rfl
      ·refine zU h13 rfl (ah (av:=slE _ _ _) rfl)<|zM h13 rfl<|zU h13 rfl (bA (E:=(Enc.prod Enc.int (Enc.prod Enc.str (Enc.prod Enc.str (Enc.sl (Enc.prod Enc.str Enc.str)))))) ay (by kernel_rfl) rfl rfl (g14 (nf h13)) e16)<|zU h13 rfl (aN (n:=2) (by kernel_rfl) rfl (af rfl))<|zU h13 rfl (aG ab rfl rfl)<|zU h13 rfl (aW ab rfl)<|zU h13 rfl (eN rfl rfl)<|zS rfl (aF (av:=.v _) rfl h13 rfl) ?_;exact K _ 7 _ (aw (ie h13)) rfl rfl
     refine zm rfl<|bk (l:=[]) 41 (B (((decide (200 < (x11.2.1.length:Int)))||(decide (200 < (x15.2.2.1.length:Int))))||(decide (10 < (x19.2.2.2.length:Int))))) (fun K=>?_) ?_
     ·rcases ap ((decide (200 < (x11.2.1.length:Int)))||(decide (200 < (x15.2.2.1.length:Int)))) with h17 | h17
      ·refine zF h17 rfl<|zF h17 rfl<|zF h17 rfl<|zF h17 rfl<|zF h17 rfl<|zF h17 rfl<|zF h17 rfl<|zS rfl (aD (av:=.v _) rfl h17 rfl) ?_;exact K _ 7 _ (aw (ii h17)) rfl rfl
      ·refine zU h17 rfl (ah (av:=slE _ _ _) rfl)<|zM h17 rfl<|zU h17 rfl (bA (E:=(Enc.prod Enc.int (Enc.prod Enc.str (Enc.prod Enc.str (Enc.sl (Enc.prod Enc.str Enc.str)))))) ay (by kernel_rfl) rfl rfl (g18 (nf h17)) e20)<|zU h17 rfl (aN (n:=3) (by kernel_rfl) rfl (af rfl))<|zU h17 rfl (aG aH rfl rfl)<|zU h17 rfl (bh aH rfl)<|zU h17 rfl (eN rfl rfl)<|zS rfl (aF (av:=.v _) rfl h17 rfl) ?_;exact K _ 7 _ (aw (ie h17)) rfl rfl
     refine ag<|ax rfl (fun c21=>?_) (fun c21=>?_)
     ·replace H:=be c21 H;refine ac<|aa ?_;show AR _ _ _ _ _ [0] _;refine za rfl<|ag<|aQ ?_;obtain rfl:=aq H;exact And.intro rfl (Exists.intro _ (Exists.intro _ ⟨aO rfl (.refl _),aK [] rfl,rfl,rfl⟩))
     ·replace H:=bf c21 H;refine aC<|ac<|aa ?_;show AR _ _ _ _ _ [0] _;refine za rfl<|ag<|aR<|cl (X:=Nat×Int) (fun (n24,y22)=>⟨[(0,slE (Enc.prod Enc.int (Enc.prod Enc.str (Enc.prod Enc.str (Enc.sl (Enc.prod Enc.str Enc.str))))) a1 q2),(5,i64 y6),(6,i64 y22)],[],[]⟩) (fun (n24,y22)=>kw a1 y6 (dB F a1 n8) n24 y22=some r4) (fun (n24,y22)=>n24) (F,0) H (aP [] (.cons (.refl _) (.cons (.refl _) (.cons (.refl _) (.nil _)))) rfl) ?_;rintro ⟨n24,y22⟩ H;obtain ⟨n24,rfl,H⟩:=cO H;replace H:ky a1 y6 (dB F a1 n8) (kw a1 y6 (dB F a1 n8) n24) y22=some r4:=H
      unfold ky at H
      refine ac<|ac ?_;obtain ⟨g25,H⟩:=aI H;obtain ⟨x26,e27,H⟩:=bz H;refine aa ?_;show AR _ _ _ _ _ [0,1,2,3,4,5,6,7] _;refine zm rfl<|zS rfl (ah (av:=slE _ _ _) rfl)<|zm rfl<|zS rfl (bA (E:=(Enc.prod Enc.int (Enc.prod Enc.str (Enc.prod Enc.str (Enc.sl (Enc.prod Enc.str Enc.str)))))) ay (by kernel_rfl) rfl rfl g25 e27)<|zS rfl (aN (n:=3) (by kernel_rfl) rfl (af rfl))<|zS rfl (aG aH rfl rfl)<|zS rfl (bh aH rfl)<|zS rfl (bN rfl rfl)<|ag<|ax rfl (fun c28=>?_) (fun c28=>?_)
      ·replace H:=be c28 H;refine aC<|ac<|aR<|ac ?_;obtain ⟨g29,H⟩:=aI H;obtain ⟨x30,e31,H⟩:=bz H;obtain ⟨g32,H⟩:=aI H;obtain ⟨x33,e34,H⟩:=bz H;obtain ⟨g36,H⟩:=cP H;obtain ⟨x37,e38,H⟩:=bz H;obtain ⟨g39,H⟩:=cP H;obtain ⟨x40,e41,H⟩:=bz H;refine aa ?_;show AR _ _ _ _ _ [0,1,2,3,4,5,6,7,8,9,10,11,12,13,14,15,16,17,18,19,20,21,22,23] _;refine zS rfl (ah (av:=slE _ _ _) rfl)<|zm rfl<|zS rfl (bA (E:=(Enc.prod Enc.int (Enc.prod Enc.str (Enc.prod Enc.str (Enc.sl (Enc.prod Enc.str Enc.str)))))) ay (by kernel_rfl) rfl rfl g29 e31)<|zS rfl (aN (n:=3) (by kernel_rfl) rfl (af rfl))<|zS rfl (aG aH rfl rfl)<|zm rfl<|zS rfl (bA (E:=(Enc.prod Enc.str Enc.str)) aH (by kernel_rfl) rfl rfl g32 e34)<|zS rfl (aN (n:=0) (by kernel_rfl) rfl (af rfl))<|zS rfl (aG ab rfl rfl)<|zS rfl (aW ab rfl)<|zS rfl (eN rfl rfl)<|zm rfl<|bk (l:=[]) 75 (B ((decide (200 < (x33.1.length:Int)))||(decide (200 < (x40.2.length:Int))))) (fun K=>?_) ?_
       ·rcases ap (decide (200 < (x33.1.length:Int))) with h35 | h35
        ·refine zF h35 rfl<|zF h35 rfl<|zF h35 rfl<|zF h35 rfl<|zF h35 rfl<|zF h35 rfl<|zF h35 rfl<|zF h35 rfl<|zF h35 rfl<|zF h35 rfl<|zF h35 rfl<|zS rfl (aD (av:=.v _) rfl h35 rfl) ?_;exact K _ 11 _ (aw (ii h35)) rfl rfl
        ·refine zU h35 rfl (ah (av:=slE _ _ _) rfl)<|zM h35 rfl<|zU h35 rfl (bA (E:=(Enc.prod Enc.int (Enc.prod Enc.str (Enc.prod Enc.str (Enc.sl (Enc.prod Enc.str Enc.str)))))) ay (by kernel_rfl) rfl rfl (g36 (nf h35)) e38)<|zU h35 rfl (aN (n:=3) (by kernel_rfl) rfl (af rfl))<|zU h35 rfl (aG aH rfl rfl)<|zM h35 rfl<|zU h35 rfl (bA (E:=(Enc.prod Enc.str Enc.str)) aH (by kernel_rfl) rfl rfl (g39 (nf h35)) e41)<|zU h35 rfl (aN (n:=1) (by kernel_rfl) rfl (af rfl))<|zU h35 rfl (aG ab rfl rfl)<|zU h35 rfl (aW ab rfl)<|zU h35 rfl (eN rfl rfl)<|zS rfl (aF (av:=.v _) rfl h35 rfl) ?_;exact K _ 11 _ (aw (ie h35)) rfl rfl
       refine ag<|ax rfl (fun c42=>?_) (fun c42=>?_)
       ·replace H:=be c42 H;refine ac<|aa ?_;show AR _ _ _ _ _ [0] _;refine za rfl<|ag<|aQ ?_;obtain rfl:=aq H;exact And.intro rfl (Exists.intro _ (Exists.intro _ ⟨aO rfl (.refl _),aK [] rfl,rfl,rfl⟩))
       ·replace H:=bf c42 H;refine aC ?_;obtain ⟨g43,H⟩:=aI H;refine aa ?_;show AR _ _ _ _ _ [0,1,2] _;refine zm rfl<|zS rfl (bB rfl rfl g43)<|za rfl<|ag ?_;exact Exists.intro (n24,y22+1) ⟨H,Nat.lt_succ_self _,aP [] (.cons (.refl _) (.cons (.refl _) (.cons (.refl _) (.nil _)))) rfl⟩
      ·replace H:=bf c28 H;refine bU ?_;exact Exists.intro () ⟨H,aP [] (.cons (.refl _) (.cons (.refl _) (.nil _))) rfl⟩
    rintro _ H;replace H:ja y6 (dB F a1 n8)=some r4:=H
    unfold ja at H
    obtain ⟨g45,H⟩:=aI H;refine aa ?_;show AR _ _ _ _ _ [0,1,2] _;refine zm rfl<|zS rfl (bB rfl rfl g45)<|za rfl<|ag ?_;exact Exists.intro (n8,y6+1) ⟨H,Nat.lt_succ_self _,aP [] (.cons (.refl _) (.cons (.refl _) (.nil _))) rfl⟩
   ·replace H:=bf c9 H;refine bU ?_;exact Exists.intro () ⟨H,aP [] (.nil _) rfl⟩
  rintro _ H;replace H:lJ=some r4:=H
  unfold lJ at H
  refine ac<|aa ?_;show AR _ _ _ _ _ [0] _;refine za rfl<|ag<|aQ ?_;obtain rfl:=aq H;exact And.intro rfl (Exists.intro _ (Exists.intro _ ⟨aO rfl (.refl _),aK [] rfl,rfl,rfl⟩))
end Go.Proofs.YteokdkimegepoaaGreatDoor
namespace Go.Pv
def lm (F:Nat) (a1:UInt8):Option Bool :=
some ((((decide (a1=9))||(decide (a1=10)))||(decide (a1=13)))||(decide (a1=32)))
def fm (F:Nat) (a1:Int):Option ((List UInt8)×Bool) :=
bif ((!((((decide (a1=9))||(decide (a1=10)))||(decide (a1=13)))||((decide (32≤a1))&&(decide (a1≤55295)))))&&(!((decide (57344≤a1))&&(decide (a1≤65533)))))&&(!((decide (65536≤a1))&&(decide (a1≤1114111)))) then
  some (([]:List UInt8),false)
else
  bif decide (a1 < 128) then
    some (([Go.Av.toB a1]:List UInt8),true)
  else
    bif decide (a1 < 2048) then
      grd (kE a1 64) <|
      grd (okI (192+(a1 / 64))) <|
      grd (kE a1 64) <|
      grd (okI (128+(a1 % 64))) <|
      some (([Go.Av.toB (192+(a1 / 64)),Go.Av.toB (128+(a1 % 64))]:List UInt8),true)
    else
      bif decide (a1 < 65536) then
        grd (kE a1 4096) <|
        grd (okI (224+(a1 / 4096))) <|
        grd (kE a1 64) <|
        grd (kE (a1 / 64) 64) <|
        grd (okI (128+((a1 / 64) % 64))) <|
        grd (kE a1 64) <|
        grd (okI (128+(a1 % 64))) <|
        some (([Go.Av.toB (224+(a1 / 4096)),Go.Av.toB (128+((a1 / 64) % 64)),Go.Av.toB (128+(a1 % 64))]:List UInt8),true)
      else
        grd (kE a1 262144) <|
        grd (okI (240+(a1 / 262144))) <|
        grd (kE a1 4096) <|
        grd (kE (a1 / 4096) 64) <|
        grd (okI (128+((a1 / 4096) % 64))) <|
        grd (kE a1 64) <|
        grd (kE (a1 / 64) 64) <|
        grd (okI (128+((a1 / 64) % 64))) <|
        grd (kE a1 64) <|
        grd (okI (128+(a1 % 64))) <|
        some (([Go.Av.toB (240+(a1 / 262144)),Go.Av.toB (128+((a1 / 4096) % 64)),Go.Av.toB (128+((a1 / 64) % 64)),Go.Av.toB (128+(a1 % 64))]:List UInt8),true)
def ka (F:Nat) (a1:UInt8):Option Int :=
bif (decide (48≤(a1.toNat:Int)))&&(decide ((a1.toNat:Int)≤57)) then
  some ((a1 - 48).toNat:Int)
else
  bif (decide (97≤(a1.toNat:Int)))&&(decide ((a1.toNat:Int)≤102)) then
    grd (okI (((a1 - 97).toNat:Int)+10)) <|
    some (((a1 - 97).toNat:Int)+10)
  else
    bif (decide (65≤(a1.toNat:Int)))&&(decide ((a1.toNat:Int)≤70)) then
      grd (okI (((a1 - 65).toNat:Int)+10)) <|
      some (((a1 - 65).toNat:Int)+10)
    else
      some 99
def gO (a1:List UInt8) (y21:Int):Option Int :=
bif decide ((a1.length:Int)=0) then
  some (-1)
else
  some y21
def fE (y5:Int) (rec6:(Int×Int)→Option Int) (y18:Int):Option Int :=
grd (okI (y5+1)) <|
rec6 (y18,y5+1)
def gP (F:Nat) (a1:List UInt8) (a2:Int) (rec6:(Int×Int)→Option Int) (y4:Int) (y5:Int):Option Int :=
bif decide (y5 < (a1.length:Int)) then
  grd (co y5 a1.length) <|
  lt (at_ a1 y5) fun x10 =>
  bnd (ka F x10) fun x12 =>
  bif decide (a2≤x12) then
    some (-1)
  else
    grd (okI (a2*y4)) <|
    grd (okI ((a2*y4)+x12)) <|
    bif decide (1114111 < (a2*y4)+x12) then
      fE y5 rec6 1114112
    else
      fE y5 rec6 ((a2*y4)+x12)
else
  gO a1 y4
def eC (F:Nat) (a1:List UInt8) (a2:Int) (n:Nat):(Int×Int)→Option Int :=
  loop (fun rec x=>gP F a1 a2 rec x.1 x.2) n
def fM (F:Nat) (a1:List UInt8) (a2:Int):Option Int :=
eC F a1 a2 F (0,0)
def hP (F:Nat) (y28:Int):Option ((List UInt8)×Bool) :=
iE (fm F y28) fun x30 x31 =>
some (x30,x31)
def iP (F:Nat) (a1:List UInt8):Option ((List UInt8)×Bool) :=
bif decide (a1=([97,109,112]:List UInt8)) then
  some (([38]:List UInt8),true)
else
  bif decide (a1=([108,116]:List UInt8)) then
    some (([60]:List UInt8),true)
  else
    bif decide (a1=([103,116]:List UInt8)) then
      some (([62]:List UInt8),true)
    else
      bif decide (a1=([113,117,111,116]:List UInt8)) then
        some (([34]:List UInt8),true)
      else
        bif decide (a1=([97,112,111,115]:List UInt8)) then
          some (([39]:List UInt8),true)
        else
          fq (!(decide ((a1.length:Int) < 2))) (co 0 a1.length) <|
          lt (at_ a1 0) fun x11 =>
          bif (decide ((a1.length:Int) < 2))||(!decide (x11=35)) then
            some (([]:List UInt8),false)
          else
            grd (mb 1 a1.length) <|
            lt (gW a1 1) fun x15 =>
            bnd (fM F x15 10) fun x17 =>
            grd (co 1 a1.length) <|
            lt (at_ a1 1) fun x20 =>
            bif decide (x20=120) then
              grd (mb 2 a1.length) <|
              lt (gW a1 2) fun x24 =>
              bnd (fM F x24 16) fun x26 =>
              hP F x26
            else
              hP F x17
def jz:Option ((List UInt8)×Bool) :=
some (([]:List UInt8),false)
def jB (a1:List UInt8) (a2:Int) (rec7:Int→Option ((List UInt8)×Bool)) (y6:Int):Option ((List UInt8)×Bool) :=
fq (decide (y6 < (a1.length:Int))) (okI (a2+11)) <|
bif (decide (y6 < (a1.length:Int)))&&(decide (y6≤a2+11)) then
  grd (co y6 a1.length) <|
  lt (at_ a1 y6) fun x13 =>
  bif decide (x13=38) then
    some (([]:List UInt8),false)
  else
    grd (co y6 a1.length) <|
    lt (at_ a1 y6) fun x17 =>
    bif decide (x17=59) then
      grd (okI (a2+1)) <|
      grd (mG (a2+1) y6 a1.length) <|
      lt (sub a1 (a2+1) y6) fun x22 =>
      grd (okI (a2+1)) <|
      some (x22,decide (a2+1 < y6))
    else
      grd (okI (y6+1)) <|
      rec7 (y6+1)
else
  jz
def jA (a1:List UInt8) (a2:Int) (n:Nat):Int→Option ((List UInt8)×Bool) :=
  loop (fun rec x=>jB a1 a2 rec x) n
def lY (F:Nat) (a1:List UInt8) (a2:Int):Option ((List UInt8)×Bool) :=
grd (okI (a2+1)) <|
jA a1 a2 F (a2+1)
def jx (y40:List UInt8) (y42:Bool):Option ((List UInt8)×Bool) :=
some (y40,y42)
def hU (a1:List UInt8) (y5:List UInt8) (y8:Int) (rec9:((List UInt8)×Bool×Int)→Option ((List UInt8)×Bool)) (y30:Bool):Option ((List UInt8)×Bool) :=
grd (co y8 a1.length) <|
lt (at_ a1 y8) fun x33 =>
grd (cI (y5.length+([x33]:List UInt8).length)) <|
lt (y5++([x33]:List UInt8)) fun x37 =>
grd (okI (y8+1)) <|
rec9 (x37,y30,y8+1)
def jy (F:Nat) (a1:List UInt8) (rec9:((List UInt8)×Bool×Int)→Option ((List UInt8)×Bool)) (y5:List UInt8) (y7:Bool) (y8:Int):Option ((List UInt8)×Bool) :=
bif decide (y8 < (a1.length:Int)) then
  grd (co y8 a1.length) <|
  lt (at_ a1 y8) fun x13 =>
  bif decide (x13=38) then
    iE (lY F a1 y8) fun x16 x17 =>
    iE (iP F x16) fun x19 x20 =>
    bif x17&&x20 then
      grd (cI (y5.length+x19.length)) <|
      lt (y5++x19) fun x26 =>
      grd (okI (y8+(x16.length:Int))) <|
      grd (okI ((y8+(x16.length:Int))+2)) <|
      rec9 (x26,y7,(y8+(x16.length:Int))+2)
    else
      hU a1 y5 y8 rec9 false
  else
    hU a1 y5 y8 rec9 y7
else
  jx y5 y7
def fX (F:Nat) (a1:List UInt8) (n:Nat):((List UInt8)×Bool×Int)→Option ((List UInt8)×Bool) :=
  loop (fun rec x=>jy F a1 rec x.1 x.2.1 x.2.2) n
def lX (F:Nat) (a1:List UInt8):Option ((List UInt8)×Bool) :=
fX F a1 F ([],true,0)
def iY (F:Nat) (a1:List UInt8):Option ((List UInt8)×Int) :=
iE (lX F a1) fun x4 x5 =>
bif !x5 then
  some (([]:List UInt8),2)
else
  some (x4,0)
def gQ (y44:List UInt8):Option ((List UInt8)) :=
some y44
def dA (y6:Int) (rec7:((List UInt8)×Int)→Option ((List UInt8))) (y40:List UInt8):Option ((List UInt8)) :=
grd (okI (y6+1)) <|
rec7 (y40,y6+1)
def gR (a1:List UInt8) (rec7:((List UInt8)×Int)→Option ((List UInt8))) (y4:List UInt8) (y6:Int):Option ((List UInt8)) :=
bif decide (y6 < (a1.length:Int)) then
  grd (co y6 a1.length) <|
  lt (at_ a1 y6) fun x11 =>
  bif decide (x11=38) then
    grd (cI (y4.length+([38,97,109,112,59]:List UInt8).length)) <|
    lt (y4++([38,97,109,112,59]:List UInt8)) fun x16 =>
    dA y6 rec7 x16
  else
    bif decide (x11=60) then
      grd (cI (y4.length+([38,108,116,59]:List UInt8).length)) <|
      lt (y4++([38,108,116,59]:List UInt8)) fun x21 =>
      dA y6 rec7 x21
    else
      bif decide (x11=62) then
        grd (cI (y4.length+([38,103,116,59]:List UInt8).length)) <|
        lt (y4++([38,103,116,59]:List UInt8)) fun x26 =>
        dA y6 rec7 x26
      else
        bif decide (x11=34) then
          grd (cI (y4.length+([38,113,117,111,116,59]:List UInt8).length)) <|
          lt (y4++([38,113,117,111,116,59]:List UInt8)) fun x31 =>
          dA y6 rec7 x31
        else
          grd (co y6 a1.length) <|
          lt (at_ a1 y6) fun x34 =>
          grd (cI (y4.length+([x34]:List UInt8).length)) <|
          lt (y4++([x34]:List UInt8)) fun x38 =>
          dA y6 rec7 x38
else
  gQ y4
def dP (a1:List UInt8) (n:Nat):((List UInt8)×Int)→Option ((List UInt8)) :=
  loop (fun rec x=>gR a1 rec x.1 x.2) n
def iX (F:Nat) (a1:List UInt8):Option ((List UInt8)) :=
dP a1 F ([],0)
end Go.Pv
