/-
  Texts in one (only what XmlWrites needs): RefEW, XmlRP, XmlRW, XmlVP, XmlVW, AvSync, AvRep.
-/
import Derived.Test.YteokdkimegepoaaGreatDoorZXmlWrites3
import Derived.Test.YteokdkimegepoaaGreatDoorShelf
import Derived.Lib.ItoaNum
import Derived.Lib.IndexLaws
import Derived.Test.YteokdkimegepoaaGreatDoorChecked
import Derived.Laws.LoneSync
set_option linter.unusedVariables false
set_option linter.unusedSimpArgs false
set_option linter.unusedSectionVars false
namespace Go.Proofs.YteokdkimegepoaaGreatDoor
open Go.RowKit Go.Av Go.Pv
theorem Aw:∀ (args:Array Value) (w:World),(callFunc 97 args).run Tryz.prog w=.ok (.enter 97 args) w:=fun _ _=>by kernel_rfl
theorem yF:∀ (args:Array Value) (w:World),(callFunc 112 args).run Tryz.prog w=.ok (.enter 112 args) w:=fun _ _=>by kernel_rfl
theorem yE:∀ (args:Array Value) (w:World),(callFunc 113 args).run Tryz.prog w=.ok (.enter 113 args) w:=fun _ _=>by kernel_rfl
theorem tf:∀ (args:Array Value) (w:World),(callFunc 125 args).run Tryz.prog w=.ok (.enter 125 args) w:=fun _ _=>by kernel_rfl
theorem yC:∀ (args:Array Value) (w:World),(callFunc 126 args).run Tryz.prog w=.ok (.enter 126 args) w:=fun _ _=>by kernel_rfl
theorem yz:∀ (args:Array Value) (w:World),(callFunc 137 args).run Tryz.prog w=.ok (.enter 137 args) w:=fun _ _=>by kernel_rfl
set_option maxRecDepth 100000 in
set_option maxHeartbeats 1000000 in
theorem kT (F:Nat) (a1:UInt8) (r2:Bool) (H:lm F a1=some r2):ACalls Tryz.prog 75 [u8 a1] [] (Ret (B r2) []):=by
 unfold lm at H
 refine az Tryz.func75 rfl rfl ?_;show AW _ _ 17 _ _ _;refine ac<|aa ?_;show AR _ _ _ _ _ [0] _;refine za rfl<|ag<|ac<|aa ?_;show AR _ _ _ _ _ [0,1,2,3,4,5,6,7,8,9,10,11,12,13,14] _;refine zm rfl<|zS rfl (eS (a:=a1) (b:=9) rfl rfl)<|zm rfl<|bk (l:=[6,7,8,9,10,11,12,13,14]) 8 (B ((decide (a1=9))||(decide (a1=10)))) (fun K=>?_) ?_
 ·rcases ap (decide (a1=9)) with h3 | h3
  ·refine zF h3 rfl<|zF h3 rfl<|zS rfl (aD (av:=.v _) rfl h3 rfl) ?_;exact K _ 2 _ (aw (ii h3)) rfl rfl
  ·refine zM h3 rfl<|zU h3 rfl (eS (a:=a1) (b:=10) rfl rfl)<|zS rfl (aF (av:=.v _) rfl h3 rfl) ?_;exact K _ 2 _ (aw (ie h3)) rfl rfl
 refine zm rfl<|bk (l:=[10,11,12,13,14]) 12 (B (((decide (a1=9))||(decide (a1=10)))||(decide (a1=13)))) (fun K=>?_) ?_
 ·rcases ap ((decide (a1=9))||(decide (a1=10))) with h4 | h4
  ·refine zF h4 rfl<|zF h4 rfl<|zS rfl (aD (av:=.v _) rfl h4 rfl) ?_;exact K _ 2 _ (aw (ii h4)) rfl rfl
  ·refine zM h4 rfl<|zU h4 rfl (eS (a:=a1) (b:=13) rfl rfl)<|zS rfl (aF (av:=.v _) rfl h4 rfl) ?_;exact K _ 2 _ (aw (ie h4)) rfl rfl
 refine zm rfl<|bk (l:=[14]) 16 (B ((((decide (a1=9))||(decide (a1=10)))||(decide (a1=13)))||(decide (a1=32)))) (fun K=>?_) ?_
 ·rcases ap (((decide (a1=9))||(decide (a1=10)))||(decide (a1=13))) with h5 | h5
  ·refine zF h5 rfl<|zF h5 rfl<|zS rfl (aD (av:=.v _) rfl h5 rfl) ?_;exact K _ 2 _ (aw (ii h5)) rfl rfl
  ·refine zM h5 rfl<|zU h5 rfl (eS (a:=a1) (b:=32) rfl rfl)<|zS rfl (aF (av:=.v _) rfl h5 rfl) ?_;exact K _ 2 _ (aw (ie h5)) rfl rfl
 refine za rfl<|ag<|aQ ?_;obtain rfl:=aq H;exact And.intro rfl (Exists.intro _ (Exists.intro _ ⟨aO rfl (.refl _),aK [] rfl,rfl,rfl⟩))
set_option maxRecDepth 100000 in
set_option maxHeartbeats 1000000 in
theorem vA (F:Nat) (a1:Int) (r2:List UInt8) (r3:Bool) (H:fm F a1=some (r2,r3)):ACalls Tryz.prog 126 [i64 a1] [] (Ret (.tup [S r2,B r3]) []):=by
 unfold fm at H
 refine az Tryz.func126 rfl rfl ?_;show AW _ _ 98 _ _ _;refine ac<|aa ?_;show AR _ _ _ _ _ [0,1] _;refine za rfl<|za rfl<|ag<|ac<|aa ?_;show AR _ _ _ _ _ [0,1,2,3,4,5,6,7,8,9,10,11,12,13,14,15,16,17,18] _;refine zm rfl<|zS rfl (bI rfl rfl)<|zm rfl<|bk (l:=[6,7,8,9,10,11,12,13,14,15,16,17,18]) 10 (B ((decide (a1=9))||(decide (a1=10)))) (fun K=>?_) ?_
 ·rcases ap (decide (a1=9)) with h4 | h4
  ·refine zF h4 rfl<|zF h4 rfl<|zS rfl (aD (av:=.v _) rfl h4 rfl) ?_;exact K _ 2 _ (aw (ii h4)) rfl rfl
  ·refine zM h4 rfl<|zU h4 rfl (bI rfl rfl)<|zS rfl (aF (av:=.v _) rfl h4 rfl) ?_;exact K _ 2 _ (aw (ie h4)) rfl rfl
 refine zm rfl<|bk (l:=[10,11,12,13,14,15,16,17,18]) 14 (B (((decide (a1=9))||(decide (a1=10)))||(decide (a1=13)))) (fun K=>?_) ?_
 ·rcases ap ((decide (a1=9))||(decide (a1=10))) with h5 | h5
  ·refine zF h5 rfl<|zF h5 rfl<|zS rfl (aD (av:=.v _) rfl h5 rfl) ?_;exact K _ 2 _ (aw (ii h5)) rfl rfl
  ·refine zM h5 rfl<|zU h5 rfl (bI rfl rfl)<|zS rfl (aF (av:=.v _) rfl h5 rfl) ?_;exact K _ 2 _ (aw (ie h5)) rfl rfl
 refine zm rfl<|bk (l:=[18]) 22 (B ((((decide (a1=9))||(decide (a1=10)))||(decide (a1=13)))||((decide (32≤a1))&&(decide (a1≤55295))))) (fun K=>?_) ?_
 ·rcases ap (((decide (a1=9))||(decide (a1=10)))||(decide (a1=13))) with h6 | h6
  ·refine zF h6 rfl<|zF h6 rfl<|zF h6 rfl<|gU rfl rfl rfl rfl rfl<|gU rfl rfl rfl rfl rfl<|zF h6 rfl<|zS rfl (aD (av:=.v _) rfl h6 rfl) ?_;exact K _ 6 _ (aw (ii h6)) rfl rfl
  ·refine zM h6 rfl<|zU h6 rfl (cX rfl rfl)<|zM h6 rfl<|bk (l:=[17,18]) 21 (B ((decide (32≤a1))&&(decide (a1≤55295)))) (fun K=>?_) ?_
   ·rcases ap (decide (32≤a1)) with h7 | h7
    ·refine zM h7 rfl<|zU h7 rfl (dW rfl rfl)<|zU h6 rfl (aD (av:=.v _) rfl h7 rfl) ?_;exact K _ 2 _ (aw (cd h7)) rfl rfl
    ·refine zF h7 rfl<|zF h7 rfl<|zU h6 rfl (aF (av:=.v _) rfl h7 rfl) ?_;exact K _ 2 _ (aw (cq h7)) rfl rfl
   refine zS rfl (aF (av:=.v _) rfl h6 rfl) ?_;exact K _ 4 _ (aw (ie h6)) rfl rfl
 refine za rfl<|ag<|ac<|ac<|aa ?_;show AR _ _ _ _ _ [0,1,2,3,4,5,6,7,8,9,10,11,12,13,14,15,16,17,18,19] _;refine zm rfl<|zS rfl (ca rfl)<|zm rfl<|bk (l:=[11,12,13,14,15,16,17,18,19]) 33 (B ((!((((decide (a1=9))||(decide (a1=10)))||(decide (a1=13)))||((decide (32≤a1))&&(decide (a1≤55295)))))&&(!((decide (57344≤a1))&&(decide (a1≤65533)))))) (fun K=>?_) ?_
 ·rcases ap (!((((decide (a1=9))||(decide (a1=10)))||(decide (a1=13)))||((decide (32≤a1))&&(decide (a1≤55295))))) with h8 | h8
  ·refine zM h8 rfl<|zU h8 rfl (cX rfl rfl)<|zM h8 rfl<|bk (l:=[9,10,11,12,13,14,15,16,17,18,19]) 31 (B ((decide (57344≤a1))&&(decide (a1≤65533)))) (fun K=>?_) ?_
   ·rcases ap (decide (57344≤a1)) with h9 | h9
    ·refine zM h9 rfl<|zU h9 rfl (dW rfl rfl)<|zU h8 rfl (aD (av:=.v _) rfl h9 rfl) ?_;exact K _ 2 _ (aw (cd h9)) rfl rfl
    ·refine zF h9 rfl<|zF h9 rfl<|zU h8 rfl (aF (av:=.v _) rfl h9 rfl) ?_;exact K _ 2 _ (aw (cq h9)) rfl rfl
   refine zU h8 rfl (ca rfl)<|zS rfl (aD (av:=.v _) rfl h8 rfl) ?_;exact K _ 5 _ (aw (cd h8)) rfl rfl
  ·refine zF h8 rfl<|zF h8 rfl<|zF h8 rfl<|gU rfl rfl rfl rfl rfl<|gU rfl rfl rfl rfl rfl<|zF h8 rfl<|zF h8 rfl<|zS rfl (aF (av:=.v _) rfl h8 rfl) ?_;exact K _ 7 _ (aw (cq h8)) rfl rfl
 refine zm rfl<|bk (l:=[]) 42 (B (((!((((decide (a1=9))||(decide (a1=10)))||(decide (a1=13)))||((decide (32≤a1))&&(decide (a1≤55295)))))&&(!((decide (57344≤a1))&&(decide (a1≤65533)))))&&(!((decide (65536≤a1))&&(decide (a1≤1114111)))))) (fun K=>?_) ?_
 ·rcases ap ((!((((decide (a1=9))||(decide (a1=10)))||(decide (a1=13)))||((decide (32≤a1))&&(decide (a1≤55295)))))&&(!((decide (57344≤a1))&&(decide (a1≤65533))))) with h10 | h10
  ·refine zM h10 rfl<|zU h10 rfl (cX rfl rfl)<|zM h10 rfl<|bk (l:=[18,19]) 40 (B ((decide (65536≤a1))&&(decide (a1≤1114111)))) (fun K=>?_) ?_
   ·rcases ap (decide (65536≤a1)) with h11 | h11
    ·refine zM h11 rfl<|zU h11 rfl (dW rfl rfl)<|zU h10 rfl (aD (av:=.v _) rfl h11 rfl) ?_;exact K _ 2 _ (aw (cd h11)) rfl rfl
    ·refine zF h11 rfl<|zF h11 rfl<|zU h10 rfl (aF (av:=.v _) rfl h11 rfl) ?_;exact K _ 2 _ (aw (cq h11)) rfl rfl
   refine zU h10 rfl (ca rfl)<|zS rfl (aD (av:=.v _) rfl h10 rfl) ?_;exact K _ 5 _ (aw (cd h10)) rfl rfl
  ·refine zF h10 rfl<|zF h10 rfl<|zF h10 rfl<|gU rfl rfl rfl rfl rfl<|gU rfl rfl rfl rfl rfl<|zF h10 rfl<|zF h10 rfl<|zS rfl (aF (av:=.v _) rfl h10 rfl) ?_;exact K _ 7 _ (aw (cq h10)) rfl rfl
 refine ag<|ax rfl (fun c12=>?_) (fun c12=>?_)
 ·replace H:=be c12 H;refine ac<|aa ?_;show AR _ _ _ _ _ [0,1] _;refine za rfl<|za rfl<|ag<|aQ ?_;obtain ⟨rfl,rfl⟩:=ek H;exact And.intro rfl (Exists.intro _ (Exists.intro _ ⟨bt rfl (.refl _) (.refl _),aK [] rfl,rfl,rfl⟩))
 ·replace H:=bf c12 H;refine aC<|ac<|ac<|aa ?_;show AR _ _ _ _ _ [0,1] _;refine zm rfl<|zS rfl (bN rfl rfl)<|ag<|ax rfl (fun c13=>?_) (fun c13=>?_)
  ·replace H:=be c13 H;refine ac<|aa ?_;show AR _ _ _ _ _ [0,1,2,3,4,5] _;refine zm rfl<|zS rfl (eE (by kernel_rfl) bi rfl)<|zR rfl (ce (E:=Enc.byte) (bytes:=1) (xs:=[.tmp 46]) (l:=([Go.Av.toB a1]:List UInt8)) ak (by kernel_rfl) rfl rfl (by decide) rfl rfl)<|zS rfl (bV ak bi ab rfl)<|za rfl<|za rfl<|ag<|aQ ?_;obtain ⟨rfl,rfl⟩:=ek H;exact And.intro rfl (Exists.intro _ (Exists.intro _ ⟨bt rfl (.refl _) (.refl _),aK [] rfl,rfl,rfl⟩))
  ·replace H:=bf c13 H;refine aC<|ac<|ac<|aa ?_;show AR _ _ _ _ _ [0,1] _;refine zm rfl<|zS rfl (bN rfl rfl)<|ag<|ax rfl (fun c14=>?_) (fun c14=>?_)
   ·replace H:=be c14 H;refine ac ?_;obtain ⟨g15,H⟩:=aI H;obtain ⟨g16,H⟩:=aI H;obtain ⟨g17,H⟩:=aI H;obtain ⟨g18,H⟩:=aI H;refine aa ?_;show AR _ _ _ _ _ [0,1,2,3,4,5,6,7,8,9,10,11] _;refine zm rfl<|zS rfl (tH rfl rfl g15)<|zS rfl (bB rfl rfl g16)<|zS rfl (eE (by kernel_rfl) bi rfl)<|zm rfl<|zS rfl (tG rfl rfl g17)<|zS rfl (bB rfl rfl g18)<|zS rfl (eE (by kernel_rfl) bi rfl)<|zR rfl (ce (E:=Enc.byte) (bytes:=1) (xs:=[.tmp 54,.tmp 58]) (l:=([Go.Av.toB (192+(a1 / 64)),Go.Av.toB (128+(a1 % 64))]:List UInt8)) ak (by kernel_rfl) rfl rfl (by decide) rfl rfl)<|zS rfl (bV ak bi ab rfl)<|za rfl<|za rfl<|ag<|aQ ?_;obtain ⟨rfl,rfl⟩:=ek H;exact And.intro rfl (Exists.intro _ (Exists.intro _ ⟨bt rfl (.refl _) (.refl _),aK [] rfl,rfl,rfl⟩))
   ·replace H:=bf c14 H;refine aC<|ac<|ac<|aa ?_;show AR _ _ _ _ _ [0,1] _;refine zm rfl<|zS rfl (bN rfl rfl)<|ag<|ax rfl (fun c19=>?_) (fun c19=>?_)
    ·replace H:=be c19 H;refine ac ?_;obtain ⟨g20,H⟩:=aI H;obtain ⟨g21,H⟩:=aI H;obtain ⟨g22,H⟩:=aI H;obtain ⟨g23,H⟩:=aI H;obtain ⟨g24,H⟩:=aI H;obtain ⟨g25,H⟩:=aI H;obtain ⟨g26,H⟩:=aI H;refine aa ?_;show AR _ _ _ _ _ [0,1,2,3,4,5,6,7,8,9,10,11,12,13,14,15,16] _;refine zm rfl<|zS rfl (tH rfl rfl g20)<|zS rfl (bB rfl rfl g21)<|zS rfl (eE (by kernel_rfl) bi rfl)<|zm rfl<|zS rfl (tH rfl rfl g22)<|zS rfl (tG rfl rfl g23)<|zS rfl (bB rfl rfl g24)<|zS rfl (eE (by kernel_rfl) bi rfl)<|zm rfl<|zS rfl (tG rfl rfl g25)<|zS rfl (bB rfl rfl g26)<|zS rfl (eE (by kernel_rfl) bi rfl)<|zR rfl (ce (E:=Enc.byte) (bytes:=1) (xs:=[.tmp 66,.tmp 71,.tmp 75]) (l:=([Go.Av.toB (224+(a1 / 4096)),Go.Av.toB (128+((a1 / 64) % 64)),Go.Av.toB (128+(a1 % 64))]:List UInt8)) ak (by kernel_rfl) rfl rfl (by decide) rfl rfl)<|zS rfl (bV ak bi ab rfl)<|za rfl<|za rfl<|ag<|aQ ?_;obtain ⟨rfl,rfl⟩:=ek H;exact And.intro rfl (Exists.intro _ (Exists.intro _ ⟨bt rfl (.refl _) (.refl _),aK [] rfl,rfl,rfl⟩))
    ·replace H:=bf c19 H;refine aC<|ac ?_;obtain ⟨g27,H⟩:=aI H;obtain ⟨g28,H⟩:=aI H;obtain ⟨g29,H⟩:=aI H;obtain ⟨g30,H⟩:=aI H;obtain ⟨g31,H⟩:=aI H;obtain ⟨g32,H⟩:=aI H;obtain ⟨g33,H⟩:=aI H;obtain ⟨g34,H⟩:=aI H;obtain ⟨g35,H⟩:=aI H;obtain ⟨g36,H⟩:=aI H;refine aa ?_;show AR _ _ _ _ _ [0,1,2,3,4,5,6,7,8,9,10,11,12,13,14,15,16,17,18,19,20,21] _;refine zm rfl<|zS rfl (tH rfl rfl g27)<|zS rfl (bB rfl rfl g28)<|zS rfl (eE (by kernel_rfl) bi rfl)<|zm rfl<|zS rfl (tH rfl rfl g29)<|zS rfl (tG rfl rfl g30)<|zS rfl (bB rfl rfl g31)<|zS rfl (eE (by kernel_rfl) bi rfl)<|zm rfl<|zS rfl (tH rfl rfl g32)<|zS rfl (tG rfl rfl g33)<|zS rfl (bB rfl rfl g34)<|zS rfl (eE (by kernel_rfl) bi rfl)<|zm rfl<|zS rfl (tG rfl rfl g35)<|zS rfl (bB rfl rfl g36)<|zS rfl (eE (by kernel_rfl) bi rfl)<|zR rfl (ce (E:=Enc.byte) (bytes:=1) (xs:=[.tmp 81,.tmp 86,.tmp 91,.tmp 95]) (l:=([Go.Av.toB (240+(a1 / 262144)),Go.Av.toB (128+((a1 / 4096) % 64)),Go.Av.toB (128+((a1 / 64) % 64)),Go.Av.toB (128+(a1 % 64))]:List UInt8)) ak (by kernel_rfl) rfl rfl (by decide) rfl rfl)<|zS rfl (bV ak bi ab rfl)<|za rfl<|za rfl<|ag<|aQ ?_;obtain ⟨rfl,rfl⟩:=ek H
     exact And.intro rfl (Exists.intro _ (Exists.intro _ ⟨bt rfl (.refl _) (.refl _),aK [] rfl,rfl,rfl⟩))
set_option maxRecDepth 100000 in
set_option maxHeartbeats 1000000 in
theorem tU (F:Nat) (a1:UInt8) (r2:Int) (H:ka F a1=some r2):ACalls Tryz.prog 137 [u8 a1] [] (Ret (i64 r2) []):=by
 unfold ka at H
 refine az Tryz.func137 rfl rfl ?_;show AW _ _ 32 _ _ _;refine ac<|aa ?_;show AR _ _ _ _ _ [0] _;refine za rfl<|ag<|ac<|ac<|aa ?_;show AR _ _ _ _ _ [0,1,2,3,4,5] _;refine zm rfl<|zS rfl (cX rfl rfl)<|zm rfl<|bk (l:=[]) 8 (B ((decide (48≤(a1.toNat:Int)))&&(decide ((a1.toNat:Int)≤57)))) (fun K=>?_) ?_
 ·rcases ap (decide (48≤(a1.toNat:Int))) with h3 | h3
  ·refine zM h3 rfl<|zU h3 rfl (dW rfl rfl)<|zS rfl (aD (av:=.v _) rfl h3 rfl) ?_;exact K _ 2 _ (aw (cd h3)) rfl rfl
  ·refine zF h3 rfl<|zF h3 rfl<|zS rfl (aF (av:=.v _) rfl h3 rfl) ?_;exact K _ 2 _ (aw (cq h3)) rfl rfl
 refine ag<|ax rfl (fun c4=>?_) (fun c4=>?_)
 ·replace H:=be c4 H;refine ac<|aa ?_;show AR _ _ _ _ _ [0,1,2,3] _;refine zm rfl<|zS rfl (tB (a:=a1) (b:=48) rfl rfl)<|zS rfl (ow (c:=a1 - 48) (by kernel_rfl) au rfl)<|za rfl<|ag<|aQ ?_;obtain rfl:=aq H;exact And.intro rfl (Exists.intro _ (Exists.intro _ ⟨aO rfl (.refl _),aK [] rfl,rfl,rfl⟩))
 ·replace H:=bf c4 H;refine aC<|ac<|ac<|aa ?_;show AR _ _ _ _ _ [0,1,2,3,4,5] _;refine zm rfl<|zS rfl (cX rfl rfl)<|zm rfl<|bk (l:=[]) 17 (B ((decide (97≤(a1.toNat:Int)))&&(decide ((a1.toNat:Int)≤102)))) (fun K=>?_) ?_
  ·rcases ap (decide (97≤(a1.toNat:Int))) with h5 | h5
   ·refine zM h5 rfl<|zU h5 rfl (dW rfl rfl)<|zS rfl (aD (av:=.v _) rfl h5 rfl) ?_;exact K _ 2 _ (aw (cd h5)) rfl rfl
   ·refine zF h5 rfl<|zF h5 rfl<|zS rfl (aF (av:=.v _) rfl h5 rfl) ?_;exact K _ 2 _ (aw (cq h5)) rfl rfl
  refine ag<|ax rfl (fun c6=>?_) (fun c6=>?_)
  ·replace H:=be c6 H;refine ac ?_;obtain ⟨g7,H⟩:=aI H;refine aa ?_;show AR _ _ _ _ _ [0,1,2,3,4] _;refine zm rfl<|zS rfl (tB (a:=a1) (b:=97) rfl rfl)<|zS rfl (ow (c:=a1 - 97) (by kernel_rfl) au rfl)<|zS rfl (bB rfl rfl g7)<|za rfl<|ag<|aQ ?_;obtain rfl:=aq H;exact And.intro rfl (Exists.intro _ (Exists.intro _ ⟨aO rfl (.refl _),aK [] rfl,rfl,rfl⟩))
  ·replace H:=bf c6 H;refine aC<|ac<|ac<|aa ?_;show AR _ _ _ _ _ [0,1,2,3,4,5] _;refine zm rfl<|zS rfl (cX rfl rfl)<|zm rfl<|bk (l:=[]) 27 (B ((decide (65≤(a1.toNat:Int)))&&(decide ((a1.toNat:Int)≤70)))) (fun K=>?_) ?_
   ·rcases ap (decide (65≤(a1.toNat:Int))) with h8 | h8
    ·refine zM h8 rfl<|zU h8 rfl (dW rfl rfl)<|zS rfl (aD (av:=.v _) rfl h8 rfl) ?_;exact K _ 2 _ (aw (cd h8)) rfl rfl
    ·refine zF h8 rfl<|zF h8 rfl<|zS rfl (aF (av:=.v _) rfl h8 rfl) ?_;exact K _ 2 _ (aw (cq h8)) rfl rfl
   refine ag<|ax rfl (fun c9=>?_) (fun c9=>?_)
   ·replace H:=be c9 H;refine ac ?_;obtain ⟨g10,H⟩:=aI H;refine aa ?_;show AR _ _ _ _ _ [0,1,2,3,4] _;refine zm rfl<|zS rfl (tB (a:=a1) (b:=65) rfl rfl)<|zS rfl (ow (c:=a1 - 65) (by kernel_rfl) au rfl)<|zS rfl (bB rfl rfl g10)<|za rfl<|ag<|aQ ?_;obtain rfl:=aq H;exact And.intro rfl (Exists.intro _ (Exists.intro _ ⟨aO rfl (.refl _),aK [] rfl,rfl,rfl⟩))
   ·replace H:=bf c9 H;refine aC<|ac<|aa ?_;show AR _ _ _ _ _ [0] _;refine za rfl<|ag<|aQ ?_;obtain rfl:=aq H;exact And.intro rfl (Exists.intro _ (Exists.intro _ ⟨aO rfl (.refl _),aK [] rfl,rfl,rfl⟩))
set_option maxRecDepth 100000 in
set_option maxHeartbeats 1000000 in
theorem oh (F:Nat) (a1:List UInt8) (a2:Int) (r3:Int) (H:fM F a1 a2=some r3):ACalls Tryz.prog 125 [S a1,i64 a2] [] (Ret (i64 r3) []):=by
 unfold fM at H
 refine az Tryz.func125 rfl rfl ?_;show AW _ _ 32 _ _ _;refine ac<|aa ?_;show AR _ _ _ _ _ [0] _;refine za rfl<|ag<|ac<|aa ?_;show AR _ _ _ _ _ [0] _;refine za rfl<|ag<|bq (X:=Int) (fun y21=>⟨[(0,S a1),(5,i64 y21)],[],[]⟩) (fun y21=>gO a1 y21=some r3) ?_ ?_
 ·refine ac<|aa ?_;show AR _ _ _ _ _ [0] _;refine za rfl<|ag<|aR<|cl (X:=Nat×Int×Int) (fun (n7,y4,y5)=>⟨[(0,S a1),(1,i64 a2),(5,i64 y4),(6,i64 y5)],[],[]⟩) (fun (n7,y4,y5)=>eC F a1 a2 n7 (y4,y5)=some r3) (fun (n7,y4,y5)=>n7) (F,0,0) H (aP [] (.cons (.refl _) (.cons (.refl _) (.cons (.refl _) (.cons (.refl _) (.nil _))))) rfl) ?_;rintro ⟨n7,y4,y5⟩ H;obtain ⟨n7,rfl,H⟩:=cO H;replace H:gP F a1 a2 (eC F a1 a2 n7) y4 y5=some r3:=H
  unfold gP at H
  refine ac<|ac<|aa ?_;show AR _ _ _ _ _ [0,1,2,3] _;refine zm rfl<|zm rfl<|zS rfl (aW ab rfl)<|zS rfl (bN rfl rfl)<|ag<|ax rfl (fun c8=>?_) (fun c8=>?_)
  ·replace H:=be c8 H;refine aC<|bq (X:=Int) (fun y18=>⟨[(0,S a1),(1,i64 a2),(5,i64 y18),(6,i64 y5)],[],[]⟩) (fun y18=>fE y5 (eC F a1 a2 n7) y18=some r3) ?_ ?_
   ·refine aR<|ac ?_;obtain ⟨g9,H⟩:=aI H;obtain ⟨x10,e11,H⟩:=bz H;obtain ⟨x12,e13,H⟩:=cm H;refine aa ?_;show AR _ _ _ _ _ [0,1,2,3,4] _;refine zm rfl<|zm rfl<|zS rfl (bg ab rfl rfl g9 e11)<|ar rfl rfl (aX rfl yz rfl (tU F x10 x12 e13) ?_);refine za rfl<|ag<|ac<|ac<|aa ?_;show AR _ _ _ _ _ [0,1,2] _;refine zm rfl<|zm rfl<|zS rfl (cX rfl rfl)<|ag<|ax rfl (fun c14=>?_) (fun c14=>?_)
    ·replace H:=be c14 H;refine ac<|aa ?_;show AR _ _ _ _ _ [0] _;refine za rfl<|ag<|aQ ?_;obtain rfl:=aq H;exact And.intro rfl (Exists.intro _ (Exists.intro _ ⟨aO rfl (.refl _),aK [] rfl,rfl,rfl⟩))
    ·replace H:=bf c14 H;refine aC<|ac ?_;obtain ⟨g15,H⟩:=aI H;obtain ⟨g16,H⟩:=aI H;refine aa ?_;show AR _ _ _ _ _ [0,1,2,3,4,5] _;refine zm rfl<|zm rfl<|zS rfl (g_mul rfl rfl g15)<|zm rfl<|zS rfl (bB rfl rfl g16)<|za rfl<|ag<|ac<|aa ?_;show AR _ _ _ _ _ [0,1] _;refine zm rfl<|zS rfl (eN rfl rfl)<|ag<|ax rfl (fun c17=>?_) (fun c17=>?_)
     ·replace H:=be c17 H;refine aa ?_;show AR _ _ _ _ _ [0] _;refine za rfl<|ag ?_;exact Exists.intro 1114112 ⟨H,aP [] (.cons (.refl _) (.cons (.refl _) (.cons (.refl _) (.cons (.refl _) (.nil _))))) rfl⟩
     ·replace H:=bf c17 H;refine aC ?_;exact Exists.intro ((a2*y4)+x12) ⟨H,aP [] (.cons (.refl _) (.cons (.refl _) (.cons (.refl _) (.cons (.refl _) (.nil _))))) rfl⟩
   rintro y18 H;replace H:fE y5 (eC F a1 a2 n7) y18=some r3:=H
   unfold fE at H
   obtain ⟨g20,H⟩:=aI H;refine aa ?_;show AR _ _ _ _ _ [0,1,2] _;refine zm rfl<|zS rfl (bB rfl rfl g20)<|za rfl<|ag ?_;exact Exists.intro (n7,y18,y5+1) ⟨H,Nat.lt_succ_self _,aP [] (.cons (.refl _) (.cons (.refl _) (.cons (.refl _) (.cons (.refl _) (.nil _))))) rfl⟩
  ·replace H:=bf c8 H;refine bU ?_;exact Exists.intro y4 ⟨H,aP [] (.cons (.refl _) (.cons (.refl _) (.nil _))) rfl⟩
 rintro y21 H;replace H:gO a1 y21=some r3:=H
 unfold gO at H
 refine ac<|ac<|aa ?_;show AR _ _ _ _ _ [0,1,2] _;refine zm rfl<|zS rfl (aW ab rfl)<|zS rfl (bI rfl rfl)<|ag<|ax rfl (fun c23=>?_) (fun c23=>?_)
 ·replace H:=be c23 H;refine ac<|aa ?_;show AR _ _ _ _ _ [0] _;refine za rfl<|ag<|aQ ?_;obtain rfl:=aq H;exact And.intro rfl (Exists.intro _ (Exists.intro _ ⟨aO rfl (.refl _),aK [] rfl,rfl,rfl⟩))
 ·replace H:=bf c23 H;refine aC<|ac<|aa ?_;show AR _ _ _ _ _ [0,1] _;refine zm rfl<|za rfl<|ag<|aQ ?_;obtain rfl:=aq H;exact And.intro rfl (Exists.intro _ (Exists.intro _ ⟨aO rfl (.refl _),aK [] rfl,rfl,rfl⟩))
set_option maxRecDepth 100000 in
set_option maxHeartbeats 1000000 in
theorem vx (F:Nat) (a1:List UInt8) (r2:List UInt8) (r3:Bool) (H:iP F a1=some (r2,r3)):ACalls Tryz.prog 113 [S a1] [] (Ret (.tup [S r2,B r3]) []):=by
 unfold iP at H
 refine az Tryz.func113 rfl rfl ?_;show AW _ _ 42 _ _ _;refine ac<|aa ?_;show AR _ _ _ _ _ [0,1] _;refine za rfl<|za rfl<|ag<|ac<|ac<|aa ?_;show AR _ _ _ _ _ [0] _;refine zm rfl<|ag<|aR<|ac<|aa ?_;show AR _ _ _ _ _ [0,1] _;refine zS rfl (cD rfl rfl)<|za rfl<|ag<|ax rfl (fun c4=>?_) (fun c4=>?_)
 ·replace H:=be c4 H;refine ac<|aa ?_;show AR _ _ _ _ _ [0,1] _;refine za rfl<|za rfl<|ag<|aQ ?_;obtain ⟨rfl,rfl⟩:=ek H;exact And.intro rfl (Exists.intro _ (Exists.intro _ ⟨bt rfl (.refl _) (.refl _),aK [] rfl,rfl,rfl⟩))
 ·replace H:=bf c4 H;refine ac<|aa ?_;show AR _ _ _ _ _ [0,1] _;refine zS rfl (cD rfl rfl)<|za rfl<|ag<|ax rfl (fun c5=>?_) (fun c5=>?_)
  ·replace H:=be c5 H;refine ac<|aa ?_;show AR _ _ _ _ _ [0,1] _;refine za rfl<|za rfl<|ag<|aQ ?_;obtain ⟨rfl,rfl⟩:=ek H;exact And.intro rfl (Exists.intro _ (Exists.intro _ ⟨bt rfl (.refl _) (.refl _),aK [] rfl,rfl,rfl⟩))
  ·replace H:=bf c5 H;refine ac<|aa ?_;show AR _ _ _ _ _ [0,1] _;refine zS rfl (cD rfl rfl)<|za rfl<|ag<|ax rfl (fun c6=>?_) (fun c6=>?_)
   ·replace H:=be c6 H;refine ac<|aa ?_;show AR _ _ _ _ _ [0,1] _;refine za rfl<|za rfl<|ag<|aQ ?_;obtain ⟨rfl,rfl⟩:=ek H;exact And.intro rfl (Exists.intro _ (Exists.intro _ ⟨bt rfl (.refl _) (.refl _),aK [] rfl,rfl,rfl⟩))
   ·replace H:=bf c6 H;refine ac<|aa ?_;show AR _ _ _ _ _ [0,1] _;refine zS rfl (cD rfl rfl)<|za rfl<|ag<|ax rfl (fun c7=>?_) (fun c7=>?_)
    ·replace H:=be c7 H;refine ac<|aa ?_;show AR _ _ _ _ _ [0,1] _;refine za rfl<|za rfl<|ag<|aQ ?_;obtain ⟨rfl,rfl⟩:=ek H;exact And.intro rfl (Exists.intro _ (Exists.intro _ ⟨bt rfl (.refl _) (.refl _),aK [] rfl,rfl,rfl⟩))
    ·replace H:=bf c7 H;refine ac<|aa ?_;show AR _ _ _ _ _ [0,1] _;refine zS rfl (cD rfl rfl)<|za rfl<|ag<|ax rfl (fun c8=>?_) (fun c8=>?_)
     ·replace H:=be c8 H;refine ac<|aa ?_;show AR _ _ _ _ _ [0,1] _;refine za rfl<|za rfl<|ag<|aQ ?_;obtain ⟨rfl,rfl⟩:=ek H;exact And.intro rfl (Exists.intro _ (Exists.intro _ ⟨bt rfl (.refl _) (.refl _),aK [] rfl,rfl,rfl⟩))
     ·replace H:=bf c8 H;refine aC<|ac<|ac ?_;obtain ⟨g10,H⟩:=cP H;obtain ⟨x11,e12,H⟩:=bz H;refine aa ?_;show AR _ _ _ _ _ [0,1,2,3,4,5,6,7] _;refine zm rfl<|zS rfl (aW ab rfl)<|zS rfl (bN rfl rfl)<|zm rfl<|bk (l:=[]) 25 (B ((decide ((a1.length:Int) < 2))||(!decide (x11=35)))) (fun K=>?_) ?_
      ·rcases ap (decide ((a1.length:Int) < 2)) with h9 | h9
       ·refine zF h9 rfl<|zF h9 rfl<|zF h9 rfl<|zS rfl (aD (av:=.v _) rfl h9 rfl) ?_;exact K _ 3 _ (aw (ii h9)) rfl rfl
       ·refine zM h9 rfl<|zU h9 rfl (bg ab rfl rfl (g10 (nf h9)) e12)<|zU h9 rfl (sg (a:=x11) (b:=35) rfl rfl)<|zS rfl (aF (av:=.v _) rfl h9 rfl) ?_;exact K _ 3 _ (aw (ie h9)) rfl rfl
      refine ag<|ax rfl (fun c13=>?_) (fun c13=>?_)
      ·replace H:=be c13 H;refine ac<|aa ?_;show AR _ _ _ _ _ [0,1] _;refine za rfl<|za rfl<|ag<|aQ ?_;obtain ⟨rfl,rfl⟩:=ek H;exact And.intro rfl (Exists.intro _ (Exists.intro _ ⟨bt rfl (.refl _) (.refl _),aK [] rfl,rfl,rfl⟩))
      ·replace H:=bf c13 H;refine aC<|ac ?_;obtain ⟨g14,H⟩:=aI H;obtain ⟨x15,e16,H⟩:=bz H;obtain ⟨x17,e18,H⟩:=cm H;refine aa ?_;show AR _ _ _ _ _ [0,1,2,3] _;refine zm rfl<|zS rfl (ee ab rfl rfl g14 e16)<|ar rfl rfl (aX rfl tf rfl (oh F x15 10 x17 e18) ?_);refine za rfl<|ag<|bq (X:=Int) (fun y28=>⟨[(4,i64 y28)],[],[]⟩) (fun y28=>hP F y28=some (r2,r3)) ?_ ?_
       ·refine ac ?_;obtain ⟨g19,H⟩:=aI H;obtain ⟨x20,e21,H⟩:=bz H;refine aa ?_;show AR _ _ _ _ _ [0,1,2] _;refine zm rfl<|zS rfl (bg ab rfl rfl g19 e21)<|zS rfl (eS (a:=x20) (b:=120) rfl rfl)<|ag<|ax rfl (fun c22=>?_) (fun c22=>?_)
        ·replace H:=be c22 H;obtain ⟨g23,H⟩:=aI H;obtain ⟨x24,e25,H⟩:=bz H;obtain ⟨x26,e27,H⟩:=cm H;refine aa ?_;show AR _ _ _ _ _ [0,1,2,3] _;refine zm rfl<|zS rfl (ee ab rfl rfl g23 e25)<|ar rfl rfl (aX rfl tf rfl (oh F x24 16 x26 e27) ?_);refine za rfl<|ag ?_;exact Exists.intro x26 ⟨H,aP [] (.cons (.refl _) (.nil _)) rfl⟩
        ·replace H:=bf c22 H;refine aC ?_;exact Exists.intro x17 ⟨H,aP [] (.cons (.refl _) (.nil _)) rfl⟩
       rintro y28 H;replace H:hP F y28=some (r2,r3):=H
       unfold hP at H
       refine ac ?_;obtain ⟨x30,x31,e32,H⟩:=dd H;refine aa ?_;show AR _ _ _ _ _ [0,1,2,3,4,5,6] _;refine zm rfl<|ar rfl rfl (aX rfl yC rfl (vA F y28 x30 x31 e32) ?_);refine zS rfl (ah (av:=.tup _) rfl)<|zS rfl (ba (av:=.v _) rfl rfl)<|zS rfl (ba (av:=.v _) rfl rfl)<|za rfl<|za rfl<|ag<|ac<|aa ?_;show AR _ _ _ _ _ [0,1,2,3] _;refine zm rfl<|zm rfl<|za rfl<|za rfl<|ag<|aQ ?_;obtain ⟨rfl,rfl⟩:=ek H;exact And.intro rfl (Exists.intro _ (Exists.intro _ ⟨bt rfl (.refl _) (.refl _),aK [] rfl,rfl,rfl⟩))
set_option maxRecDepth 100000 in
set_option maxHeartbeats 1000000 in
theorem vz (F:Nat) (a1:List UInt8) (a2:Int) (r3:List UInt8) (r4:Bool) (H:lY F a1 a2=some (r3,r4)):ACalls Tryz.prog 112 [S a1,i64 a2] [] (Ret (.tup [S r3,B r4]) []):=by
 unfold lY at H
 refine az Tryz.func112 rfl rfl ?_;show AW _ _ 38 _ _ _;refine ac<|aa ?_;show AR _ _ _ _ _ [0,1] _;refine za rfl<|za rfl<|ag<|bq (X:=Unit) (fun _=>⟨[],[],[]⟩) (fun _=>jz=some (r3,r4)) ?_ ?_
 ·refine ac ?_;obtain ⟨g5,H⟩:=aI H;refine aa ?_;show AR _ _ _ _ _ [0,1,2] _;refine zm rfl<|zS rfl (bB rfl rfl g5)<|za rfl<|ag<|aR<|cl (X:=Nat×Int) (fun (n8,y6)=>⟨[(0,S a1),(1,i64 a2),(6,i64 y6)],[],[]⟩) (fun (n8,y6)=>jA a1 a2 n8 y6=some (r3,r4)) (fun (n8,y6)=>n8) (F,a2+1) H (aP [] (.cons (.refl _) (.cons (.refl _) (.cons (.refl _) (.nil _)))) rfl) ?_;rintro ⟨n8,y6⟩ H;obtain ⟨n8,rfl,H⟩:=cO H;replace H:jB a1 a2 (jA a1 a2 n8) y6=some (r3,r4):=H
  unfold jB at H
  refine ac<|ac ?_;obtain ⟨g10,H⟩:=cP H;refine aa ?_;show AR _ _ _ _ _ [0,1,2,3,4,5,6,7,8,9] _;refine zm rfl<|zm rfl<|zS rfl (aW ab rfl)<|zS rfl (bN rfl rfl)<|zm rfl<|bk (l:=[]) 18 (B ((decide (y6 < (a1.length:Int)))&&(decide (y6≤a2+11)))) (fun K=>?_) ?_
  ·rcases ap (decide (y6 < (a1.length:Int))) with h9 | h9
   ·refine zM h9 rfl<|zM h9 rfl<|zU h9 rfl (bB rfl rfl (g10 h9))<|zU h9 rfl (dW rfl rfl)<|zS rfl (aD (av:=.v _) rfl h9 rfl) ?_;exact K _ 4 _ (aw (cd h9)) rfl rfl
   ·refine zF h9 rfl<|zF h9 rfl<|zF h9 rfl<|zF h9 rfl<|zS rfl (aF (av:=.v _) rfl h9 rfl) ?_;exact K _ 4 _ (aw (cq h9)) rfl rfl
  refine ag<|ax rfl (fun c11=>?_) (fun c11=>?_)
  ·replace H:=be c11 H;refine aC<|ac<|aR<|ac<|ac ?_;obtain ⟨g12,H⟩:=aI H;obtain ⟨x13,e14,H⟩:=bz H;refine aa ?_;show AR _ _ _ _ _ [0,1,2,3] _;refine zm rfl<|zm rfl<|zS rfl (bg ab rfl rfl g12 e14)<|zS rfl (eS (a:=x13) (b:=38) rfl rfl)<|ag<|ax rfl (fun c15=>?_) (fun c15=>?_)
   ·replace H:=be c15 H;refine ac<|aa ?_;show AR _ _ _ _ _ [0,1] _;refine za rfl<|za rfl<|ag<|aQ ?_;obtain ⟨rfl,rfl⟩:=ek H;exact And.intro rfl (Exists.intro _ (Exists.intro _ ⟨bt rfl (.refl _) (.refl _),aK [] rfl,rfl,rfl⟩))
   ·replace H:=bf c15 H;refine aC<|ac ?_;obtain ⟨g16,H⟩:=aI H;obtain ⟨x17,e18,H⟩:=bz H;refine aa ?_;show AR _ _ _ _ _ [0,1,2,3] _;refine zm rfl<|zm rfl<|zS rfl (bg ab rfl rfl g16 e18)<|zS rfl (eS (a:=x17) (b:=59) rfl rfl)<|ag<|ax rfl (fun c19=>?_) (fun c19=>?_)
    ·replace H:=be c19 H;refine ac ?_;obtain ⟨g20,H⟩:=aI H;obtain ⟨g21,H⟩:=aI H;obtain ⟨x22,e23,H⟩:=bz H;obtain ⟨g24,H⟩:=aI H;refine aa ?_;show AR _ _ _ _ _ [0,1,2,3,4,5,6,7,8,9,10] _;refine zm rfl<|zm rfl<|zS rfl (bB rfl rfl g20)<|zm rfl<|zS rfl (bQ ab rfl rfl rfl g21 e23)<|zm rfl<|zm rfl<|zS rfl (bB rfl rfl g24)<|zS rfl (eN rfl rfl)<|za rfl<|za rfl<|ag<|aQ ?_;obtain ⟨rfl,rfl⟩:=ek H;exact And.intro rfl (Exists.intro _ (Exists.intro _ ⟨bt rfl (.refl _) (.refl _),aK [] rfl,rfl,rfl⟩))
    ·replace H:=bf c19 H;refine aC ?_;obtain ⟨g25,H⟩:=aI H;refine aa ?_;show AR _ _ _ _ _ [0,1,2] _;refine zm rfl<|zS rfl (bB rfl rfl g25)<|za rfl<|ag ?_;exact Exists.intro (n8,y6+1) ⟨H,Nat.lt_succ_self _,aP [] (.cons (.refl _) (.cons (.refl _) (.cons (.refl _) (.nil _)))) rfl⟩
  ·replace H:=bf c11 H;refine bU ?_;exact Exists.intro () ⟨H,aP [] (.nil _) rfl⟩
 rintro _ H;replace H:jz=some (r3,r4):=H
 unfold jz at H
 refine ac<|aa ?_;show AR _ _ _ _ _ [0,1] _;refine za rfl<|za rfl<|ag<|aQ ?_;obtain ⟨rfl,rfl⟩:=ek H;exact And.intro rfl (Exists.intro _ (Exists.intro _ ⟨bt rfl (.refl _) (.refl _),aK [] rfl,rfl,rfl⟩))
set_option maxRecDepth 100000 in
set_option maxHeartbeats 1000000 in
theorem vy (F:Nat) (a1:List UInt8) (r2:List UInt8) (r3:Bool) (H:lX F a1=some (r2,r3)):ACalls Tryz.prog 97 [S a1] [] (Ret (.tup [S r2,B r3]) []):=by
 unfold lX at H
 refine az Tryz.func97 rfl rfl ?_;show AW _ _ 53 _ _ _;refine ac<|aa ?_;show AR _ _ _ _ _ [0,1] _;refine za rfl<|za rfl<|ag<|ac<|aa ?_;show AR _ _ _ _ _ [0] _;refine za rfl<|ag ?_
 refine lK 4 1 5 rfl fun t4=>?_
 show AW _ _ _ _ _ ⟨(4,slE Enc.byte [] (some t4))::_,_,_⟩;refine ac<|aa ?_;show AR _ _ _ _ _ [0] _;refine za rfl<|ag<|bq (X:=(List UInt8)×Nat×Bool) (fun (y40,t41,y42)=>⟨[(4,slE Enc.byte y40 (some t41)),(5,B y42)],[],[.tok t41 5]⟩) (fun (y40,t41,y42)=>jx y40 y42=some (r2,r3)) ?_ ?_
 ·refine ac<|aa ?_;show AR _ _ _ _ _ [0] _;refine za rfl<|ag<|aR<|cl (X:=Nat×(List UInt8)×Nat×Bool×Int) (fun (n10,y5,t6,y7,y8)=>⟨[(0,S a1),(4,slE Enc.byte y5 (some t6)),(5,B y7),(6,i64 y8)],[],[.tok t6 5]⟩) (fun (n10,y5,t6,y7,y8)=>fX F a1 n10 (y5,y7,y8)=some (r2,r3)) (fun (n10,y5,t6,y7,y8)=>n10) (F,[],t4,true,0) H (aP [0] (.cons (.refl _) (.cons (.refl _) (.cons (.refl _) (.cons (.refl _) (.nil _))))) rfl) ?_;rintro ⟨n10,y5,t6,y7,y8⟩ H;obtain ⟨n10,rfl,H⟩:=cO H;replace H:jy F a1 (fX F a1 n10) y5 y7 y8=some (r2,r3):=H
  unfold jy at H
  refine ac<|ac<|aa ?_;show AR _ _ _ _ _ [0,1,2,3] _;refine zm rfl<|zm rfl<|zS rfl (aW ab rfl)<|zS rfl (bN rfl rfl)<|ag<|ax rfl (fun c11=>?_) (fun c11=>?_)
  ·replace H:=be c11 H;refine aC<|aR<|bq (X:=Bool) (fun y30=>⟨[(0,S a1),(4,slE Enc.byte y5 (some t6)),(5,B y30),(6,i64 y8)],[],[.tok t6 5]⟩) (fun y30=>hU a1 y5 y8 (fX F a1 n10) y30=some (r2,r3)) ?_ ?_
   ·refine ac ?_;obtain ⟨g12,H⟩:=aI H;obtain ⟨x13,e14,H⟩:=bz H;refine aa ?_;show AR _ _ _ _ _ [0,1,2,3] _;refine zm rfl<|zm rfl<|zS rfl (bg ab rfl rfl g12 e14)<|zS rfl (eS (a:=x13) (b:=38) rfl rfl)<|ag<|ax rfl (fun c15=>?_) (fun c15=>?_)
    ·replace H:=be c15 H;refine ac ?_;obtain ⟨x16,x17,e18,H⟩:=dd H;refine aa ?_;show AR _ _ _ _ _ [0,1,2,3,4,5,6,7] _;refine zm rfl<|zm rfl<|ar rfl rfl (aX rfl yF rfl (vz F a1 y8 x16 x17 e18) ?_);refine zS rfl (ah (av:=.tup _) rfl)<|zS rfl (ba (av:=.v _) rfl rfl)<|zS rfl (ba (av:=.v _) rfl rfl)<|za rfl<|za rfl<|ag<|ac ?_;obtain ⟨x19,x20,e21,H⟩:=dd H;refine aa ?_;show AR _ _ _ _ _ [0,1,2,3,4,5,6] _;refine zm rfl<|ar rfl rfl (aX rfl yE rfl (vx F x16 x19 x20 e21) ?_);refine zS rfl (ah (av:=.tup _) rfl)<|zS rfl (ba (av:=.v _) rfl rfl)<|zS rfl (ba (av:=.v _) rfl rfl)<|za rfl<|za rfl<|ag<|ac<|ac<|aa ?_;show AR _ _ _ _ _ [0,1,2,3] _;refine zm rfl<|zm rfl<|bk (l:=[]) 33 (B (x17&&x20)) (fun K=>?_) ?_
     ·rcases ap x17 with h22 | h22
      ·refine zM h22 rfl<|zS rfl (aD (av:=.v _) rfl h22 rfl) ?_;exact K _ 1 _ (aw (cd h22)) rfl rfl
      ·refine zF h22 rfl<|zS rfl (aF (av:=.v _) rfl h22 rfl) ?_;exact K _ 1 _ (aw (cq h22)) rfl rfl
     refine ag<|ax rfl (fun c23=>?_) (fun c23=>?_)
     ·replace H:=be c23 H;refine ac ?_;obtain ⟨g25,H⟩:=aI H;obtain ⟨x26,e27,H⟩:=bz H;refine aa ?_;show AR _ _ _ _ _ [0,1,2,3] _;refine zS rfl (ah (av:=slE _ _ _) rfl)<|zm rfl<|zX rfl (eK (bytes:=1) 0 ak ab rfl (by kernel_rfl) rfl rfl rfl rfl g25 e27) ?_;rintro _ _ ⟨t24,rfl,rfl⟩;refine zS rfl (aZ (av:=slE _ _ _) rfl)<|ag<|ac ?_;obtain ⟨g28,H⟩:=aI H;obtain ⟨g29,H⟩:=aI H;refine aa ?_;show AR _ _ _ _ _ [0,1,2,3,4,5] _;refine zm rfl<|zm rfl<|zS rfl (aW ab rfl)<|zS rfl (bB rfl rfl g28)<|zS rfl (bB rfl rfl g29)<|za rfl<|ag<|bU ?_;exact Exists.intro (n10,x26,t24,y7,(y8+(x16.length:Int))+2) ⟨H,Nat.lt_succ_self _,aP [0] (.cons (.refl _) (.cons (.refl _) (.cons (.refl _) (.cons (.refl _) (.nil _))))) rfl⟩
     ·replace H:=bf c23 H;refine aC<|aa ?_;show AR _ _ _ _ _ [0] _;refine za rfl<|ag ?_;exact Exists.intro false ⟨H,aP [0] (.cons (.refl _) (.cons (.refl _) (.cons (.refl _) (.cons (.refl _) (.nil _))))) rfl⟩
    ·replace H:=bf c15 H;refine aC ?_;exact Exists.intro y7 ⟨H,aP [0] (.cons (.refl _) (.cons (.refl _) (.cons (.refl _) (.cons (.refl _) (.nil _))))) rfl⟩
   rintro y30 H;replace H:hU a1 y5 y8 (fX F a1 n10) y30=some (r2,r3):=H
   unfold hU at H
   refine ac ?_;obtain ⟨g32,H⟩:=aI H;obtain ⟨x33,e34,H⟩:=bz H;obtain ⟨g36,H⟩:=aI H;obtain ⟨x37,e38,H⟩:=bz H;refine aa ?_;show AR _ _ _ _ _ [0,1,2,3,4,5,6] _;refine zS rfl (ah (av:=slE _ _ _) rfl)<|zm rfl<|zm rfl<|zS rfl (bg ab rfl rfl g32 e34)<|zR rfl (ce (E:=Enc.byte) (bytes:=1) (xs:=[.tmp 45]) (l:=([x33]:List UInt8)) ak (by kernel_rfl) rfl rfl (by decide) rfl rfl)<|zX rfl (cM (E:=Enc.byte) (bytes:=1) 0 ak ak rfl (by kernel_rfl) rfl rfl rfl rfl g36 e38) ?_;rintro _ _ ⟨t35,rfl,rfl⟩;refine zS rfl (aZ (av:=slE _ _ _) rfl)<|ag ?_;obtain ⟨g39,H⟩:=aI H;refine aa ?_;show AR _ _ _ _ _ [0,1,2] _;refine zm rfl<|zS rfl (bB rfl rfl g39)<|za rfl<|ag ?_;exact Exists.intro (n10,x37,t35,y30,y8+1) ⟨H,Nat.lt_succ_self _,aP [0] (.cons (.refl _) (.cons (.refl _) (.cons (.refl _) (.cons (.refl _) (.nil _))))) rfl⟩
  ·replace H:=bf c11 H;refine bU ?_;exact Exists.intro (y5,t6,y7) ⟨H,aP [0] (.cons (.refl _) (.cons (.refl _) (.nil _))) rfl⟩
 rintro ⟨y40,t41,y42⟩ H;replace H:jx y40 y42=some (r2,r3):=H
 unfold jx at H
 refine ac<|aa ?_;show AR _ _ _ _ _ [0,1,2,3,4] _;refine zS rfl (ah (av:=slE _ _ _) rfl)<|zS rfl (bV ak bi ab rfl)<|zm rfl<|za rfl<|za rfl<|ag<|aQ ?_;obtain ⟨rfl,rfl⟩:=ek H;exact And.intro rfl (Exists.intro _ (Exists.intro _ ⟨bt rfl (.refl _) (.refl _),aK [] rfl,rfl,rfl⟩))
set_option maxRecDepth 100000 in
set_option maxHeartbeats 1000000 in
theorem lT (F:Nat) (a1:List UInt8) (r2:List UInt8) (r3:Int) (H:iY F a1=some (r2,r3)):ACalls Tryz.prog 76 [S a1] [] (Ret (.tup [S r2,i64 r3]) []):=by
 unfold iY at H
 refine az Tryz.func76 rfl rfl ?_;show AW _ _ 14 _ _ _;refine ac<|aa ?_;show AR _ _ _ _ _ [0,1] _;refine za rfl<|za rfl<|ag<|ac ?_;obtain ⟨x4,x5,e6,H⟩:=dd H;refine aa ?_;show AR _ _ _ _ _ [0,1,2,3,4,5,6] _;refine zm rfl<|ar rfl rfl (aX rfl Aw rfl (vy F a1 x4 x5 e6) ?_);refine zS rfl (ah (av:=.tup _) rfl)<|zS rfl (ba (av:=.v _) rfl rfl)<|zS rfl (ba (av:=.v _) rfl rfl)<|za rfl<|za rfl<|ag<|ac<|ac<|aa ?_;show AR _ _ _ _ _ [0,1] _;refine zm rfl<|zS rfl (ca rfl)<|ag<|ax rfl (fun c7=>?_) (fun c7=>?_)
 ·replace H:=be c7 H;refine ac<|aa ?_;show AR _ _ _ _ _ [0,1] _;refine za rfl<|za rfl<|ag<|aQ ?_;obtain ⟨rfl,rfl⟩:=ek H;exact And.intro rfl (Exists.intro _ (Exists.intro _ ⟨bt rfl (.refl _) (.refl _),aK [] rfl,rfl,rfl⟩))
 ·replace H:=bf c7 H;refine aC<|ac<|aa ?_;show AR _ _ _ _ _ [0,1,2] _;refine zm rfl<|za rfl<|za rfl<|ag<|aQ ?_;obtain ⟨rfl,rfl⟩:=ek H;exact And.intro rfl (Exists.intro _ (Exists.intro _ ⟨bt rfl (.refl _) (.refl _),aK [] rfl,rfl,rfl⟩))
set_option maxRecDepth 100000 in
set_option maxHeartbeats 1000000 in
theorem om (F:Nat) (a1:List UInt8) (r2:List UInt8) (H:iX F a1=some r2):ACalls Tryz.prog 31 [S a1] [] (Ret (S r2) []):=by
 unfold iX at H
 refine az Tryz.func31 rfl rfl ?_;show AW _ _ 38 _ _ _;refine ac<|aa ?_;show AR _ _ _ _ _ [0] _;refine za rfl<|ag<|ac<|aa ?_;show AR _ _ _ _ _ [0] _;refine za rfl<|ag ?_
 refine lK 3 1 5 rfl fun t3=>?_
 show AW _ _ _ _ _ ⟨(3,slE Enc.byte [] (some t3))::_,_,_⟩;refine bq (X:=(List UInt8)×Nat) (fun (y44,t45)=>⟨[(3,slE Enc.byte y44 (some t45))],[],[.tok t45 5]⟩) (fun (y44,t45)=>gQ y44=some r2) ?_ ?_
 ·refine ac<|aa ?_;show AR _ _ _ _ _ [0] _;refine za rfl<|ag<|aR<|cl (X:=Nat×(List UInt8)×Nat×Int) (fun (n8,y4,t5,y6)=>⟨[(0,S a1),(3,slE Enc.byte y4 (some t5)),(4,i64 y6)],[],[.tok t5 5]⟩) (fun (n8,y4,t5,y6)=>dP a1 n8 (y4,y6)=some r2) (fun (n8,y4,t5,y6)=>n8) (F,[],t3,0) H (aP [0] (.cons (.refl _) (.cons (.refl _) (.cons (.refl _) (.nil _)))) rfl) ?_;rintro ⟨n8,y4,t5,y6⟩ H;obtain ⟨n8,rfl,H⟩:=cO H;replace H:gR a1 (dP a1 n8) y4 y6=some r2:=H
  unfold gR at H
  refine ac<|ac<|aa ?_;show AR _ _ _ _ _ [0,1,2,3] _;refine zm rfl<|zm rfl<|zS rfl (aW ab rfl)<|zS rfl (bN rfl rfl)<|ag<|ax rfl (fun c9=>?_) (fun c9=>?_)
  ·replace H:=be c9 H;refine aC<|bq (X:=(List UInt8)×Nat) (fun (y40,t41)=>⟨[(0,S a1),(3,slE Enc.byte y40 (some t41)),(4,i64 y6)],[],[.tok t41 5]⟩) (fun (y40,t41)=>dA y6 (dP a1 n8) y40=some r2) ?_ ?_
   ·refine aR<|ac ?_;obtain ⟨g10,H⟩:=aI H;obtain ⟨x11,e12,H⟩:=bz H;refine aa ?_;show AR _ _ _ _ _ [0,1,2] _;refine zm rfl<|zm rfl<|zS rfl (bg ab rfl rfl g10 e12)<|ag<|aR<|ac<|aa ?_;show AR _ _ _ _ _ [0,1] _;refine zS rfl (eS (a:=x11) (b:=38) rfl rfl)<|za rfl<|ag<|ax rfl (fun c13=>?_) (fun c13=>?_)
    ·replace H:=be c13 H;obtain ⟨g15,H⟩:=aI H;obtain ⟨x16,e17,H⟩:=bz H;refine aa ?_;show AR _ _ _ _ _ [0,1,2] _;refine zS rfl (ah (av:=slE _ _ _) rfl)<|zX rfl (eK (bytes:=1) 0 ak ab rfl (by kernel_rfl) rfl rfl rfl rfl g15 e17) ?_;rintro _ _ ⟨t14,rfl,rfl⟩;refine zS rfl (aZ (av:=slE _ _ _) rfl)<|ag ?_;exact Exists.intro (x16,t14) ⟨H,aP [0] (.cons (.refl _) (.cons (.refl _) (.cons (.refl _) (.nil _)))) rfl⟩
    ·replace H:=bf c13 H;refine ac<|aa ?_;show AR _ _ _ _ _ [0,1] _;refine zS rfl (eS (a:=x11) (b:=60) rfl rfl)<|za rfl<|ag<|ax rfl (fun c18=>?_) (fun c18=>?_)
     ·replace H:=be c18 H;obtain ⟨g20,H⟩:=aI H;obtain ⟨x21,e22,H⟩:=bz H;refine aa ?_;show AR _ _ _ _ _ [0,1,2] _;refine zS rfl (ah (av:=slE _ _ _) rfl)<|zX rfl (eK (bytes:=1) 0 ak ab rfl (by kernel_rfl) rfl rfl rfl rfl g20 e22) ?_;rintro _ _ ⟨t19,rfl,rfl⟩;refine zS rfl (aZ (av:=slE _ _ _) rfl)<|ag ?_;exact Exists.intro (x21,t19) ⟨H,aP [0] (.cons (.refl _) (.cons (.refl _) (.cons (.refl _) (.nil _)))) rfl⟩
     ·replace H:=bf c18 H;refine ac<|aa ?_;show AR _ _ _ _ _ [0,1] _;refine zS rfl (eS (a:=x11) (b:=62) rfl rfl)<|za rfl<|ag<|ax rfl (fun c23=>?_) (fun c23=>?_)
      ·replace H:=be c23 H;obtain ⟨g25,H⟩:=aI H;obtain ⟨x26,e27,H⟩:=bz H;refine aa ?_;show AR _ _ _ _ _ [0,1,2] _;refine zS rfl (ah (av:=slE _ _ _) rfl)<|zX rfl (eK (bytes:=1) 0 ak ab rfl (by kernel_rfl) rfl rfl rfl rfl g25 e27) ?_;rintro _ _ ⟨t24,rfl,rfl⟩;refine zS rfl (aZ (av:=slE _ _ _) rfl)<|ag ?_;exact Exists.intro (x26,t24) ⟨H,aP [0] (.cons (.refl _) (.cons (.refl _) (.cons (.refl _) (.nil _)))) rfl⟩
      ·replace H:=bf c23 H;refine ac<|aa ?_;show AR _ _ _ _ _ [0,1] _;refine zS rfl (eS (a:=x11) (b:=34) rfl rfl)<|za rfl<|ag<|ax rfl (fun c28=>?_) (fun c28=>?_)
       ·replace H:=be c28 H;obtain ⟨g30,H⟩:=aI H;obtain ⟨x31,e32,H⟩:=bz H;refine aa ?_;show AR _ _ _ _ _ [0,1,2] _;refine zS rfl (ah (av:=slE _ _ _) rfl)<|zX rfl (eK (bytes:=1) 0 ak ab rfl (by kernel_rfl) rfl rfl rfl rfl g30 e32) ?_;rintro _ _ ⟨t29,rfl,rfl⟩;refine zS rfl (aZ (av:=slE _ _ _) rfl)<|ag ?_;exact Exists.intro (x31,t29) ⟨H,aP [0] (.cons (.refl _) (.cons (.refl _) (.cons (.refl _) (.nil _)))) rfl⟩
       ·replace H:=bf c28 H;obtain ⟨g33,H⟩:=aI H;obtain ⟨x34,e35,H⟩:=bz H;obtain ⟨g37,H⟩:=aI H;obtain ⟨x38,e39,H⟩:=bz H;refine aa ?_;show AR _ _ _ _ _ [0,1,2,3,4,5,6] _;refine zS rfl (ah (av:=slE _ _ _) rfl)<|zm rfl<|zm rfl<|zS rfl (bg ab rfl rfl g33 e35)<|zR rfl (ce (E:=Enc.byte) (bytes:=1) (xs:=[.tmp 17]) (l:=([x34]:List UInt8)) ak (by kernel_rfl) rfl rfl (by decide) rfl rfl)<|zX rfl (cM (E:=Enc.byte) (bytes:=1) 0 ak ak rfl (by kernel_rfl) rfl rfl rfl rfl g37 e39) ?_;rintro _ _ ⟨t36,rfl,rfl⟩;refine zS rfl (aZ (av:=slE _ _ _) rfl)<|ag ?_;exact Exists.intro (x38,t36) ⟨H,aP [0] (.cons (.refl _) (.cons (.refl _) (.cons (.refl _) (.nil _)))) rfl⟩
   rintro ⟨y40,t41⟩ H;replace H:dA y6 (dP a1 n8) y40=some r2:=H
   unfold dA at H
   obtain ⟨g43,H⟩:=aI H;refine aa ?_;show AR _ _ _ _ _ [0,1,2] _;refine zm rfl<|zS rfl (bB rfl rfl g43)<|za rfl<|ag ?_;exact Exists.intro (n8,y40,t41,y6+1) ⟨H,Nat.lt_succ_self _,aP [0] (.cons (.refl _) (.cons (.refl _) (.cons (.refl _) (.nil _)))) rfl⟩
  ·replace H:=bf c9 H;refine bU ?_;exact Exists.intro (y4,t5) ⟨H,aP [0] (.cons (.refl _) (.nil _)) rfl⟩
 rintro ⟨y44,t45⟩ H;replace H:gQ y44=some r2:=H
 unfold gQ at H
 refine ac<|aa ?_;show AR _ _ _ _ _ [0,1,2] _;refine zS rfl (ah (av:=slE _ _ _) rfl)<|zS rfl (bV ak bi ab rfl)<|za rfl<|ag<|aQ ?_;obtain rfl:=aq H;exact And.intro rfl (Exists.intro _ (Exists.intro _ ⟨aO rfl (.refl _),aK [] rfl,rfl,rfl⟩))
end Go.Proofs.YteokdkimegepoaaGreatDoor
namespace Go.Pv
def kH (F:Nat) (a1:UInt8) (a2:Bool):Option Bool :=
bif (((decide (65≤(a1.toNat:Int)))&&(decide ((a1.toNat:Int)≤90)))||((decide (97≤(a1.toNat:Int)))&&(decide ((a1.toNat:Int)≤122))))||(decide (a1=95)) then
  some true
else
  some ((!a2)&&(((((decide (48≤(a1.toNat:Int)))&&(decide ((a1.toNat:Int)≤57)))||(decide (a1=45)))||(decide (a1=46)))||(decide (a1=58))))
def jw (a1:List UInt8):Option Bool :=
some ((decide (1≤(a1.length:Int)))&&(decide ((a1.length:Int)≤60)))
def fW (F:Nat) (a1:List UInt8) (rec4:Int→Option Bool) (y3:Int):Option Bool :=
bif decide (y3 < (a1.length:Int)) then
  grd (co y3 a1.length) <|
  lt (at_ a1 y3) fun x8 =>
  bnd (kH F x8 (decide (y3=0))) fun x10 =>
  bif !x10 then
    some false
  else
    grd (okI (y3+1)) <|
    rec4 (y3+1)
else
  jw a1
def fV (F:Nat) (a1:List UInt8) (n:Nat):Int→Option Bool :=
  loop (fun rec x=>fW F a1 rec x) n
def kI (F:Nat) (a1:List UInt8):Option Bool :=
fV F a1 F 0
def kn (y19:List UInt8):Option ((List UInt8)) :=
some y19
def fi (y4:Int) (rec5:((List UInt8)×Int)→Option ((List UInt8))) (y16:List UInt8):Option ((List UInt8)) :=
grd (okI (y4+1)) <|
rec5 (y16,y4+1)
def iB (a1:List UInt8) (rec5:((List UInt8)×Int)→Option ((List UInt8))) (y3:List UInt8) (y4:Int):Option ((List UInt8)) :=
bif decide (y4 < (a1.length:Int)) then
  grd (co y4 a1.length) <|
  lt (at_ a1 y4) fun x9 =>
  bif decide (x9=58) then
    grd (okI (y4+1)) <|
    grd (mb (y4+1) a1.length) <|
    lt (gW a1 (y4+1)) fun x14 =>
    fi y4 rec5 x14
  else
    fi y4 rec5 y3
else
  kn y3
def fj (a1:List UInt8) (n:Nat):((List UInt8)×Int)→Option ((List UInt8)) :=
  loop (fun rec x=>iB a1 rec x.1 x.2) n
def ll (F:Nat) (a1:List UInt8):Option ((List UInt8)) :=
fj a1 F (a1,0)
def cK (F:Nat) (a2:List UInt8) (a3:Int) (a4:List (List UInt8)) (a6:Int) (a7:List (Int×(List UInt8)×(List UInt8)×List ((List UInt8)×List UInt8))) (a9:Int) (a10:Int):Option Int :=
bif decide (a9=0) then
  some a10
else
  some a9
def cC (F:Nat) (a2:List UInt8) (a3:Int) (a4:List (List UInt8)) (a6:Int) (a7:List (Int×(List UInt8)×(List UInt8)×List ((List UInt8)×List UInt8))) (a9:Int) (a10:List UInt8):Option Bool :=
grd (okI ((a2.length:Int) - a3)) <|
fq (decide ((a10.length:Int)≤(a2.length:Int) - a3)) (okI (a3+(a10.length:Int))) <|
fq (decide ((a10.length:Int)≤(a2.length:Int) - a3)) (mG a3 (a3+(a10.length:Int)) a2.length) <|
lt (sub a2 a3 (a3+(a10.length:Int))) fun x16 =>
some ((decide ((a10.length:Int)≤(a2.length:Int) - a3))&&(decide (x16=a10)))
def iq (F:Nat) (a2:List UInt8) (a3:Int) (a4:List (List UInt8)) (a6:Int) (a7:List (Int×(List UInt8)×(List UInt8)×List ((List UInt8)×List UInt8))) (a9:Int):Option ((List UInt8)×Int×Int) :=
bnd (cK F a2 a3 a4 a6 a7 a9 2) fun x32 =>
some (([]:List UInt8),(a2.length:Int),x32)
def ip (a9:Int) (a10:List UInt8) (y14:Int) (y27:List UInt8):Option ((List UInt8)×Int×Int) :=
grd (okI (y14+(a10.length:Int))) <|
some (y27,y14+(a10.length:Int),a9)
def iu (F:Nat) (a2:List UInt8) (a3:Int) (a4:List (List UInt8)) (a6:Int) (a7:List (Int×(List UInt8)×(List UInt8)×List ((List UInt8)×List UInt8))) (a9:Int) (a10:List UInt8) (rec15:Int→Option ((List UInt8)×Int×Int)) (y14:Int):Option ((List UInt8)×Int×Int) :=
grd (okI (y14+(a10.length:Int))) <|
bif decide (y14+(a10.length:Int)≤(a2.length:Int)) then
  grd (okI (y14+(a10.length:Int))) <|
  grd (mG y14 (y14+(a10.length:Int)) a2.length) <|
  lt (sub a2 y14 (y14+(a10.length:Int))) fun x21 =>
  bif decide (x21=a10) then
    grd (mG a3 y14 a2.length) <|
    lt (sub a2 a3 y14) fun x25 =>
    ip a9 a10 y14 x25
  else
    grd (okI (y14+1)) <|
    rec15 (y14+1)
else
  iq F a2 a3 a4 a6 a7 a9
def ir (F:Nat) (a2:List UInt8) (a3:Int) (a4:List (List UInt8)) (a6:Int) (a7:List (Int×(List UInt8)×(List UInt8)×List ((List UInt8)×List UInt8))) (a9:Int) (a10:List UInt8) (n:Nat):Int→Option ((List UInt8)×Int×Int) :=
  loop (fun rec x=>iu F a2 a3 a4 a6 a7 a9 a10 rec x) n
def er (F:Nat) (a2:List UInt8) (a3:Int) (a4:List (List UInt8)) (a6:Int) (a7:List (Int×(List UInt8)×(List UInt8)×List ((List UInt8)×List UInt8))) (a9:Int) (a10:List UInt8):Option ((List UInt8)×Int×Int) :=
ir F a2 a3 a4 a6 a7 a9 a10 F a3
def gi (y28:Int) (y29:Int):Option (Int×Int) :=
some (y28,y29)
def gh (y12:Int) (y13:Int) (rec14:(Int×Int)→Option (Int×Int)) (y23:Bool):Option (Int×Int) :=
bif !y23 then
  gi y12 y13
else
  grd (okI (y13+1)) <|
  grd (okI (y12+1)) <|
  rec14 (y12+1,y13+1)
def gg (F:Nat) (a2:List UInt8) (y12:Int) (y13:Int) (rec14:(Int×Int)→Option (Int×Int)):Option (Int×Int) :=
bif decide (y13 < (a2.length:Int)) then
  grd (co y13 a2.length) <|
  lt (at_ a2 y13) fun x19 =>
  bnd (lm F x19) fun x21 =>
  gh y12 y13 rec14 x21
else
  gi y12 y13
def gj (F:Nat) (a2:List UInt8) (rec14:(Int×Int)→Option (Int×Int)) (y12:Int) (y13:Int):Option (Int×Int) :=
gg F a2 y12 y13 rec14
def dc (F:Nat) (a2:List UInt8) (n:Nat):(Int×Int)→Option (Int×Int) :=
  loop (fun rec x=>gj F a2 rec x.1 x.2) n
def hN (F:Nat) (a2:List UInt8) (a3:Int) (a4:List (List UInt8)) (a6:Int) (a7:List (Int×(List UInt8)×(List UInt8)×List ((List UInt8)×List UInt8))) (a9:Int):Option (Int×Int) :=
dc F a2 F (0,a3)
def iy (y27:Int) (y32:List UInt8) (y39:Int):Option ((List UInt8)×Int×Int) :=
some (y32,y27,y39)
def ix (F:Nat) (a2:List UInt8) (a4:List (List UInt8)) (a6:Int) (a7:List (Int×(List UInt8)×(List UInt8)×List ((List UInt8)×List UInt8))) (a9:Int) (y27:Int) (y32:List UInt8):Option ((List UInt8)×Int×Int) :=
bnd (kI F y32) fun x34 =>
bif !x34 then
  bnd (cK F a2 y27 a4 a6 a7 a9 2) fun x37 =>
  iy y27 y32 x37
else
  iy y27 y32 a9
def dK (F:Nat) (a2:List UInt8) (a3:Int) (a4:List (List UInt8)) (a6:Int) (a7:List (Int×(List UInt8)×(List UInt8)×List ((List UInt8)×List UInt8))) (a9:Int) (y27:Int):Option ((List UInt8)×Int×Int) :=
grd (mG a3 y27 a2.length) <|
lt (sub a2 a3 y27) fun x30 =>
ix F a2 a4 a6 a7 a9 y27 x30
def gn (F:Nat) (a2:List UInt8) (a3:Int) (a4:List (List UInt8)) (a6:Int) (a7:List (Int×(List UInt8)×(List UInt8)×List ((List UInt8)×List UInt8))) (a9:Int) (y13:Int) (rec14:Int→Option ((List UInt8)×Int×Int)) (y23:Bool):Option ((List UInt8)×Int×Int) :=
bif !y23 then
  dK F a2 a3 a4 a6 a7 a9 y13
else
  grd (okI (y13+1)) <|
  rec14 (y13+1)
def gm (F:Nat) (a2:List UInt8) (a3:Int) (a4:List (List UInt8)) (a6:Int) (a7:List (Int×(List UInt8)×(List UInt8)×List ((List UInt8)×List UInt8))) (a9:Int) (y13:Int) (rec14:Int→Option ((List UInt8)×Int×Int)):Option ((List UInt8)×Int×Int) :=
bif decide (y13 < (a2.length:Int)) then
  grd (co y13 a2.length) <|
  lt (at_ a2 y13) fun x19 =>
  bnd (kH F x19 (decide (y13=a3))) fun x21 =>
  gn F a2 a3 a4 a6 a7 a9 y13 rec14 x21
else
  dK F a2 a3 a4 a6 a7 a9 y13
def fe (F:Nat) (a2:List UInt8) (a3:Int) (a4:List (List UInt8)) (a6:Int) (a7:List (Int×(List UInt8)×(List UInt8)×List ((List UInt8)×List UInt8))) (a9:Int) (rec14:Int→Option ((List UInt8)×Int×Int)) (y13:Int):Option ((List UInt8)×Int×Int) :=
gm F a2 a3 a4 a6 a7 a9 y13 rec14
def dt (F:Nat) (a2:List UInt8) (a3:Int) (a4:List (List UInt8)) (a6:Int) (a7:List (Int×(List UInt8)×(List UInt8)×List ((List UInt8)×List UInt8))) (a9:Int) (n:Nat):Int→Option ((List UInt8)×Int×Int) :=
  loop (fun rec x=>fe F a2 a3 a4 a6 a7 a9 rec x) n
def eQ (F:Nat) (a2:List UInt8) (a3:Int) (a4:List (List UInt8)) (a6:Int) (a7:List (Int×(List UInt8)×(List UInt8)×List ((List UInt8)×List UInt8))) (a9:Int):Option ((List UInt8)×Int×Int) :=
dt F a2 a3 a4 a6 a7 a9 F a3
def jZ (F:Nat) (a2:List UInt8) (a3:Int) (a4:List (List UInt8)) (a6:Int) (a7:List (Int×(List UInt8)×(List UInt8)×List ((List UInt8)×List UInt8))) (a9:Int) (a10:List UInt8):Option ((List (Int×(List UInt8)×(List UInt8)×List ((List UInt8)×List UInt8)))) :=
bif decide (a10=([]:List UInt8)) then
  some a7
else
  bif decide (0 < (a4.length:Int)) then
    grd (cI (a7.length+([(2,([]:List UInt8),a10,([]:List ((List UInt8)×List UInt8)))]:List (Int×(List UInt8)×(List UInt8)×List ((List UInt8)×List UInt8))).length)) <|
    lt (a7++([(2,([]:List UInt8),a10,([]:List ((List UInt8)×List UInt8)))]:List (Int×(List UInt8)×(List UInt8)×List ((List UInt8)×List UInt8)))) fun x17 =>
    some x17
  else
    some a7
def fD (F:Nat) (a2:List UInt8) (a4:List (List UInt8)) (a6:Int) (a7:List (Int×(List UInt8)×(List UInt8)×List ((List UInt8)×List UInt8))) (a9:Int) (y35:Bool) (y36:Int) (y44:List UInt8) (y45:Int):Option (Int×(List (Int×(List UInt8)×(List UInt8)×List ((List UInt8)×List UInt8)))×Int) :=
bif (!decide (y45=0))||((decide ((a4.length:Int)=0))&&(!y35)) then
  bnd (cK F a2 y36 a4 a6 a7 a9 2) fun x50 =>
  some (y36,a7,x50)
else
  bnd (jZ F a2 y36 a4 a6 a7 a9 y44) fun x52 =>
  some (y36,x52,a9)
def fC (F:Nat) (a2:List UInt8) (a3:Int) (a4:List (List UInt8)) (a6:Int) (a7:List (Int×(List UInt8)×(List UInt8)×List ((List UInt8)×List UInt8))) (a9:Int) (y35:Bool) (y36:Int):Option (Int×(List (Int×(List UInt8)×(List UInt8)×List ((List UInt8)×List UInt8)))×Int) :=
grd (mG a3 y36 a2.length) <|
lt (sub a2 a3 y36) fun x39 =>
iE (iY F x39) fun x41 x42 =>
fD F a2 a4 a6 a7 a9 y35 y36 x41 x42
def gM (y14:Bool) (y15:Int) (rec16:(Bool×Int)→Option (Int×(List (Int×(List UInt8)×(List UInt8)×List ((List UInt8)×List UInt8)))×Int)) (y31:Bool):Option (Int×(List (Int×(List UInt8)×(List UInt8)×List ((List UInt8)×List UInt8)))×Int) :=
grd (okI (y15+1)) <|
rec16 (y14&&y31,y15+1)
def gL (F:Nat) (a2:List UInt8) (a3:Int) (a4:List (List UInt8)) (a6:Int) (a7:List (Int×(List UInt8)×(List UInt8)×List ((List UInt8)×List UInt8))) (a9:Int) (y14:Bool) (y15:Int) (rec16:(Bool×Int)→Option (Int×(List (Int×(List UInt8)×(List UInt8)×List ((List UInt8)×List UInt8)))×Int)) (y23:Bool):Option (Int×(List (Int×(List UInt8)×(List UInt8)×List ((List UInt8)×List UInt8)))×Int) :=
bif y23 then
  grd (co y15 a2.length) <|
  lt (at_ a2 y15) fun x27 =>
  bnd (lm F x27) fun x29 =>
  gM y14 y15 rec16 x29
else
  fC F a2 a3 a4 a6 a7 a9 y14 y15
def gN (F:Nat) (a2:List UInt8) (a3:Int) (a4:List (List UInt8)) (a6:Int) (a7:List (Int×(List UInt8)×(List UInt8)×List ((List UInt8)×List UInt8))) (a9:Int) (rec16:(Bool×Int)→Option (Int×(List (Int×(List UInt8)×(List UInt8)×List ((List UInt8)×List UInt8)))×Int)) (y14:Bool) (y15:Int):Option (Int×(List (Int×(List UInt8)×(List UInt8)×List ((List UInt8)×List UInt8)))×Int) :=
fq (decide (y15 < (a2.length:Int))) (co y15 a2.length) <|
lt (at_ a2 y15) fun x20 =>
gL F a2 a3 a4 a6 a7 a9 y14 y15 rec16 ((decide (y15 < (a2.length:Int)))&&(!decide (x20=60)))
def dz (F:Nat) (a2:List UInt8) (a3:Int) (a4:List (List UInt8)) (a6:Int) (a7:List (Int×(List UInt8)×(List UInt8)×List ((List UInt8)×List UInt8))) (a9:Int) (n:Nat):(Bool×Int)→Option (Int×(List (Int×(List UInt8)×(List UInt8)×List ((List UInt8)×List UInt8)))×Int) :=
  loop (fun rec x=>gN F a2 a3 a4 a6 a7 a9 rec x.1 x.2) n
def iV (F:Nat) (a2:List UInt8) (a3:Int) (a4:List (List UInt8)) (a6:Int) (a7:List (Int×(List UInt8)×(List UInt8)×List ((List UInt8)×List UInt8))) (a9:Int):Option (Int×(List (Int×(List UInt8)×(List UInt8)×List ((List UInt8)×List UInt8)))×Int) :=
dz F a2 a3 a4 a6 a7 a9 F (true,a3)
def iW (F:Nat) (a2:List UInt8) (a3:Int) (a4:List (List UInt8)) (a6:Int) (a7:List (Int×(List UInt8)×(List UInt8)×List ((List UInt8)×List UInt8))) (a9:Int) (a10:List UInt8):Option ((List (List UInt8))×(List (Int×(List UInt8)×(List UInt8)×List ((List UInt8)×List UInt8)))×Int) :=
fq (!(decide ((a4.length:Int)=0))) (okI ((a4.length:Int) - 1)) <|
fq (!(decide ((a4.length:Int)=0))) (co ((a4.length:Int) - 1) a4.length) <|
lt (at_ a4 ((a4.length:Int) - 1)) fun x19 =>
bif (decide ((a4.length:Int)=0))||(!decide (x19=a10)) then
  bnd (cK F a2 a3 a4 a6 a7 a9 2) fun x22 =>
  some (a4,a7,x22)
else
  grd (okI ((a4.length:Int) - 1)) <|
  grd (mb ((a4.length:Int) - 1) a4.length) <|
  lt (to_ a4 ((a4.length:Int) - 1)) fun x26 =>
  grd (cI x26.length) <|
  grd (cI (a7.length+([(1,a10,([]:List UInt8),([]:List ((List UInt8)×List UInt8)))]:List (Int×(List UInt8)×(List UInt8)×List ((List UInt8)×List UInt8))).length)) <|
  lt (a7++([(1,a10,([]:List UInt8),([]:List ((List UInt8)×List UInt8)))]:List (Int×(List UInt8)×(List UInt8)×List ((List UInt8)×List UInt8)))) fun x32 =>
  some (x26,x32,a9)
def hO (F:Nat) (a2:List UInt8) (a3:Int) (a4:List (List UInt8)) (a6:Int) (a7:List (Int×(List UInt8)×(List UInt8)×List ((List UInt8)×List UInt8))) (a9:Int):Option (Int×(List (List UInt8))×(List (Int×(List UInt8)×(List UInt8)×List ((List UInt8)×List UInt8)))×Int) :=
grd (okI (a3+2)) <|
rN (eQ F a2 (a3+2) a4 a6 a7 a9) fun x17 x18 x19 =>
iE (hN F a2 x18 a4 a6 a7 x19) fun x21 x22 =>
bnd (cC F a2 x22 a4 a6 a7 x19 ([62]:List UInt8)) fun x24 =>
bif !x24 then
  bnd (cK F a2 x22 a4 a6 a7 x19 2) fun x27 =>
  some (x22,a4,a7,x27)
else
  grd (okI (x22+1)) <|
  rN (iW F a2 (x22+1) a4 a6 a7 x19 x17) fun x30 x31 x32 =>
  some (x22+1,x30,x31,x32)
def iz (x15:List UInt8) (x37:Int) (x56:List UInt8) (y62:Int):Option ((List UInt8)×(List UInt8)×Int×Int) :=
some (x15,x56,x37,y62)
def fg (F:Nat) (a2:List UInt8) (a4:List (List UInt8)) (a6:Int) (a7:List (Int×(List UInt8)×(List UInt8)×List ((List UInt8)×List UInt8))) (x15:List UInt8) (x36:List UInt8) (x37:Int) (y54:Int):Option ((List UInt8)×(List UInt8)×Int×Int) :=
iE (iY F x36) fun x56 x57 =>
bif !decide (x57=0) then
  bnd (cK F a2 x37 a4 a6 a7 y54 x57) fun x60 =>
  iz x15 x37 x56 x60
else
  iz x15 x37 x56 y54
def ff (y40:Int) (rec42:(Int×Int)→Option ((List UInt8)×(List UInt8)×Int×Int)) (y51:Int):Option ((List UInt8)×(List UInt8)×Int×Int) :=
grd (okI (y40+1)) <|
rec42 (y40+1,y51)
def iA (F:Nat) (a2:List UInt8) (a4:List (List UInt8)) (a6:Int) (a7:List (Int×(List UInt8)×(List UInt8)×List ((List UInt8)×List UInt8))) (x15:List UInt8) (x36:List UInt8) (x37:Int) (rec42:(Int×Int)→Option ((List UInt8)×(List UInt8)×Int×Int)) (y40:Int) (y41:Int):Option ((List UInt8)×(List UInt8)×Int×Int) :=
bif decide (y40 < (x36.length:Int)) then
  grd (co y40 x36.length) <|
  lt (at_ x36 y40) fun x46 =>
  bif decide (x46=60) then
    bnd (cK F a2 x37 a4 a6 a7 y41 2) fun x49 =>
    ff y40 rec42 x49
  else
    ff y40 rec42 y41
else
  fg F a2 a4 a6 a7 x15 x36 x37 y41
def fh (F:Nat) (a2:List UInt8) (a4:List (List UInt8)) (a6:Int) (a7:List (Int×(List UInt8)×(List UInt8)×List ((List UInt8)×List UInt8))) (x15:List UInt8) (x36:List UInt8) (x37:Int) (n:Nat):(Int×Int)→Option ((List UInt8)×(List UInt8)×Int×Int) :=
  loop (fun rec x=>iA F a2 a4 a6 a7 x15 x36 x37 rec x.1 x.2) n
def du (F:Nat) (a2:List UInt8) (a4:List (List UInt8)) (a6:Int) (a7:List (Int×(List UInt8)×(List UInt8)×List ((List UInt8)×List UInt8))) (x15:List UInt8) (x16:Int) (x17:Int) (y33:List UInt8):Option ((List UInt8)×(List UInt8)×Int×Int) :=
grd (okI (x16+2)) <|
rN (er F a2 (x16+2) a4 a6 a7 x17 y33) fun x36 x37 x38 =>
fh F a2 a4 a6 a7 x15 x36 x37 F (0,x38)
def lk (F:Nat) (a2:List UInt8) (a3:Int) (a4:List (List UInt8)) (a6:Int) (a7:List (Int×(List UInt8)×(List UInt8)×List ((List UInt8)×List UInt8))) (a9:Int):Option ((List UInt8)×(List UInt8)×Int×Int) :=
rN (eQ F a2 a3 a4 a6 a7 a9) fun x15 x16 x17 =>
bnd (cC F a2 x16 a4 a6 a7 x17 ([61,34]:List UInt8)) fun x20 =>
bnd (cC F a2 x16 a4 a6 a7 x17 ([61,39]:List UInt8)) fun x22 =>
bif (!x20)&&(!x22) then
  bnd (cK F a2 x16 a4 a6 a7 x17 2) fun x26 =>
  some (x15,([]:List UInt8),x16,x26)
else
  grd (okI (x16+1)) <|
  grd (okI (x16+2)) <|
  grd (mG (x16+1) (x16+2) a2.length) <|
  lt (sub a2 (x16+1) (x16+2)) fun x31 =>
  du F a2 a4 a6 a7 x15 x16 x17 x31
def fH (F:Nat) (a2:List UInt8) (x18:List UInt8) (y70:Int) (y71:Int) (y81:Int) (x83:Bool) (y101:List (List UInt8)) (y113:List (Int×(List UInt8)×(List UInt8)×List ((List UInt8)×List UInt8))):Option (Int×(List (List UInt8))×Int×(List (Int×(List UInt8)×(List UInt8)×List ((List UInt8)×List UInt8)))×Int) :=
grd (okI (y70+1)) <|
bif x83 then
  grd (okI ((y70+1)+1)) <|
  rN (iW F a2 ((y70+1)+1) y101 y81 y113 y71 x18) fun x119 x120 x121 =>
  some ((y70+1)+1,x119,y81,x120,x121)
else
  some (y70+1,y101,y81,y113,y71)
def fG (F:Nat) (a2:List UInt8) (a7:List (Int×(List UInt8)×(List UInt8)×List ((List UInt8)×List UInt8))) (x18:List UInt8) (y70:Int) (y71:Int) (y72:List ((List UInt8)×List UInt8)) (y81:Int) (x83:Bool) (y101:List (List UInt8)):Option (Int×(List (List UInt8))×Int×(List (Int×(List UInt8)×(List UInt8)×List ((List UInt8)×List UInt8)))×Int) :=
bif decide (20 < (y101.length:Int)) then
  bnd (cK F a2 y70 y101 y81 a7 y71 5) fun x105 =>
  some (y70,y101,y81,a7,x105)
else
  grd (cI (a7.length+([(0,x18,([]:List UInt8),y72)]:List (Int×(List UInt8)×(List UInt8)×List ((List UInt8)×List UInt8))).length)) <|
  lt (a7++([(0,x18,([]:List UInt8),y72)]:List (Int×(List UInt8)×(List UInt8)×List ((List UInt8)×List UInt8)))) fun x109 =>
  fH F a2 x18 y70 y71 y81 x83 y101 x109
def dH (F:Nat) (a2:List UInt8) (a4:List (List UInt8)) (a7:List (Int×(List UInt8)×(List UInt8)×List ((List UInt8)×List UInt8))) (x18:List UInt8) (y70:Int) (y71:Int) (y72:List ((List UInt8)×List UInt8)) (y81:Int):Option (Int×(List (List UInt8))×Int×(List (Int×(List UInt8)×(List UInt8)×List ((List UInt8)×List UInt8)))×Int) :=
bnd (cC F a2 y70 a4 y81 a7 y71 ([47,62]:List UInt8)) fun x83 =>
grd (cI a4.length) <|
grd (cI (a4.length+([x18]:List (List UInt8)).length)) <|
lt (a4++([x18]:List (List UInt8))) fun x89 =>
fG F a2 a7 x18 y70 y71 y72 y81 x83 x89
def dk (F:Nat) (a2:List UInt8) (a4:List (List UInt8)) (a6:Int) (a7:List (Int×(List UInt8)×(List UInt8)×List ((List UInt8)×List UInt8))) (x18:List UInt8) (y70:Int) (y71:Int) (y72:List ((List UInt8)×List UInt8)):Option (Int×(List (List UInt8))×Int×(List (Int×(List UInt8)×(List UInt8)×List ((List UInt8)×List UInt8)))×Int) :=
bif !decide (y71=0) then
  some (y70,a4,a6,a7,y71)
else
  bif decide ((a4.length:Int)=0) then
    grd (okI (a6+1)) <|
    bif decide (1 < a6+1) then
      bnd (cK F a2 y70 a4 (a6+1) a7 y71 2) fun x79 =>
      some (y70,a4,a6+1,a7,x79)
    else
      dH F a2 a4 a7 x18 y70 y71 y72 (a6+1)
  else
    dH F a2 a4 a7 x18 y70 y71 y72 a6
def dG (y24:List ((List UInt8)×List UInt8)) (x44:List UInt8) (x45:List UInt8) (x46:Int) (rec28:((List ((List UInt8)×List UInt8))×Int×Int)→Option (Int×(List (List UInt8))×Int×(List (Int×(List UInt8)×(List UInt8)×List ((List UInt8)×List UInt8)))×Int)) (y64:Int):Option (Int×(List (List UInt8))×Int×(List (Int×(List UInt8)×(List UInt8)×List ((List UInt8)×List UInt8)))×Int) :=
grd (cI (y24.length+([(x44,x45)]:List ((List UInt8)×List UInt8)).length)) <|
lt (y24++([(x44,x45)]:List ((List UInt8)×List UInt8))) fun x68 =>
rec28 (x68,x46,y64)
def dF (y50:Int) (rec52:(Int×Int)→Option (Int×(List (List UInt8))×Int×(List (Int×(List UInt8)×(List UInt8)×List ((List UInt8)×List UInt8)))×Int)) (y61:Int):Option (Int×(List (List UInt8))×Int×(List (Int×(List UInt8)×(List UInt8)×List ((List UInt8)×List UInt8)))×Int) :=
grd (okI (y50+1)) <|
rec52 (y50+1,y61)
def fI (F:Nat) (a2:List UInt8) (a4:List (List UInt8)) (a6:Int) (a7:List (Int×(List UInt8)×(List UInt8)×List ((List UInt8)×List UInt8))) (y24:List ((List UInt8)×List UInt8)) (x44:List UInt8) (x45:List UInt8) (x46:Int) (rec28:((List ((List UInt8)×List UInt8))×Int×Int)→Option (Int×(List (List UInt8))×Int×(List (Int×(List UInt8)×(List UInt8)×List ((List UInt8)×List UInt8)))×Int)) (rec52:(Int×Int)→Option (Int×(List (List UInt8))×Int×(List (Int×(List UInt8)×(List UInt8)×List ((List UInt8)×List UInt8)))×Int)) (y50:Int) (y51:Int):Option (Int×(List (List UInt8))×Int×(List (Int×(List UInt8)×(List UInt8)×List ((List UInt8)×List UInt8)))×Int) :=
bif decide (y50 < (y24.length:Int)) then
  grd (co y50 y24.length) <|
  lt (at_ y24 y50) fun x56 =>
  bif decide (x56.1=x44) then
    bnd (cK F a2 x46 a4 a6 a7 y51 2) fun x59 =>
    dF y50 rec52 x59
  else
    dF y50 rec52 y51
else
  dG y24 x44 x45 x46 rec28 y51
def cV (F:Nat) (a2:List UInt8) (a4:List (List UInt8)) (a6:Int) (a7:List (Int×(List UInt8)×(List UInt8)×List ((List UInt8)×List UInt8))) (y24:List ((List UInt8)×List UInt8)) (x44:List UInt8) (x45:List UInt8) (x46:Int) (rec28:((List ((List UInt8)×List UInt8))×Int×Int)→Option (Int×(List (List UInt8))×Int×(List (Int×(List UInt8)×(List UInt8)×List ((List UInt8)×List UInt8)))×Int)) (n:Nat):(Int×Int)→Option (Int×(List (List UInt8))×Int×(List (Int×(List UInt8)×(List UInt8)×List ((List UInt8)×List UInt8)))×Int) :=
  loop (fun rec x=>fI F a2 a4 a6 a7 y24 x44 x45 x46 rec28 rec x.1 x.2) n
def dI (F:Nat) (a2:List UInt8) (a4:List (List UInt8)) (a6:Int) (a7:List (Int×(List UInt8)×(List UInt8)×List ((List UInt8)×List UInt8))) (x18:List UInt8) (rec28:((List ((List UInt8)×List UInt8))×Int×Int)→Option (Int×(List (List UInt8))×Int×(List (Int×(List UInt8)×(List UInt8)×List ((List UInt8)×List UInt8)))×Int)) (y24:List ((List UInt8)×List UInt8)) (y26:Int) (y27:Int):Option (Int×(List (List UInt8))×Int×(List (Int×(List UInt8)×(List UInt8)×List ((List UInt8)×List UInt8)))×Int) :=
bif decide (y27=0) then
  iE (hN F a2 y26 a4 a6 a7 y27) fun x31 x32 =>
  bnd (cC F a2 x32 a4 a6 a7 y27 ([62]:List UInt8)) fun x34 =>
  bnd (cC F a2 x32 a4 a6 a7 y27 ([47,62]:List UInt8)) fun x36 =>
  bif x34||x36 then
    dk F a2 a4 a6 a7 x18 x32 y27 y24
  else
    bif (decide (x31=0))||(decide ((a2.length:Int)≤x32)) then
      bnd (cK F a2 x32 a4 a6 a7 y27 2) fun x42 =>
      some (x32,a4,a6,a7,x42)
    else
      bnd4 (lk F a2 x32 a4 a6 a7 y27) fun x44 x45 x46 x47 =>
      cV F a2 a4 a6 a7 y24 x44 x45 x46 rec28 F (0,x47)
else
  dk F a2 a4 a6 a7 x18 y26 y27 y24
def bL (F:Nat) (a2:List UInt8) (a4:List (List UInt8)) (a6:Int) (a7:List (Int×(List UInt8)×(List UInt8)×List ((List UInt8)×List UInt8))) (x18:List UInt8) (n:Nat):((List ((List UInt8)×List UInt8))×Int×Int)→Option (Int×(List (List UInt8))×Int×(List (Int×(List UInt8)×(List UInt8)×List ((List UInt8)×List UInt8)))×Int) :=
  loop (fun rec x=>dI F a2 a4 a6 a7 x18 rec x.1 x.2.1 x.2.2) n
def iw (F:Nat) (a2:List UInt8) (a3:Int) (a4:List (List UInt8)) (a6:Int) (a7:List (Int×(List UInt8)×(List UInt8)×List ((List UInt8)×List UInt8))) (a9:Int):Option (Int×(List (List UInt8))×Int×(List (Int×(List UInt8)×(List UInt8)×List ((List UInt8)×List UInt8)))×Int) :=
grd (okI (a3+1)) <|
rN (eQ F a2 (a3+1) a4 a6 a7 a9) fun x18 x19 x20 =>
bL F a2 a4 a6 a7 x18 F ([],x19,x20)
def fc (F:Nat) (a2:List UInt8) (a4:List (List UInt8)) (a6:Int) (a7:List (Int×(List UInt8)×(List UInt8)×List ((List UInt8)×List UInt8))) (x52:List UInt8) (x53:Int) (y59:Int):Option (Int×(List (List UInt8))×Int×(List (Int×(List UInt8)×(List UInt8)×List ((List UInt8)×List UInt8)))×Int) :=
bnd (jZ F a2 x53 a4 a6 a7 y59 x52) fun x61 =>
some (x53,a4,a6,x61,y59)
def iv (F:Nat) (a2:List UInt8) (a3:Int) (a4:List (List UInt8)) (a6:Int) (a7:List (Int×(List UInt8)×(List UInt8)×List ((List UInt8)×List UInt8))) (a9:Int) (x17:Bool) (x19:Bool) (x21:Bool) (x23:Bool) (x25:Bool) (y30:Bool):Option (Int×(List (List UInt8))×Int×(List (Int×(List UInt8)×(List UInt8)×List ((List UInt8)×List UInt8)))×Int) :=
bif y30 then
  rN (iV F a2 a3 a4 a6 a7 a9) fun x33 x34 x35 =>
  some (x33,a4,a6,x34,x35)
else
  bif x17 then
    grd (okI (a3+4)) <|
    rN (er F a2 (a3+4) a4 a6 a7 a9 ([45,45,62]:List UInt8)) fun x40 x41 x42 =>
    some (x41,a4,a6,a7,x42)
  else
    bif x19 then
      grd (okI (a3+2)) <|
      rN (er F a2 (a3+2) a4 a6 a7 a9 ([63,62]:List UInt8)) fun x46 x47 x48 =>
      some (x47,a4,a6,a7,x48)
    else
      bif x21 then
        grd (okI (a3+9)) <|
        rN (er F a2 (a3+9) a4 a6 a7 a9 ([93,93,62]:List UInt8)) fun x52 x53 x54 =>
        bif decide ((a4.length:Int)=0) then
          bnd (cK F a2 x53 a4 a6 a7 x54 2) fun x57 =>
          fc F a2 a4 a6 a7 x52 x53 x57
        else
          fc F a2 a4 a6 a7 x52 x53 x54
      else
        bif x23 then
          grd (okI (a3+2)) <|
          rN (er F a2 (a3+2) a4 a6 a7 a9 ([62]:List UInt8)) fun x66 x67 x68 =>
          some (x67,a4,a6,a7,x68)
        else
          bif x25 then
            bnd4 (hO F a2 a3 a4 a6 a7 a9) fun x71 x72 x73 x74 =>
            some (x71,x72,a6,x73,x74)
          else
            bnd5 (iw F a2 a3 a4 a6 a7 a9) fun x78 x79 x80 x81 x82 =>
            some (x78,x79,x80,x81,x82)
def lj (F:Nat) (a2:List UInt8) (a3:Int) (a4:List (List UInt8)) (a6:Int) (a7:List (Int×(List UInt8)×(List UInt8)×List ((List UInt8)×List UInt8))) (a9:Int):Option (Int×(List (List UInt8))×Int×(List (Int×(List UInt8)×(List UInt8)×List ((List UInt8)×List UInt8)))×Int) :=
bnd (cC F a2 a3 a4 a6 a7 a9 ([60,33,45,45]:List UInt8)) fun x17 =>
bnd (cC F a2 a3 a4 a6 a7 a9 ([60,63]:List UInt8)) fun x19 =>
bnd (cC F a2 a3 a4 a6 a7 a9 ([60,33,91,67,68,65,84,65,91]:List UInt8)) fun x21 =>
bnd (cC F a2 a3 a4 a6 a7 a9 ([60,33]:List UInt8)) fun x23 =>
bnd (cC F a2 a3 a4 a6 a7 a9 ([60,47]:List UInt8)) fun x25 =>
grd (co a3 a2.length) <|
lt (at_ a2 a3) fun x28 =>
iv F a2 a3 a4 a6 a7 a9 x17 x19 x21 x23 x25 (!decide (x28=60))
def fB (y34:List (Int×(List UInt8)×(List UInt8)×List ((List UInt8)×List UInt8))) (y41:Int):Option ((List (Int×(List UInt8)×(List UInt8)×List ((List UInt8)×List UInt8)))×Int) :=
bif !decide (y41=0) then
  some ([],y41)
else
  some (y34,0)
def fA (y30:Int) (y31:List (List UInt8)) (y33:Int) (y34:List (Int×(List UInt8)×(List UInt8)×List ((List UInt8)×List UInt8))) (y36:Int):Option ((List (Int×(List UInt8)×(List UInt8)×List ((List UInt8)×List UInt8)))×Int) :=
bif (decide (y36=0))&&((decide (0 < (y31.length:Int)))||(decide (y33=0))) then
  fB y34 2
else
  fB y34 y36
def fy (F:Nat) (a1:List UInt8) (y9:Int) (y10:List (List UInt8)) (y12:Int) (y13:List (Int×(List UInt8)×(List UInt8)×List ((List UInt8)×List UInt8))) (y15:Int) (rec16:(Int×(List (List UInt8))×Int×(List (Int×(List UInt8)×(List UInt8)×List ((List UInt8)×List UInt8)))×Int)→Option ((List (Int×(List UInt8)×(List UInt8)×List ((List UInt8)×List UInt8)))×Int)):Option ((List (Int×(List UInt8)×(List UInt8)×List ((List UInt8)×List UInt8)))×Int) :=
bif (decide (y9 < (a1.length:Int)))&&(decide (y15=0)) then
  bnd5 (lj F a1 y9 y10 y12 y13 y15) fun x22 x23 x24 x25 x26 =>
  rec16 (x22,x23,x24,x25,x26)
else
  fA y9 y10 y12 y13 y15
def eB (F:Nat) (a1:List UInt8) (rec16:(Int×(List (List UInt8))×Int×(List (Int×(List UInt8)×(List UInt8)×List ((List UInt8)×List UInt8)))×Int)→Option ((List (Int×(List UInt8)×(List UInt8)×List ((List UInt8)×List UInt8)))×Int)) (y9:Int) (y10:List (List UInt8)) (y12:Int) (y13:List (Int×(List UInt8)×(List UInt8)×List ((List UInt8)×List UInt8))) (y15:Int):Option ((List (Int×(List UInt8)×(List UInt8)×List ((List UInt8)×List UInt8)))×Int) :=
fy F a1 y9 y10 y12 y13 y15 rec16
def dy (F:Nat) (a1:List UInt8) (n:Nat):(Int×(List (List UInt8))×Int×(List (Int×(List UInt8)×(List UInt8)×List ((List UInt8)×List UInt8)))×Int)→Option ((List (Int×(List UInt8)×(List UInt8)×List ((List UInt8)×List UInt8)))×Int) :=
  loop (fun rec x=>eB F a1 rec x.1 x.2.1 x.2.2.1 x.2.2.2.1 x.2.2.2.2) n
def gD (F:Nat) (a1:List UInt8):Option ((List (Int×(List UInt8)×(List UInt8)×List ((List UInt8)×List UInt8)))×Int) :=
bif decide (100000 < (a1.length:Int)) then
  some ([],4)
else
  dy F a1 F (0,[],0,[],0)
end Go.Pv
namespace Go.Proofs.YteokdkimegepoaaGreatDoor
open Go.RowKit Go.Av Go.Pv
theorem Bh:∀ (args:Array Value) (w:World),(callFunc 17 args).run Tryz.prog w=.ok (.enter 17 args) w:=fun _ _=>by kernel_rfl
theorem Bd:∀ (args:Array Value) (w:World),(callFunc 24 args).run Tryz.prog w=.ok (.enter 24 args) w:=fun _ _=>by kernel_rfl
theorem kQ:∀ (args:Array Value) (w:World),(callFunc 32 args).run Tryz.prog w=.ok (.enter 32 args) w:=fun _ _=>by kernel_rfl
theorem gq:∀ (args:Array Value) (w:World),(callFunc 44 args).run Tryz.prog w=.ok (.enter 44 args) w:=fun _ _=>by kernel_rfl
theorem AP:∀ (args:Array Value) (w:World),(callFunc 45 args).run Tryz.prog w=.ok (.enter 45 args) w:=fun _ _=>by kernel_rfl
theorem nd:∀ (args:Array Value) (w:World),(callFunc 46 args).run Tryz.prog w=.ok (.enter 46 args) w:=fun _ _=>by kernel_rfl
theorem fa:∀ (args:Array Value) (w:World),(callFunc 47 args).run Tryz.prog w=.ok (.enter 47 args) w:=fun _ _=>by kernel_rfl
theorem uV:∀ (args:Array Value) (w:World),(callFunc 48 args).run Tryz.prog w=.ok (.enter 48 args) w:=fun _ _=>by kernel_rfl
theorem AN:∀ (args:Array Value) (w:World),(callFunc 49 args).run Tryz.prog w=.ok (.enter 49 args) w:=fun _ _=>by kernel_rfl
theorem AL:∀ (args:Array Value) (w:World),(callFunc 50 args).run Tryz.prog w=.ok (.enter 50 args) w:=fun _ _=>by kernel_rfl
theorem oY:∀ (args:Array Value) (w:World),(callFunc 75 args).run Tryz.prog w=.ok (.enter 75 args) w:=fun _ _=>by kernel_rfl
theorem qX:∀ (args:Array Value) (w:World),(callFunc 76 args).run Tryz.prog w=.ok (.enter 76 args) w:=fun _ _=>by kernel_rfl
theorem qW:∀ (args:Array Value) (w:World),(callFunc 77 args).run Tryz.prog w=.ok (.enter 77 args) w:=fun _ _=>by kernel_rfl
theorem uP:∀ (args:Array Value) (w:World),(callFunc 78 args).run Tryz.prog w=.ok (.enter 78 args) w:=fun _ _=>by kernel_rfl
theorem uO:∀ (args:Array Value) (w:World),(callFunc 79 args).run Tryz.prog w=.ok (.enter 79 args) w:=fun _ _=>by kernel_rfl
theorem AF:∀ (args:Array Value) (w:World),(callFunc 80 args).run Tryz.prog w=.ok (.enter 80 args) w:=fun _ _=>by kernel_rfl
set_option maxRecDepth 100000 in
set_option maxHeartbeats 1000000 in
theorem gB (F:Nat) (a1:UInt8) (a2:Bool) (r3:Bool) (H:kH F a1 a2=some r3):ACalls Tryz.prog 32 [u8 a1,B a2] [] (Ret (B r3) []):=by
 unfold kH at H
 refine az Tryz.func32 rfl rfl ?_;show AW _ _ 45 _ _ _;refine ac<|aa ?_;show AR _ _ _ _ _ [0] _;refine za rfl<|ag<|ac<|ac<|aa ?_;show AR _ _ _ _ _ [0,1,2,3,4,5,6,7,8,9,10,11,12,13,14,15,16,17] _;refine zm rfl<|zS rfl (cX rfl rfl)<|zm rfl<|bk (l:=[6,7,8,9,10,11,12,13,14,15,16,17]) 10 (B ((decide (65≤(a1.toNat:Int)))&&(decide ((a1.toNat:Int)≤90)))) (fun K=>?_) ?_
 ·rcases ap (decide (65≤(a1.toNat:Int))) with h4 | h4
  ·refine zM h4 rfl<|zU h4 rfl (dW rfl rfl)<|zS rfl (aD (av:=.v _) rfl h4 rfl) ?_;exact K _ 2 _ (aw (cd h4)) rfl rfl
  ·refine zF h4 rfl<|zF h4 rfl<|zS rfl (aF (av:=.v _) rfl h4 rfl) ?_;exact K _ 2 _ (aw (cq h4)) rfl rfl
 refine zm rfl<|bk (l:=[14,15,16,17]) 18 (B (((decide (65≤(a1.toNat:Int)))&&(decide ((a1.toNat:Int)≤90)))||((decide (97≤(a1.toNat:Int)))&&(decide ((a1.toNat:Int)≤122))))) (fun K=>?_) ?_
 ·rcases ap ((decide (65≤(a1.toNat:Int)))&&(decide ((a1.toNat:Int)≤90))) with h5 | h5
  ·refine zF h5 rfl<|zF h5 rfl<|zF h5 rfl<|gU rfl rfl rfl rfl rfl<|gU rfl rfl rfl rfl rfl<|zF h5 rfl<|zS rfl (aD (av:=.v _) rfl h5 rfl) ?_;exact K _ 6 _ (aw (ii h5)) rfl rfl
  ·refine zM h5 rfl<|zU h5 rfl (cX rfl rfl)<|zM h5 rfl<|bk (l:=[13,14,15,16,17]) 17 (B ((decide (97≤(a1.toNat:Int)))&&(decide ((a1.toNat:Int)≤122)))) (fun K=>?_) ?_
   ·rcases ap (decide (97≤(a1.toNat:Int))) with h6 | h6
    ·refine zM h6 rfl<|zU h6 rfl (dW rfl rfl)<|zU h5 rfl (aD (av:=.v _) rfl h6 rfl) ?_;exact K _ 2 _ (aw (cd h6)) rfl rfl
    ·refine zF h6 rfl<|zF h6 rfl<|zU h5 rfl (aF (av:=.v _) rfl h6 rfl) ?_;exact K _ 2 _ (aw (cq h6)) rfl rfl
   refine zS rfl (aF (av:=.v _) rfl h5 rfl) ?_;exact K _ 4 _ (aw (ie h5)) rfl rfl
 refine zm rfl<|bk (l:=[]) 22 (B ((((decide (65≤(a1.toNat:Int)))&&(decide ((a1.toNat:Int)≤90)))||((decide (97≤(a1.toNat:Int)))&&(decide ((a1.toNat:Int)≤122))))||(decide (a1=95)))) (fun K=>?_) ?_
 ·rcases ap (((decide (65≤(a1.toNat:Int)))&&(decide ((a1.toNat:Int)≤90)))||((decide (97≤(a1.toNat:Int)))&&(decide ((a1.toNat:Int)≤122)))) with h7 | h7
  ·refine zF h7 rfl<|zF h7 rfl<|zS rfl (aD (av:=.v _) rfl h7 rfl) ?_;exact K _ 2 _ (aw (ii h7)) rfl rfl
  ·refine zM h7 rfl<|zU h7 rfl (eS (a:=a1) (b:=95) rfl rfl)<|zS rfl (aF (av:=.v _) rfl h7 rfl) ?_;exact K _ 2 _ (aw (ie h7)) rfl rfl
 refine ag<|ax rfl (fun c8=>?_) (fun c8=>?_)
 ·replace H:=be c8 H;refine ac<|aa ?_;show AR _ _ _ _ _ [0] _;refine za rfl<|ag<|aQ ?_;obtain rfl:=aq H;exact And.intro rfl (Exists.intro _ (Exists.intro _ ⟨aO rfl (.refl _),aK [] rfl,rfl,rfl⟩))
 ·replace H:=bf c8 H;refine aC<|ac<|aa ?_;show AR _ _ _ _ _ [0,1,2,3,4,5,6,7,8,9,10,11,12,13,14,15,16,17,18,19,20,21,22] _;refine zm rfl<|zS rfl (ca rfl)<|zm rfl<|bk (l:=[22]) 44 (B ((!a2)&&(((((decide (48≤(a1.toNat:Int)))&&(decide ((a1.toNat:Int)≤57)))||(decide (a1=45)))||(decide (a1=46)))||(decide (a1=58))))) (fun K=>?_) ?_
  ·rcases ap (!a2) with h9 | h9
   ·refine zM h9 rfl<|zU h9 rfl (cX rfl rfl)<|zM h9 rfl<|bk (l:=[9,10,11,12,13,14,15,16,17,18,19,20,21,22]) 31 (B ((decide (48≤(a1.toNat:Int)))&&(decide ((a1.toNat:Int)≤57)))) (fun K=>?_) ?_
    ·rcases ap (decide (48≤(a1.toNat:Int))) with h10 | h10
     ·refine zM h10 rfl<|zU h10 rfl (dW rfl rfl)<|zU h9 rfl (aD (av:=.v _) rfl h10 rfl) ?_;exact K _ 2 _ (aw (cd h10)) rfl rfl
     ·refine zF h10 rfl<|zF h10 rfl<|zU h9 rfl (aF (av:=.v _) rfl h10 rfl) ?_;exact K _ 2 _ (aw (cq h10)) rfl rfl
    refine zM h9 rfl<|bk (l:=[13,14,15,16,17,18,19,20,21,22]) 35 (B (((decide (48≤(a1.toNat:Int)))&&(decide ((a1.toNat:Int)≤57)))||(decide (a1=45)))) (fun K=>?_) ?_
    ·rcases ap ((decide (48≤(a1.toNat:Int)))&&(decide ((a1.toNat:Int)≤57))) with h11 | h11
     ·refine zF h11 rfl<|zF h11 rfl<|zU h9 rfl (aD (av:=.v _) rfl h11 rfl) ?_;exact K _ 2 _ (aw (ii h11)) rfl rfl
     ·refine zM h11 rfl<|zU h11 rfl (eS (a:=a1) (b:=45) rfl rfl)<|zU h9 rfl (aF (av:=.v _) rfl h11 rfl) ?_;exact K _ 2 _ (aw (ie h11)) rfl rfl
    refine zM h9 rfl<|bk (l:=[17,18,19,20,21,22]) 39 (B ((((decide (48≤(a1.toNat:Int)))&&(decide ((a1.toNat:Int)≤57)))||(decide (a1=45)))||(decide (a1=46)))) (fun K=>?_) ?_
    ·rcases ap (((decide (48≤(a1.toNat:Int)))&&(decide ((a1.toNat:Int)≤57)))||(decide (a1=45))) with h12 | h12
     ·refine zF h12 rfl<|zF h12 rfl<|zU h9 rfl (aD (av:=.v _) rfl h12 rfl) ?_;exact K _ 2 _ (aw (ii h12)) rfl rfl
     ·refine zM h12 rfl<|zU h12 rfl (eS (a:=a1) (b:=46) rfl rfl)<|zU h9 rfl (aF (av:=.v _) rfl h12 rfl) ?_;exact K _ 2 _ (aw (ie h12)) rfl rfl
    refine zM h9 rfl<|bk (l:=[21,22]) 43 (B (((((decide (48≤(a1.toNat:Int)))&&(decide ((a1.toNat:Int)≤57)))||(decide (a1=45)))||(decide (a1=46)))||(decide (a1=58)))) (fun K=>?_) ?_
    ·rcases ap ((((decide (48≤(a1.toNat:Int)))&&(decide ((a1.toNat:Int)≤57)))||(decide (a1=45)))||(decide (a1=46))) with h13 | h13
     ·refine zF h13 rfl<|zF h13 rfl<|zU h9 rfl (aD (av:=.v _) rfl h13 rfl) ?_;exact K _ 2 _ (aw (ii h13)) rfl rfl
     ·refine zM h13 rfl<|zU h13 rfl (eS (a:=a1) (b:=58) rfl rfl)<|zU h9 rfl (aF (av:=.v _) rfl h13 rfl) ?_;exact K _ 2 _ (aw (ie h13)) rfl rfl
    refine zS rfl (aD (av:=.v _) rfl h9 rfl) ?_;exact K _ 10 _ (aw (cd h9)) rfl rfl
   ·refine zF h9 rfl<|zF h9 rfl<|zF h9 rfl<|gU rfl rfl rfl rfl rfl<|gU rfl rfl rfl rfl rfl<|zF h9 rfl<|zF h9 rfl<|gU rfl rfl rfl rfl rfl<|gU rfl rfl rfl rfl rfl<|zF h9 rfl<|zF h9 rfl<|gU rfl rfl rfl rfl rfl<|gU rfl rfl rfl rfl rfl<|zF h9 rfl<|zF h9 rfl<|gU rfl rfl rfl rfl rfl<|gU rfl rfl rfl rfl rfl<|zF h9 rfl<|zS rfl (aF (av:=.v _) rfl h9 rfl) ?_;exact K _ 18 _ (aw (cq h9)) rfl rfl
  refine za rfl<|ag<|aQ ?_;obtain rfl:=aq H;exact And.intro rfl (Exists.intro _ (Exists.intro _ ⟨aO rfl (.refl _),aK [] rfl,rfl,rfl⟩))
set_option maxRecDepth 100000 in
set_option maxHeartbeats 1000000 in
theorem pZ (F:Nat) (a1:List UInt8) (r2:Bool) (H:kI F a1=some r2):ACalls Tryz.prog 17 [S a1] [] (Ret (B r2) []):=by
 unfold kI at H
 refine az Tryz.func17 rfl rfl ?_;show AW _ _ 27 _ _ _;refine ac<|aa ?_;show AR _ _ _ _ _ [0] _;refine za rfl<|ag<|bq (X:=Unit) (fun _=>⟨[(0,S a1)],[],[]⟩) (fun _=>jw a1=some r2) ?_ ?_
 ·refine ac<|aa ?_;show AR _ _ _ _ _ [0] _;refine za rfl<|ag<|aR<|cl (X:=Nat×Int) (fun (n5,y3)=>⟨[(0,S a1),(3,i64 y3)],[],[]⟩) (fun (n5,y3)=>fV F a1 n5 y3=some r2) (fun (n5,y3)=>n5) (F,0) H (aP [] (.cons (.refl _) (.cons (.refl _) (.nil _))) rfl) ?_;rintro ⟨n5,y3⟩ H;obtain ⟨n5,rfl,H⟩:=cO H;replace H:fW F a1 (fV F a1 n5) y3=some r2:=H
  unfold fW at H
  refine ac<|ac<|aa ?_;show AR _ _ _ _ _ [0,1,2,3] _;refine zm rfl<|zm rfl<|zS rfl (aW ab rfl)<|zS rfl (bN rfl rfl)<|ag<|ax rfl (fun c6=>?_) (fun c6=>?_)
  ·replace H:=be c6 H;refine aC<|ac<|aR<|ac ?_;obtain ⟨g7,H⟩:=aI H;obtain ⟨x8,e9,H⟩:=bz H;obtain ⟨x10,e11,H⟩:=cm H;refine aa ?_;show AR _ _ _ _ _ [0,1,2,3,4,5,6] _;refine zm rfl<|zm rfl<|zS rfl (bg ab rfl rfl g7 e9)<|zm rfl<|zS rfl (bI rfl rfl)<|ar rfl rfl (aX rfl kQ rfl (gB F x8 (decide (y3=0)) x10 e11) ?_);refine za rfl<|ag<|ac<|aa ?_;show AR _ _ _ _ _ [0,1] _;refine zm rfl<|zS rfl (ca rfl)<|ag<|ax rfl (fun c12=>?_) (fun c12=>?_)
   ·replace H:=be c12 H;refine ac<|aa ?_;show AR _ _ _ _ _ [0] _;refine za rfl<|ag<|aQ ?_;obtain rfl:=aq H;exact And.intro rfl (Exists.intro _ (Exists.intro _ ⟨aO rfl (.refl _),aK [] rfl,rfl,rfl⟩))
   ·replace H:=bf c12 H;refine aC ?_;obtain ⟨g13,H⟩:=aI H;refine aa ?_;show AR _ _ _ _ _ [0,1,2] _;refine zm rfl<|zS rfl (bB rfl rfl g13)<|za rfl<|ag ?_;exact Exists.intro (n5,y3+1) ⟨H,Nat.lt_succ_self _,aP [] (.cons (.refl _) (.cons (.refl _) (.nil _))) rfl⟩
  ·replace H:=bf c6 H;refine bU ?_;exact Exists.intro () ⟨H,aP [] (.cons (.refl _) (.nil _)) rfl⟩
 rintro _ H;replace H:jw a1=some r2:=H
 unfold jw at H
 refine ac<|aa ?_;show AR _ _ _ _ _ [0,1,2,3,4,5,6,7,8] _;refine zm rfl<|zS rfl (aW ab rfl)<|zS rfl (cX rfl rfl)<|zm rfl<|bk (l:=[8]) 26 (B ((decide (1≤(a1.length:Int)))&&(decide ((a1.length:Int)≤60)))) (fun K=>?_) ?_
 ·rcases ap (decide (1≤(a1.length:Int))) with h15 | h15
  ·refine zM h15 rfl<|zU h15 rfl (aW ab rfl)<|zU h15 rfl (dW rfl rfl)<|zS rfl (aD (av:=.v _) rfl h15 rfl) ?_;exact K _ 3 _ (aw (cd h15)) rfl rfl
  ·refine zF h15 rfl<|zF h15 rfl<|zF h15 rfl<|zS rfl (aF (av:=.v _) rfl h15 rfl) ?_;exact K _ 3 _ (aw (cq h15)) rfl rfl
 refine za rfl<|ag<|aQ ?_;obtain rfl:=aq H;exact And.intro rfl (Exists.intro _ (Exists.intro _ ⟨aO rfl (.refl _),aK [] rfl,rfl,rfl⟩))
set_option maxRecDepth 100000 in
set_option maxHeartbeats 1000000 in
theorem tT (F:Nat) (a1:List UInt8) (r2:List UInt8) (H:ll F a1=some r2):ACalls Tryz.prog 20 [S a1] [] (Ret (S r2) []):=by
 unfold ll at H
 refine az Tryz.func20 rfl rfl ?_;show AW _ _ 21 _ _ _;refine ac<|aa ?_;show AR _ _ _ _ _ [0] _;refine za rfl<|ag<|ac<|aa ?_;show AR _ _ _ _ _ [0,1] _;refine zm rfl<|za rfl<|ag<|bq (X:=(List UInt8)) (fun y19=>⟨[(3,S y19)],[],[]⟩) (fun y19=>kn y19=some r2) ?_ ?_
 ·refine ac<|aa ?_;show AR _ _ _ _ _ [0] _;refine za rfl<|ag<|aR<|cl (X:=Nat×(List UInt8)×Int) (fun (n6,y3,y4)=>⟨[(0,S a1),(3,S y3),(4,i64 y4)],[],[]⟩) (fun (n6,y3,y4)=>fj a1 n6 (y3,y4)=some r2) (fun (n6,y3,y4)=>n6) (F,a1,0) H (aP [] (.cons (.refl _) (.cons (.refl _) (.cons (.refl _) (.nil _)))) rfl) ?_;rintro ⟨n6,y3,y4⟩ H;obtain ⟨n6,rfl,H⟩:=cO H;replace H:iB a1 (fj a1 n6) y3 y4=some r2:=H
  unfold iB at H
  refine ac<|ac<|aa ?_;show AR _ _ _ _ _ [0,1,2,3] _;refine zm rfl<|zm rfl<|zS rfl (aW ab rfl)<|zS rfl (bN rfl rfl)<|ag<|ax rfl (fun c7=>?_) (fun c7=>?_)
  ·replace H:=be c7 H;refine aC<|bq (X:=(List UInt8)) (fun y16=>⟨[(0,S a1),(3,S y16),(4,i64 y4)],[],[]⟩) (fun y16=>fi y4 (fj a1 n6) y16=some r2) ?_ ?_
   ·refine aR<|ac ?_;obtain ⟨g8,H⟩:=aI H;obtain ⟨x9,e10,H⟩:=bz H;refine aa ?_;show AR _ _ _ _ _ [0,1,2,3] _;refine zm rfl<|zm rfl<|zS rfl (bg ab rfl rfl g8 e10)<|zS rfl (eS (a:=x9) (b:=58) rfl rfl)<|ag<|ax rfl (fun c11=>?_) (fun c11=>?_)
    ·replace H:=be c11 H;obtain ⟨g12,H⟩:=aI H;obtain ⟨g13,H⟩:=aI H;obtain ⟨x14,e15,H⟩:=bz H;refine aa ?_;show AR _ _ _ _ _ [0,1,2,3,4] _;refine zm rfl<|zm rfl<|zS rfl (bB rfl rfl g12)<|zS rfl (ee ab rfl rfl g13 e15)<|za rfl<|ag ?_;exact Exists.intro x14 ⟨H,aP [] (.cons (.refl _) (.cons (.refl _) (.cons (.refl _) (.nil _)))) rfl⟩
    ·replace H:=bf c11 H;refine aC ?_;exact Exists.intro y3 ⟨H,aP [] (.cons (.refl _) (.cons (.refl _) (.cons (.refl _) (.nil _)))) rfl⟩
   rintro y16 H;replace H:fi y4 (fj a1 n6) y16=some r2:=H
   unfold fi at H
   obtain ⟨g18,H⟩:=aI H;refine aa ?_;show AR _ _ _ _ _ [0,1,2] _;refine zm rfl<|zS rfl (bB rfl rfl g18)<|za rfl<|ag ?_;exact Exists.intro (n6,y16,y4+1) ⟨H,Nat.lt_succ_self _,aP [] (.cons (.refl _) (.cons (.refl _) (.cons (.refl _) (.nil _)))) rfl⟩
  ·replace H:=bf c7 H;refine bU ?_;exact Exists.intro y3 ⟨H,aP [] (.cons (.refl _) (.nil _)) rfl⟩
 rintro y19 H;replace H:kn y19=some r2:=H
 unfold kn at H
 refine ac<|aa ?_;show AR _ _ _ _ _ [0,1] _;refine zm rfl<|za rfl<|ag<|aQ ?_;obtain rfl:=aq H;exact And.intro rfl (Exists.intro _ (Exists.intro _ ⟨aO rfl (.refl _),aK [] rfl,rfl,rfl⟩))
set_option maxRecDepth 100000 in
set_option maxHeartbeats 1000000 in
theorem cR (F:Nat) (o1:Nat) (a2:List UInt8) (a3:Int) (a4:List (List UInt8)) (t5:Nat) (a6:Int) (a7:List (Int×(List UInt8)×(List UInt8)×List ((List UInt8)×List UInt8))) (t8:Nat) (a9:Int) (a10:Int) (r11:Int) (H:cK F a2 a3 a4 a6 a7 a9 a10=some r11):ACalls Tryz.prog 47 [.pt o1 0,i64 a10] [.obj o1 [S a2,i64 a3,slE Enc.str a4 (some t5),i64 a6,slE (Enc.prod Enc.int (Enc.prod Enc.str (Enc.prod Enc.str (Enc.sl (Enc.prod Enc.str Enc.str))))) a7 (some t8),i64 a9],.tok t5 9,.tok t8 33] (fun e A'=>e=.ret (.tup [])∧A'=[.obj o1 [S a2,i64 a3,slE Enc.str a4 (some t5),i64 a6,slE (Enc.prod Enc.int (Enc.prod Enc.str (Enc.prod Enc.str (Enc.sl (Enc.prod Enc.str Enc.str))))) a7 (some t8),i64 r11],.tok t5 9,.tok t8 33]):=by
 unfold cK at H
 refine az Tryz.func47 rfl rfl ?_;show AW _ _ 13 _ _ _;refine ac<|aa ?_;show AR _ _ _ _ _ [0,1,2,3,4] _;refine zS rfl (ah (av:=.pt _ _) rfl)<|zS rfl (am rfl)<|zS rfl (ai (n:=5) (by kernel_rfl) rfl)<|zR rfl (al (i:=0) bZ rfl rfl rfl rfl)<|zS rfl (bI rfl rfl)<|ag<|ax rfl (fun c12=>?_) (fun c12=>?_)
 ·replace H:=be c12 H;refine aa ?_;show AR _ _ _ _ _ [0,1,2,3,4] _;refine zS rfl (ah (av:=.pt _ _) rfl)<|zm rfl<|zS rfl (am rfl)<|zS rfl (ai (n:=5) (by kernel_rfl) rfl)<|s0 rfl rfl (aA (i:=0) (c:=.v _) (by kernel_rfl) rfl rfl rfl rfl (af rfl))<|ag ?_;obtain rfl:=aq H;exact And.intro rfl (Exists.intro _ (Exists.intro _ ⟨bp rfl,aK [0,0,0] rfl,rfl,rfl⟩))
 ·replace H:=bf c12 H;refine aC ?_;obtain rfl:=aq H;exact And.intro rfl (Exists.intro _ (Exists.intro _ ⟨bp rfl,aK [0,0,0] rfl,rfl,rfl⟩))
set_option maxRecDepth 100000 in
set_option maxHeartbeats 1000000 in
theorem cN (F:Nat) (o1:Nat) (a2:List UInt8) (a3:Int) (a4:List (List UInt8)) (t5:Nat) (a6:Int) (a7:List (Int×(List UInt8)×(List UInt8)×List ((List UInt8)×List UInt8))) (t8:Nat) (a9:Int) (a10:List UInt8) (r11:Bool) (H:cC F a2 a3 a4 a6 a7 a9 a10=some r11):ACalls Tryz.prog 44 [.pt o1 0,S a10] [.obj o1 [S a2,i64 a3,slE Enc.str a4 (some t5),i64 a6,slE (Enc.prod Enc.int (Enc.prod Enc.str (Enc.prod Enc.str (Enc.sl (Enc.prod Enc.str Enc.str))))) a7 (some t8),i64 a9],.tok t5 9,.tok t8 33] (fun e A'=>e=.ret (B r11)∧A'=[.obj o1 [S a2,i64 a3,slE Enc.str a4 (some t5),i64 a6,slE (Enc.prod Enc.int (Enc.prod Enc.str (Enc.prod Enc.str (Enc.sl (Enc.prod Enc.str Enc.str))))) a7 (some t8),i64 a9],.tok t5 9,.tok t8 33]):=by
 unfold cC at H
 refine az Tryz.func44 rfl rfl ?_;show AW _ _ 38 _ _ _;refine ac<|aa ?_;show AR _ _ _ _ _ [0] _;refine za rfl<|ag<|ac ?_;obtain ⟨g12,H⟩:=aI H;obtain ⟨g14,H⟩:=cP H;obtain ⟨g15,H⟩:=cP H;obtain ⟨x16,e17,H⟩:=bz H;refine bn (by kernel_rfl) ?_;show AI _ _ _ _ _ 34 (Array.replicate 34 false) _;refine zk 0 rfl (ah (av:=.pt _ _) rfl) ?_;show zI 34 1;refine zk 1 rfl (am rfl) ?_;show zI 34 3;refine zk 2 rfl (ai (n:=0) (by kernel_rfl) rfl) ?_;show zI 34 7;refine zk 5 rfl (ah (av:=.pt _ _) rfl) ?_;show zI 34 39;refine zk 6 rfl (am rfl) ?_;show zI 34 103;refine zk 7 rfl (ai (n:=1) (by kernel_rfl) rfl) ?_;show zI 34 231;refine zk 10 rfl (mv rfl) ?_;show zI 34 1255;refine zk 11 rfl (aW ab rfl) ?_;show zI 34 3303;refine dj (i:=3) (j:=8) (by kernel_rfl) rfl rfl rfl rfl ?_ ?_
 ·refine aJ rfl (al (i:=0) ab rfl rfl rfl rfl) ?_;show zI 34 3311;refine zk 4 rfl (aW ab rfl) ?_;show zI 34 3327;refine bj (i:=8) (by kernel_rfl) rfl rfl<|aJ rfl (al (i:=0) au rfl rfl rfl rfl) ?_;show zI 34 3583;refine zk 9 rfl (mc rfl rfl g12) ?_;show zI 34 4095;refine zk 12 rfl (cX rfl rfl) ?_;show zI 34 8191;refine zk 13 rfl (mv rfl) ?_;show zI 34 16383;refine AI.meet 1 (zb 34 8589934591) 37 (B ((decide ((a10.length:Int)≤(a2.length:Int) - a3))&&(decide (x16=a10)))) (fun K32=>?_) ?_
  ·refine ic (t:=18) rfl (fun h13=>?_) (fun h13=>?_)
   ·refine aL (i:=14) rfl rfl (by kernel_rfl) (by kernel_rfl) (by kernel_rfl) rfl rfl rfl (fun _ _ h=>h) h13 (ah (av:=.pt _ _) rfl) ?_;show zI 34 32767;refine aL (i:=15) rfl rfl (by kernel_rfl) (by kernel_rfl) (by kernel_rfl) rfl rfl rfl (fun _ _ h=>h) h13 (am rfl) ?_;show zI 34 65535;refine aL (i:=16) rfl rfl (by kernel_rfl) (by kernel_rfl) (by kernel_rfl) rfl rfl rfl (fun _ _ h=>h) h13 (ai (n:=0) (by kernel_rfl) rfl) ?_;show zI 34 131071;refine aL (i:=18) rfl rfl (by kernel_rfl) (by kernel_rfl) (by kernel_rfl) rfl rfl rfl (fun _ _ h=>h) h13 (ah (av:=.pt _ _) rfl) ?_;show zI 34 393215;refine aL (i:=19) rfl rfl (by kernel_rfl) (by kernel_rfl) (by kernel_rfl) rfl rfl rfl (fun _ _ h=>h) h13 (am rfl) ?_;show zI 34 917503;refine aL (i:=20) rfl rfl (by kernel_rfl) (by kernel_rfl) (by kernel_rfl) rfl rfl rfl (fun _ _ h=>h) h13 (ai (n:=1) (by kernel_rfl) rfl) ?_;show zI 34 1966079;refine aL (i:=22) rfl rfl (by kernel_rfl) (by kernel_rfl) (by kernel_rfl) rfl rfl rfl (fun _ _ h=>h) h13 (ah (av:=.pt _ _) rfl) ?_;show zI 34 6160383;refine aL (i:=23) rfl rfl (by kernel_rfl) (by kernel_rfl) (by kernel_rfl) rfl rfl rfl (fun _ _ h=>h) h13 (am rfl) ?_;show zI 34 14548991;refine aL (i:=24) rfl rfl (by kernel_rfl) (by kernel_rfl) (by kernel_rfl) rfl rfl rfl (fun _ _ h=>h) h13 (ai (n:=1) (by kernel_rfl) rfl) ?_;show zI 34 31326207
    refine aL (i:=26) rfl rfl (by kernel_rfl) (by kernel_rfl) (by kernel_rfl) rfl rfl rfl (fun _ _ h=>h) h13 (mv rfl) ?_;show zI 34 98435071;refine aL (i:=27) rfl rfl (by kernel_rfl) (by kernel_rfl) (by kernel_rfl) rfl rfl rfl (fun _ _ h=>h) h13 (aW ab rfl) ?_;show zI 34 232652799;refine aL (i:=30) rfl rfl (by kernel_rfl) (by kernel_rfl) (by kernel_rfl) rfl rfl rfl (fun _ _ h=>h) h13 (mv rfl) ?_;show zI 34 1306394623;refine vm (i:=17) (j:=21) (l:=25) (by kernel_rfl) rfl (.inr ⟨_,_,_,_,rfl,rfl,rfl,rfl,h13⟩) rfl (.inr ⟨_,_,_,_,rfl,rfl,rfl,rfl,h13⟩) rfl (.inr ⟨_,_,_,_,rfl,rfl,rfl,rfl,h13⟩) ?_ ?_ ?_
    ·refine aJ rfl (al (i:=0) ab rfl rfl rfl rfl) ?_;show zI 34 1306525695;refine lN (i:=21) (j:=25) (by kernel_rfl) rfl (.inr ⟨_,_,_,_,rfl,rfl,rfl,rfl,h13⟩) rfl (.inr ⟨_,_,_,_,rfl,rfl,rfl,rfl,h13⟩) ?_ ?_
     ·refine aJ rfl (al (i:=0) au rfl rfl rfl rfl) ?_;show zI 34 1308622847;refine eI (i:=25) (by kernel_rfl) rfl rfl rfl rfl rfl h13<|aJ rfl (al (i:=0) au rfl rfl rfl rfl) ?_;show zI 34 1342177279;refine aL (i:=28) rfl rfl (by kernel_rfl) (by kernel_rfl) (by kernel_rfl) rfl rfl rfl (fun _ _ h=>h) h13 (bB rfl rfl (g14 h13)) ?_;show zI 34 1610612735;refine aL (i:=29) rfl rfl (by kernel_rfl) (by kernel_rfl) (by kernel_rfl) rfl rfl rfl (fun _ _ h=>h) h13 (bQ ab rfl rfl rfl (g15 h13) e17) ?_;show zI 34 2147483647;refine aL (i:=31) rfl rfl (by kernel_rfl) (by kernel_rfl) (by kernel_rfl) rfl rfl rfl (fun _ _ h=>h) h13 (cD rfl rfl) ?_;show zI 34 4294967295;refine zk 32 rfl (bo (av':=B ((decide ((a10.length:Int)≤(a2.length:Int) - a3))&&(decide (x16=a10)))) (aD (av:=.v _) rfl h13 rfl) (aw (cd h13))) ?_;show zI 34 8589934591;exact K32 _ 18 rfl rfl
     ·refine aJ rfl (al (i:=0) au rfl rfl rfl rfl) ?_;show zI 34 1340080127;refine aL (i:=28) rfl rfl (by kernel_rfl) (by kernel_rfl) (by kernel_rfl) rfl rfl rfl (fun _ _ h=>h) h13 (bB rfl rfl (g14 h13)) ?_;show zI 34 1608515583;refine eI (i:=21) (by kernel_rfl) rfl rfl rfl rfl rfl h13<|aJ rfl (al (i:=0) au rfl rfl rfl rfl) ?_;show zI 34 1610612735;refine aL (i:=29) rfl rfl (by kernel_rfl) (by kernel_rfl) (by kernel_rfl) rfl rfl rfl (fun _ _ h=>h) h13 (bQ ab rfl rfl rfl (g15 h13) e17) ?_;show zI 34 2147483647;refine aL (i:=31) rfl rfl (by kernel_rfl) (by kernel_rfl) (by kernel_rfl) rfl rfl rfl (fun _ _ h=>h) h13 (cD rfl rfl) ?_;show zI 34 4294967295;refine zk 32 rfl (bo (av':=B ((decide ((a10.length:Int)≤(a2.length:Int) - a3))&&(decide (x16=a10)))) (aD (av:=.v _) rfl h13 rfl) (aw (cd h13))) ?_;show zI 34 8589934591;exact K32 _ 18 rfl rfl
    ·refine aJ rfl (al (i:=0) au rfl rfl rfl rfl) ?_;show zI 34 1308491775;refine lN (i:=17) (j:=25) (by kernel_rfl) rfl (.inr ⟨_,_,_,_,rfl,rfl,rfl,rfl,h13⟩) rfl (.inr ⟨_,_,_,_,rfl,rfl,rfl,rfl,h13⟩) ?_ ?_
     ·refine aJ rfl (al (i:=0) ab rfl rfl rfl rfl) ?_;show zI 34 1308622847;refine eI (i:=25) (by kernel_rfl) rfl rfl rfl rfl rfl h13<|aJ rfl (al (i:=0) au rfl rfl rfl rfl) ?_;show zI 34 1342177279;refine aL (i:=28) rfl rfl (by kernel_rfl) (by kernel_rfl) (by kernel_rfl) rfl rfl rfl (fun _ _ h=>h) h13 (bB rfl rfl (g14 h13)) ?_;show zI 34 1610612735;refine aL (i:=29) rfl rfl (by kernel_rfl) (by kernel_rfl) (by kernel_rfl) rfl rfl rfl (fun _ _ h=>h) h13 (bQ ab rfl rfl rfl (g15 h13) e17) ?_;show zI 34 2147483647;refine aL (i:=31) rfl rfl (by kernel_rfl) (by kernel_rfl) (by kernel_rfl) rfl rfl rfl (fun _ _ h=>h) h13 (cD rfl rfl) ?_;show zI 34 4294967295;refine zk 32 rfl (bo (av':=B ((decide ((a10.length:Int)≤(a2.length:Int) - a3))&&(decide (x16=a10)))) (aD (av:=.v _) rfl h13 rfl) (aw (cd h13))) ?_;show zI 34 8589934591;exact K32 _ 18 rfl rfl
     ·refine aJ rfl (al (i:=0) au rfl rfl rfl rfl) ?_;show zI 34 1342046207;refine aL (i:=28) rfl rfl (by kernel_rfl) (by kernel_rfl) (by kernel_rfl) rfl rfl rfl (fun _ _ h=>h) h13 (bB rfl rfl (g14 h13)) ?_;show zI 34 1610481663;refine eI (i:=17) (by kernel_rfl) rfl rfl rfl rfl rfl h13<|aJ rfl (al (i:=0) ab rfl rfl rfl rfl) ?_;show zI 34 1610612735;refine aL (i:=29) rfl rfl (by kernel_rfl) (by kernel_rfl) (by kernel_rfl) rfl rfl rfl (fun _ _ h=>h) h13 (bQ ab rfl rfl rfl (g15 h13) e17) ?_;show zI 34 2147483647;refine aL (i:=31) rfl rfl (by kernel_rfl) (by kernel_rfl) (by kernel_rfl) rfl rfl rfl (fun _ _ h=>h) h13 (cD rfl rfl) ?_;show zI 34 4294967295;refine zk 32 rfl (bo (av':=B ((decide ((a10.length:Int)≤(a2.length:Int) - a3))&&(decide (x16=a10)))) (aD (av:=.v _) rfl h13 rfl) (aw (cd h13))) ?_;show zI 34 8589934591;exact K32 _ 18 rfl rfl
    ·refine aJ rfl (al (i:=0) au rfl rfl rfl rfl) ?_;show zI 34 1339949055;refine aL (i:=28) rfl rfl (by kernel_rfl) (by kernel_rfl) (by kernel_rfl) rfl rfl rfl (fun _ _ h=>h) h13 (bB rfl rfl (g14 h13)) ?_;show zI 34 1608384511;refine lN (i:=17) (j:=21) (by kernel_rfl) rfl (.inr ⟨_,_,_,_,rfl,rfl,rfl,rfl,h13⟩) rfl (.inr ⟨_,_,_,_,rfl,rfl,rfl,rfl,h13⟩) ?_ ?_
     ·refine aJ rfl (al (i:=0) ab rfl rfl rfl rfl) ?_;show zI 34 1608515583;refine eI (i:=21) (by kernel_rfl) rfl rfl rfl rfl rfl h13<|aJ rfl (al (i:=0) au rfl rfl rfl rfl) ?_;show zI 34 1610612735;refine aL (i:=29) rfl rfl (by kernel_rfl) (by kernel_rfl) (by kernel_rfl) rfl rfl rfl (fun _ _ h=>h) h13 (bQ ab rfl rfl rfl (g15 h13) e17) ?_;show zI 34 2147483647;refine aL (i:=31) rfl rfl (by kernel_rfl) (by kernel_rfl) (by kernel_rfl) rfl rfl rfl (fun _ _ h=>h) h13 (cD rfl rfl) ?_;show zI 34 4294967295;refine zk 32 rfl (bo (av':=B ((decide ((a10.length:Int)≤(a2.length:Int) - a3))&&(decide (x16=a10)))) (aD (av:=.v _) rfl h13 rfl) (aw (cd h13))) ?_;show zI 34 8589934591;exact K32 _ 18 rfl rfl
     ·refine aJ rfl (al (i:=0) au rfl rfl rfl rfl) ?_;show zI 34 1610481663;refine eI (i:=17) (by kernel_rfl) rfl rfl rfl rfl rfl h13<|aJ rfl (al (i:=0) ab rfl rfl rfl rfl) ?_;show zI 34 1610612735;refine aL (i:=29) rfl rfl (by kernel_rfl) (by kernel_rfl) (by kernel_rfl) rfl rfl rfl (fun _ _ h=>h) h13 (bQ ab rfl rfl rfl (g15 h13) e17) ?_;show zI 34 2147483647;refine aL (i:=31) rfl rfl (by kernel_rfl) (by kernel_rfl) (by kernel_rfl) rfl rfl rfl (fun _ _ h=>h) h13 (cD rfl rfl) ?_;show zI 34 4294967295;refine zk 32 rfl (bo (av':=B ((decide ((a10.length:Int)≤(a2.length:Int) - a3))&&(decide (x16=a10)))) (aD (av:=.v _) rfl h13 rfl) (aw (cd h13))) ?_;show zI 34 8589934591;exact K32 _ 18 rfl rfl
   ·refine aU (i:=14) rfl rfl (by kernel_rfl) (by kernel_rfl) (by kernel_rfl) rfl rfl rfl (fun _ _ h=>h) h13 ?_;show zI 34 32767;refine aU (i:=15) rfl rfl (by kernel_rfl) (by kernel_rfl) (by kernel_rfl) rfl rfl rfl (fun _ _ h=>h) h13 ?_;show zI 34 65535;refine aU (i:=16) rfl rfl (by kernel_rfl) (by kernel_rfl) (by kernel_rfl) rfl rfl rfl (fun _ _ h=>h) h13 ?_;show zI 34 131071;refine aU (i:=17) rfl rfl (by kernel_rfl) (by kernel_rfl) (by kernel_rfl) rfl rfl rfl (fun _ _ h=>h) h13 ?_;show zI 34 262143;refine aU (i:=18) rfl rfl (by kernel_rfl) (by kernel_rfl) (by kernel_rfl) rfl rfl rfl (fun _ _ h=>h) h13 ?_;show zI 34 524287;refine aU (i:=19) rfl rfl (by kernel_rfl) (by kernel_rfl) (by kernel_rfl) rfl rfl rfl (fun _ _ h=>h) h13 ?_;show zI 34 1048575;refine aU (i:=20) rfl rfl (by kernel_rfl) (by kernel_rfl) (by kernel_rfl) rfl rfl rfl (fun _ _ h=>h) h13 ?_;show zI 34 2097151;refine aU (i:=21) rfl rfl (by kernel_rfl) (by kernel_rfl) (by kernel_rfl) rfl rfl rfl (fun _ _ h=>h) h13 ?_;show zI 34 4194303;refine aU (i:=22) rfl rfl (by kernel_rfl) (by kernel_rfl) (by kernel_rfl) rfl rfl rfl (fun _ _ h=>h) h13 ?_;show zI 34 8388607;refine aU (i:=23) rfl rfl (by kernel_rfl) (by kernel_rfl) (by kernel_rfl) rfl rfl rfl (fun _ _ h=>h) h13 ?_;show zI 34 16777215;refine aU (i:=24) rfl rfl (by kernel_rfl) (by kernel_rfl) (by kernel_rfl) rfl rfl rfl (fun _ _ h=>h) h13 ?_;show zI 34 33554431
    refine aU (i:=25) rfl rfl (by kernel_rfl) (by kernel_rfl) (by kernel_rfl) rfl rfl rfl (fun _ _ h=>h) h13 ?_;show zI 34 67108863;refine aU (i:=26) rfl rfl (by kernel_rfl) (by kernel_rfl) (by kernel_rfl) rfl rfl rfl (fun _ _ h=>h) h13 ?_;show zI 34 134217727;refine aU (i:=27) rfl rfl (by kernel_rfl) (by kernel_rfl) (by kernel_rfl) rfl rfl rfl (fun _ _ h=>h) h13 ?_;show zI 34 268435455;refine aU (i:=28) rfl rfl (by kernel_rfl) (by kernel_rfl) (by kernel_rfl) rfl rfl rfl (fun _ _ h=>h) h13 ?_;show zI 34 536870911;refine aU (i:=29) rfl rfl (by kernel_rfl) (by kernel_rfl) (by kernel_rfl) rfl rfl rfl (fun _ _ h=>h) h13 ?_;show zI 34 1073741823;refine aU (i:=30) rfl rfl (by kernel_rfl) (by kernel_rfl) (by kernel_rfl) rfl rfl rfl (fun _ _ h=>h) h13 ?_;show zI 34 2147483647;refine aU (i:=31) rfl rfl (by kernel_rfl) (by kernel_rfl) (by kernel_rfl) rfl rfl rfl (fun _ _ h=>h) h13 ?_;show zI 34 4294967295;refine zk 32 rfl (bo (av':=B ((decide ((a10.length:Int)≤(a2.length:Int) - a3))&&(decide (x16=a10)))) (aF (av:=.v _) rfl h13 rfl) (aw (cq h13))) ?_;show zI 34 8589934591;exact K32 _ 18 rfl rfl
  refine zk 33 rfl (asg rfl) ?_;show zI 34 17179869183;refine bw rfl<|aQ ?_;obtain rfl:=aq H;exact And.intro rfl (Exists.intro _ (Exists.intro _ ⟨aO rfl (.refl _),aK [0,0,0] rfl,rfl,rfl⟩))
 ·refine aJ rfl (al (i:=0) au rfl rfl rfl rfl) ?_;show zI 34 3559;refine bj (i:=3) (by kernel_rfl) rfl rfl<|aJ rfl (al (i:=0) ab rfl rfl rfl rfl) ?_;show zI 34 3567;refine zk 4 rfl (aW ab rfl) ?_;show zI 34 3583;refine zk 9 rfl (mc rfl rfl g12) ?_;show zI 34 4095;refine zk 12 rfl (cX rfl rfl) ?_;show zI 34 8191;refine zk 13 rfl (mv rfl) ?_;show zI 34 16383;refine AI.meet 1 (zb 34 8589934591) 37 (B ((decide ((a10.length:Int)≤(a2.length:Int) - a3))&&(decide (x16=a10)))) (fun K32=>?_) ?_
  ·refine ic (t:=18) rfl (fun h18=>?_) (fun h18=>?_)
   ·refine aL (i:=14) rfl rfl (by kernel_rfl) (by kernel_rfl) (by kernel_rfl) rfl rfl rfl (fun _ _ h=>h) h18 (ah (av:=.pt _ _) rfl) ?_;show zI 34 32767;refine aL (i:=15) rfl rfl (by kernel_rfl) (by kernel_rfl) (by kernel_rfl) rfl rfl rfl (fun _ _ h=>h) h18 (am rfl) ?_;show zI 34 65535;refine aL (i:=16) rfl rfl (by kernel_rfl) (by kernel_rfl) (by kernel_rfl) rfl rfl rfl (fun _ _ h=>h) h18 (ai (n:=0) (by kernel_rfl) rfl) ?_;show zI 34 131071;refine aL (i:=18) rfl rfl (by kernel_rfl) (by kernel_rfl) (by kernel_rfl) rfl rfl rfl (fun _ _ h=>h) h18 (ah (av:=.pt _ _) rfl) ?_;show zI 34 393215;refine aL (i:=19) rfl rfl (by kernel_rfl) (by kernel_rfl) (by kernel_rfl) rfl rfl rfl (fun _ _ h=>h) h18 (am rfl) ?_;show zI 34 917503;refine aL (i:=20) rfl rfl (by kernel_rfl) (by kernel_rfl) (by kernel_rfl) rfl rfl rfl (fun _ _ h=>h) h18 (ai (n:=1) (by kernel_rfl) rfl) ?_;show zI 34 1966079;refine aL (i:=22) rfl rfl (by kernel_rfl) (by kernel_rfl) (by kernel_rfl) rfl rfl rfl (fun _ _ h=>h) h18 (ah (av:=.pt _ _) rfl) ?_;show zI 34 6160383;refine aL (i:=23) rfl rfl (by kernel_rfl) (by kernel_rfl) (by kernel_rfl) rfl rfl rfl (fun _ _ h=>h) h18 (am rfl) ?_;show zI 34 14548991;refine aL (i:=24) rfl rfl (by kernel_rfl) (by kernel_rfl) (by kernel_rfl) rfl rfl rfl (fun _ _ h=>h) h18 (ai (n:=1) (by kernel_rfl) rfl) ?_;show zI 34 31326207
    refine aL (i:=26) rfl rfl (by kernel_rfl) (by kernel_rfl) (by kernel_rfl) rfl rfl rfl (fun _ _ h=>h) h18 (mv rfl) ?_;show zI 34 98435071;refine aL (i:=27) rfl rfl (by kernel_rfl) (by kernel_rfl) (by kernel_rfl) rfl rfl rfl (fun _ _ h=>h) h18 (aW ab rfl) ?_;show zI 34 232652799;refine aL (i:=30) rfl rfl (by kernel_rfl) (by kernel_rfl) (by kernel_rfl) rfl rfl rfl (fun _ _ h=>h) h18 (mv rfl) ?_;show zI 34 1306394623;refine vm (i:=17) (j:=21) (l:=25) (by kernel_rfl) rfl (.inr ⟨_,_,_,_,rfl,rfl,rfl,rfl,h18⟩) rfl (.inr ⟨_,_,_,_,rfl,rfl,rfl,rfl,h18⟩) rfl (.inr ⟨_,_,_,_,rfl,rfl,rfl,rfl,h18⟩) ?_ ?_ ?_
    ·refine aJ rfl (al (i:=0) ab rfl rfl rfl rfl) ?_;show zI 34 1306525695;refine lN (i:=21) (j:=25) (by kernel_rfl) rfl (.inr ⟨_,_,_,_,rfl,rfl,rfl,rfl,h18⟩) rfl (.inr ⟨_,_,_,_,rfl,rfl,rfl,rfl,h18⟩) ?_ ?_
     ·refine aJ rfl (al (i:=0) au rfl rfl rfl rfl) ?_;show zI 34 1308622847;refine eI (i:=25) (by kernel_rfl) rfl rfl rfl rfl rfl h18<|aJ rfl (al (i:=0) au rfl rfl rfl rfl) ?_;show zI 34 1342177279;refine aL (i:=28) rfl rfl (by kernel_rfl) (by kernel_rfl) (by kernel_rfl) rfl rfl rfl (fun _ _ h=>h) h18 (bB rfl rfl (g14 h18)) ?_;show zI 34 1610612735;refine aL (i:=29) rfl rfl (by kernel_rfl) (by kernel_rfl) (by kernel_rfl) rfl rfl rfl (fun _ _ h=>h) h18 (bQ ab rfl rfl rfl (g15 h18) e17) ?_;show zI 34 2147483647;refine aL (i:=31) rfl rfl (by kernel_rfl) (by kernel_rfl) (by kernel_rfl) rfl rfl rfl (fun _ _ h=>h) h18 (cD rfl rfl) ?_;show zI 34 4294967295;refine zk 32 rfl (bo (av':=B ((decide ((a10.length:Int)≤(a2.length:Int) - a3))&&(decide (x16=a10)))) (aD (av:=.v _) rfl h18 rfl) (aw (cd h18))) ?_;show zI 34 8589934591;exact K32 _ 18 rfl rfl
     ·refine aJ rfl (al (i:=0) au rfl rfl rfl rfl) ?_;show zI 34 1340080127;refine aL (i:=28) rfl rfl (by kernel_rfl) (by kernel_rfl) (by kernel_rfl) rfl rfl rfl (fun _ _ h=>h) h18 (bB rfl rfl (g14 h18)) ?_;show zI 34 1608515583;refine eI (i:=21) (by kernel_rfl) rfl rfl rfl rfl rfl h18<|aJ rfl (al (i:=0) au rfl rfl rfl rfl) ?_;show zI 34 1610612735;refine aL (i:=29) rfl rfl (by kernel_rfl) (by kernel_rfl) (by kernel_rfl) rfl rfl rfl (fun _ _ h=>h) h18 (bQ ab rfl rfl rfl (g15 h18) e17) ?_;show zI 34 2147483647;refine aL (i:=31) rfl rfl (by kernel_rfl) (by kernel_rfl) (by kernel_rfl) rfl rfl rfl (fun _ _ h=>h) h18 (cD rfl rfl) ?_;show zI 34 4294967295;refine zk 32 rfl (bo (av':=B ((decide ((a10.length:Int)≤(a2.length:Int) - a3))&&(decide (x16=a10)))) (aD (av:=.v _) rfl h18 rfl) (aw (cd h18))) ?_;show zI 34 8589934591;exact K32 _ 18 rfl rfl
    ·refine aJ rfl (al (i:=0) au rfl rfl rfl rfl) ?_;show zI 34 1308491775;refine lN (i:=17) (j:=25) (by kernel_rfl) rfl (.inr ⟨_,_,_,_,rfl,rfl,rfl,rfl,h18⟩) rfl (.inr ⟨_,_,_,_,rfl,rfl,rfl,rfl,h18⟩) ?_ ?_
     ·refine aJ rfl (al (i:=0) ab rfl rfl rfl rfl) ?_;show zI 34 1308622847;refine eI (i:=25) (by kernel_rfl) rfl rfl rfl rfl rfl h18<|aJ rfl (al (i:=0) au rfl rfl rfl rfl) ?_;show zI 34 1342177279;refine aL (i:=28) rfl rfl (by kernel_rfl) (by kernel_rfl) (by kernel_rfl) rfl rfl rfl (fun _ _ h=>h) h18 (bB rfl rfl (g14 h18)) ?_;show zI 34 1610612735;refine aL (i:=29) rfl rfl (by kernel_rfl) (by kernel_rfl) (by kernel_rfl) rfl rfl rfl (fun _ _ h=>h) h18 (bQ ab rfl rfl rfl (g15 h18) e17) ?_;show zI 34 2147483647;refine aL (i:=31) rfl rfl (by kernel_rfl) (by kernel_rfl) (by kernel_rfl) rfl rfl rfl (fun _ _ h=>h) h18 (cD rfl rfl) ?_;show zI 34 4294967295;refine zk 32 rfl (bo (av':=B ((decide ((a10.length:Int)≤(a2.length:Int) - a3))&&(decide (x16=a10)))) (aD (av:=.v _) rfl h18 rfl) (aw (cd h18))) ?_;show zI 34 8589934591;exact K32 _ 18 rfl rfl
     ·refine aJ rfl (al (i:=0) au rfl rfl rfl rfl) ?_;show zI 34 1342046207;refine aL (i:=28) rfl rfl (by kernel_rfl) (by kernel_rfl) (by kernel_rfl) rfl rfl rfl (fun _ _ h=>h) h18 (bB rfl rfl (g14 h18)) ?_;show zI 34 1610481663;refine eI (i:=17) (by kernel_rfl) rfl rfl rfl rfl rfl h18<|aJ rfl (al (i:=0) ab rfl rfl rfl rfl) ?_;show zI 34 1610612735;refine aL (i:=29) rfl rfl (by kernel_rfl) (by kernel_rfl) (by kernel_rfl) rfl rfl rfl (fun _ _ h=>h) h18 (bQ ab rfl rfl rfl (g15 h18) e17) ?_;show zI 34 2147483647;refine aL (i:=31) rfl rfl (by kernel_rfl) (by kernel_rfl) (by kernel_rfl) rfl rfl rfl (fun _ _ h=>h) h18 (cD rfl rfl) ?_;show zI 34 4294967295;refine zk 32 rfl (bo (av':=B ((decide ((a10.length:Int)≤(a2.length:Int) - a3))&&(decide (x16=a10)))) (aD (av:=.v _) rfl h18 rfl) (aw (cd h18))) ?_;show zI 34 8589934591;exact K32 _ 18 rfl rfl
    ·refine aJ rfl (al (i:=0) au rfl rfl rfl rfl) ?_;show zI 34 1339949055;refine aL (i:=28) rfl rfl (by kernel_rfl) (by kernel_rfl) (by kernel_rfl) rfl rfl rfl (fun _ _ h=>h) h18 (bB rfl rfl (g14 h18)) ?_;show zI 34 1608384511;refine lN (i:=17) (j:=21) (by kernel_rfl) rfl (.inr ⟨_,_,_,_,rfl,rfl,rfl,rfl,h18⟩) rfl (.inr ⟨_,_,_,_,rfl,rfl,rfl,rfl,h18⟩) ?_ ?_
     ·refine aJ rfl (al (i:=0) ab rfl rfl rfl rfl) ?_;show zI 34 1608515583;refine eI (i:=21) (by kernel_rfl) rfl rfl rfl rfl rfl h18<|aJ rfl (al (i:=0) au rfl rfl rfl rfl) ?_;show zI 34 1610612735;refine aL (i:=29) rfl rfl (by kernel_rfl) (by kernel_rfl) (by kernel_rfl) rfl rfl rfl (fun _ _ h=>h) h18 (bQ ab rfl rfl rfl (g15 h18) e17) ?_;show zI 34 2147483647;refine aL (i:=31) rfl rfl (by kernel_rfl) (by kernel_rfl) (by kernel_rfl) rfl rfl rfl (fun _ _ h=>h) h18 (cD rfl rfl) ?_;show zI 34 4294967295;refine zk 32 rfl (bo (av':=B ((decide ((a10.length:Int)≤(a2.length:Int) - a3))&&(decide (x16=a10)))) (aD (av:=.v _) rfl h18 rfl) (aw (cd h18))) ?_;show zI 34 8589934591;exact K32 _ 18 rfl rfl
     ·refine aJ rfl (al (i:=0) au rfl rfl rfl rfl) ?_;show zI 34 1610481663;refine eI (i:=17) (by kernel_rfl) rfl rfl rfl rfl rfl h18<|aJ rfl (al (i:=0) ab rfl rfl rfl rfl) ?_;show zI 34 1610612735;refine aL (i:=29) rfl rfl (by kernel_rfl) (by kernel_rfl) (by kernel_rfl) rfl rfl rfl (fun _ _ h=>h) h18 (bQ ab rfl rfl rfl (g15 h18) e17) ?_;show zI 34 2147483647;refine aL (i:=31) rfl rfl (by kernel_rfl) (by kernel_rfl) (by kernel_rfl) rfl rfl rfl (fun _ _ h=>h) h18 (cD rfl rfl) ?_;show zI 34 4294967295;refine zk 32 rfl (bo (av':=B ((decide ((a10.length:Int)≤(a2.length:Int) - a3))&&(decide (x16=a10)))) (aD (av:=.v _) rfl h18 rfl) (aw (cd h18))) ?_;show zI 34 8589934591;exact K32 _ 18 rfl rfl
   ·refine aU (i:=14) rfl rfl (by kernel_rfl) (by kernel_rfl) (by kernel_rfl) rfl rfl rfl (fun _ _ h=>h) h18 ?_;show zI 34 32767;refine aU (i:=15) rfl rfl (by kernel_rfl) (by kernel_rfl) (by kernel_rfl) rfl rfl rfl (fun _ _ h=>h) h18 ?_;show zI 34 65535;refine aU (i:=16) rfl rfl (by kernel_rfl) (by kernel_rfl) (by kernel_rfl) rfl rfl rfl (fun _ _ h=>h) h18 ?_;show zI 34 131071;refine aU (i:=17) rfl rfl (by kernel_rfl) (by kernel_rfl) (by kernel_rfl) rfl rfl rfl (fun _ _ h=>h) h18 ?_;show zI 34 262143;refine aU (i:=18) rfl rfl (by kernel_rfl) (by kernel_rfl) (by kernel_rfl) rfl rfl rfl (fun _ _ h=>h) h18 ?_;show zI 34 524287;refine aU (i:=19) rfl rfl (by kernel_rfl) (by kernel_rfl) (by kernel_rfl) rfl rfl rfl (fun _ _ h=>h) h18 ?_;show zI 34 1048575;refine aU (i:=20) rfl rfl (by kernel_rfl) (by kernel_rfl) (by kernel_rfl) rfl rfl rfl (fun _ _ h=>h) h18 ?_;show zI 34 2097151;refine aU (i:=21) rfl rfl (by kernel_rfl) (by kernel_rfl) (by kernel_rfl) rfl rfl rfl (fun _ _ h=>h) h18 ?_;show zI 34 4194303;refine aU (i:=22) rfl rfl (by kernel_rfl) (by kernel_rfl) (by kernel_rfl) rfl rfl rfl (fun _ _ h=>h) h18 ?_;show zI 34 8388607;refine aU (i:=23) rfl rfl (by kernel_rfl) (by kernel_rfl) (by kernel_rfl) rfl rfl rfl (fun _ _ h=>h) h18 ?_;show zI 34 16777215;refine aU (i:=24) rfl rfl (by kernel_rfl) (by kernel_rfl) (by kernel_rfl) rfl rfl rfl (fun _ _ h=>h) h18 ?_;show zI 34 33554431
    refine aU (i:=25) rfl rfl (by kernel_rfl) (by kernel_rfl) (by kernel_rfl) rfl rfl rfl (fun _ _ h=>h) h18 ?_;show zI 34 67108863;refine aU (i:=26) rfl rfl (by kernel_rfl) (by kernel_rfl) (by kernel_rfl) rfl rfl rfl (fun _ _ h=>h) h18 ?_;show zI 34 134217727;refine aU (i:=27) rfl rfl (by kernel_rfl) (by kernel_rfl) (by kernel_rfl) rfl rfl rfl (fun _ _ h=>h) h18 ?_;show zI 34 268435455;refine aU (i:=28) rfl rfl (by kernel_rfl) (by kernel_rfl) (by kernel_rfl) rfl rfl rfl (fun _ _ h=>h) h18 ?_;show zI 34 536870911;refine aU (i:=29) rfl rfl (by kernel_rfl) (by kernel_rfl) (by kernel_rfl) rfl rfl rfl (fun _ _ h=>h) h18 ?_;show zI 34 1073741823;refine aU (i:=30) rfl rfl (by kernel_rfl) (by kernel_rfl) (by kernel_rfl) rfl rfl rfl (fun _ _ h=>h) h18 ?_;show zI 34 2147483647;refine aU (i:=31) rfl rfl (by kernel_rfl) (by kernel_rfl) (by kernel_rfl) rfl rfl rfl (fun _ _ h=>h) h18 ?_;show zI 34 4294967295;refine zk 32 rfl (bo (av':=B ((decide ((a10.length:Int)≤(a2.length:Int) - a3))&&(decide (x16=a10)))) (aF (av:=.v _) rfl h18 rfl) (aw (cq h18))) ?_;show zI 34 8589934591;exact K32 _ 18 rfl rfl
  refine zk 33 rfl (asg rfl) ?_;show zI 34 17179869183;refine bw rfl<|aQ ?_;obtain rfl:=aq H;exact And.intro rfl (Exists.intro _ (Exists.intro _ ⟨aO rfl (.refl _),aK [0,0,0] rfl,rfl,rfl⟩))
set_option maxRecDepth 100000 in
set_option maxHeartbeats 1000000 in
theorem jp (F:Nat) (o1:Nat) (a2:List UInt8) (a3:Int) (a4:List (List UInt8)) (t5:Nat) (a6:Int) (a7:List (Int×(List UInt8)×(List UInt8)×List ((List UInt8)×List UInt8))) (t8:Nat) (a9:Int) (a10:List UInt8) (r11:List UInt8) (r12:Int) (r13:Int) (H:er F a2 a3 a4 a6 a7 a9 a10=some (r11,r12,r13)):ACalls Tryz.prog 46 [.pt o1 0,S a10] [.obj o1 [S a2,i64 a3,slE Enc.str a4 (some t5),i64 a6,slE (Enc.prod Enc.int (Enc.prod Enc.str (Enc.prod Enc.str (Enc.sl (Enc.prod Enc.str Enc.str))))) a7 (some t8),i64 a9],.tok t5 9,.tok t8 33] (fun e A'=>e=.ret (S r11)∧A'=[.obj o1 [S a2,i64 r12,slE Enc.str a4 (some t5),i64 a6,slE (Enc.prod Enc.int (Enc.prod Enc.str (Enc.prod Enc.str (Enc.sl (Enc.prod Enc.str Enc.str))))) a7 (some t8),i64 r13],.tok t5 9,.tok t8 33]):=by
 unfold er at H
 refine az Tryz.func46 rfl rfl ?_;show AW _ _ 63 _ _ _;refine ac<|aa ?_;show AR _ _ _ _ _ [0] _;refine za rfl<|ag<|bq (X:=Unit) (fun _=>⟨[(0,.pt o1 0)],[],[.obj o1 [S a2,i64 a3,slE Enc.str a4 (some t5),i64 a6,slE (Enc.prod Enc.int (Enc.prod Enc.str (Enc.prod Enc.str (Enc.sl (Enc.prod Enc.str Enc.str))))) a7 (some t8),i64 a9],.tok t5 9,.tok t8 33]⟩) (fun _=>iq F a2 a3 a4 a6 a7 a9=some (r11,r12,r13)) ?_ ?_
 ·refine ac<|aa ?_;show AR _ _ _ _ _ [0,1,2,3,4] _;refine zS rfl (ah (av:=.pt _ _) rfl)<|zS rfl (am rfl)<|zS rfl (ai (n:=1) (by kernel_rfl) rfl)<|zR rfl (al (i:=0) au rfl rfl rfl rfl)<|za rfl<|ag<|aR<|cl (X:=Nat×Int) (fun (n16,y14)=>⟨[(0,.pt o1 0),(1,S a10),(5,i64 y14)],[],[.obj o1 [S a2,i64 a3,slE Enc.str a4 (some t5),i64 a6,slE (Enc.prod Enc.int (Enc.prod Enc.str (Enc.prod Enc.str (Enc.sl (Enc.prod Enc.str Enc.str))))) a7 (some t8),i64 a9],.tok t5 9,.tok t8 33]⟩) (fun (n16,y14)=>ir F a2 a3 a4 a6 a7 a9 a10 n16 y14=some (r11,r12,r13)) (fun (n16,y14)=>n16) (F,a3) H (aP [0,0,0] (.cons (.refl _) (.cons (.refl _) (.cons (.refl _) (.nil _)))) rfl) ?_;rintro ⟨n16,y14⟩ H;obtain ⟨n16,rfl,H⟩:=cO H;replace H:iu F a2 a3 a4 a6 a7 a9 a10 (ir F a2 a3 a4 a6 a7 a9 a10 n16) y14=some (r11,r12,r13):=H
  unfold iu at H
  refine ac<|ac ?_;obtain ⟨g17,H⟩:=aI H;refine aa ?_;show AR _ _ _ _ _ [0,1,2,3,4,5,6,7,8,9] _;refine zm rfl<|zm rfl<|zS rfl (aW ab rfl)<|zS rfl (bB rfl rfl g17)<|zS rfl (ah (av:=.pt _ _) rfl)<|zS rfl (am rfl)<|zS rfl (ai (n:=0) (by kernel_rfl) rfl)<|zR rfl (al (i:=0) ab rfl rfl rfl rfl)<|zS rfl (aW ab rfl)<|zS rfl (dW rfl rfl)<|ag<|ax rfl (fun c18=>?_) (fun c18=>?_)
  ·replace H:=be c18 H;refine aC<|ac<|aR<|ac ?_;obtain ⟨g19,H⟩:=aI H;obtain ⟨g20,H⟩:=aI H;obtain ⟨x21,e22,H⟩:=bz H;refine aa ?_;show AR _ _ _ _ _ [0,1,2,3,4,5,6,7,8,9,10,11] _;refine zS rfl (ah (av:=.pt _ _) rfl)<|zS rfl (am rfl)<|zS rfl (ai (n:=0) (by kernel_rfl) rfl)<|zR rfl (al (i:=0) ab rfl rfl rfl rfl)<|zm rfl<|zm rfl<|zm rfl<|zS rfl (aW ab rfl)<|zS rfl (bB rfl rfl g19)<|zS rfl (bQ ab rfl rfl rfl g20 e22)<|zm rfl<|zS rfl (cD rfl rfl)<|ag<|ax rfl (fun c23=>?_) (fun c23=>?_)
   ·replace H:=be c23 H;refine bq (X:=(List UInt8)) (fun y27=>⟨[(0,.pt o1 0),(1,S a10),(5,i64 y14),(6,S y27)],[],[.obj o1 [S a2,i64 a3,slE Enc.str a4 (some t5),i64 a6,slE (Enc.prod Enc.int (Enc.prod Enc.str (Enc.prod Enc.str (Enc.sl (Enc.prod Enc.str Enc.str))))) a7 (some t8),i64 a9],.tok t5 9,.tok t8 33]⟩) (fun y27=>ip a9 a10 y14 y27=some (r11,r12,r13)) ?_ ?_
    ·obtain ⟨g24,H⟩:=aI H;obtain ⟨x25,e26,H⟩:=bz H;refine bn (by kernel_rfl) ?_;show AI _ _ _ _ _ 11 (Array.replicate 11 false) _;refine zk 0 rfl (ah (av:=.pt _ _) rfl) ?_;show zI 11 1;refine zk 1 rfl (am rfl) ?_;show zI 11 3;refine zk 2 rfl (ai (n:=0) (by kernel_rfl) rfl) ?_;show zI 11 7;refine zk 4 rfl (ah (av:=.pt _ _) rfl) ?_;show zI 11 23;refine zk 5 rfl (am rfl) ?_;show zI 11 55;refine zk 6 rfl (ai (n:=1) (by kernel_rfl) rfl) ?_;show zI 11 119;refine zk 8 rfl (mv rfl) ?_;show zI 11 375;refine dj (i:=3) (j:=7) (by kernel_rfl) rfl rfl rfl rfl ?_ ?_
     ·refine aJ rfl (al (i:=0) ab rfl rfl rfl rfl) ?_;show zI 11 383;refine bj (i:=7) (by kernel_rfl) rfl rfl<|aJ rfl (al (i:=0) au rfl rfl rfl rfl) ?_;show zI 11 511;refine zk 9 rfl (bQ ab rfl rfl rfl g24 e26) ?_;show zI 11 1023;refine zk 10 rfl (asg rfl) ?_;show zI 11 2047;refine bw rfl ?_;exact Exists.intro x25 ⟨H,aP [0,0,0] (.cons (.refl _) (.cons (.refl _) (.cons (.refl _) (.cons (.refl _) (.nil _))))) rfl⟩
     ·refine aJ rfl (al (i:=0) au rfl rfl rfl rfl) ?_;show zI 11 503;refine bj (i:=3) (by kernel_rfl) rfl rfl<|aJ rfl (al (i:=0) ab rfl rfl rfl rfl) ?_;show zI 11 511;refine zk 9 rfl (bQ ab rfl rfl rfl g24 e26) ?_;show zI 11 1023;refine zk 10 rfl (asg rfl) ?_;show zI 11 2047;refine bw rfl ?_;exact Exists.intro x25 ⟨H,aP [0,0,0] (.cons (.refl _) (.cons (.refl _) (.cons (.refl _) (.cons (.refl _) (.nil _))))) rfl⟩
    rintro y27 H;replace H:ip a9 a10 y14 y27=some (r11,r12,r13):=H
    unfold ip at H
    refine ac ?_;obtain ⟨g29,H⟩:=aI H;refine aa ?_;show AR _ _ _ _ _ [0,1,2,3,4,5,6,7] _;refine zS rfl (ah (av:=.pt _ _) rfl)<|zm rfl<|zm rfl<|zS rfl (aW ab rfl)<|zS rfl (bB rfl rfl g29)<|zS rfl (am rfl)<|zS rfl (ai (n:=1) (by kernel_rfl) rfl)<|s0 rfl rfl (aA (i:=0) (c:=.v _) (by kernel_rfl) rfl rfl rfl rfl (af rfl))<|ag<|ac<|aa ?_;show AR _ _ _ _ _ [0,1] _;refine zm rfl<|za rfl<|ag<|aQ ?_;obtain ⟨rfl,rfl,rfl⟩:=res3 H;exact And.intro rfl (Exists.intro _ (Exists.intro _ ⟨aO rfl (.refl _),aK [0,0,0] rfl,rfl,rfl⟩))
   ·replace H:=bf c23 H;refine aC ?_;obtain ⟨g30,H⟩:=aI H;refine aa ?_;show AR _ _ _ _ _ [0,1,2] _;refine zm rfl<|zS rfl (bB rfl rfl g30)<|za rfl<|ag ?_;exact Exists.intro (n16,y14+1) ⟨H,Nat.lt_succ_self _,aP [0,0,0] (.cons (.refl _) (.cons (.refl _) (.cons (.refl _) (.nil _)))) rfl⟩
  ·replace H:=bf c18 H;refine bU ?_;exact Exists.intro () ⟨H,aP [0,0,0] (.cons (.refl _) (.nil _)) rfl⟩
 rintro _ H;replace H:iq F a2 a3 a4 a6 a7 a9=some (r11,r12,r13):=H
 unfold iq at H
 refine ac ?_;obtain ⟨x32,e33,H⟩:=cm H;refine aa ?_;show AR _ _ _ _ _ [0,1] _;refine zS rfl (ah (av:=.pt _ _) rfl)<|ar rfl rfl (aY [0,0,0] rfl fa rfl (cR F o1 a2 a3 a4 t5 a6 a7 t8 a9 2 x32 e33) rfl (fun c A' h=>by cases h.1) ?_)
 rintro av A' ⟨h,rfl⟩; cases h
 refine ag<|ac<|aa ?_;show AR _ _ _ _ _ [0,1,2,3,4,5,6,7,8] _;refine zS rfl (ah (av:=.pt _ _) rfl)<|zS rfl (ah (av:=.pt _ _) rfl)<|zS rfl (am rfl)<|zS rfl (ai (n:=0) (by kernel_rfl) rfl)<|zR rfl (al (i:=0) ab rfl rfl rfl rfl)<|zS rfl (aW ab rfl)<|zS rfl (am rfl)<|zS rfl (ai (n:=1) (by kernel_rfl) rfl)<|s0 rfl rfl (aA (i:=0) (c:=.v _) (by kernel_rfl) rfl rfl rfl rfl (af rfl))<|ag<|ac<|aa ?_;show AR _ _ _ _ _ [0] _;refine za rfl<|ag<|aQ ?_;obtain ⟨rfl,rfl,rfl⟩:=res3 H;exact And.intro rfl (Exists.intro _ (Exists.intro _ ⟨aO rfl (.refl _),aK [0,0,0] rfl,rfl,rfl⟩))
set_option maxRecDepth 100000 in
set_option maxHeartbeats 1000000 in
theorem nF (F:Nat) (o1:Nat) (a2:List UInt8) (a3:Int) (a4:List (List UInt8)) (t5:Nat) (a6:Int) (a7:List (Int×(List UInt8)×(List UInt8)×List ((List UInt8)×List UInt8))) (t8:Nat) (a9:Int) (r10:Int) (r11:Int) (H:hN F a2 a3 a4 a6 a7 a9=some (r10,r11)):ACalls Tryz.prog 78 [.pt o1 0] [.obj o1 [S a2,i64 a3,slE Enc.str a4 (some t5),i64 a6,slE (Enc.prod Enc.int (Enc.prod Enc.str (Enc.prod Enc.str (Enc.sl (Enc.prod Enc.str Enc.str))))) a7 (some t8),i64 a9],.tok t5 9,.tok t8 33] (fun e A'=>e=.ret (i64 r10)∧A'=[.obj o1 [S a2,i64 r11,slE Enc.str a4 (some t5),i64 a6,slE (Enc.prod Enc.int (Enc.prod Enc.str (Enc.prod Enc.str (Enc.sl (Enc.prod Enc.str Enc.str))))) a7 (some t8),i64 a9],.tok t5 9,.tok t8 33]):=by
 unfold hN at H
 refine az Tryz.func78 rfl rfl ?_;show AW _ _ 37 _ _ _;refine ac<|aa ?_;show AR _ _ _ _ _ [0] _;refine za rfl<|ag<|ac<|aa ?_;show AR _ _ _ _ _ [0] _;refine za rfl<|ag<|bq (X:=Int×Int) (fun (y28,y29)=>⟨[(3,i64 y28)],[],[.obj o1 [S a2,i64 y29,slE Enc.str a4 (some t5),i64 a6,slE (Enc.prod Enc.int (Enc.prod Enc.str (Enc.prod Enc.str (Enc.sl (Enc.prod Enc.str Enc.str))))) a7 (some t8),i64 a9],.tok t5 9,.tok t8 33]⟩) (fun (y28,y29)=>gi y28 y29=some (r10,r11)) ?_ ?_
 ·refine aR<|cl (X:=Nat×Int×Int) (fun (n15,y12,y13)=>⟨[(0,.pt o1 0),(3,i64 y12)],[],[.obj o1 [S a2,i64 y13,slE Enc.str a4 (some t5),i64 a6,slE (Enc.prod Enc.int (Enc.prod Enc.str (Enc.prod Enc.str (Enc.sl (Enc.prod Enc.str Enc.str))))) a7 (some t8),i64 a9],.tok t5 9,.tok t8 33]⟩) (fun (n15,y12,y13)=>dc F a2 n15 (y12,y13)=some (r10,r11)) (fun (n15,y12,y13)=>n15) (F,0,a3) H (aP [0,0,0] (.cons (.refl _) (.cons (.refl _) (.nil _))) rfl) ?_;rintro ⟨n15,y12,y13⟩ H;obtain ⟨n15,rfl,H⟩:=cO H;replace H:gj F a2 (dc F a2 n15) y12 y13=some (r10,r11):=H
  unfold gj at H
  refine ac<|bq (X:=Unit) (fun _=>⟨[(0,.pt o1 0),(3,i64 y12),(14,B (decide (y13 < (a2.length:Int))))],[],[.obj o1 [S a2,i64 y13,slE Enc.str a4 (some t5),i64 a6,slE (Enc.prod Enc.int (Enc.prod Enc.str (Enc.prod Enc.str (Enc.sl (Enc.prod Enc.str Enc.str))))) a7 (some t8),i64 a9],.tok t5 9,.tok t8 33]⟩) (fun _=>gg F a2 y12 y13 (dc F a2 n15)=some (r10,r11)) ?_ ?_
  ·refine bn (by kernel_rfl) ?_;show AI _ _ _ _ _ 10 (Array.replicate 10 false) _;refine zk 0 rfl (ah (av:=.pt _ _) rfl) ?_;show zI 10 1;refine zk 1 rfl (am rfl) ?_;show zI 10 3;refine zk 2 rfl (ai (n:=1) (by kernel_rfl) rfl) ?_;show zI 10 7;refine zk 4 rfl (ah (av:=.pt _ _) rfl) ?_;show zI 10 23;refine zk 5 rfl (am rfl) ?_;show zI 10 55;refine zk 6 rfl (ai (n:=0) (by kernel_rfl) rfl) ?_;show zI 10 119;refine dj (i:=3) (j:=7) (by kernel_rfl) rfl rfl rfl rfl ?_ ?_
   ·refine aJ rfl (al (i:=0) au rfl rfl rfl rfl) ?_;show zI 10 127;refine bj (i:=7) (by kernel_rfl) rfl rfl<|aJ rfl (al (i:=0) ab rfl rfl rfl rfl) ?_;show zI 10 255;refine zk 8 rfl (aW ab rfl) ?_;show zI 10 511;refine zk 9 rfl (bN rfl rfl) ?_;show zI 10 1023;refine bw rfl ?_;exact Exists.intro () ⟨H,aP [0,0,0] (.cons (.refl _) (.cons (.refl _) (.cons (.refl _) (.nil _)))) rfl⟩
   ·refine aJ rfl (al (i:=0) ab rfl rfl rfl rfl) ?_;show zI 10 247;refine zk 8 rfl (aW ab rfl) ?_;show zI 10 503;refine bj (i:=3) (by kernel_rfl) rfl rfl<|aJ rfl (al (i:=0) au rfl rfl rfl rfl) ?_;show zI 10 511;refine zk 9 rfl (bN rfl rfl) ?_;show zI 10 1023;refine bw rfl ?_;exact Exists.intro () ⟨H,aP [0,0,0] (.cons (.refl _) (.cons (.refl _) (.cons (.refl _) (.nil _)))) rfl⟩
  rintro _ H;replace H:gg F a2 y12 y13 (dc F a2 n15)=some (r10,r11):=H
  unfold gg at H
  refine ax rfl (fun c17=>?_) (fun c17=>?_)
  ·replace H:=be c17 H;refine aC<|aR<|bq (X:=Bool) (fun y23=>⟨[(0,.pt o1 0),(3,i64 y12),(4,B y23)],[],[.obj o1 [S a2,i64 y13,slE Enc.str a4 (some t5),i64 a6,slE (Enc.prod Enc.int (Enc.prod Enc.str (Enc.prod Enc.str (Enc.sl (Enc.prod Enc.str Enc.str))))) a7 (some t8),i64 a9],.tok t5 9,.tok t8 33]⟩) (fun y23=>gh y12 y13 (dc F a2 n15) y23=some (r10,r11)) ?_ ?_
   ·obtain ⟨g18,H⟩:=aI H;obtain ⟨x19,e20,H⟩:=bz H;obtain ⟨x21,e22,H⟩:=cm H;refine bn (by kernel_rfl) ?_;show AI _ _ _ _ _ 11 (Array.replicate 11 false) _;refine zk 0 rfl (ah (av:=.pt _ _) rfl) ?_;show zI 11 1;refine zk 1 rfl (am rfl) ?_;show zI 11 3;refine zk 2 rfl (ai (n:=0) (by kernel_rfl) rfl) ?_;show zI 11 7;refine zk 4 rfl (ah (av:=.pt _ _) rfl) ?_;show zI 11 23;refine zk 5 rfl (am rfl) ?_;show zI 11 55;refine zk 6 rfl (ai (n:=1) (by kernel_rfl) rfl) ?_;show zI 11 119;refine dj (i:=3) (j:=7) (by kernel_rfl) rfl rfl rfl rfl ?_ ?_
    ·refine aJ rfl (al (i:=0) ab rfl rfl rfl rfl) ?_;show zI 11 127;refine bj (i:=7) (by kernel_rfl) rfl rfl<|aJ rfl (al (i:=0) au rfl rfl rfl rfl) ?_;show zI 11 255;refine zk 8 rfl (bg ab rfl rfl g18 e20) ?_;show zI 11 511;refine bj (i:=9) (by kernel_rfl) rfl rfl<|dV rfl oY rfl (kT F x19 x21 e22) ?_;show zI 11 1023;refine zk 10 rfl (asg rfl) ?_;show zI 11 2047;refine bw rfl ?_;exact Exists.intro x21 ⟨H,aP [0,0,0] (.cons (.refl _) (.cons (.refl _) (.cons (.refl _) (.nil _)))) rfl⟩
    ·refine aJ rfl (al (i:=0) au rfl rfl rfl rfl) ?_;show zI 11 247;refine bj (i:=3) (by kernel_rfl) rfl rfl<|aJ rfl (al (i:=0) ab rfl rfl rfl rfl) ?_;show zI 11 255;refine zk 8 rfl (bg ab rfl rfl g18 e20) ?_;show zI 11 511;refine bj (i:=9) (by kernel_rfl) rfl rfl<|dV rfl oY rfl (kT F x19 x21 e22) ?_;show zI 11 1023;refine zk 10 rfl (asg rfl) ?_;show zI 11 2047;refine bw rfl ?_;exact Exists.intro x21 ⟨H,aP [0,0,0] (.cons (.refl _) (.cons (.refl _) (.cons (.refl _) (.nil _)))) rfl⟩
   rintro y23 H;replace H:gh y12 y13 (dc F a2 n15) y23=some (r10,r11):=H
   unfold gh at H
   refine ac<|ac<|aa ?_;show AR _ _ _ _ _ [0,1] _;refine zm rfl<|zS rfl (ca rfl)<|ag<|ax rfl (fun c25=>?_) (fun c25=>?_)
   ·replace H:=be c25 H;refine bU ?_;exact Exists.intro (y12,y13) ⟨H,aP [0,0,0] (.cons (.refl _) (.nil _)) rfl⟩
   ·replace H:=bf c25 H;refine aC<|ac ?_;obtain ⟨g26,H⟩:=aI H;refine aa ?_;show AR _ _ _ _ _ [0,1,2,3,4,5,6,7] _;refine zS rfl (ah (av:=.pt _ _) rfl)<|zS rfl (am rfl)<|zS rfl (ai (n:=1) (by kernel_rfl) rfl)<|zR rfl (al (i:=0) au rfl rfl rfl rfl)<|zS rfl (bB rfl rfl g26)<|zS rfl (am rfl)<|zS rfl (ai (n:=1) (by kernel_rfl) rfl)<|s0 rfl rfl (aA (i:=0) (c:=.v _) (by kernel_rfl) rfl rfl rfl rfl (af rfl))<|ag ?_;obtain ⟨g27,H⟩:=aI H;refine aa ?_;show AR _ _ _ _ _ [0,1,2] _;refine zm rfl<|zS rfl (bB rfl rfl g27)<|za rfl<|ag ?_;exact Exists.intro (n15,y12+1,y13+1) ⟨H,Nat.lt_succ_self _,aP [0,0,0] (.cons (.refl _) (.cons (.refl _) (.nil _))) rfl⟩
  ·replace H:=bf c17 H;refine bU ?_;exact Exists.intro (y12,y13) ⟨H,aP [0,0,0] (.cons (.refl _) (.nil _)) rfl⟩
 rintro ⟨y28,y29⟩ H;replace H:gi y28 y29=some (r10,r11):=H
 unfold gi at H
 refine ac<|aa ?_;show AR _ _ _ _ _ [0,1] _;refine zm rfl<|za rfl<|ag<|aQ ?_;obtain ⟨rfl,rfl⟩:=ek H;exact And.intro rfl (Exists.intro _ (Exists.intro _ ⟨aO rfl (.refl _),aK [0,0,0] rfl,rfl,rfl⟩))
set_option maxRecDepth 100000 in
set_option maxHeartbeats 1000000 in
theorem mI (F:Nat) (o1:Nat) (a2:List UInt8) (a3:Int) (a4:List (List UInt8)) (t5:Nat) (a6:Int) (a7:List (Int×(List UInt8)×(List UInt8)×List ((List UInt8)×List UInt8))) (t8:Nat) (a9:Int) (r10:List UInt8) (r11:Int) (r12:Int) (H:eQ F a2 a3 a4 a6 a7 a9=some (r10,r11,r12)):ACalls Tryz.prog 77 [.pt o1 0] [.obj o1 [S a2,i64 a3,slE Enc.str a4 (some t5),i64 a6,slE (Enc.prod Enc.int (Enc.prod Enc.str (Enc.prod Enc.str (Enc.sl (Enc.prod Enc.str Enc.str))))) a7 (some t8),i64 a9],.tok t5 9,.tok t8 33] (fun e A'=>e=.ret (S r10)∧A'=[.obj o1 [S a2,i64 r11,slE Enc.str a4 (some t5),i64 a6,slE (Enc.prod Enc.int (Enc.prod Enc.str (Enc.prod Enc.str (Enc.sl (Enc.prod Enc.str Enc.str))))) a7 (some t8),i64 r12],.tok t5 9,.tok t8 33]):=by
 unfold eQ at H
 refine az Tryz.func77 rfl rfl ?_;show AW _ _ 63 _ _ _;refine ac<|aa ?_;show AR _ _ _ _ _ [0] _;refine za rfl<|ag<|ac<|aa ?_;show AR _ _ _ _ _ [0,1,2,3,4] _;refine zS rfl (ah (av:=.pt _ _) rfl)<|zS rfl (am rfl)<|zS rfl (ai (n:=1) (by kernel_rfl) rfl)<|zR rfl (al (i:=0) au rfl rfl rfl rfl)<|za rfl<|ag<|bq (X:=Int) (fun y27=>⟨[(0,.pt o1 0),(3,i64 a3)],[],[.obj o1 [S a2,i64 y27,slE Enc.str a4 (some t5),i64 a6,slE (Enc.prod Enc.int (Enc.prod Enc.str (Enc.prod Enc.str (Enc.sl (Enc.prod Enc.str Enc.str))))) a7 (some t8),i64 a9],.tok t5 9,.tok t8 33]⟩) (fun y27=>dK F a2 a3 a4 a6 a7 a9 y27=some (r10,r11,r12)) ?_ ?_
 ·refine aR<|cl (X:=Nat×Int) (fun (n15,y13)=>⟨[(0,.pt o1 0),(3,i64 a3)],[],[.obj o1 [S a2,i64 y13,slE Enc.str a4 (some t5),i64 a6,slE (Enc.prod Enc.int (Enc.prod Enc.str (Enc.prod Enc.str (Enc.sl (Enc.prod Enc.str Enc.str))))) a7 (some t8),i64 a9],.tok t5 9,.tok t8 33]⟩) (fun (n15,y13)=>dt F a2 a3 a4 a6 a7 a9 n15 y13=some (r10,r11,r12)) (fun (n15,y13)=>n15) (F,a3) H (aP [0,0,0] (.cons (.refl _) (.cons (.refl _) (.nil _))) rfl) ?_;rintro ⟨n15,y13⟩ H;obtain ⟨n15,rfl,H⟩:=cO H;replace H:fe F a2 a3 a4 a6 a7 a9 (dt F a2 a3 a4 a6 a7 a9 n15) y13=some (r10,r11,r12):=H
  unfold fe at H
  refine ac<|bq (X:=Unit) (fun _=>⟨[(0,.pt o1 0),(3,i64 a3),(20,B (decide (y13 < (a2.length:Int))))],[],[.obj o1 [S a2,i64 y13,slE Enc.str a4 (some t5),i64 a6,slE (Enc.prod Enc.int (Enc.prod Enc.str (Enc.prod Enc.str (Enc.sl (Enc.prod Enc.str Enc.str))))) a7 (some t8),i64 a9],.tok t5 9,.tok t8 33]⟩) (fun _=>gm F a2 a3 a4 a6 a7 a9 y13 (dt F a2 a3 a4 a6 a7 a9 n15)=some (r10,r11,r12)) ?_ ?_
  ·refine bn (by kernel_rfl) ?_;show AI _ _ _ _ _ 10 (Array.replicate 10 false) _;refine zk 0 rfl (ah (av:=.pt _ _) rfl) ?_;show zI 10 1;refine zk 1 rfl (am rfl) ?_;show zI 10 3;refine zk 2 rfl (ai (n:=1) (by kernel_rfl) rfl) ?_;show zI 10 7;refine zk 4 rfl (ah (av:=.pt _ _) rfl) ?_;show zI 10 23;refine zk 5 rfl (am rfl) ?_;show zI 10 55;refine zk 6 rfl (ai (n:=0) (by kernel_rfl) rfl) ?_;show zI 10 119;refine dj (i:=3) (j:=7) (by kernel_rfl) rfl rfl rfl rfl ?_ ?_
   ·refine aJ rfl (al (i:=0) au rfl rfl rfl rfl) ?_;show zI 10 127;refine bj (i:=7) (by kernel_rfl) rfl rfl<|aJ rfl (al (i:=0) ab rfl rfl rfl rfl) ?_;show zI 10 255;refine zk 8 rfl (aW ab rfl) ?_;show zI 10 511;refine zk 9 rfl (bN rfl rfl) ?_;show zI 10 1023;refine bw rfl ?_;exact Exists.intro () ⟨H,aP [0,0,0] (.cons (.refl _) (.cons (.refl _) (.cons (.refl _) (.nil _)))) rfl⟩
   ·refine aJ rfl (al (i:=0) ab rfl rfl rfl rfl) ?_;show zI 10 247;refine zk 8 rfl (aW ab rfl) ?_;show zI 10 503;refine bj (i:=3) (by kernel_rfl) rfl rfl<|aJ rfl (al (i:=0) au rfl rfl rfl rfl) ?_;show zI 10 511;refine zk 9 rfl (bN rfl rfl) ?_;show zI 10 1023;refine bw rfl ?_;exact Exists.intro () ⟨H,aP [0,0,0] (.cons (.refl _) (.cons (.refl _) (.cons (.refl _) (.nil _)))) rfl⟩
  rintro _ H;replace H:gm F a2 a3 a4 a6 a7 a9 y13 (dt F a2 a3 a4 a6 a7 a9 n15)=some (r10,r11,r12):=H
  unfold gm at H
  refine ax rfl (fun c17=>?_) (fun c17=>?_)
  ·replace H:=be c17 H;refine aC<|aR<|bq (X:=Bool) (fun y23=>⟨[(0,.pt o1 0),(3,i64 a3),(4,B y23)],[],[.obj o1 [S a2,i64 y13,slE Enc.str a4 (some t5),i64 a6,slE (Enc.prod Enc.int (Enc.prod Enc.str (Enc.prod Enc.str (Enc.sl (Enc.prod Enc.str Enc.str))))) a7 (some t8),i64 a9],.tok t5 9,.tok t8 33]⟩) (fun y23=>gn F a2 a3 a4 a6 a7 a9 y13 (dt F a2 a3 a4 a6 a7 a9 n15) y23=some (r10,r11,r12)) ?_ ?_
   ·obtain ⟨g18,H⟩:=aI H;obtain ⟨x19,e20,H⟩:=bz H;obtain ⟨x21,e22,H⟩:=cm H;refine bn (by kernel_rfl) ?_;show AI _ _ _ _ _ 17 (Array.replicate 17 false) _;refine zk 0 rfl (ah (av:=.pt _ _) rfl) ?_;show zI 17 1;refine zk 1 rfl (am rfl) ?_;show zI 17 3;refine zk 2 rfl (ai (n:=0) (by kernel_rfl) rfl) ?_;show zI 17 7;refine zk 4 rfl (ah (av:=.pt _ _) rfl) ?_;show zI 17 23;refine zk 5 rfl (am rfl) ?_;show zI 17 55;refine zk 6 rfl (ai (n:=1) (by kernel_rfl) rfl) ?_;show zI 17 119;refine zk 9 rfl (ah (av:=.pt _ _) rfl) ?_;show zI 17 631;refine zk 10 rfl (am rfl) ?_;show zI 17 1655;refine zk 11 rfl (ai (n:=1) (by kernel_rfl) rfl) ?_;show zI 17 3703;refine zk 13 rfl (mv rfl) ?_;show zI 17 11895;refine xI (i:=3) (j:=7) (l:=12) (by kernel_rfl) rfl rfl rfl rfl rfl rfl ?_ ?_ ?_
    ·refine aJ rfl (al (i:=0) ab rfl rfl rfl rfl) ?_;show zI 17 11903;refine dj (i:=7) (j:=12) (by kernel_rfl) rfl rfl rfl rfl ?_ ?_
     ·refine aJ rfl (al (i:=0) au rfl rfl rfl rfl) ?_;show zI 17 12031;refine zk 8 rfl (bg ab rfl rfl g18 e20) ?_;show zI 17 12287;refine bj (i:=12) (by kernel_rfl) rfl rfl<|aJ rfl (al (i:=0) au rfl rfl rfl rfl) ?_;show zI 17 16383;refine zk 14 rfl (bI rfl rfl) ?_;show zI 17 32767;refine bj (i:=15) (by kernel_rfl) rfl rfl<|dV rfl kQ rfl (gB F x19 (decide (y13=a3)) x21 e22) ?_;show zI 17 65535;refine zk 16 rfl (asg rfl) ?_;show zI 17 131071;refine bw rfl ?_;exact Exists.intro x21 ⟨H,aP [0,0,0] (.cons (.refl _) (.cons (.refl _) (.cons (.refl _) (.nil _)))) rfl⟩
     ·refine aJ rfl (al (i:=0) au rfl rfl rfl rfl) ?_;show zI 17 15999;refine zk 14 rfl (bI rfl rfl) ?_;show zI 17 32383;refine bj (i:=7) (by kernel_rfl) rfl rfl<|aJ rfl (al (i:=0) au rfl rfl rfl rfl) ?_;show zI 17 32511;refine zk 8 rfl (bg ab rfl rfl g18 e20) ?_;show zI 17 32767;refine bj (i:=15) (by kernel_rfl) rfl rfl<|dV rfl kQ rfl (gB F x19 (decide (y13=a3)) x21 e22) ?_;show zI 17 65535;refine zk 16 rfl (asg rfl) ?_;show zI 17 131071;refine bw rfl ?_;exact Exists.intro x21 ⟨H,aP [0,0,0] (.cons (.refl _) (.cons (.refl _) (.cons (.refl _) (.nil _)))) rfl⟩
    ·refine aJ rfl (al (i:=0) au rfl rfl rfl rfl) ?_;show zI 17 12023;refine dj (i:=3) (j:=12) (by kernel_rfl) rfl rfl rfl rfl ?_ ?_
     ·refine aJ rfl (al (i:=0) ab rfl rfl rfl rfl) ?_;show zI 17 12031;refine zk 8 rfl (bg ab rfl rfl g18 e20) ?_;show zI 17 12287;refine bj (i:=12) (by kernel_rfl) rfl rfl<|aJ rfl (al (i:=0) au rfl rfl rfl rfl) ?_;show zI 17 16383;refine zk 14 rfl (bI rfl rfl) ?_;show zI 17 32767;refine bj (i:=15) (by kernel_rfl) rfl rfl<|dV rfl kQ rfl (gB F x19 (decide (y13=a3)) x21 e22) ?_;show zI 17 65535;refine zk 16 rfl (asg rfl) ?_;show zI 17 131071;refine bw rfl ?_;exact Exists.intro x21 ⟨H,aP [0,0,0] (.cons (.refl _) (.cons (.refl _) (.cons (.refl _) (.nil _)))) rfl⟩
     ·refine aJ rfl (al (i:=0) au rfl rfl rfl rfl) ?_;show zI 17 16119;refine zk 14 rfl (bI rfl rfl) ?_;show zI 17 32503;refine bj (i:=3) (by kernel_rfl) rfl rfl<|aJ rfl (al (i:=0) ab rfl rfl rfl rfl) ?_;show zI 17 32511;refine zk 8 rfl (bg ab rfl rfl g18 e20) ?_;show zI 17 32767;refine bj (i:=15) (by kernel_rfl) rfl rfl<|dV rfl kQ rfl (gB F x19 (decide (y13=a3)) x21 e22) ?_;show zI 17 65535;refine zk 16 rfl (asg rfl) ?_;show zI 17 131071;refine bw rfl ?_;exact Exists.intro x21 ⟨H,aP [0,0,0] (.cons (.refl _) (.cons (.refl _) (.cons (.refl _) (.nil _)))) rfl⟩
    ·refine aJ rfl (al (i:=0) au rfl rfl rfl rfl) ?_;show zI 17 15991;refine zk 14 rfl (bI rfl rfl) ?_;show zI 17 32375;refine dj (i:=3) (j:=7) (by kernel_rfl) rfl rfl rfl rfl ?_ ?_
     ·refine aJ rfl (al (i:=0) ab rfl rfl rfl rfl) ?_;show zI 17 32383;refine bj (i:=7) (by kernel_rfl) rfl rfl<|aJ rfl (al (i:=0) au rfl rfl rfl rfl) ?_;show zI 17 32511;refine zk 8 rfl (bg ab rfl rfl g18 e20) ?_;show zI 17 32767;refine bj (i:=15) (by kernel_rfl) rfl rfl<|dV rfl kQ rfl (gB F x19 (decide (y13=a3)) x21 e22) ?_;show zI 17 65535;refine zk 16 rfl (asg rfl) ?_;show zI 17 131071;refine bw rfl ?_;exact Exists.intro x21 ⟨H,aP [0,0,0] (.cons (.refl _) (.cons (.refl _) (.cons (.refl _) (.nil _)))) rfl⟩
     ·refine aJ rfl (al (i:=0) au rfl rfl rfl rfl) ?_;show zI 17 32503;refine bj (i:=3) (by kernel_rfl) rfl rfl<|aJ rfl (al (i:=0) ab rfl rfl rfl rfl) ?_;show zI 17 32511;refine zk 8 rfl (bg ab rfl rfl g18 e20) ?_;show zI 17 32767;refine bj (i:=15) (by kernel_rfl) rfl rfl<|dV rfl kQ rfl (gB F x19 (decide (y13=a3)) x21 e22) ?_;show zI 17 65535;refine zk 16 rfl (asg rfl) ?_;show zI 17 131071;refine bw rfl ?_;exact Exists.intro x21 ⟨H,aP [0,0,0] (.cons (.refl _) (.cons (.refl _) (.cons (.refl _) (.nil _)))) rfl⟩
   rintro y23 H;replace H:gn F a2 a3 a4 a6 a7 a9 y13 (dt F a2 a3 a4 a6 a7 a9 n15) y23=some (r10,r11,r12):=H
   unfold gn at H
   refine ac<|ac<|aa ?_;show AR _ _ _ _ _ [0,1] _;refine zm rfl<|zS rfl (ca rfl)<|ag<|ax rfl (fun c25=>?_) (fun c25=>?_)
   ·replace H:=be c25 H;refine bU ?_;exact Exists.intro y13 ⟨H,aP [0,0,0] (.cons (.refl _) (.cons (.refl _) (.nil _))) rfl⟩
   ·replace H:=bf c25 H;refine aC ?_;obtain ⟨g26,H⟩:=aI H;refine aa ?_;show AR _ _ _ _ _ [0,1,2,3,4,5,6,7] _;refine zS rfl (ah (av:=.pt _ _) rfl)<|zS rfl (am rfl)<|zS rfl (ai (n:=1) (by kernel_rfl) rfl)<|zR rfl (al (i:=0) au rfl rfl rfl rfl)<|zS rfl (bB rfl rfl g26)<|zS rfl (am rfl)<|zS rfl (ai (n:=1) (by kernel_rfl) rfl)<|s0 rfl rfl (aA (i:=0) (c:=.v _) (by kernel_rfl) rfl rfl rfl rfl (af rfl))<|ag ?_;exact Exists.intro (n15,y13+1) ⟨H,Nat.lt_succ_self _,aP [0,0,0] (.cons (.refl _) (.cons (.refl _) (.nil _))) rfl⟩
  ·replace H:=bf c17 H;refine bU ?_;exact Exists.intro y13 ⟨H,aP [0,0,0] (.cons (.refl _) (.cons (.refl _) (.nil _))) rfl⟩
 rintro y27 H;replace H:dK F a2 a3 a4 a6 a7 a9 y27=some (r10,r11,r12):=H
 unfold dK at H
 refine bq (X:=(List UInt8)) (fun y32=>⟨[(0,.pt o1 0),(5,S y32)],[],[.obj o1 [S a2,i64 y27,slE Enc.str a4 (some t5),i64 a6,slE (Enc.prod Enc.int (Enc.prod Enc.str (Enc.prod Enc.str (Enc.sl (Enc.prod Enc.str Enc.str))))) a7 (some t8),i64 a9],.tok t5 9,.tok t8 33]⟩) (fun y32=>ix F a2 a4 a6 a7 a9 y27 y32=some (r10,r11,r12)) ?_ ?_
 ·obtain ⟨g29,H⟩:=aI H;obtain ⟨x30,e31,H⟩:=bz H;refine bn (by kernel_rfl) ?_;show AI _ _ _ _ _ 11 (Array.replicate 11 false) _;refine zk 0 rfl (ah (av:=.pt _ _) rfl) ?_;show zI 11 1;refine zk 1 rfl (am rfl) ?_;show zI 11 3;refine zk 2 rfl (ai (n:=0) (by kernel_rfl) rfl) ?_;show zI 11 7;refine zk 4 rfl (mv rfl) ?_;show zI 11 23;refine zk 5 rfl (ah (av:=.pt _ _) rfl) ?_;show zI 11 55;refine zk 6 rfl (am rfl) ?_;show zI 11 119;refine zk 7 rfl (ai (n:=1) (by kernel_rfl) rfl) ?_;show zI 11 247;refine dj (i:=3) (j:=8) (by kernel_rfl) rfl rfl rfl rfl ?_ ?_
  ·refine aJ rfl (al (i:=0) ab rfl rfl rfl rfl) ?_;show zI 11 255;refine bj (i:=8) (by kernel_rfl) rfl rfl<|aJ rfl (al (i:=0) au rfl rfl rfl rfl) ?_;show zI 11 511;refine zk 9 rfl (bQ ab rfl rfl rfl g29 e31) ?_;show zI 11 1023;refine zk 10 rfl (asg rfl) ?_;show zI 11 2047;refine bw rfl ?_;exact Exists.intro x30 ⟨H,aP [0,0,0] (.cons (.refl _) (.cons (.refl _) (.nil _))) rfl⟩
  ·refine aJ rfl (al (i:=0) au rfl rfl rfl rfl) ?_;show zI 11 503;refine bj (i:=3) (by kernel_rfl) rfl rfl<|aJ rfl (al (i:=0) ab rfl rfl rfl rfl) ?_;show zI 11 511;refine zk 9 rfl (bQ ab rfl rfl rfl g29 e31) ?_;show zI 11 1023;refine zk 10 rfl (asg rfl) ?_;show zI 11 2047;refine bw rfl ?_;exact Exists.intro x30 ⟨H,aP [0,0,0] (.cons (.refl _) (.cons (.refl _) (.nil _))) rfl⟩
 rintro y32 H;replace H:ix F a2 a4 a6 a7 a9 y27 y32=some (r10,r11,r12):=H
 unfold ix at H
 refine ac ?_;obtain ⟨x34,e35,H⟩:=cm H;refine aa ?_;show AR _ _ _ _ _ [0,1,2] _;refine zm rfl<|ar rfl rfl (aX rfl Bh rfl (pZ F y32 x34 e35) ?_);refine za rfl<|ag<|bq (X:=Int) (fun y39=>⟨[(5,S y32)],[],[.obj o1 [S a2,i64 y27,slE Enc.str a4 (some t5),i64 a6,slE (Enc.prod Enc.int (Enc.prod Enc.str (Enc.prod Enc.str (Enc.sl (Enc.prod Enc.str Enc.str))))) a7 (some t8),i64 y39],.tok t5 9,.tok t8 33]⟩) (fun y39=>iy y27 y32 y39=some (r10,r11,r12)) ?_ ?_
 ·refine ac<|aa ?_;show AR _ _ _ _ _ [0,1] _;refine zm rfl<|zS rfl (ca rfl)<|ag<|ax rfl (fun c36=>?_) (fun c36=>?_)
  ·replace H:=be c36 H;obtain ⟨x37,e38,H⟩:=cm H;refine aa ?_;show AR _ _ _ _ _ [0,1] _;refine zS rfl (ah (av:=.pt _ _) rfl)<|ar rfl rfl (aY [0,0,0] rfl fa rfl (cR F o1 a2 y27 a4 t5 a6 a7 t8 a9 2 x37 e38) rfl (fun c A' h=>by cases h.1) ?_)
   rintro av A' ⟨h,rfl⟩; cases h
   refine ag ?_;exact Exists.intro x37 ⟨H,aP [0,0,0] (.cons (.refl _) (.nil _)) rfl⟩
  ·replace H:=bf c36 H;refine aC ?_;exact Exists.intro a9 ⟨H,aP [0,0,0] (.cons (.refl _) (.nil _)) rfl⟩
 rintro y39 H;replace H:iy y27 y32 y39=some (r10,r11,r12):=H
 unfold iy at H
 refine ac<|aa ?_;show AR _ _ _ _ _ [0,1] _;refine zm rfl<|za rfl<|ag<|aQ ?_;obtain ⟨rfl,rfl,rfl⟩:=res3 H;exact And.intro rfl (Exists.intro _ (Exists.intro _ ⟨aO rfl (.refl _),aK [0,0,0] rfl,rfl,rfl⟩))
set_option maxRecDepth 100000 in
set_option maxHeartbeats 1000000 in
theorem pp (F:Nat) (o1:Nat) (a2:List UInt8) (a3:Int) (a4:List (List UInt8)) (t5:Nat) (a6:Int) (a7:List (Int×(List UInt8)×(List UInt8)×List ((List UInt8)×List UInt8))) (t8:Nat) (a9:Int) (a10:List UInt8) (r11:List (Int×(List UInt8)×(List UInt8)×List ((List UInt8)×List UInt8))) (H:jZ F a2 a3 a4 a6 a7 a9 a10=some r11):ACalls Tryz.prog 48 [.pt o1 0,S a10] [.obj o1 [S a2,i64 a3,slE Enc.str a4 (some t5),i64 a6,slE (Enc.prod Enc.int (Enc.prod Enc.str (Enc.prod Enc.str (Enc.sl (Enc.prod Enc.str Enc.str))))) a7 (some t8),i64 a9],.tok t5 9,.tok t8 33] (fun e A'=>e=.ret (.tup [])∧∃ t12,A'=[.obj o1 [S a2,i64 a3,slE Enc.str a4 (some t5),i64 a6,slE (Enc.prod Enc.int (Enc.prod Enc.str (Enc.prod Enc.str (Enc.sl (Enc.prod Enc.str Enc.str))))) r11 (some t12),i64 a9],.tok t5 9,.tok t12 33]):=by
 unfold jZ at H
 refine az Tryz.func48 rfl rfl ?_;show AW _ _ 23 _ _ _;refine ac<|ac<|aa ?_;show AR _ _ _ _ _ [0,1] _;refine zm rfl<|zS rfl (cD rfl rfl)<|ag<|ax rfl (fun c13=>?_) (fun c13=>?_)
 ·replace H:=be c13 H;refine aQ ?_;obtain rfl:=aq H;exact And.intro rfl (Exists.intro _ (Exists.intro _ ⟨bp rfl,aK [0,0,0] rfl,rfl,t8,rfl⟩))
 ·replace H:=bf c13 H;refine aC<|ac<|aa ?_;show AR _ _ _ _ _ [0,1,2,3,4,5] _;refine zS rfl (ah (av:=.pt _ _) rfl)<|zS rfl (am rfl)<|zS rfl (ai (n:=2) (by kernel_rfl) rfl)<|zR rfl (al (i:=0) ao rfl rfl rfl rfl)<|zS rfl (bh ao rfl)<|zS rfl (eN rfl rfl)<|ag<|ax rfl (fun c14=>?_) (fun c14=>?_)
  ·replace H:=be c14 H;obtain ⟨g16,H⟩:=aI H;obtain ⟨x17,e18,H⟩:=bz H;refine aa ?_;show AR _ _ _ _ _ [0,1,2,3,4,5,6,7,8,9,10,11] _;refine zS rfl (ah (av:=.pt _ _) rfl)<|zS rfl (ah (av:=.pt _ _) rfl)<|zS rfl (am rfl)<|zS rfl (ai (n:=4) (by kernel_rfl) rfl)<|zR rfl (al (i:=0) ay rfl rfl rfl rfl)<|zm rfl<|zS rfl (eH (zs:=[.int .i64 0,.string ⟨#[]⟩,.string ⟨#[]⟩,.slice none 0 0]) (ps:=[(0,1),(1,1),(2,1),(3,1)]) (cs:=[i64 2,S ([]:List UInt8),S a10,aj]) (by kernel_rfl) rfl rfl)<|zR rfl (dL (ds:=[i64 2,S ([]:List UInt8),S a10,slE (Enc.prod Enc.str Enc.str) ([]:List ((List UInt8)×List UInt8)) none]) 18 (.cons (.refl _) (.cons (.refl _) (.cons (.refl _) (.cons (.nil _) (.nil))))) (hc:=rfl)<|cW (E:=(Enc.prod Enc.int (Enc.prod Enc.str (Enc.prod Enc.str (Enc.sl (Enc.prod Enc.str Enc.str)))))) (bytes:=64) (zs:=[.int .i64 0,.string ⟨#[]⟩,.string ⟨#[]⟩,.slice none 0 0]) (l:=([(2,([]:List UInt8),a10,([]:List ((List UInt8)×List UInt8)))]:List (Int×(List UInt8)×(List UInt8)×List ((List UInt8)×List UInt8)))) ay (by kernel_rfl) (by kernel_rfl) rfl rfl rfl rfl rfl)<|zX rfl (cM (E:=(Enc.prod Enc.int (Enc.prod Enc.str (Enc.prod Enc.str (Enc.sl (Enc.prod Enc.str Enc.str)))))) (bytes:=64) 2 ay ay rfl (by kernel_rfl) rfl rfl rfl rfl g16 e18) ?_;rintro _ _ ⟨t15,rfl,rfl⟩
   refine zS rfl (am rfl)<|zS rfl (ai (n:=4) (by kernel_rfl) rfl)<|s0 rfl rfl (aA (i:=0) (c:=slE _ _ _) (by kernel_rfl) rfl rfl rfl rfl (af rfl))<|ag ?_;obtain rfl:=aq H;exact And.intro rfl (Exists.intro _ (Exists.intro _ ⟨bp rfl,aK [0,0,0] rfl,rfl,t15,rfl⟩))
  ·replace H:=bf c14 H;refine aC ?_;obtain rfl:=aq H;exact And.intro rfl (Exists.intro _ (Exists.intro _ ⟨bp rfl,aK [0,0,0] rfl,rfl,t8,rfl⟩))
set_option maxRecDepth 100000 in
set_option maxHeartbeats 1000000 in
theorem sB (F:Nat) (o1:Nat) (a2:List UInt8) (a3:Int) (a4:List (List UInt8)) (t5:Nat) (a6:Int) (a7:List (Int×(List UInt8)×(List UInt8)×List ((List UInt8)×List UInt8))) (t8:Nat) (a9:Int) (r10:Int) (r11:List (Int×(List UInt8)×(List UInt8)×List ((List UInt8)×List UInt8))) (r13:Int) (H:iV F a2 a3 a4 a6 a7 a9=some (r10,r11,r13)):ACalls Tryz.prog 45 [.pt o1 0] [.obj o1 [S a2,i64 a3,slE Enc.str a4 (some t5),i64 a6,slE (Enc.prod Enc.int (Enc.prod Enc.str (Enc.prod Enc.str (Enc.sl (Enc.prod Enc.str Enc.str))))) a7 (some t8),i64 a9],.tok t5 9,.tok t8 33] (fun e A'=>e=.ret (.tup [])∧∃ t12,A'=[.obj o1 [S a2,i64 r10,slE Enc.str a4 (some t5),i64 a6,slE (Enc.prod Enc.int (Enc.prod Enc.str (Enc.prod Enc.str (Enc.sl (Enc.prod Enc.str Enc.str))))) r11 (some t12),i64 r13],.tok t5 9,.tok t12 33]):=by
 unfold iV at H
 refine az Tryz.func45 rfl rfl ?_;show AW _ _ 87 _ _ _;refine ac<|aa ?_;show AR _ _ _ _ _ [0,1,2,3,4] _;refine zS rfl (ah (av:=.pt _ _) rfl)<|zS rfl (am rfl)<|zS rfl (ai (n:=1) (by kernel_rfl) rfl)<|zR rfl (al (i:=0) au rfl rfl rfl rfl)<|za rfl<|ag<|ac<|aa ?_;show AR _ _ _ _ _ [0] _;refine za rfl<|ag<|bq (X:=Bool×Int) (fun (y35,y36)=>⟨[(0,.pt o1 0),(2,i64 a3),(3,B y35)],[],[.obj o1 [S a2,i64 y36,slE Enc.str a4 (some t5),i64 a6,slE (Enc.prod Enc.int (Enc.prod Enc.str (Enc.prod Enc.str (Enc.sl (Enc.prod Enc.str Enc.str))))) a7 (some t8),i64 a9],.tok t5 9,.tok t8 33]⟩) (fun (y35,y36)=>fC F a2 a3 a4 a6 a7 a9 y35 y36=some (r10,r11,r13)) ?_ ?_
 ·refine aR<|cl (X:=Nat×Bool×Int) (fun (n17,y14,y15)=>⟨[(0,.pt o1 0),(2,i64 a3),(3,B y14)],[],[.obj o1 [S a2,i64 y15,slE Enc.str a4 (some t5),i64 a6,slE (Enc.prod Enc.int (Enc.prod Enc.str (Enc.prod Enc.str (Enc.sl (Enc.prod Enc.str Enc.str))))) a7 (some t8),i64 a9],.tok t5 9,.tok t8 33]⟩) (fun (n17,y14,y15)=>dz F a2 a3 a4 a6 a7 a9 n17 (y14,y15)=some (r10,r11,r13)) (fun (n17,y14,y15)=>n17) (F,true,a3) H (aP [0,0,0] (.cons (.refl _) (.cons (.refl _) (.cons (.refl _) (.nil _)))) rfl) ?_;rintro ⟨n17,y14,y15⟩ H;obtain ⟨n17,rfl,H⟩:=cO H;replace H:gN F a2 a3 a4 a6 a7 a9 (dz F a2 a3 a4 a6 a7 a9 n17) y14 y15=some (r10,r11,r13):=H
  unfold gN at H
  refine ac<|bq (X:=Bool) (fun y23=>⟨[(0,.pt o1 0),(2,i64 a3),(3,B y14),(32,B y23)],[],[.obj o1 [S a2,i64 y15,slE Enc.str a4 (some t5),i64 a6,slE (Enc.prod Enc.int (Enc.prod Enc.str (Enc.prod Enc.str (Enc.sl (Enc.prod Enc.str Enc.str))))) a7 (some t8),i64 a9],.tok t5 9,.tok t8 33]⟩) (fun y23=>gL F a2 a3 a4 a6 a7 a9 y14 y15 (dz F a2 a3 a4 a6 a7 a9 n17) y23=some (r10,r11,r13)) ?_ ?_
  ·obtain ⟨g19,H⟩:=cP H;obtain ⟨x20,e21,H⟩:=bz H;refine bn (by kernel_rfl) ?_;show AI _ _ _ _ _ 22 (Array.replicate 22 false) _;refine zk 0 rfl (ah (av:=.pt _ _) rfl) ?_;show zI 22 1;refine zk 1 rfl (am rfl) ?_;show zI 22 3;refine zk 2 rfl (ai (n:=1) (by kernel_rfl) rfl) ?_;show zI 22 7;refine zk 4 rfl (ah (av:=.pt _ _) rfl) ?_;show zI 22 23;refine zk 5 rfl (am rfl) ?_;show zI 22 55;refine zk 6 rfl (ai (n:=0) (by kernel_rfl) rfl) ?_;show zI 22 119;refine dj (i:=3) (j:=7) (by kernel_rfl) rfl rfl rfl rfl ?_ ?_
   ·refine aJ rfl (al (i:=0) au rfl rfl rfl rfl) ?_;show zI 22 127;refine bj (i:=7) (by kernel_rfl) rfl rfl<|aJ rfl (al (i:=0) ab rfl rfl rfl rfl) ?_;show zI 22 255;refine zk 8 rfl (aW ab rfl) ?_;show zI 22 511;refine zk 9 rfl (bN rfl rfl) ?_;show zI 22 1023;refine zk 10 rfl (mv rfl) ?_;show zI 22 2047;refine AI.meet 0 (zb 22 4194303) 32 (B ((decide (y15 < (a2.length:Int)))&&(!decide (x20=60)))) (fun K21=>?_) ?_
    ·refine ic (t:=21) rfl (fun h18=>?_) (fun h18=>?_)
     ·refine aL (i:=11) rfl rfl (by kernel_rfl) (by kernel_rfl) (by kernel_rfl) rfl rfl rfl (fun _ _ h=>h) h18 (ah (av:=.pt _ _) rfl) ?_;show zI 22 4095;refine aL (i:=12) rfl rfl (by kernel_rfl) (by kernel_rfl) (by kernel_rfl) rfl rfl rfl (fun _ _ h=>h) h18 (am rfl) ?_;show zI 22 8191;refine aL (i:=13) rfl rfl (by kernel_rfl) (by kernel_rfl) (by kernel_rfl) rfl rfl rfl (fun _ _ h=>h) h18 (ai (n:=0) (by kernel_rfl) rfl) ?_;show zI 22 16383;refine aL (i:=15) rfl rfl (by kernel_rfl) (by kernel_rfl) (by kernel_rfl) rfl rfl rfl (fun _ _ h=>h) h18 (ah (av:=.pt _ _) rfl) ?_;show zI 22 49151;refine aL (i:=16) rfl rfl (by kernel_rfl) (by kernel_rfl) (by kernel_rfl) rfl rfl rfl (fun _ _ h=>h) h18 (am rfl) ?_;show zI 22 114687;refine aL (i:=17) rfl rfl (by kernel_rfl) (by kernel_rfl) (by kernel_rfl) rfl rfl rfl (fun _ _ h=>h) h18 (ai (n:=1) (by kernel_rfl) rfl) ?_;show zI 22 245759;refine lN (i:=14) (j:=18) (by kernel_rfl) rfl (.inr ⟨_,_,_,_,rfl,rfl,rfl,rfl,h18⟩) rfl (.inr ⟨_,_,_,_,rfl,rfl,rfl,rfl,h18⟩) ?_ ?_
      ·refine aJ rfl (al (i:=0) ab rfl rfl rfl rfl) ?_;show zI 22 262143;refine eI (i:=18) (by kernel_rfl) rfl rfl rfl rfl rfl h18<|aJ rfl (al (i:=0) au rfl rfl rfl rfl) ?_;show zI 22 524287;refine aL (i:=19) rfl rfl (by kernel_rfl) (by kernel_rfl) (by kernel_rfl) rfl rfl rfl (fun _ _ h=>h) h18 (bg ab rfl rfl (g19 h18) e21) ?_;show zI 22 1048575;refine aL (i:=20) rfl rfl (by kernel_rfl) (by kernel_rfl) (by kernel_rfl) rfl rfl rfl (fun _ _ h=>h) h18 (sg (a:=x20) (b:=60) rfl rfl) ?_;show zI 22 2097151;refine zk 21 rfl (bo (av':=B ((decide (y15 < (a2.length:Int)))&&(!decide (x20=60)))) (aD (av:=.v _) rfl h18 rfl) (aw (cd h18))) ?_;show zI 22 4194303;exact K21 _ 10 rfl rfl
      ·refine aJ rfl (al (i:=0) au rfl rfl rfl rfl) ?_;show zI 22 507903;refine eI (i:=14) (by kernel_rfl) rfl rfl rfl rfl rfl h18<|aJ rfl (al (i:=0) ab rfl rfl rfl rfl) ?_;show zI 22 524287;refine aL (i:=19) rfl rfl (by kernel_rfl) (by kernel_rfl) (by kernel_rfl) rfl rfl rfl (fun _ _ h=>h) h18 (bg ab rfl rfl (g19 h18) e21) ?_;show zI 22 1048575;refine aL (i:=20) rfl rfl (by kernel_rfl) (by kernel_rfl) (by kernel_rfl) rfl rfl rfl (fun _ _ h=>h) h18 (sg (a:=x20) (b:=60) rfl rfl) ?_;show zI 22 2097151;refine zk 21 rfl (bo (av':=B ((decide (y15 < (a2.length:Int)))&&(!decide (x20=60)))) (aD (av:=.v _) rfl h18 rfl) (aw (cd h18))) ?_;show zI 22 4194303;exact K21 _ 10 rfl rfl
     ·refine aU (i:=11) rfl rfl (by kernel_rfl) (by kernel_rfl) (by kernel_rfl) rfl rfl rfl (fun _ _ h=>h) h18 ?_;show zI 22 4095;refine aU (i:=12) rfl rfl (by kernel_rfl) (by kernel_rfl) (by kernel_rfl) rfl rfl rfl (fun _ _ h=>h) h18 ?_;show zI 22 8191;refine aU (i:=13) rfl rfl (by kernel_rfl) (by kernel_rfl) (by kernel_rfl) rfl rfl rfl (fun _ _ h=>h) h18 ?_;show zI 22 16383;refine aU (i:=14) rfl rfl (by kernel_rfl) (by kernel_rfl) (by kernel_rfl) rfl rfl rfl (fun _ _ h=>h) h18 ?_;show zI 22 32767;refine aU (i:=15) rfl rfl (by kernel_rfl) (by kernel_rfl) (by kernel_rfl) rfl rfl rfl (fun _ _ h=>h) h18 ?_;show zI 22 65535;refine aU (i:=16) rfl rfl (by kernel_rfl) (by kernel_rfl) (by kernel_rfl) rfl rfl rfl (fun _ _ h=>h) h18 ?_;show zI 22 131071;refine aU (i:=17) rfl rfl (by kernel_rfl) (by kernel_rfl) (by kernel_rfl) rfl rfl rfl (fun _ _ h=>h) h18 ?_;show zI 22 262143;refine aU (i:=18) rfl rfl (by kernel_rfl) (by kernel_rfl) (by kernel_rfl) rfl rfl rfl (fun _ _ h=>h) h18 ?_;show zI 22 524287;refine aU (i:=19) rfl rfl (by kernel_rfl) (by kernel_rfl) (by kernel_rfl) rfl rfl rfl (fun _ _ h=>h) h18 ?_;show zI 22 1048575;refine aU (i:=20) rfl rfl (by kernel_rfl) (by kernel_rfl) (by kernel_rfl) rfl rfl rfl (fun _ _ h=>h) h18 ?_;show zI 22 2097151;refine zk 21 rfl (bo (av':=B ((decide (y15 < (a2.length:Int)))&&(!decide (x20=60)))) (aF (av:=.v _) rfl h18 rfl) (aw (cq h18))) ?_;show zI 22 4194303;exact K21 _ 10 rfl rfl
    refine bw rfl ?_;exact Exists.intro ((decide (y15 < (a2.length:Int)))&&(!decide (x20=60))) ⟨H,aP [0,0,0] (.cons (.refl _) (.cons (.refl _) (.cons (.refl _) (.cons (.refl _) (.nil _))))) rfl⟩
   ·refine aJ rfl (al (i:=0) ab rfl rfl rfl rfl) ?_;show zI 22 247;refine zk 8 rfl (aW ab rfl) ?_;show zI 22 503;refine bj (i:=3) (by kernel_rfl) rfl rfl<|aJ rfl (al (i:=0) au rfl rfl rfl rfl) ?_;show zI 22 511;refine zk 9 rfl (bN rfl rfl) ?_;show zI 22 1023;refine zk 10 rfl (mv rfl) ?_;show zI 22 2047;refine AI.meet 0 (zb 22 4194303) 32 (B ((decide (y15 < (a2.length:Int)))&&(!decide (x20=60)))) (fun K21=>?_) ?_
    ·refine ic (t:=21) rfl (fun h22=>?_) (fun h22=>?_)
     ·refine aL (i:=11) rfl rfl (by kernel_rfl) (by kernel_rfl) (by kernel_rfl) rfl rfl rfl (fun _ _ h=>h) h22 (ah (av:=.pt _ _) rfl) ?_;show zI 22 4095;refine aL (i:=12) rfl rfl (by kernel_rfl) (by kernel_rfl) (by kernel_rfl) rfl rfl rfl (fun _ _ h=>h) h22 (am rfl) ?_;show zI 22 8191;refine aL (i:=13) rfl rfl (by kernel_rfl) (by kernel_rfl) (by kernel_rfl) rfl rfl rfl (fun _ _ h=>h) h22 (ai (n:=0) (by kernel_rfl) rfl) ?_;show zI 22 16383;refine aL (i:=15) rfl rfl (by kernel_rfl) (by kernel_rfl) (by kernel_rfl) rfl rfl rfl (fun _ _ h=>h) h22 (ah (av:=.pt _ _) rfl) ?_;show zI 22 49151;refine aL (i:=16) rfl rfl (by kernel_rfl) (by kernel_rfl) (by kernel_rfl) rfl rfl rfl (fun _ _ h=>h) h22 (am rfl) ?_;show zI 22 114687;refine aL (i:=17) rfl rfl (by kernel_rfl) (by kernel_rfl) (by kernel_rfl) rfl rfl rfl (fun _ _ h=>h) h22 (ai (n:=1) (by kernel_rfl) rfl) ?_;show zI 22 245759;refine lN (i:=14) (j:=18) (by kernel_rfl) rfl (.inr ⟨_,_,_,_,rfl,rfl,rfl,rfl,h22⟩) rfl (.inr ⟨_,_,_,_,rfl,rfl,rfl,rfl,h22⟩) ?_ ?_
      ·refine aJ rfl (al (i:=0) ab rfl rfl rfl rfl) ?_;show zI 22 262143;refine eI (i:=18) (by kernel_rfl) rfl rfl rfl rfl rfl h22<|aJ rfl (al (i:=0) au rfl rfl rfl rfl) ?_;show zI 22 524287;refine aL (i:=19) rfl rfl (by kernel_rfl) (by kernel_rfl) (by kernel_rfl) rfl rfl rfl (fun _ _ h=>h) h22 (bg ab rfl rfl (g19 h22) e21) ?_;show zI 22 1048575;refine aL (i:=20) rfl rfl (by kernel_rfl) (by kernel_rfl) (by kernel_rfl) rfl rfl rfl (fun _ _ h=>h) h22 (sg (a:=x20) (b:=60) rfl rfl) ?_;show zI 22 2097151;refine zk 21 rfl (bo (av':=B ((decide (y15 < (a2.length:Int)))&&(!decide (x20=60)))) (aD (av:=.v _) rfl h22 rfl) (aw (cd h22))) ?_;show zI 22 4194303;exact K21 _ 10 rfl rfl
      ·refine aJ rfl (al (i:=0) au rfl rfl rfl rfl) ?_;show zI 22 507903;refine eI (i:=14) (by kernel_rfl) rfl rfl rfl rfl rfl h22<|aJ rfl (al (i:=0) ab rfl rfl rfl rfl) ?_;show zI 22 524287;refine aL (i:=19) rfl rfl (by kernel_rfl) (by kernel_rfl) (by kernel_rfl) rfl rfl rfl (fun _ _ h=>h) h22 (bg ab rfl rfl (g19 h22) e21) ?_;show zI 22 1048575;refine aL (i:=20) rfl rfl (by kernel_rfl) (by kernel_rfl) (by kernel_rfl) rfl rfl rfl (fun _ _ h=>h) h22 (sg (a:=x20) (b:=60) rfl rfl) ?_;show zI 22 2097151;refine zk 21 rfl (bo (av':=B ((decide (y15 < (a2.length:Int)))&&(!decide (x20=60)))) (aD (av:=.v _) rfl h22 rfl) (aw (cd h22))) ?_;show zI 22 4194303;exact K21 _ 10 rfl rfl
     ·refine aU (i:=11) rfl rfl (by kernel_rfl) (by kernel_rfl) (by kernel_rfl) rfl rfl rfl (fun _ _ h=>h) h22 ?_;show zI 22 4095;refine aU (i:=12) rfl rfl (by kernel_rfl) (by kernel_rfl) (by kernel_rfl) rfl rfl rfl (fun _ _ h=>h) h22 ?_;show zI 22 8191;refine aU (i:=13) rfl rfl (by kernel_rfl) (by kernel_rfl) (by kernel_rfl) rfl rfl rfl (fun _ _ h=>h) h22 ?_;show zI 22 16383;refine aU (i:=14) rfl rfl (by kernel_rfl) (by kernel_rfl) (by kernel_rfl) rfl rfl rfl (fun _ _ h=>h) h22 ?_;show zI 22 32767;refine aU (i:=15) rfl rfl (by kernel_rfl) (by kernel_rfl) (by kernel_rfl) rfl rfl rfl (fun _ _ h=>h) h22 ?_;show zI 22 65535;refine aU (i:=16) rfl rfl (by kernel_rfl) (by kernel_rfl) (by kernel_rfl) rfl rfl rfl (fun _ _ h=>h) h22 ?_;show zI 22 131071;refine aU (i:=17) rfl rfl (by kernel_rfl) (by kernel_rfl) (by kernel_rfl) rfl rfl rfl (fun _ _ h=>h) h22 ?_;show zI 22 262143;refine aU (i:=18) rfl rfl (by kernel_rfl) (by kernel_rfl) (by kernel_rfl) rfl rfl rfl (fun _ _ h=>h) h22 ?_;show zI 22 524287;refine aU (i:=19) rfl rfl (by kernel_rfl) (by kernel_rfl) (by kernel_rfl) rfl rfl rfl (fun _ _ h=>h) h22 ?_;show zI 22 1048575;refine aU (i:=20) rfl rfl (by kernel_rfl) (by kernel_rfl) (by kernel_rfl) rfl rfl rfl (fun _ _ h=>h) h22 ?_;show zI 22 2097151;refine zk 21 rfl (bo (av':=B ((decide (y15 < (a2.length:Int)))&&(!decide (x20=60)))) (aF (av:=.v _) rfl h22 rfl) (aw (cq h22))) ?_;show zI 22 4194303;exact K21 _ 10 rfl rfl
    refine bw rfl ?_;exact Exists.intro ((decide (y15 < (a2.length:Int)))&&(!decide (x20=60))) ⟨H,aP [0,0,0] (.cons (.refl _) (.cons (.refl _) (.cons (.refl _) (.cons (.refl _) (.nil _))))) rfl⟩
  rintro y23 H;replace H:gL F a2 a3 a4 a6 a7 a9 y14 y15 (dz F a2 a3 a4 a6 a7 a9 n17) y23=some (r10,r11,r13):=H
  unfold gL at H
  refine ax rfl (fun c25=>?_) (fun c25=>?_)
  ·replace H:=be c25 H;refine aC<|aR<|bq (X:=Bool) (fun y31=>⟨[(0,.pt o1 0),(2,i64 a3),(3,B y14),(4,B y31)],[],[.obj o1 [S a2,i64 y15,slE Enc.str a4 (some t5),i64 a6,slE (Enc.prod Enc.int (Enc.prod Enc.str (Enc.prod Enc.str (Enc.sl (Enc.prod Enc.str Enc.str))))) a7 (some t8),i64 a9],.tok t5 9,.tok t8 33]⟩) (fun y31=>gM y14 y15 (dz F a2 a3 a4 a6 a7 a9 n17) y31=some (r10,r11,r13)) ?_ ?_
   ·obtain ⟨g26,H⟩:=aI H;obtain ⟨x27,e28,H⟩:=bz H;obtain ⟨x29,e30,H⟩:=cm H;refine bn (by kernel_rfl) ?_;show AI _ _ _ _ _ 11 (Array.replicate 11 false) _;refine zk 0 rfl (ah (av:=.pt _ _) rfl) ?_;show zI 11 1;refine zk 1 rfl (am rfl) ?_;show zI 11 3;refine zk 2 rfl (ai (n:=0) (by kernel_rfl) rfl) ?_;show zI 11 7;refine zk 4 rfl (ah (av:=.pt _ _) rfl) ?_;show zI 11 23;refine zk 5 rfl (am rfl) ?_;show zI 11 55;refine zk 6 rfl (ai (n:=1) (by kernel_rfl) rfl) ?_;show zI 11 119;refine dj (i:=3) (j:=7) (by kernel_rfl) rfl rfl rfl rfl ?_ ?_
    ·refine aJ rfl (al (i:=0) ab rfl rfl rfl rfl) ?_;show zI 11 127;refine bj (i:=7) (by kernel_rfl) rfl rfl<|aJ rfl (al (i:=0) au rfl rfl rfl rfl) ?_;show zI 11 255;refine zk 8 rfl (bg ab rfl rfl g26 e28) ?_;show zI 11 511;refine bj (i:=9) (by kernel_rfl) rfl rfl<|dV rfl oY rfl (kT F x27 x29 e30) ?_;show zI 11 1023;refine zk 10 rfl (asg rfl) ?_;show zI 11 2047;refine bw rfl ?_;exact Exists.intro x29 ⟨H,aP [0,0,0] (.cons (.refl _) (.cons (.refl _) (.cons (.refl _) (.cons (.refl _) (.nil _))))) rfl⟩
    ·refine aJ rfl (al (i:=0) au rfl rfl rfl rfl) ?_;show zI 11 247;refine bj (i:=3) (by kernel_rfl) rfl rfl<|aJ rfl (al (i:=0) ab rfl rfl rfl rfl) ?_;show zI 11 255;refine zk 8 rfl (bg ab rfl rfl g26 e28) ?_;show zI 11 511;refine bj (i:=9) (by kernel_rfl) rfl rfl<|dV rfl oY rfl (kT F x27 x29 e30) ?_;show zI 11 1023;refine zk 10 rfl (asg rfl) ?_;show zI 11 2047;refine bw rfl ?_;exact Exists.intro x29 ⟨H,aP [0,0,0] (.cons (.refl _) (.cons (.refl _) (.cons (.refl _) (.cons (.refl _) (.nil _))))) rfl⟩
   rintro y31 H;replace H:gM y14 y15 (dz F a2 a3 a4 a6 a7 a9 n17) y31=some (r10,r11,r13):=H
   unfold gM at H
   refine ac<|aa ?_;show AR _ _ _ _ _ [0,1,2,3,4] _;refine zm rfl<|zm rfl<|bk (l:=[4]) 46 (B (y14&&y31)) (fun K=>?_) ?_
   ·rcases ap y14 with h33 | h33
    ·refine zM h33 rfl<|zS rfl (aD (av:=.v _) rfl h33 rfl) ?_;exact K _ 1 _ (aw (cd h33)) rfl rfl
    ·refine zF h33 rfl<|zS rfl (aF (av:=.v _) rfl h33 rfl) ?_;exact K _ 1 _ (aw (cq h33)) rfl rfl
   refine za rfl<|ag ?_;obtain ⟨g34,H⟩:=aI H;refine aa ?_;show AR _ _ _ _ _ [0,1,2,3,4,5,6,7] _;refine zS rfl (ah (av:=.pt _ _) rfl)<|zS rfl (am rfl)<|zS rfl (ai (n:=1) (by kernel_rfl) rfl)<|zR rfl (al (i:=0) au rfl rfl rfl rfl)<|zS rfl (bB rfl rfl g34)<|zS rfl (am rfl)<|zS rfl (ai (n:=1) (by kernel_rfl) rfl)<|s0 rfl rfl (aA (i:=0) (c:=.v _) (by kernel_rfl) rfl rfl rfl rfl (af rfl))<|ag ?_;exact Exists.intro (n17,y14&&y31,y15+1) ⟨H,Nat.lt_succ_self _,aP [0,0,0] (.cons (.refl _) (.cons (.refl _) (.cons (.refl _) (.nil _)))) rfl⟩
  ·replace H:=bf c25 H;refine bU ?_;exact Exists.intro (y14,y15) ⟨H,aP [0,0,0] (.cons (.refl _) (.cons (.refl _) (.cons (.refl _) (.nil _)))) rfl⟩
 rintro ⟨y35,y36⟩ H;replace H:fC F a2 a3 a4 a6 a7 a9 y35 y36=some (r10,r11,r13):=H
 unfold fC at H
 refine bq (X:=(List UInt8)×Int) (fun (y44,y45)=>⟨[(0,.pt o1 0),(3,B y35),(5,S y44),(6,i64 y45)],[],[.obj o1 [S a2,i64 y36,slE Enc.str a4 (some t5),i64 a6,slE (Enc.prod Enc.int (Enc.prod Enc.str (Enc.prod Enc.str (Enc.sl (Enc.prod Enc.str Enc.str))))) a7 (some t8),i64 a9],.tok t5 9,.tok t8 33]⟩) (fun (y44,y45)=>fD F a2 a4 a6 a7 a9 y35 y36 y44 y45=some (r10,r11,r13)) ?_ ?_
 ·obtain ⟨g38,H⟩:=aI H;obtain ⟨x39,e40,H⟩:=bz H;obtain ⟨x41,x42,e43,H⟩:=dd H;refine bn (by kernel_rfl) ?_;show AI _ _ _ _ _ 16 (Array.replicate 16 false) _;refine zk 0 rfl (ah (av:=.pt _ _) rfl) ?_;show zI 16 1;refine zk 1 rfl (am rfl) ?_;show zI 16 3;refine zk 2 rfl (ai (n:=0) (by kernel_rfl) rfl) ?_;show zI 16 7;refine zk 4 rfl (mv rfl) ?_;show zI 16 23;refine zk 5 rfl (ah (av:=.pt _ _) rfl) ?_;show zI 16 55;refine zk 6 rfl (am rfl) ?_;show zI 16 119;refine zk 7 rfl (ai (n:=1) (by kernel_rfl) rfl) ?_;show zI 16 247;refine dj (i:=3) (j:=8) (by kernel_rfl) rfl rfl rfl rfl ?_ ?_
  ·refine aJ rfl (al (i:=0) ab rfl rfl rfl rfl) ?_;show zI 16 255;refine bj (i:=8) (by kernel_rfl) rfl rfl<|aJ rfl (al (i:=0) au rfl rfl rfl rfl) ?_;show zI 16 511;refine zk 9 rfl (bQ ab rfl rfl rfl g38 e40) ?_;show zI 16 1023;refine bj (i:=10) (by kernel_rfl) rfl rfl<|dV rfl qX rfl (lT F x39 x41 x42 e43) ?_;show zI 16 2047;refine zk 11 rfl (ah (av:=.tup _) rfl) ?_;show zI 16 4095;refine zk 12 rfl (ba (av:=.v _) rfl rfl) ?_;show zI 16 8191;refine zk 13 rfl (ba (av:=.v _) rfl rfl) ?_;show zI 16 16383;refine zk 14 rfl (asg rfl) ?_;show zI 16 32767;refine zk 15 rfl (asg rfl) ?_;show zI 16 65535;refine bw rfl ?_;exact Exists.intro (x41,x42) ⟨H,aP [0,0,0] (.cons (.refl _) (.cons (.refl _) (.cons (.refl _) (.cons (.refl _) (.nil _))))) rfl⟩
  ·refine aJ rfl (al (i:=0) au rfl rfl rfl rfl) ?_;show zI 16 503;refine bj (i:=3) (by kernel_rfl) rfl rfl<|aJ rfl (al (i:=0) ab rfl rfl rfl rfl) ?_;show zI 16 511;refine zk 9 rfl (bQ ab rfl rfl rfl g38 e40) ?_;show zI 16 1023;refine bj (i:=10) (by kernel_rfl) rfl rfl<|dV rfl qX rfl (lT F x39 x41 x42 e43) ?_;show zI 16 2047;refine zk 11 rfl (ah (av:=.tup _) rfl) ?_;show zI 16 4095;refine zk 12 rfl (ba (av:=.v _) rfl rfl) ?_;show zI 16 8191;refine zk 13 rfl (ba (av:=.v _) rfl rfl) ?_;show zI 16 16383;refine zk 14 rfl (asg rfl) ?_;show zI 16 32767;refine zk 15 rfl (asg rfl) ?_;show zI 16 65535;refine bw rfl ?_;exact Exists.intro (x41,x42) ⟨H,aP [0,0,0] (.cons (.refl _) (.cons (.refl _) (.cons (.refl _) (.cons (.refl _) (.nil _))))) rfl⟩
 rintro ⟨y44,y45⟩ H;replace H:fD F a2 a4 a6 a7 a9 y35 y36 y44 y45=some (r10,r11,r13):=H
 unfold fD at H
 refine ac<|ac<|aa ?_;show AR _ _ _ _ _ [0,1,2,3,4,5,6,7,8,9,10,11,12,13] _;refine zm rfl<|zS rfl (dD rfl rfl)<|zm rfl<|bk (l:=[]) 81 (B ((!decide (y45=0))||((decide ((a4.length:Int)=0))&&(!y35)))) (fun K=>?_) ?_
 ·rcases ap (!decide (y45=0)) with h47 | h47
  ·refine zF h47 rfl<|zF h47 rfl<|zF h47 rfl<|zF h47 rfl<|zF h47 rfl<|zF h47 rfl<|zF h47 rfl<|gU rfl rfl rfl rfl rfl<|gU rfl rfl rfl rfl rfl<|zF h47 rfl<|zS rfl (aD (av:=.v _) rfl h47 rfl) ?_;exact K _ 10 _ (aw (ii h47)) rfl rfl
  ·refine zU h47 rfl (ah (av:=.pt _ _) rfl)<|zU h47 rfl (am rfl)<|zU h47 rfl (ai (n:=2) (by kernel_rfl) rfl)<|zT h47 rfl (cG rfl rfl (al (i:=0) ao rfl rfl rfl rfl) ?_);refine zU h47 rfl (bh ao rfl)<|zU h47 rfl (bI rfl rfl)<|zM h47 rfl<|bk (l:=[13]) 80 (B ((decide ((a4.length:Int)=0))&&(!y35))) (fun K=>?_) ?_
   ·rcases ap (decide ((a4.length:Int)=0)) with h48 | h48
    ·refine zM h48 rfl<|zU h48 rfl (ca rfl)<|zU h47 rfl (aD (av:=.v _) rfl h48 rfl) ?_;exact K _ 2 _ (aw (cd h48)) rfl rfl
    ·refine zF h48 rfl<|zF h48 rfl<|zU h47 rfl (aF (av:=.v _) rfl h48 rfl) ?_;exact K _ 2 _ (aw (cq h48)) rfl rfl
   refine zS rfl (aF (av:=.v _) rfl h47 rfl) ?_;exact K _ 8 _ (aw (ie h47)) rfl rfl
 refine ag<|ax rfl (fun c49=>?_) (fun c49=>?_)
 ·replace H:=be c49 H;refine ac ?_;obtain ⟨x50,e51,H⟩:=cm H;refine aa ?_;show AR _ _ _ _ _ [0,1] _;refine zS rfl (ah (av:=.pt _ _) rfl)<|ar rfl rfl (aY [0,0,0] rfl fa rfl (cR F o1 a2 y36 a4 t5 a6 a7 t8 a9 2 x50 e51) rfl (fun c A' h=>by cases h.1) ?_)
  rintro av A' ⟨h,rfl⟩; cases h
  refine ag<|aQ ?_;obtain ⟨rfl,rfl,rfl⟩:=res3 H;exact And.intro rfl (Exists.intro _ (Exists.intro _ ⟨bp rfl,aK [0,0,0] rfl,rfl,t8,rfl⟩))
 ·replace H:=bf c49 H;refine aC ?_;obtain ⟨x52,e53,H⟩:=cm H;refine aa ?_;show AR _ _ _ _ _ [0,1,2] _;refine zS rfl (ah (av:=.pt _ _) rfl)<|zm rfl<|ar rfl rfl (aY [0,0,0] rfl uV rfl (pp F o1 a2 y36 a4 t5 a6 a7 t8 a9 y44 x52 e53) rfl (fun c A' h=>by cases h.1) ?_)
  rintro av A' ⟨h,t54,rfl⟩; cases h
  refine ag ?_;obtain ⟨rfl,rfl,rfl⟩:=res3 H;exact And.intro rfl (Exists.intro _ (Exists.intro _ ⟨bp rfl,aK [0,0,0] rfl,rfl,t54,rfl⟩))
set_option maxRecDepth 100000 in
set_option maxHeartbeats 1000000 in
theorem og (F:Nat) (o1:Nat) (a2:List UInt8) (a3:Int) (a4:List (List UInt8)) (t5:Nat) (a6:Int) (a7:List (Int×(List UInt8)×(List UInt8)×List ((List UInt8)×List UInt8))) (t8:Nat) (a9:Int) (a10:List UInt8) (r11:List (List UInt8)) (r13:List (Int×(List UInt8)×(List UInt8)×List ((List UInt8)×List UInt8))) (r15:Int) (H:iW F a2 a3 a4 a6 a7 a9 a10=some (r11,r13,r15)):ACalls Tryz.prog 79 [.pt o1 0,S a10] [.obj o1 [S a2,i64 a3,slE Enc.str a4 (some t5),i64 a6,slE (Enc.prod Enc.int (Enc.prod Enc.str (Enc.prod Enc.str (Enc.sl (Enc.prod Enc.str Enc.str))))) a7 (some t8),i64 a9],.tok t5 9,.tok t8 33] (fun e A'=>e=.ret (.tup [])∧∃ t12 t14,A'=[.obj o1 [S a2,i64 a3,slE Enc.str r11 (some t12),i64 a6,slE (Enc.prod Enc.int (Enc.prod Enc.str (Enc.prod Enc.str (Enc.sl (Enc.prod Enc.str Enc.str))))) r13 (some t14),i64 r15],.tok t12 9,.tok t14 33]):=by
 unfold iW at H
 refine az Tryz.func79 rfl rfl ?_;show AW _ _ 50 _ _ _;refine ac<|aa ?_;show AR _ _ _ _ _ [0,1,2,3,4,5] _;refine zS rfl (ah (av:=.pt _ _) rfl)<|zS rfl (am rfl)<|zS rfl (ai (n:=2) (by kernel_rfl) rfl)<|zR rfl (al (i:=0) ao rfl rfl rfl rfl)<|zS rfl (bh ao rfl)<|za rfl<|ag<|ac<|ac ?_;obtain ⟨g17,H⟩:=cP H;obtain ⟨g18,H⟩:=cP H;obtain ⟨x19,e20,H⟩:=bz H;refine aa ?_;show AR _ _ _ _ _ [0,1,2,3,4,5,6,7,8,9,10,11,12,13] _;refine zm rfl<|zS rfl (bI rfl rfl)<|zm rfl<|bk (l:=[]) 24 (B ((decide ((a4.length:Int)=0))||(!decide (x19=a10)))) (fun K=>?_) ?_
 ·rcases ap (decide ((a4.length:Int)=0)) with h16 | h16
  ·refine zF h16 rfl<|zF h16 rfl<|zF h16 rfl<|zF h16 rfl<|zF h16 rfl<|zF h16 rfl<|zF h16 rfl<|zF h16 rfl<|zF h16 rfl<|zF h16 rfl<|zS rfl (aD (av:=.v _) rfl h16 rfl) ?_;exact K _ 10 _ (aw (ii h16)) rfl rfl
  ·refine zU h16 rfl (ah (av:=.pt _ _) rfl)<|zU h16 rfl (am rfl)<|zU h16 rfl (ai (n:=2) (by kernel_rfl) rfl)<|zT h16 rfl (cG rfl rfl (al (i:=0) ao rfl rfl rfl rfl) ?_);refine zM h16 rfl<|zU h16 rfl (mc rfl rfl (g17 (nf h16)))<|zU h16 rfl (bA (E:=Enc.str) ao (by kernel_rfl) rfl rfl (g18 (nf h16)) e20)<|zU h16 rfl (aG ab rfl rfl)<|zM h16 rfl<|zU h16 rfl (pi rfl rfl)<|zS rfl (aF (av:=.v _) rfl h16 rfl) ?_;exact K _ 10 _ (aw (ie h16)) rfl rfl
 refine ag<|ax rfl (fun c21=>?_) (fun c21=>?_)
 ·replace H:=be c21 H;refine ac ?_;obtain ⟨x22,e23,H⟩:=cm H;refine aa ?_;show AR _ _ _ _ _ [0,1] _;refine zS rfl (ah (av:=.pt _ _) rfl)<|ar rfl rfl (aY [0,0,0] rfl fa rfl (cR F o1 a2 a3 a4 t5 a6 a7 t8 a9 2 x22 e23) rfl (fun c A' h=>by cases h.1) ?_)
  rintro av A' ⟨h,rfl⟩; cases h
  refine ag<|aQ ?_;obtain ⟨rfl,rfl,rfl⟩:=res3 H;exact And.intro rfl (Exists.intro _ (Exists.intro _ ⟨bp rfl,aK [0,0,0] rfl,rfl,t5,t8,rfl⟩))
 ·replace H:=bf c21 H;refine aC<|ac ?_;obtain ⟨g24,H⟩:=aI H;obtain ⟨g25,H⟩:=aI H;obtain ⟨x26,e27,H⟩:=bz H;obtain ⟨g29,H⟩:=aI H;refine aa ?_;show AR _ _ _ _ _ [0,1,2,3,4,5,6,7,8] _;refine zS rfl (ah (av:=.pt _ _) rfl)<|zS rfl (am rfl)<|zS rfl (ai (n:=2) (by kernel_rfl) rfl)<|zR rfl (al (i:=0) ao rfl rfl rfl rfl)<|zm rfl<|zS rfl (mc rfl rfl g24)<|zS rfl (g_to_sl (E:=Enc.str) ao (by kernel_rfl) rfl rfl g25 e27)<|zX rfl (fO (E:=Enc.str) (bytes:=16) ao ao rfl (by kernel_rfl) rfl rfl rfl g29) ?_;rintro _ _ ⟨t28,rfl,rfl⟩;refine zS rfl (aZ (av:=slE _ _ _) rfl)<|ag<|ac<|aa ?_;show AR _ _ _ _ _ [0,1,2,3,4] _;refine zS rfl (ah (av:=.pt _ _) rfl)<|zS rfl (ah (av:=slE _ _ _) rfl)<|zS rfl (am rfl)<|zS rfl (ai (n:=2) (by kernel_rfl) rfl)<|s0 rfl rfl (aA (i:=1) (c:=slE _ _ _) (by kernel_rfl) rfl rfl rfl rfl (af rfl))<|ag ?_;obtain ⟨g31,H⟩:=aI H;obtain ⟨x32,e33,H⟩:=bz H;refine aa ?_;show AR _ _ _ _ _ [0,1,2,3,4,5,6,7,8,9,10,11] _
  refine zS rfl (ah (av:=.pt _ _) rfl)<|zS rfl (ah (av:=.pt _ _) rfl)<|zS rfl (am rfl)<|zS rfl (ai (n:=4) (by kernel_rfl) rfl)<|zR rfl (al (i:=1) ay rfl rfl rfl rfl)<|zm rfl<|zS rfl (eH (zs:=[.int .i64 0,.string ⟨#[]⟩,.string ⟨#[]⟩,.slice none 0 0]) (ps:=[(0,1),(1,1),(2,1),(3,1)]) (cs:=[i64 1,S a10,S ([]:List UInt8),aj]) (by kernel_rfl) rfl rfl)<|zR rfl (dL (ds:=[i64 1,S a10,S ([]:List UInt8),slE (Enc.prod Enc.str Enc.str) ([]:List ((List UInt8)×List UInt8)) none]) 45 (.cons (.refl _) (.cons (.refl _) (.cons (.refl _) (.cons (.nil _) (.nil))))) (hc:=rfl)<|cW (E:=(Enc.prod Enc.int (Enc.prod Enc.str (Enc.prod Enc.str (Enc.sl (Enc.prod Enc.str Enc.str)))))) (bytes:=64) (zs:=[.int .i64 0,.string ⟨#[]⟩,.string ⟨#[]⟩,.slice none 0 0]) (l:=([(1,a10,([]:List UInt8),([]:List ((List UInt8)×List UInt8)))]:List (Int×(List UInt8)×(List UInt8)×List ((List UInt8)×List UInt8)))) ay (by kernel_rfl) (by kernel_rfl) rfl rfl rfl rfl rfl)<|zX rfl (cM (E:=(Enc.prod Enc.int (Enc.prod Enc.str (Enc.prod Enc.str (Enc.sl (Enc.prod Enc.str Enc.str)))))) (bytes:=64) 3 ay ay rfl (by kernel_rfl) rfl rfl rfl rfl g31 e33) ?_;rintro _ _ ⟨t30,rfl,rfl⟩;refine zS rfl (am rfl)<|zS rfl (ai (n:=4) (by kernel_rfl) rfl)<|s0 rfl rfl (aA (i:=1) (c:=slE _ _ _) (by kernel_rfl) rfl rfl rfl rfl (af rfl))<|ag ?_
  obtain ⟨rfl,rfl,rfl⟩:=res3 H;exact And.intro rfl (Exists.intro _ (Exists.intro _ ⟨bp rfl,aK [1,0,1] rfl,rfl,t28,t30,rfl⟩))
set_option maxRecDepth 100000 in
set_option maxHeartbeats 1000000 in
theorem rR (F:Nat) (o1:Nat) (a2:List UInt8) (a3:Int) (a4:List (List UInt8)) (t5:Nat) (a6:Int) (a7:List (Int×(List UInt8)×(List UInt8)×List ((List UInt8)×List UInt8))) (t8:Nat) (a9:Int) (r10:Int) (r11:List (List UInt8)) (r13:List (Int×(List UInt8)×(List UInt8)×List ((List UInt8)×List UInt8))) (r15:Int) (H:hO F a2 a3 a4 a6 a7 a9=some (r10,r11,r13,r15)):ACalls Tryz.prog 49 [.pt o1 0] [.obj o1 [S a2,i64 a3,slE Enc.str a4 (some t5),i64 a6,slE (Enc.prod Enc.int (Enc.prod Enc.str (Enc.prod Enc.str (Enc.sl (Enc.prod Enc.str Enc.str))))) a7 (some t8),i64 a9],.tok t5 9,.tok t8 33] (fun e A'=>e=.ret (.tup [])∧∃ t12 t14,A'=[.obj o1 [S a2,i64 r10,slE Enc.str r11 (some t12),i64 a6,slE (Enc.prod Enc.int (Enc.prod Enc.str (Enc.prod Enc.str (Enc.sl (Enc.prod Enc.str Enc.str))))) r13 (some t14),i64 r15],.tok t12 9,.tok t14 33]):=by
 unfold hO at H
 refine az Tryz.func49 rfl rfl ?_;show AW _ _ 32 _ _ _;refine ac ?_;obtain ⟨g16,H⟩:=aI H;refine aa ?_;show AR _ _ _ _ _ [0,1,2,3,4,5,6,7,8] _;refine zS rfl (ah (av:=.pt _ _) rfl)<|zS rfl (ah (av:=.pt _ _) rfl)<|zS rfl (am rfl)<|zS rfl (ai (n:=1) (by kernel_rfl) rfl)<|zR rfl (al (i:=0) au rfl rfl rfl rfl)<|zS rfl (bB rfl rfl g16)<|zS rfl (am rfl)<|zS rfl (ai (n:=1) (by kernel_rfl) rfl)<|s0 rfl rfl (aA (i:=0) (c:=.v _) (by kernel_rfl) rfl rfl rfl rfl (af rfl))<|ag<|ac ?_;obtain ⟨x17,x18,x19,e20,H⟩:=mh H;refine aa ?_;show AR _ _ _ _ _ [0,1,2] _;refine zS rfl (ah (av:=.pt _ _) rfl)<|ar rfl rfl (aY [0,0,0] rfl qW rfl (mI F o1 a2 (a3+2) a4 t5 a6 a7 t8 a9 x17 x18 x19 e20) rfl (fun c A' h=>by cases h.1) ?_)
 rintro av A' ⟨h,rfl⟩; cases h
 refine za rfl<|ag<|ac ?_;obtain ⟨x21,x22,e23,H⟩:=dd H;refine aa ?_;show AR _ _ _ _ _ [0,1] _;refine zS rfl (ah (av:=.pt _ _) rfl)<|ar rfl rfl (aY [0,0,0] rfl uP rfl (nF F o1 a2 x18 a4 t5 a6 a7 t8 x19 x21 x22 e23) rfl (fun c A' h=>by cases h.1) ?_)
 rintro av A' ⟨h,rfl⟩; cases h
 refine ag<|ac ?_;obtain ⟨x24,e25,H⟩:=cm H;refine aa ?_;show AR _ _ _ _ _ [0,1,2] _;refine zS rfl (ah (av:=.pt _ _) rfl)<|ar rfl rfl (aY [0,0,0] rfl gq rfl (cN F o1 a2 x22 a4 t5 a6 a7 t8 x19 ([62]:List UInt8) x24 e25) rfl (fun c A' h=>by cases h.1) ?_)
 rintro av A' ⟨h,rfl⟩; cases h
 refine za rfl<|ag<|ac<|ac<|aa ?_;show AR _ _ _ _ _ [0,1] _;refine zm rfl<|zS rfl (ca rfl)<|ag<|ax rfl (fun c26=>?_) (fun c26=>?_)
 ·replace H:=be c26 H;refine ac ?_;obtain ⟨x27,e28,H⟩:=cm H;refine aa ?_;show AR _ _ _ _ _ [0,1] _;refine zS rfl (ah (av:=.pt _ _) rfl)<|ar rfl rfl (aY [0,0,0] rfl fa rfl (cR F o1 a2 x22 a4 t5 a6 a7 t8 x19 2 x27 e28) rfl (fun c A' h=>by cases h.1) ?_)
  rintro av A' ⟨h,rfl⟩; cases h
  refine ag<|aQ ?_;obtain ⟨rfl,rfl,rfl,rfl⟩:=res4 H;exact And.intro rfl (Exists.intro _ (Exists.intro _ ⟨bp rfl,aK [0,0,0] rfl,rfl,t5,t8,rfl⟩))
 ·replace H:=bf c26 H;refine aC<|ac ?_;obtain ⟨g29,H⟩:=aI H;refine aa ?_;show AR _ _ _ _ _ [0,1,2,3,4,5,6,7] _;refine zS rfl (ah (av:=.pt _ _) rfl)<|zS rfl (am rfl)<|zS rfl (ai (n:=1) (by kernel_rfl) rfl)<|zR rfl (al (i:=0) au rfl rfl rfl rfl)<|zS rfl (bB rfl rfl g29)<|zS rfl (am rfl)<|zS rfl (ai (n:=1) (by kernel_rfl) rfl)<|s0 rfl rfl (aA (i:=0) (c:=.v _) (by kernel_rfl) rfl rfl rfl rfl (af rfl))<|ag ?_;obtain ⟨x30,x31,x32,e33,H⟩:=mh H;refine aa ?_;show AR _ _ _ _ _ [0,1,2] _;refine zS rfl (ah (av:=.pt _ _) rfl)<|zm rfl<|ar rfl rfl (aY [0,0,0] rfl uO rfl (og F o1 a2 (x22+1) a4 t5 a6 a7 t8 x19 x17 x30 x31 x32 e33) rfl (fun c A' h=>by cases h.1) ?_)
  rintro av A' ⟨h,t34,t35,rfl⟩; cases h
  refine ag ?_;obtain ⟨rfl,rfl,rfl,rfl⟩:=res4 H;exact And.intro rfl (Exists.intro _ (Exists.intro _ ⟨bp rfl,aK [0,0,0] rfl,rfl,t34,t35,rfl⟩))
set_option maxRecDepth 100000 in
set_option maxHeartbeats 1000000 in
theorem tS (F:Nat) (o1:Nat) (a2:List UInt8) (a3:Int) (a4:List (List UInt8)) (t5:Nat) (a6:Int) (a7:List (Int×(List UInt8)×(List UInt8)×List ((List UInt8)×List UInt8))) (t8:Nat) (a9:Int) (r10:List UInt8) (r11:List UInt8) (r12:Int) (r13:Int) (H:lk F a2 a3 a4 a6 a7 a9=some (r10,r11,r12,r13)):ACalls Tryz.prog 80 [.pt o1 0] [.obj o1 [S a2,i64 a3,slE Enc.str a4 (some t5),i64 a6,slE (Enc.prod Enc.int (Enc.prod Enc.str (Enc.prod Enc.str (Enc.sl (Enc.prod Enc.str Enc.str))))) a7 (some t8),i64 a9],.tok t5 9,.tok t8 33] (fun e A'=>e=.ret (.agg [S r10,S r11])∧A'=[.obj o1 [S a2,i64 r12,slE Enc.str a4 (some t5),i64 a6,slE (Enc.prod Enc.int (Enc.prod Enc.str (Enc.prod Enc.str (Enc.sl (Enc.prod Enc.str Enc.str))))) a7 (some t8),i64 r13],.tok t5 9,.tok t8 33]):=by
 unfold lk at H
 refine az Tryz.func80 rfl rfl ?_;show AW _ _ 78 _ _ _;refine ac<|aa ?_;show AR _ _ _ _ _ [0] _;refine zX rfl (dw (zs:=[.string ⟨#[]⟩,.string ⟨#[]⟩]) (by kernel_rfl)) ?_;rintro _ _ ⟨o14,rfl,rfl⟩;refine ag<|ac ?_;obtain ⟨x15,x16,x17,e18,H⟩:=mh H;refine aa ?_;show AR _ _ _ _ _ [0,1,2,3,4] _;refine zS rfl (ah (av:=.pt _ _) rfl)<|ar rfl rfl (aY [1,1,1] rfl qW rfl (mI F o1 a2 a3 a4 t5 a6 a7 t8 a9 x15 x16 x17 e18) rfl (fun c A' h=>by cases h.1) ?_)
 rintro av A' ⟨h,rfl⟩; cases h
 refine zS rfl (eH (zs:=[.string ⟨#[]⟩,.string ⟨#[]⟩]) (ps:=[(0,1),(1,1)]) (cs:=[S x15,S ([]:List UInt8)]) (by kernel_rfl) rfl rfl)<|zX rfl (dw (zs:=[.string ⟨#[]⟩,.string ⟨#[]⟩]) (by kernel_rfl)) ?_;rintro _ _ ⟨o19,rfl,rfl⟩;refine s0 rfl rfl (cn (i:=0) (vs:=[S x15,S ([]:List UInt8)]) (by kernel_rfl) rfl rfl (by simp [cE,slE]) rfl (af rfl))<|ag<|ac ?_;obtain ⟨x20,e21,H⟩:=cm H;refine aa ?_;show AR _ _ _ _ _ [0,1,2] _;refine zS rfl (ah (av:=.pt _ _) rfl)<|ar rfl rfl (aY [1,1,1] rfl gq rfl (cN F o1 a2 x16 a4 t5 a6 a7 t8 x17 ([61,34]:List UInt8) x20 e21) rfl (fun c A' h=>by cases h.1) ?_)
 rintro av A' ⟨h,rfl⟩; cases h
 refine za rfl<|ag<|ac ?_;obtain ⟨x22,e23,H⟩:=cm H;refine aa ?_;show AR _ _ _ _ _ [0,1,2] _;refine zS rfl (ah (av:=.pt _ _) rfl)<|ar rfl rfl (aY [0,0,0] rfl gq rfl (cN F o1 a2 x16 a4 t5 a6 a7 t8 x17 ([61,39]:List UInt8) x22 e23) rfl (fun c A' h=>by cases h.1) ?_)
 rintro av A' ⟨h,rfl⟩; cases h
 refine za rfl<|ag<|ac<|ac<|aa ?_;show AR _ _ _ _ _ [0,1,2,3,4,5] _;refine zm rfl<|zS rfl (ca rfl)<|zm rfl<|bk (l:=[]) 23 (B ((!x20)&&(!x22))) (fun K=>?_) ?_
 ·rcases ap (!x20) with h24 | h24
  ·refine zM h24 rfl<|zU h24 rfl (ca rfl)<|zS rfl (aD (av:=.v _) rfl h24 rfl) ?_;exact K _ 2 _ (aw (cd h24)) rfl rfl
  ·refine zF h24 rfl<|zF h24 rfl<|zS rfl (aF (av:=.v _) rfl h24 rfl) ?_;exact K _ 2 _ (aw (cq h24)) rfl rfl
 refine ag<|ax rfl (fun c25=>?_) (fun c25=>?_)
 ·replace H:=be c25 H;refine ac ?_;obtain ⟨x26,e27,H⟩:=cm H;refine aa ?_;show AR _ _ _ _ _ [0,1] _;refine zS rfl (ah (av:=.pt _ _) rfl)<|ar rfl rfl (aY [0,0,0] rfl fa rfl (cR F o1 a2 x16 a4 t5 a6 a7 t8 x17 2 x26 e27) rfl (fun c A' h=>by cases h.1) ?_)
  rintro av A' ⟨h,rfl⟩; cases h
  refine ag<|ac<|aa ?_;show AR _ _ _ _ _ [0,1] _;refine zR rfl (fN (i:=3) (n:=2) bM rfl (by kernel_rfl) rfl rfl (af rfl))<|s0 rfl rfl (cn (i:=4) (vs:=[S x15,S ([]:List UInt8)]) (by kernel_rfl) rfl rfl (by simp [cE,slE]) rfl (af rfl))<|ag<|aQ ?_;obtain ⟨rfl,rfl,rfl,rfl⟩:=res4 H;exact And.intro rfl (Exists.intro _ (Exists.intro _ ⟨rc (oC rfl (CellV.agg (off:=0) (cs:=[S x15,S ([]:List UInt8)]) (n:=2) 4 bM rfl (by kernel_rfl) rfl rfl (af rfl))),aK [0,0,0] rfl,rfl,rfl⟩))
 ·replace H:=bf c25 H;refine aC<|bq (X:=(List UInt8)) (fun y33=>⟨[(0,.pt o1 0),(2,.pt o14 0),(3,.pt o19 0),(6,S y33)],[],[.obj o1 [S a2,i64 x16,slE Enc.str a4 (some t5),i64 a6,slE (Enc.prod Enc.int (Enc.prod Enc.str (Enc.prod Enc.str (Enc.sl (Enc.prod Enc.str Enc.str))))) a7 (some t8),i64 x17],.obj o19 [S x15,S ([]:List UInt8)],.obj o14 [S ([]:List UInt8),S ([]:List UInt8)],.tok t5 9,.tok t8 33]⟩) (fun y33=>du F a2 a4 a6 a7 x15 x16 x17 y33=some (r10,r11,r12,r13)) ?_ ?_
  ·obtain ⟨g28,H⟩:=aI H;obtain ⟨g29,H⟩:=aI H;obtain ⟨g30,H⟩:=aI H;obtain ⟨x31,e32,H⟩:=bz H;refine bn (by kernel_rfl) ?_;show AI _ _ _ _ _ 16 (Array.replicate 16 false) _;refine zk 0 rfl (ah (av:=.pt _ _) rfl) ?_;show zI 16 1;refine zk 1 rfl (am rfl) ?_;show zI 16 3;refine zk 2 rfl (ai (n:=0) (by kernel_rfl) rfl) ?_;show zI 16 7;refine zk 4 rfl (ah (av:=.pt _ _) rfl) ?_;show zI 16 23;refine zk 5 rfl (am rfl) ?_;show zI 16 55;refine zk 6 rfl (ai (n:=1) (by kernel_rfl) rfl) ?_;show zI 16 119;refine zk 9 rfl (ah (av:=.pt _ _) rfl) ?_;show zI 16 631;refine zk 10 rfl (am rfl) ?_;show zI 16 1655;refine zk 11 rfl (ai (n:=1) (by kernel_rfl) rfl) ?_;show zI 16 3703;refine xI (i:=3) (j:=7) (l:=12) (by kernel_rfl) rfl rfl rfl rfl rfl rfl ?_ ?_ ?_
   ·refine aJ rfl (al (i:=0) ab rfl rfl rfl rfl) ?_;show zI 16 3711;refine dj (i:=7) (j:=12) (by kernel_rfl) rfl rfl rfl rfl ?_ ?_
    ·refine aJ rfl (al (i:=0) au rfl rfl rfl rfl) ?_;show zI 16 3839;refine zk 8 rfl (bB rfl rfl g28) ?_;show zI 16 4095;refine bj (i:=12) (by kernel_rfl) rfl rfl<|aJ rfl (al (i:=0) au rfl rfl rfl rfl) ?_;show zI 16 8191;refine zk 13 rfl (bB rfl rfl g29) ?_;show zI 16 16383;refine zk 14 rfl (bQ ab rfl rfl rfl g30 e32) ?_;show zI 16 32767;refine zk 15 rfl (asg rfl) ?_;show zI 16 65535;refine bw rfl ?_;exact Exists.intro x31 ⟨H,aP [0,2,2,0,0] (.cons (.refl _) (.cons (.refl _) (.cons (.refl _) (.cons (.refl _) (.nil _))))) rfl⟩
    ·refine aJ rfl (al (i:=0) au rfl rfl rfl rfl) ?_;show zI 16 7807;refine zk 13 rfl (bB rfl rfl g29) ?_;show zI 16 15999;refine bj (i:=7) (by kernel_rfl) rfl rfl<|aJ rfl (al (i:=0) au rfl rfl rfl rfl) ?_;show zI 16 16127;refine zk 8 rfl (bB rfl rfl g28) ?_;show zI 16 16383;refine zk 14 rfl (bQ ab rfl rfl rfl g30 e32) ?_;show zI 16 32767;refine zk 15 rfl (asg rfl) ?_;show zI 16 65535;refine bw rfl ?_;exact Exists.intro x31 ⟨H,aP [0,2,2,0,0] (.cons (.refl _) (.cons (.refl _) (.cons (.refl _) (.cons (.refl _) (.nil _))))) rfl⟩
   ·refine aJ rfl (al (i:=0) au rfl rfl rfl rfl) ?_;show zI 16 3831;refine zk 8 rfl (bB rfl rfl g28) ?_;show zI 16 4087;refine dj (i:=3) (j:=12) (by kernel_rfl) rfl rfl rfl rfl ?_ ?_
    ·refine aJ rfl (al (i:=0) ab rfl rfl rfl rfl) ?_;show zI 16 4095;refine bj (i:=12) (by kernel_rfl) rfl rfl<|aJ rfl (al (i:=0) au rfl rfl rfl rfl) ?_;show zI 16 8191;refine zk 13 rfl (bB rfl rfl g29) ?_;show zI 16 16383;refine zk 14 rfl (bQ ab rfl rfl rfl g30 e32) ?_;show zI 16 32767;refine zk 15 rfl (asg rfl) ?_;show zI 16 65535;refine bw rfl ?_;exact Exists.intro x31 ⟨H,aP [0,2,2,0,0] (.cons (.refl _) (.cons (.refl _) (.cons (.refl _) (.cons (.refl _) (.nil _))))) rfl⟩
    ·refine aJ rfl (al (i:=0) au rfl rfl rfl rfl) ?_;show zI 16 8183;refine zk 13 rfl (bB rfl rfl g29) ?_;show zI 16 16375;refine bj (i:=3) (by kernel_rfl) rfl rfl<|aJ rfl (al (i:=0) ab rfl rfl rfl rfl) ?_;show zI 16 16383;refine zk 14 rfl (bQ ab rfl rfl rfl g30 e32) ?_;show zI 16 32767;refine zk 15 rfl (asg rfl) ?_;show zI 16 65535;refine bw rfl ?_;exact Exists.intro x31 ⟨H,aP [0,2,2,0,0] (.cons (.refl _) (.cons (.refl _) (.cons (.refl _) (.cons (.refl _) (.nil _))))) rfl⟩
   ·refine aJ rfl (al (i:=0) au rfl rfl rfl rfl) ?_;show zI 16 7799;refine zk 13 rfl (bB rfl rfl g29) ?_;show zI 16 15991;refine dj (i:=3) (j:=7) (by kernel_rfl) rfl rfl rfl rfl ?_ ?_
    ·refine aJ rfl (al (i:=0) ab rfl rfl rfl rfl) ?_;show zI 16 15999;refine bj (i:=7) (by kernel_rfl) rfl rfl<|aJ rfl (al (i:=0) au rfl rfl rfl rfl) ?_;show zI 16 16127;refine zk 8 rfl (bB rfl rfl g28) ?_;show zI 16 16383;refine zk 14 rfl (bQ ab rfl rfl rfl g30 e32) ?_;show zI 16 32767;refine zk 15 rfl (asg rfl) ?_;show zI 16 65535;refine bw rfl ?_;exact Exists.intro x31 ⟨H,aP [0,2,2,0,0] (.cons (.refl _) (.cons (.refl _) (.cons (.refl _) (.cons (.refl _) (.nil _))))) rfl⟩
    ·refine aJ rfl (al (i:=0) au rfl rfl rfl rfl) ?_;show zI 16 16119;refine zk 8 rfl (bB rfl rfl g28) ?_;show zI 16 16375;refine bj (i:=3) (by kernel_rfl) rfl rfl<|aJ rfl (al (i:=0) ab rfl rfl rfl rfl) ?_;show zI 16 16383;refine zk 14 rfl (bQ ab rfl rfl rfl g30 e32) ?_;show zI 16 32767;refine zk 15 rfl (asg rfl) ?_;show zI 16 65535;refine bw rfl ?_;exact Exists.intro x31 ⟨H,aP [0,2,2,0,0] (.cons (.refl _) (.cons (.refl _) (.cons (.refl _) (.cons (.refl _) (.nil _))))) rfl⟩
  rintro y33 H;replace H:du F a2 a4 a6 a7 x15 x16 x17 y33=some (r10,r11,r12,r13):=H
  unfold du at H
  refine ac ?_;obtain ⟨g35,H⟩:=aI H;refine aa ?_;show AR _ _ _ _ _ [0,1,2,3,4,5,6,7,8] _;refine zS rfl (ah (av:=.pt _ _) rfl)<|zS rfl (ah (av:=.pt _ _) rfl)<|zS rfl (am rfl)<|zS rfl (ai (n:=1) (by kernel_rfl) rfl)<|zR rfl (al (i:=0) au rfl rfl rfl rfl)<|zS rfl (bB rfl rfl g35)<|zS rfl (am rfl)<|zS rfl (ai (n:=1) (by kernel_rfl) rfl)<|s0 rfl rfl (aA (i:=0) (c:=.v _) (by kernel_rfl) rfl rfl rfl rfl (af rfl))<|ag<|ac ?_;obtain ⟨x36,x37,x38,e39,H⟩:=mh H;refine aa ?_;show AR _ _ _ _ _ [0,1,2,3] _;refine zS rfl (ah (av:=.pt _ _) rfl)<|zm rfl<|ar rfl rfl (aY [0,2,2] rfl nd rfl (jp F o1 a2 (x16+2) a4 t5 a6 a7 t8 x17 y33 x36 x37 x38 e39) rfl (fun c A' h=>by cases h.1) ?_)
  rintro av A' ⟨h,rfl⟩; cases h
  refine za rfl<|ag<|bq (X:=Int) (fun y54=>⟨[(0,.pt o1 0),(2,.pt o14 0),(3,.pt o19 0),(7,S x36)],[],[.obj o1 [S a2,i64 x37,slE Enc.str a4 (some t5),i64 a6,slE (Enc.prod Enc.int (Enc.prod Enc.str (Enc.prod Enc.str (Enc.sl (Enc.prod Enc.str Enc.str))))) a7 (some t8),i64 y54],.obj o19 [S x15,S ([]:List UInt8)],.obj o14 [S ([]:List UInt8),S ([]:List UInt8)],.tok t5 9,.tok t8 33]⟩) (fun y54=>fg F a2 a4 a6 a7 x15 x36 x37 y54=some (r10,r11,r12,r13)) ?_ ?_
  ·refine ac<|aa ?_;show AR _ _ _ _ _ [0] _;refine za rfl<|ag<|aR<|cl (X:=Nat×Int×Int) (fun (n43,y40,y41)=>⟨[(0,.pt o1 0),(2,.pt o14 0),(3,.pt o19 0),(7,S x36),(8,i64 y40)],[],[.obj o1 [S a2,i64 x37,slE Enc.str a4 (some t5),i64 a6,slE (Enc.prod Enc.int (Enc.prod Enc.str (Enc.prod Enc.str (Enc.sl (Enc.prod Enc.str Enc.str))))) a7 (some t8),i64 y41],.obj o19 [S x15,S ([]:List UInt8)],.obj o14 [S ([]:List UInt8),S ([]:List UInt8)],.tok t5 9,.tok t8 33]⟩) (fun (n43,y40,y41)=>fh F a2 a4 a6 a7 x15 x36 x37 n43 (y40,y41)=some (r10,r11,r12,r13)) (fun (n43,y40,y41)=>n43) (F,0,x38) H (aP [0,2,2,0,0] (.cons (.refl _) (.cons (.refl _) (.cons (.refl _) (.cons (.refl _) (.cons (.refl _) (.nil _)))))) rfl) ?_;rintro ⟨n43,y40,y41⟩ H;obtain ⟨n43,rfl,H⟩:=cO H;replace H:iA F a2 a4 a6 a7 x15 x36 x37 (fh F a2 a4 a6 a7 x15 x36 x37 n43) y40 y41=some (r10,r11,r12,r13):=H
   unfold iA at H
   refine ac<|ac<|aa ?_;show AR _ _ _ _ _ [0,1,2,3] _;refine zm rfl<|zm rfl<|zS rfl (aW ab rfl)<|zS rfl (bN rfl rfl)<|ag<|ax rfl (fun c44=>?_) (fun c44=>?_)
   ·replace H:=be c44 H;refine aC<|bq (X:=Int) (fun y51=>⟨[(0,.pt o1 0),(2,.pt o14 0),(3,.pt o19 0),(7,S x36),(8,i64 y40)],[],[.obj o1 [S a2,i64 x37,slE Enc.str a4 (some t5),i64 a6,slE (Enc.prod Enc.int (Enc.prod Enc.str (Enc.prod Enc.str (Enc.sl (Enc.prod Enc.str Enc.str))))) a7 (some t8),i64 y51],.obj o19 [S x15,S ([]:List UInt8)],.obj o14 [S ([]:List UInt8),S ([]:List UInt8)],.tok t5 9,.tok t8 33]⟩) (fun y51=>ff y40 (fh F a2 a4 a6 a7 x15 x36 x37 n43) y51=some (r10,r11,r12,r13)) ?_ ?_
    ·refine aR<|ac ?_;obtain ⟨g45,H⟩:=aI H;obtain ⟨x46,e47,H⟩:=bz H;refine aa ?_;show AR _ _ _ _ _ [0,1,2,3] _;refine zm rfl<|zm rfl<|zS rfl (bg ab rfl rfl g45 e47)<|zS rfl (eS (a:=x46) (b:=60) rfl rfl)<|ag<|ax rfl (fun c48=>?_) (fun c48=>?_)
     ·replace H:=be c48 H;obtain ⟨x49,e50,H⟩:=cm H;refine aa ?_;show AR _ _ _ _ _ [0,1] _;refine zS rfl (ah (av:=.pt _ _) rfl)<|ar rfl rfl (aY [0,2,2] rfl fa rfl (cR F o1 a2 x37 a4 t5 a6 a7 t8 y41 2 x49 e50) rfl (fun c A' h=>by cases h.1) ?_)
      rintro av A' ⟨h,rfl⟩; cases h
      refine ag ?_;exact Exists.intro x49 ⟨H,aP [0,2,2,0,0] (.cons (.refl _) (.cons (.refl _) (.cons (.refl _) (.cons (.refl _) (.cons (.refl _) (.nil _)))))) rfl⟩
     ·replace H:=bf c48 H;refine aC ?_;exact Exists.intro y41 ⟨H,aP [0,0,0,0,0] (.cons (.refl _) (.cons (.refl _) (.cons (.refl _) (.cons (.refl _) (.cons (.refl _) (.nil _)))))) rfl⟩
    rintro y51 H;replace H:ff y40 (fh F a2 a4 a6 a7 x15 x36 x37 n43) y51=some (r10,r11,r12,r13):=H
    unfold ff at H
    obtain ⟨g53,H⟩:=aI H;refine aa ?_;show AR _ _ _ _ _ [0,1,2] _;refine zm rfl<|zS rfl (bB rfl rfl g53)<|za rfl<|ag ?_;exact Exists.intro (n43,y40+1,y51) ⟨H,Nat.lt_succ_self _,aP [0,0,0,0,0] (.cons (.refl _) (.cons (.refl _) (.cons (.refl _) (.cons (.refl _) (.cons (.refl _) (.nil _)))))) rfl⟩
   ·replace H:=bf c44 H;refine bU ?_;exact Exists.intro y41 ⟨H,aP [0,0,0,0,0] (.cons (.refl _) (.cons (.refl _) (.cons (.refl _) (.cons (.refl _) (.nil _))))) rfl⟩
  rintro y54 H;replace H:fg F a2 a4 a6 a7 x15 x36 x37 y54=some (r10,r11,r12,r13):=H
  unfold fg at H
  refine ac ?_;obtain ⟨x56,x57,e58,H⟩:=dd H;refine aa ?_;show AR _ _ _ _ _ [0,1,2,3,4,5,6] _;refine zm rfl<|ar rfl rfl (aX rfl qX rfl (lT F x36 x56 x57 e58) ?_);refine zS rfl (ah (av:=.tup _) rfl)<|zS rfl (ba (av:=.v _) rfl rfl)<|zS rfl (ba (av:=.v _) rfl rfl)<|za rfl<|za rfl<|ag<|bq (X:=Int) (fun y62=>⟨[(2,.pt o14 0),(3,.pt o19 0),(9,S x56)],[],[.obj o1 [S a2,i64 x37,slE Enc.str a4 (some t5),i64 a6,slE (Enc.prod Enc.int (Enc.prod Enc.str (Enc.prod Enc.str (Enc.sl (Enc.prod Enc.str Enc.str))))) a7 (some t8),i64 y62],.obj o19 [S x15,S ([]:List UInt8)],.obj o14 [S ([]:List UInt8),S ([]:List UInt8)],.tok t5 9,.tok t8 33]⟩) (fun y62=>iz x15 x37 x56 y62=some (r10,r11,r12,r13)) ?_ ?_
  ·refine ac<|aa ?_;show AR _ _ _ _ _ [0,1] _;refine zm rfl<|zS rfl (dD rfl rfl)<|ag<|ax rfl (fun c59=>?_) (fun c59=>?_)
   ·replace H:=be c59 H;obtain ⟨x60,e61,H⟩:=cm H;refine aa ?_;show AR _ _ _ _ _ [0,1,2] _;refine zS rfl (ah (av:=.pt _ _) rfl)<|zm rfl<|ar rfl rfl (aY [0,2,2] rfl fa rfl (cR F o1 a2 x37 a4 t5 a6 a7 t8 y54 x57 x60 e61) rfl (fun c A' h=>by cases h.1) ?_)
    rintro av A' ⟨h,rfl⟩; cases h
    refine ag ?_;exact Exists.intro x60 ⟨H,aP [0,2,2,0,0] (.cons (.refl _) (.cons (.refl _) (.cons (.refl _) (.nil _)))) rfl⟩
   ·replace H:=bf c59 H;refine aC ?_;exact Exists.intro y54 ⟨H,aP [0,0,0,0,0] (.cons (.refl _) (.cons (.refl _) (.cons (.refl _) (.nil _)))) rfl⟩
  rintro y62 H;replace H:iz x15 x37 x56 y62=some (r10,r11,r12,r13):=H
  unfold iz at H
  refine ac<|aa ?_;show AR _ _ _ _ _ [0,1,2] _;refine zm rfl<|zS rfl (ai (n:=1) (by kernel_rfl) rfl)<|s0 rfl rfl (aA (i:=1) (c:=.v _) (by kernel_rfl) rfl rfl rfl rfl (af rfl))<|ag<|ac<|aa ?_;show AR _ _ _ _ _ [0,1] _;refine zR rfl (fN (i:=1) (n:=2) bM rfl (by kernel_rfl) rfl rfl (af rfl))<|s0 rfl rfl (cn (i:=2) (vs:=[S x15,S x56]) (by kernel_rfl) rfl rfl (by simp [cE,slE]) rfl (af rfl))<|ag<|aQ ?_;obtain ⟨rfl,rfl,rfl,rfl⟩:=res4 H;exact And.intro rfl (Exists.intro _ (Exists.intro _ ⟨rc (oC rfl (CellV.agg (off:=0) (cs:=[S x15,S x56]) (n:=2) 2 bM rfl (by kernel_rfl) rfl rfl (af rfl))),aK [0,2,2] rfl,rfl,rfl⟩))
set_option maxRecDepth 100000 in
set_option maxHeartbeats 1000000 in
theorem qG (F:Nat) (o1:Nat) (a2:List UInt8) (a3:Int) (a4:List (List UInt8)) (t5:Nat) (a6:Int) (a7:List (Int×(List UInt8)×(List UInt8)×List ((List UInt8)×List UInt8))) (t8:Nat) (a9:Int) (r10:Int) (r11:List (List UInt8)) (r13:Int) (r14:List (Int×(List UInt8)×(List UInt8)×List ((List UInt8)×List UInt8))) (r16:Int) (H:iw F a2 a3 a4 a6 a7 a9=some (r10,r11,r13,r14,r16)):ACalls Tryz.prog 50 [.pt o1 0] [.obj o1 [S a2,i64 a3,slE Enc.str a4 (some t5),i64 a6,slE (Enc.prod Enc.int (Enc.prod Enc.str (Enc.prod Enc.str (Enc.sl (Enc.prod Enc.str Enc.str))))) a7 (some t8),i64 a9],.tok t5 9,.tok t8 33] (fun e A'=>e=.ret (.tup [])∧∃ t12 t15,A'=[.obj o1 [S a2,i64 r10,slE Enc.str r11 (some t12),i64 r13,slE (Enc.prod Enc.int (Enc.prod Enc.str (Enc.prod Enc.str (Enc.sl (Enc.prod Enc.str Enc.str))))) r14 (some t15),i64 r16],.tok t12 9,.tok t15 33]):=by
 unfold iw at H
 refine az Tryz.func50 rfl rfl ?_;show AW _ _ 152 _ _ _;refine ac ?_;obtain ⟨g17,H⟩:=aI H;refine aa ?_;show AR _ _ _ _ _ [0,1,2,3,4,5,6,7] _;refine zS rfl (ah (av:=.pt _ _) rfl)<|zS rfl (am rfl)<|zS rfl (ai (n:=1) (by kernel_rfl) rfl)<|zR rfl (al (i:=0) au rfl rfl rfl rfl)<|zS rfl (bB rfl rfl g17)<|zS rfl (am rfl)<|zS rfl (ai (n:=1) (by kernel_rfl) rfl)<|s0 rfl rfl (aA (i:=0) (c:=.v _) (by kernel_rfl) rfl rfl rfl rfl (af rfl))<|ag<|ac ?_;obtain ⟨x18,x19,x20,e21,H⟩:=mh H;refine aa ?_;show AR _ _ _ _ _ [0,1,2,3,4] _;refine zS rfl (ah (av:=.pt _ _) rfl)<|ar rfl rfl (aY [0,0,0] rfl qW rfl (mI F o1 a2 (a3+1) a4 t5 a6 a7 t8 a9 x18 x19 x20 e21) rfl (fun c A' h=>by cases h.1) ?_)
 rintro av A' ⟨h,rfl⟩; cases h
 refine zS rfl (eH (zs:=[.int .i64 0,.string ⟨#[]⟩,.string ⟨#[]⟩,.slice none 0 0]) (ps:=[(0,1),(1,1),(2,1),(3,1)]) (cs:=[i64 0,S x18,S ([]:List UInt8),aj]) (by kernel_rfl) rfl rfl)<|zX rfl (dw (zs:=[.int .i64 0,.string ⟨#[]⟩,.string ⟨#[]⟩,.slice none 0 0]) (by kernel_rfl)) ?_;rintro _ _ ⟨o22,rfl,rfl⟩;refine s0 rfl rfl (cn (i:=0) (vs:=[i64 0,S x18,S ([]:List UInt8),aj]) (by kernel_rfl) rfl rfl (by simp [cE,slE]) rfl (af rfl))<|ag ?_
 refine gE 0 3 2 44 rfl rfl fun t23=>?_
 show AW _ _ _ _ _ ⟨_,_,[.tok t23 44,.obj o22 [i64 0,S x18,S ([]:List UInt8),slE (Enc.prod Enc.str Enc.str) [] (some t23)],.obj o1 [S a2,i64 x19,slE Enc.str a4 (some t5),i64 a6,slE (Enc.prod Enc.int (Enc.prod Enc.str (Enc.prod Enc.str (Enc.sl (Enc.prod Enc.str Enc.str))))) a7 (some t8),i64 x20],.tok t5 9,.tok t8 33]⟩;refine bq (X:=Int×Int×(List ((List UInt8)×List UInt8))×Nat) (fun (y70,y71,y72,t73)=>⟨[(0,.pt o1 0),(2,.pt o22 0)],[],[.obj o1 [S a2,i64 y70,slE Enc.str a4 (some t5),i64 a6,slE (Enc.prod Enc.int (Enc.prod Enc.str (Enc.prod Enc.str (Enc.sl (Enc.prod Enc.str Enc.str))))) a7 (some t8),i64 y71],.obj o22 [i64 0,S x18,S ([]:List UInt8),slE (Enc.prod Enc.str Enc.str) y72 (some t73)],.tok t5 9,.tok t8 33,.tok t73 44]⟩) (fun (y70,y71,y72,t73)=>dk F a2 a4 a6 a7 x18 y70 y71 y72=some (r10,r11,r13,r14,r16)) ?_ ?_
 ·refine aR<|cl (X:=Nat×(List ((List UInt8)×List UInt8))×Nat×Int×Int) (fun (n29,y24,t25,y26,y27)=>⟨[(0,.pt o1 0),(2,.pt o22 0)],[],[.obj o22 [i64 0,S x18,S ([]:List UInt8),slE (Enc.prod Enc.str Enc.str) y24 (some t25)],.obj o1 [S a2,i64 y26,slE Enc.str a4 (some t5),i64 a6,slE (Enc.prod Enc.int (Enc.prod Enc.str (Enc.prod Enc.str (Enc.sl (Enc.prod Enc.str Enc.str))))) a7 (some t8),i64 y27],.tok t25 44,.tok t5 9,.tok t8 33]⟩) (fun (n29,y24,t25,y26,y27)=>bL F a2 a4 a6 a7 x18 n29 (y24,y26,y27)=some (r10,r11,r13,r14,r16)) (fun (n29,y24,t25,y26,y27)=>n29) (F,[],t23,x19,x20) H (aP [1,1,0,0,0] (.cons (.refl _) (.cons (.refl _) (.nil _))) rfl) ?_;rintro ⟨n29,y24,t25,y26,y27⟩ H;obtain ⟨n29,rfl,H⟩:=cO H;replace H:dI F a2 a4 a6 a7 x18 (bL F a2 a4 a6 a7 x18 n29) y24 y26 y27=some (r10,r11,r13,r14,r16):=H
  unfold dI at H
  refine ac<|ac<|aa ?_;show AR _ _ _ _ _ [0,1,2,3,4] _;refine zS rfl (ah (av:=.pt _ _) rfl)<|zS rfl (am rfl)<|zS rfl (ai (n:=5) (by kernel_rfl) rfl)<|zR rfl (al (i:=1) bZ rfl rfl rfl rfl)<|zS rfl (bI rfl rfl)<|ag<|ax rfl (fun c30=>?_) (fun c30=>?_)
  ·replace H:=be c30 H;refine aC<|aR<|ac ?_;obtain ⟨x31,x32,e33,H⟩:=dd H;refine aa ?_;show AR _ _ _ _ _ [0,1,2] _;refine zS rfl (ah (av:=.pt _ _) rfl)<|ar rfl rfl (aY [1,2,2] rfl uP rfl (nF F o1 a2 y26 a4 t5 a6 a7 t8 y27 x31 x32 e33) rfl (fun c A' h=>by cases h.1) ?_)
   rintro av A' ⟨h,rfl⟩; cases h
   refine za rfl<|ag<|ac ?_;obtain ⟨x34,e35,H⟩:=cm H;refine aa ?_;show AR _ _ _ _ _ [0,1,2] _;refine zS rfl (ah (av:=.pt _ _) rfl)<|ar rfl rfl (aY [0,0,0] rfl gq rfl (cN F o1 a2 x32 a4 t5 a6 a7 t8 y27 ([62]:List UInt8) x34 e35) rfl (fun c A' h=>by cases h.1) ?_)
   rintro av A' ⟨h,rfl⟩; cases h
   refine za rfl<|ag<|ac ?_;obtain ⟨x36,e37,H⟩:=cm H;refine aa ?_;show AR _ _ _ _ _ [0,1,2] _;refine zS rfl (ah (av:=.pt _ _) rfl)<|ar rfl rfl (aY [0,0,0] rfl gq rfl (cN F o1 a2 x32 a4 t5 a6 a7 t8 y27 ([47,62]:List UInt8) x36 e37) rfl (fun c A' h=>by cases h.1) ?_)
   rintro av A' ⟨h,rfl⟩; cases h
   refine za rfl<|ag<|ac<|ac<|aa ?_;show AR _ _ _ _ _ [0,1,2,3] _;refine zm rfl<|zm rfl<|bk (l:=[]) 33 (B (x34||x36)) (fun K=>?_) ?_
   ·rcases ap x34 with h38 | h38
    ·refine zF h38 rfl<|zS rfl (aD (av:=.v _) rfl h38 rfl) ?_;exact K _ 1 _ (aw (ii h38)) rfl rfl
    ·refine zM h38 rfl<|zS rfl (aF (av:=.v _) rfl h38 rfl) ?_;exact K _ 1 _ (aw (ie h38)) rfl rfl
   refine ag<|ax rfl (fun c39=>?_) (fun c39=>?_)
   ·replace H:=be c39 H;refine bU ?_;exact Exists.intro (x32,y27,y24,t25) ⟨H,aP [0,2,0,0,0] (.cons (.refl _) (.cons (.refl _) (.nil _))) rfl⟩
   ·replace H:=bf c39 H;refine aC<|ac<|ac<|bn (by kernel_rfl) ?_;show AI _ _ _ _ _ 14 (Array.replicate 14 false) _;refine zk 0 rfl (mv rfl) ?_;show zI 14 1;refine zk 1 rfl (bI rfl rfl) ?_;show zI 14 3;refine zk 2 rfl (mv rfl) ?_;show zI 14 7;refine AI.meet 0 (zb 14 16383) 47 (B ((decide (x31=0))||(decide ((a2.length:Int)≤x32)))) (fun K13=>?_) ?_
    ·refine ic (t:=36) rfl (fun h40=>?_) (fun h40=>?_)
     ·refine aU (i:=3) rfl rfl (by kernel_rfl) (by kernel_rfl) (by kernel_rfl) rfl rfl rfl (fun _ _ h=>h) h40 ?_;show zI 14 15;refine aU (i:=4) rfl rfl (by kernel_rfl) (by kernel_rfl) (by kernel_rfl) rfl rfl rfl (fun _ _ h=>h) h40 ?_;show zI 14 31;refine aU (i:=5) rfl rfl (by kernel_rfl) (by kernel_rfl) (by kernel_rfl) rfl rfl rfl (fun _ _ h=>h) h40 ?_;show zI 14 63;refine aU (i:=6) rfl rfl (by kernel_rfl) (by kernel_rfl) (by kernel_rfl) rfl rfl rfl (fun _ _ h=>h) h40 ?_;show zI 14 127;refine aU (i:=7) rfl rfl (by kernel_rfl) (by kernel_rfl) (by kernel_rfl) rfl rfl rfl (fun _ _ h=>h) h40 ?_;show zI 14 255;refine aU (i:=8) rfl rfl (by kernel_rfl) (by kernel_rfl) (by kernel_rfl) rfl rfl rfl (fun _ _ h=>h) h40 ?_;show zI 14 511;refine aU (i:=9) rfl rfl (by kernel_rfl) (by kernel_rfl) (by kernel_rfl) rfl rfl rfl (fun _ _ h=>h) h40 ?_;show zI 14 1023;refine aU (i:=10) rfl rfl (by kernel_rfl) (by kernel_rfl) (by kernel_rfl) rfl rfl rfl (fun _ _ h=>h) h40 ?_;show zI 14 2047;refine aU (i:=11) rfl rfl (by kernel_rfl) (by kernel_rfl) (by kernel_rfl) rfl rfl rfl (fun _ _ h=>h) h40 ?_;show zI 14 4095;refine aU (i:=12) rfl rfl (by kernel_rfl) (by kernel_rfl) (by kernel_rfl) rfl rfl rfl (fun _ _ h=>h) h40 ?_;show zI 14 8191;refine zk 13 rfl (bo (av':=B ((decide (x31=0))||(decide ((a2.length:Int)≤x32)))) (aD (av:=.v _) rfl h40 rfl) (aw (ii h40))) ?_;show zI 14 16383;exact K13 _ 10 rfl rfl
     ·refine aL (i:=3) rfl rfl (by kernel_rfl) (by kernel_rfl) (by kernel_rfl) rfl rfl rfl (fun _ _ h=>h) h40 (ah (av:=.pt _ _) rfl) ?_;show zI 14 15;refine aL (i:=4) rfl rfl (by kernel_rfl) (by kernel_rfl) (by kernel_rfl) rfl rfl rfl (fun _ _ h=>h) h40 (am rfl) ?_;show zI 14 31;refine aL (i:=5) rfl rfl (by kernel_rfl) (by kernel_rfl) (by kernel_rfl) rfl rfl rfl (fun _ _ h=>h) h40 (ai (n:=1) (by kernel_rfl) rfl) ?_;show zI 14 63;refine aL (i:=7) rfl rfl (by kernel_rfl) (by kernel_rfl) (by kernel_rfl) rfl rfl rfl (fun _ _ h=>h) h40 (ah (av:=.pt _ _) rfl) ?_;show zI 14 191;refine aL (i:=8) rfl rfl (by kernel_rfl) (by kernel_rfl) (by kernel_rfl) rfl rfl rfl (fun _ _ h=>h) h40 (am rfl) ?_;show zI 14 447;refine aL (i:=9) rfl rfl (by kernel_rfl) (by kernel_rfl) (by kernel_rfl) rfl rfl rfl (fun _ _ h=>h) h40 (ai (n:=0) (by kernel_rfl) rfl) ?_;show zI 14 959;refine lN (i:=6) (j:=10) (by kernel_rfl) rfl (.inr ⟨_,_,_,_,rfl,rfl,rfl,rfl,h40⟩) rfl (.inr ⟨_,_,_,_,rfl,rfl,rfl,rfl,h40⟩) ?_ ?_
      ·refine aJ rfl (al (i:=0) au rfl rfl rfl rfl) ?_;show zI 14 1023;refine eI (i:=10) (by kernel_rfl) rfl rfl rfl rfl rfl h40<|aJ rfl (al (i:=0) ab rfl rfl rfl rfl) ?_;show zI 14 2047;refine aL (i:=11) rfl rfl (by kernel_rfl) (by kernel_rfl) (by kernel_rfl) rfl rfl rfl (fun _ _ h=>h) h40 (aW ab rfl) ?_;show zI 14 4095;refine aL (i:=12) rfl rfl (by kernel_rfl) (by kernel_rfl) (by kernel_rfl) rfl rfl rfl (fun _ _ h=>h) h40 (cX rfl rfl) ?_;show zI 14 8191;refine zk 13 rfl (bo (av':=B ((decide (x31=0))||(decide ((a2.length:Int)≤x32)))) (aF (av:=.v _) rfl h40 rfl) (aw (ie h40))) ?_;show zI 14 16383;exact K13 _ 10 rfl rfl
      ·refine aJ rfl (al (i:=0) ab rfl rfl rfl rfl) ?_;show zI 14 1983;refine aL (i:=11) rfl rfl (by kernel_rfl) (by kernel_rfl) (by kernel_rfl) rfl rfl rfl (fun _ _ h=>h) h40 (aW ab rfl) ?_;show zI 14 4031;refine eI (i:=6) (by kernel_rfl) rfl rfl rfl rfl rfl h40<|aJ rfl (al (i:=0) au rfl rfl rfl rfl) ?_;show zI 14 4095;refine aL (i:=12) rfl rfl (by kernel_rfl) (by kernel_rfl) (by kernel_rfl) rfl rfl rfl (fun _ _ h=>h) h40 (cX rfl rfl) ?_;show zI 14 8191;refine zk 13 rfl (bo (av':=B ((decide (x31=0))||(decide ((a2.length:Int)≤x32)))) (aF (av:=.v _) rfl h40 rfl) (aw (ie h40))) ?_;show zI 14 16383;exact K13 _ 10 rfl rfl
    refine bw rfl<|ax rfl (fun c41=>?_) (fun c41=>?_)
    ·replace H:=be c41 H;refine ac ?_;obtain ⟨x42,e43,H⟩:=cm H;refine aa ?_;show AR _ _ _ _ _ [0,1] _;refine zS rfl (ah (av:=.pt _ _) rfl)<|ar rfl rfl (aY [0,0,0] rfl fa rfl (cR F o1 a2 x32 a4 t5 a6 a7 t8 y27 2 x42 e43) rfl (fun c A' h=>by cases h.1) ?_)
     rintro av A' ⟨h,rfl⟩; cases h
     refine ag<|aQ ?_;obtain ⟨rfl,rfl,rfl,rfl,rfl⟩:=sj H;exact And.intro rfl (Exists.intro _ (Exists.intro _ ⟨bp rfl,aK [0,0,0] rfl,rfl,t5,t8,rfl⟩))
    ·replace H:=bf c41 H;refine aC<|ac ?_;obtain ⟨x44,x45,x46,x47,e48,H⟩:=bnd4_s H;refine aa ?_;show AR _ _ _ _ _ [0,1,2,3] _;refine zS rfl (ah (av:=.pt _ _) rfl)<|ar rfl rfl (aY [0,0,0] rfl AF rfl (tS F o1 a2 x32 a4 t5 a6 a7 t8 y27 x44 x45 x46 x47 e48) rfl (fun c A' h=>by cases h.1) ?_)
     rintro av A' ⟨h,rfl⟩; cases h
     refine zX rfl (dw (zs:=[.string ⟨#[]⟩,.string ⟨#[]⟩]) (by kernel_rfl)) ?_;rintro _ _ ⟨o49,rfl,rfl⟩;refine s0 rfl rfl (cn (i:=0) (vs:=[S x44,S x45]) (by kernel_rfl) rfl rfl (by simp [cE,slE]) rfl (af rfl))<|AR.freezeCp 6 0 rfl rfl ?_;show AR _ _ _ _ _ _ ⟨_,_,[.obj o1 [S a2,i64 x46,slE Enc.str a4 (some t5),i64 a6,slE (Enc.prod Enc.int (Enc.prod Enc.str (Enc.prod Enc.str (Enc.sl (Enc.prod Enc.str Enc.str))))) a7 (some t8),i64 x47],.tok t5 9,.tok t8 33,.obj o22 [i64 0,S x18,S ([]:List UInt8),slE (Enc.prod Enc.str Enc.str) y24 (some t25)],.tok t25 44]⟩;refine ag<|bq (X:=Int) (fun y64=>⟨[(0,.pt o1 0),(2,.pt o22 0),(6,.cp [S x44,S x45])],[],[.obj o1 [S a2,i64 x46,slE Enc.str a4 (some t5),i64 a6,slE (Enc.prod Enc.int (Enc.prod Enc.str (Enc.prod Enc.str (Enc.sl (Enc.prod Enc.str Enc.str))))) a7 (some t8),i64 y64],.obj o22 [i64 0,S x18,S ([]:List UInt8),slE (Enc.prod Enc.str Enc.str) y24 (some t25)],.tok t5 9,.tok t8 33,.tok t25 44]⟩) (fun y64=>dG y24 x44 x45 x46 (bL F a2 a4 a6 a7 x18 n29) y64=some (r10,r11,r13,r14,r16)) ?_ ?_
     ·refine ac<|aa ?_;show AR _ _ _ _ _ [0] _;refine za rfl<|ag<|aR<|cl (X:=Nat×Int×Int) (fun (n53,y50,y51)=>⟨[(0,.pt o1 0),(2,.pt o22 0),(6,.cp [S x44,S x45]),(7,i64 y50)],[],[.obj o1 [S a2,i64 x46,slE Enc.str a4 (some t5),i64 a6,slE (Enc.prod Enc.int (Enc.prod Enc.str (Enc.prod Enc.str (Enc.sl (Enc.prod Enc.str Enc.str))))) a7 (some t8),i64 y51],.obj o22 [i64 0,S x18,S ([]:List UInt8),slE (Enc.prod Enc.str Enc.str) y24 (some t25)],.tok t5 9,.tok t8 33,.tok t25 44]⟩) (fun (n53,y50,y51)=>cV F a2 a4 a6 a7 y24 x44 x45 x46 (bL F a2 a4 a6 a7 x18 n29) n53 (y50,y51)=some (r10,r11,r13,r14,r16)) (fun (n53,y50,y51)=>n53) (F,0,x47) H (aP [0,2,0,0,0] (.cons (.refl _) (.cons (.refl _) (.cons (.refl _) (.cons (.refl _) (.nil _))))) rfl) ?_;rintro ⟨n53,y50,y51⟩ H;obtain ⟨n53,rfl,H⟩:=cO H;replace H:fI F a2 a4 a6 a7 y24 x44 x45 x46 (bL F a2 a4 a6 a7 x18 n29) (cV F a2 a4 a6 a7 y24 x44 x45 x46 (bL F a2 a4 a6 a7 x18 n29) n53) y50 y51=some (r10,r11,r13,r14,r16):=H
      unfold fI at H
      refine ac<|ac<|aa ?_;show AR _ _ _ _ _ [0,1,2,3,4] _;refine zm rfl<|zS rfl (ai (n:=3) (by kernel_rfl) rfl)<|zR rfl (al (i:=1) aH rfl rfl rfl rfl)<|zS rfl (bh aH rfl)<|zS rfl (bN rfl rfl)<|ag<|ax rfl (fun c54=>?_) (fun c54=>?_)
      ·replace H:=be c54 H;refine aC<|bq (X:=Int) (fun y61=>⟨[(0,.pt o1 0),(2,.pt o22 0),(6,.cp [S x44,S x45]),(7,i64 y50)],[],[.obj o1 [S a2,i64 x46,slE Enc.str a4 (some t5),i64 a6,slE (Enc.prod Enc.int (Enc.prod Enc.str (Enc.prod Enc.str (Enc.sl (Enc.prod Enc.str Enc.str))))) a7 (some t8),i64 y61],.obj o22 [i64 0,S x18,S ([]:List UInt8),slE (Enc.prod Enc.str Enc.str) y24 (some t25)],.tok t5 9,.tok t8 33,.tok t25 44]⟩) (fun y61=>dF y50 (cV F a2 a4 a6 a7 y24 x44 x45 x46 (bL F a2 a4 a6 a7 x18 n29) n53) y61=some (r10,r11,r13,r14,r16)) ?_ ?_
       ·refine aR<|ac ?_;obtain ⟨g55,H⟩:=aI H;obtain ⟨x56,e57,H⟩:=bz H;refine bn (by kernel_rfl) ?_;show AI _ _ _ _ _ 9 (Array.replicate 9 false) _;refine zk 0 rfl (ai (n:=3) (by kernel_rfl) rfl) ?_;show zI 9 1;refine zk 2 rfl (mv rfl) ?_;show zI 9 5;refine zk 6 rfl (aN (n:=0) (by kernel_rfl) rfl (af rfl)) ?_;show zI 9 69;refine zk 7 rfl (aG ab rfl rfl) ?_;show zI 9 197;refine bj (i:=1) (by kernel_rfl) rfl rfl<|aJ rfl (al (i:=1) aH rfl rfl rfl rfl) ?_;show zI 9 199;refine zk 3 rfl (bA (E:=(Enc.prod Enc.str Enc.str)) aH (by kernel_rfl) rfl rfl g55 e57) ?_;show zI 9 207;refine zk 4 rfl (aN (n:=0) (by kernel_rfl) rfl (af rfl)) ?_;show zI 9 223;refine zk 5 rfl (aG ab rfl rfl) ?_;show zI 9 255;refine zk 8 rfl (cD rfl rfl) ?_;show zI 9 511;refine bw rfl<|ax rfl (fun c58=>?_) (fun c58=>?_)
        ·replace H:=be c58 H;obtain ⟨x59,e60,H⟩:=cm H;refine aa ?_;show AR _ _ _ _ _ [0,1] _;refine zS rfl (ah (av:=.pt _ _) rfl)<|ar rfl rfl (aY [0,1,1] rfl fa rfl (cR F o1 a2 x46 a4 t5 a6 a7 t8 y51 2 x59 e60) rfl (fun c A' h=>by cases h.1) ?_)
         rintro av A' ⟨h,rfl⟩; cases h
         refine ag ?_;exact Exists.intro x59 ⟨H,aP [0,2,0,0,0] (.cons (.refl _) (.cons (.refl _) (.cons (.refl _) (.cons (.refl _) (.nil _))))) rfl⟩
        ·replace H:=bf c58 H;refine aC ?_;exact Exists.intro y51 ⟨H,aP [0,0,0,0,0] (.cons (.refl _) (.cons (.refl _) (.cons (.refl _) (.cons (.refl _) (.nil _))))) rfl⟩
       rintro y61 H;replace H:dF y50 (cV F a2 a4 a6 a7 y24 x44 x45 x46 (bL F a2 a4 a6 a7 x18 n29) n53) y61=some (r10,r11,r13,r14,r16):=H
       unfold dF at H
       obtain ⟨g63,H⟩:=aI H;refine aa ?_;show AR _ _ _ _ _ [0,1,2] _;refine zm rfl<|zS rfl (bB rfl rfl g63)<|za rfl<|ag ?_;exact Exists.intro (n53,y50+1,y61) ⟨H,Nat.lt_succ_self _,aP [0,0,0,0,0] (.cons (.refl _) (.cons (.refl _) (.cons (.refl _) (.cons (.refl _) (.nil _))))) rfl⟩
      ·replace H:=bf c54 H;refine bU ?_;exact Exists.intro y51 ⟨H,aP [0,0,0,0,0] (.cons (.refl _) (.cons (.refl _) (.cons (.refl _) (.nil _)))) rfl⟩
     rintro y64 H;replace H:dG y24 x44 x45 x46 (bL F a2 a4 a6 a7 x18 n29) y64=some (r10,r11,r13,r14,r16):=H
     unfold dG at H
     obtain ⟨g67,H⟩:=aI H;obtain ⟨x68,e69,H⟩:=bz H;refine aa ?_;show AR _ _ _ _ _ [0,1,2,3,4,5,6] _;refine zS rfl (ai (n:=3) (by kernel_rfl) rfl)<|zR rfl (al (i:=1) aH rfl rfl rfl rfl)<|zS rfl (cx bM rfl (n:=2) (by kernel_rfl) rfl (af rfl))<|zR rfl (cW (E:=(Enc.prod Enc.str Enc.str)) (bytes:=32) (zs:=[.string ⟨#[]⟩,.string ⟨#[]⟩]) (l:=([(x44,x45)]:List ((List UInt8)×List UInt8))) aH (by kernel_rfl) (by kernel_rfl) rfl rfl rfl rfl rfl)<|zX rfl (cM (E:=(Enc.prod Enc.str Enc.str)) (bytes:=32) 4 aH aH rfl (by kernel_rfl) rfl rfl rfl rfl g67 e69) ?_;rintro _ _ ⟨t66,rfl,rfl⟩;refine zS rfl (ai (n:=3) (by kernel_rfl) rfl)<|s0 rfl rfl (aA (i:=1) (c:=slE _ _ _) (by kernel_rfl) rfl rfl rfl rfl (af rfl))<|ag ?_;exact Exists.intro (n29,x68,t66,x46,y64) ⟨H,Nat.lt_succ_self _,aP [1,0,2,0,0] (.cons (.refl _) (.cons (.refl _) (.nil _))) rfl⟩
  ·replace H:=bf c30 H;refine bU ?_;exact Exists.intro (y26,y27,y24,t25) ⟨H,aP [1,0,1,1,0] (.cons (.refl _) (.cons (.refl _) (.nil _))) rfl⟩
 rintro ⟨y70,y71,y72,t73⟩ H;replace H:dk F a2 a4 a6 a7 x18 y70 y71 y72=some (r10,r11,r13,r14,r16):=H
 unfold dk at H
 refine ac<|ac<|aa ?_;show AR _ _ _ _ _ [0,1,2,3,4] _;refine zS rfl (ah (av:=.pt _ _) rfl)<|zS rfl (am rfl)<|zS rfl (ai (n:=5) (by kernel_rfl) rfl)<|zR rfl (al (i:=0) bZ rfl rfl rfl rfl)<|zS rfl (dD rfl rfl)<|ag<|ax rfl (fun c75=>?_) (fun c75=>?_)
 ·replace H:=be c75 H;refine aQ ?_;obtain ⟨rfl,rfl,rfl,rfl,rfl⟩:=sj H;exact And.intro rfl (Exists.intro _ (Exists.intro _ ⟨bp rfl,aK [0,1,1] rfl,rfl,t5,t8,rfl⟩))
 ·replace H:=bf c75 H;refine aC<|bq (X:=Int) (fun y81=>⟨[(0,.pt o1 0),(2,.pt o22 0)],[],[.obj o1 [S a2,i64 y70,slE Enc.str a4 (some t5),i64 y81,slE (Enc.prod Enc.int (Enc.prod Enc.str (Enc.prod Enc.str (Enc.sl (Enc.prod Enc.str Enc.str))))) a7 (some t8),i64 y71],.obj o22 [i64 0,S x18,S ([]:List UInt8),slE (Enc.prod Enc.str Enc.str) y72 (some t73)],.tok t5 9,.tok t8 33,.tok t73 44]⟩) (fun y81=>dH F a2 a4 a7 x18 y70 y71 y72 y81=some (r10,r11,r13,r14,r16)) ?_ ?_
  ·refine ac<|aa ?_;show AR _ _ _ _ _ [0,1,2,3,4,5] _;refine zS rfl (ah (av:=.pt _ _) rfl)<|zS rfl (am rfl)<|zS rfl (ai (n:=2) (by kernel_rfl) rfl)<|zR rfl (al (i:=0) ao rfl rfl rfl rfl)<|zS rfl (bh ao rfl)<|zS rfl (bI rfl rfl)<|ag<|ax rfl (fun c76=>?_) (fun c76=>?_)
   ·replace H:=be c76 H;refine ac ?_;obtain ⟨g77,H⟩:=aI H;refine aa ?_;show AR _ _ _ _ _ [0,1,2,3,4,5,6,7] _;refine zS rfl (ah (av:=.pt _ _) rfl)<|zS rfl (am rfl)<|zS rfl (ai (n:=3) (by kernel_rfl) rfl)<|zR rfl (al (i:=0) au rfl rfl rfl rfl)<|zS rfl (bB rfl rfl g77)<|zS rfl (am rfl)<|zS rfl (ai (n:=3) (by kernel_rfl) rfl)<|s0 rfl rfl (aA (i:=0) (c:=.v _) (by kernel_rfl) rfl rfl rfl rfl (af rfl))<|ag<|ac<|aa ?_;show AR _ _ _ _ _ [0,1,2,3,4] _;refine zS rfl (ah (av:=.pt _ _) rfl)<|zS rfl (am rfl)<|zS rfl (ai (n:=3) (by kernel_rfl) rfl)<|zR rfl (al (i:=0) au rfl rfl rfl rfl)<|zS rfl (eN rfl rfl)<|ag<|ax rfl (fun c78=>?_) (fun c78=>?_)
    ·replace H:=be c78 H;refine ac ?_;obtain ⟨x79,e80,H⟩:=cm H;refine aa ?_;show AR _ _ _ _ _ [0,1] _;refine zS rfl (ah (av:=.pt _ _) rfl)<|ar rfl rfl (aY [0,1,1] rfl fa rfl (cR F o1 a2 y70 a4 t5 (a6+1) a7 t8 y71 2 x79 e80) rfl (fun c A' h=>by cases h.1) ?_)
     rintro av A' ⟨h,rfl⟩; cases h
     refine ag<|aQ ?_;obtain ⟨rfl,rfl,rfl,rfl,rfl⟩:=sj H;exact And.intro rfl (Exists.intro _ (Exists.intro _ ⟨bp rfl,aK [0,0,0] rfl,rfl,t5,t8,rfl⟩))
    ·replace H:=bf c78 H;refine aC ?_;exact Exists.intro (a6+1) ⟨H,aP [0,0,0,0,0] (.cons (.refl _) (.cons (.refl _) (.nil _))) rfl⟩
   ·replace H:=bf c76 H;refine aC ?_;exact Exists.intro a6 ⟨H,aP [0,0,0,0,0] (.cons (.refl _) (.cons (.refl _) (.nil _))) rfl⟩
  rintro y81 H;replace H:dH F a2 a4 a7 x18 y70 y71 y72 y81=some (r10,r11,r13,r14,r16):=H
  unfold dH at H
  refine ac ?_;obtain ⟨x83,e84,H⟩:=cm H;refine aa ?_;show AR _ _ _ _ _ [0,1,2] _;refine zS rfl (ah (av:=.pt _ _) rfl)<|ar rfl rfl (aY [0,1,1] rfl gq rfl (cN F o1 a2 y70 a4 t5 y81 a7 t8 y71 ([47,62]:List UInt8) x83 e84) rfl (fun c A' h=>by cases h.1) ?_)
  rintro av A' ⟨h,rfl⟩; cases h
  refine za rfl<|ag<|bq (X:=(List (List UInt8))×Nat) (fun (y101,t102)=>⟨[(0,.pt o1 0),(2,.pt o22 0),(8,B x83)],[],[.obj o1 [S a2,i64 y70,slE Enc.str y101 (some t102),i64 y81,slE (Enc.prod Enc.int (Enc.prod Enc.str (Enc.prod Enc.str (Enc.sl (Enc.prod Enc.str Enc.str))))) a7 (some t8),i64 y71],.obj o22 [i64 0,S x18,S ([]:List UInt8),slE (Enc.prod Enc.str Enc.str) y72 (some t73)],.tok t102 9,.tok t8 33,.tok t73 44]⟩) (fun (y101,t102)=>fG F a2 a7 x18 y70 y71 y72 y81 x83 y101=some (r10,r11,r13,r14,r16)) ?_ ?_
  ·obtain ⟨g86,H⟩:=aI H;obtain ⟨g88,H⟩:=aI H;obtain ⟨x89,e90,H⟩:=bz H;refine bn (by kernel_rfl) ?_;show AI _ _ _ _ _ 13 (Array.replicate 13 false) _;refine zk 0 rfl (ah (av:=.pt _ _) rfl) ?_;show zI 13 1;refine zk 1 rfl (ah (av:=.pt _ _) rfl) ?_;show zI 13 3;refine zk 2 rfl (am rfl) ?_;show zI 13 7;refine zk 3 rfl (ai (n:=2) (by kernel_rfl) rfl) ?_;show zI 13 15;refine zk 6 rfl (ai (n:=1) (by kernel_rfl) rfl) ?_;show zI 13 79;refine dj (i:=4) (j:=7) (by kernel_rfl) rfl rfl rfl rfl ?_ ?_
   ·refine aJ rfl (al (i:=0) ao rfl rfl rfl rfl) ?_;show zI 13 95;refine dj (i:=5) (j:=7) (by kernel_rfl) rfl rfl rfl rfl ?_ ?_
    ·refine dC rfl (fO (E:=Enc.str) (bytes:=16) ao ao rfl (by kernel_rfl) rfl rfl rfl g86) ?_;rintro _ _ ⟨t85,rfl,rfl⟩;show zI 13 127;refine bj (i:=7) (by kernel_rfl) rfl rfl<|aJ rfl (al (i:=4) ab rfl rfl rfl rfl) ?_;show zI 13 255;refine bj (i:=8) (by kernel_rfl) rfl rfl<|aJ rfl (ce (E:=Enc.str) (bytes:=16) (xs:=[.tmp 110]) (l:=([x18]:List (List UInt8))) ao (by kernel_rfl) rfl rfl (by decide) rfl rfl) ?_;show zI 13 511;refine bj (i:=9) (by kernel_rfl) rfl rfl<|dC rfl (cM (E:=Enc.str) (bytes:=16) 0 ao ao rfl (by kernel_rfl) rfl rfl rfl rfl g88 e90) ?_;rintro _ _ ⟨t87,rfl,rfl⟩;show zI 13 1023;refine zk 10 rfl (am rfl) ?_;show zI 13 2047;refine zk 11 rfl (ai (n:=2) (by kernel_rfl) rfl) ?_;show zI 13 4095;refine bj (i:=12) (by kernel_rfl) rfl rfl<|dY (aA (i:=1) (c:=slE _ _ _) (by kernel_rfl) rfl rfl rfl rfl (af rfl)) ?_;show zI 13 8191;refine bw rfl ?_;exact Exists.intro (x89,t87) ⟨H,aP [1,3,0,1,1] (.cons (.refl _) (.cons (.refl _) (.cons (.refl _) (.nil _)))) rfl⟩
    ·refine aJ rfl (al (i:=3) ab rfl rfl rfl rfl) ?_;show zI 13 223;refine dj (i:=5) (j:=8) (by kernel_rfl) rfl rfl rfl rfl ?_ ?_
     ·refine dC rfl (fO (E:=Enc.str) (bytes:=16) ao ao rfl (by kernel_rfl) rfl rfl rfl g86) ?_;rintro _ _ ⟨t91,rfl,rfl⟩;show zI 13 255;refine bj (i:=8) (by kernel_rfl) rfl rfl<|aJ rfl (ce (E:=Enc.str) (bytes:=16) (xs:=[.tmp 110]) (l:=([x18]:List (List UInt8))) ao (by kernel_rfl) rfl rfl (by decide) rfl rfl) ?_;show zI 13 511;refine bj (i:=9) (by kernel_rfl) rfl rfl<|dC rfl (cM (E:=Enc.str) (bytes:=16) 0 ao ao rfl (by kernel_rfl) rfl rfl rfl rfl g88 e90) ?_;rintro _ _ ⟨t92,rfl,rfl⟩;show zI 13 1023;refine zk 10 rfl (am rfl) ?_;show zI 13 2047;refine zk 11 rfl (ai (n:=2) (by kernel_rfl) rfl) ?_;show zI 13 4095;refine bj (i:=12) (by kernel_rfl) rfl rfl<|dY (aA (i:=1) (c:=slE _ _ _) (by kernel_rfl) rfl rfl rfl rfl (af rfl)) ?_;show zI 13 8191;refine bw rfl ?_;exact Exists.intro (x89,t92) ⟨H,aP [1,3,0,1,1] (.cons (.refl _) (.cons (.refl _) (.cons (.refl _) (.nil _)))) rfl⟩
     ·refine aJ rfl (ce (E:=Enc.str) (bytes:=16) (xs:=[.tmp 110]) (l:=([x18]:List (List UInt8))) ao (by kernel_rfl) rfl rfl (by decide) rfl rfl) ?_;show zI 13 479;refine bj (i:=5) (by kernel_rfl) rfl rfl<|dC rfl (fO (E:=Enc.str) (bytes:=16) ao ao rfl (by kernel_rfl) rfl rfl rfl g86) ?_;rintro _ _ ⟨t93,rfl,rfl⟩;show zI 13 511;refine bj (i:=9) (by kernel_rfl) rfl rfl<|dC rfl (cM (E:=Enc.str) (bytes:=16) 0 ao ao rfl (by kernel_rfl) rfl rfl rfl rfl g88 e90) ?_;rintro _ _ ⟨t94,rfl,rfl⟩;show zI 13 1023;refine zk 10 rfl (am rfl) ?_;show zI 13 2047;refine zk 11 rfl (ai (n:=2) (by kernel_rfl) rfl) ?_;show zI 13 4095;refine bj (i:=12) (by kernel_rfl) rfl rfl<|dY (aA (i:=1) (c:=slE _ _ _) (by kernel_rfl) rfl rfl rfl rfl (af rfl)) ?_;show zI 13 8191;refine bw rfl ?_;exact Exists.intro (x89,t94) ⟨H,aP [1,3,0,1,1] (.cons (.refl _) (.cons (.refl _) (.cons (.refl _) (.nil _)))) rfl⟩
   ·refine aJ rfl (al (i:=3) ab rfl rfl rfl rfl) ?_;show zI 13 207;refine dj (i:=4) (j:=8) (by kernel_rfl) rfl rfl rfl rfl ?_ ?_
    ·refine aJ rfl (al (i:=0) ao rfl rfl rfl rfl) ?_;show zI 13 223;refine dj (i:=5) (j:=8) (by kernel_rfl) rfl rfl rfl rfl ?_ ?_
     ·refine dC rfl (fO (E:=Enc.str) (bytes:=16) ao ao rfl (by kernel_rfl) rfl rfl rfl g86) ?_;rintro _ _ ⟨t95,rfl,rfl⟩;show zI 13 255;refine bj (i:=8) (by kernel_rfl) rfl rfl<|aJ rfl (ce (E:=Enc.str) (bytes:=16) (xs:=[.tmp 110]) (l:=([x18]:List (List UInt8))) ao (by kernel_rfl) rfl rfl (by decide) rfl rfl) ?_;show zI 13 511;refine bj (i:=9) (by kernel_rfl) rfl rfl<|dC rfl (cM (E:=Enc.str) (bytes:=16) 0 ao ao rfl (by kernel_rfl) rfl rfl rfl rfl g88 e90) ?_;rintro _ _ ⟨t96,rfl,rfl⟩;show zI 13 1023;refine zk 10 rfl (am rfl) ?_;show zI 13 2047;refine zk 11 rfl (ai (n:=2) (by kernel_rfl) rfl) ?_;show zI 13 4095;refine bj (i:=12) (by kernel_rfl) rfl rfl<|dY (aA (i:=1) (c:=slE _ _ _) (by kernel_rfl) rfl rfl rfl rfl (af rfl)) ?_;show zI 13 8191;refine bw rfl ?_;exact Exists.intro (x89,t96) ⟨H,aP [1,3,0,1,1] (.cons (.refl _) (.cons (.refl _) (.cons (.refl _) (.nil _)))) rfl⟩
     ·refine aJ rfl (ce (E:=Enc.str) (bytes:=16) (xs:=[.tmp 110]) (l:=([x18]:List (List UInt8))) ao (by kernel_rfl) rfl rfl (by decide) rfl rfl) ?_;show zI 13 479;refine bj (i:=5) (by kernel_rfl) rfl rfl<|dC rfl (fO (E:=Enc.str) (bytes:=16) ao ao rfl (by kernel_rfl) rfl rfl rfl g86) ?_;rintro _ _ ⟨t97,rfl,rfl⟩;show zI 13 511;refine bj (i:=9) (by kernel_rfl) rfl rfl<|dC rfl (cM (E:=Enc.str) (bytes:=16) 0 ao ao rfl (by kernel_rfl) rfl rfl rfl rfl g88 e90) ?_;rintro _ _ ⟨t98,rfl,rfl⟩;show zI 13 1023;refine zk 10 rfl (am rfl) ?_;show zI 13 2047;refine zk 11 rfl (ai (n:=2) (by kernel_rfl) rfl) ?_;show zI 13 4095;refine bj (i:=12) (by kernel_rfl) rfl rfl<|dY (aA (i:=1) (c:=slE _ _ _) (by kernel_rfl) rfl rfl rfl rfl (af rfl)) ?_;show zI 13 8191;refine bw rfl ?_;exact Exists.intro (x89,t98) ⟨H,aP [1,3,0,1,1] (.cons (.refl _) (.cons (.refl _) (.cons (.refl _) (.nil _)))) rfl⟩
    ·refine aJ rfl (ce (E:=Enc.str) (bytes:=16) (xs:=[.tmp 110]) (l:=([x18]:List (List UInt8))) ao (by kernel_rfl) rfl rfl (by decide) rfl rfl) ?_;show zI 13 463;refine bj (i:=4) (by kernel_rfl) rfl rfl<|aJ rfl (al (i:=0) ao rfl rfl rfl rfl) ?_;show zI 13 479;refine bj (i:=5) (by kernel_rfl) rfl rfl<|dC rfl (fO (E:=Enc.str) (bytes:=16) ao ao rfl (by kernel_rfl) rfl rfl rfl g86) ?_;rintro _ _ ⟨t99,rfl,rfl⟩;show zI 13 511;refine bj (i:=9) (by kernel_rfl) rfl rfl<|dC rfl (cM (E:=Enc.str) (bytes:=16) 0 ao ao rfl (by kernel_rfl) rfl rfl rfl rfl g88 e90) ?_;rintro _ _ ⟨t100,rfl,rfl⟩;show zI 13 1023;refine zk 10 rfl (am rfl) ?_;show zI 13 2047;refine zk 11 rfl (ai (n:=2) (by kernel_rfl) rfl) ?_;show zI 13 4095;refine bj (i:=12) (by kernel_rfl) rfl rfl<|dY (aA (i:=1) (c:=slE _ _ _) (by kernel_rfl) rfl rfl rfl rfl (af rfl)) ?_;show zI 13 8191;refine bw rfl ?_;exact Exists.intro (x89,t100) ⟨H,aP [1,3,0,1,1] (.cons (.refl _) (.cons (.refl _) (.cons (.refl _) (.nil _)))) rfl⟩
  rintro ⟨y101,t102⟩ H;replace H:fG F a2 a7 x18 y70 y71 y72 y81 x83 y101=some (r10,r11,r13,r14,r16):=H
  unfold fG at H
  refine ac<|ac<|aa ?_;show AR _ _ _ _ _ [0,1,2,3,4,5] _;refine zS rfl (ah (av:=.pt _ _) rfl)<|zS rfl (am rfl)<|zS rfl (ai (n:=2) (by kernel_rfl) rfl)<|zR rfl (al (i:=0) ao rfl rfl rfl rfl)<|zS rfl (bh ao rfl)<|zS rfl (eN rfl rfl)<|ag<|ax rfl (fun c104=>?_) (fun c104=>?_)
  ·replace H:=be c104 H;refine ac ?_;obtain ⟨x105,e106,H⟩:=cm H;refine aa ?_;show AR _ _ _ _ _ [0,1] _;refine zS rfl (ah (av:=.pt _ _) rfl)<|ar rfl rfl (aY [0,1,1] rfl fa rfl (cR F o1 a2 y70 y101 t102 y81 a7 t8 y71 5 x105 e106) rfl (fun c A' h=>by cases h.1) ?_)
   rintro av A' ⟨h,rfl⟩; cases h
   refine ag<|aQ ?_;obtain ⟨rfl,rfl,rfl,rfl,rfl⟩:=sj H;exact And.intro rfl (Exists.intro _ (Exists.intro _ ⟨bp rfl,aK [0,0,0] rfl,rfl,t102,t8,rfl⟩))
  ·replace H:=bf c104 H;refine aC<|bq (X:=(List (Int×(List UInt8)×(List UInt8)×List ((List UInt8)×List UInt8)))×Nat) (fun (y113,t114)=>⟨[(0,.pt o1 0),(2,.pt o22 0),(8,B x83)],[],[.obj o1 [S a2,i64 y70,slE Enc.str y101 (some t102),i64 y81,slE (Enc.prod Enc.int (Enc.prod Enc.str (Enc.prod Enc.str (Enc.sl (Enc.prod Enc.str Enc.str))))) y113 (some t114),i64 y71],.obj o22 [i64 0,S x18,S ([]:List UInt8),slE (Enc.prod Enc.str Enc.str) y72 (some t73)],.tok t102 9,.tok t114 33,.tok t73 44]⟩) (fun (y113,t114)=>fH F a2 x18 y70 y71 y81 x83 y101 y113=some (r10,r11,r13,r14,r16)) ?_ ?_
   ·obtain ⟨g108,H⟩:=aI H;obtain ⟨x109,e110,H⟩:=bz H;refine bn (by kernel_rfl) ?_;show AI _ _ _ _ _ 11 (Array.replicate 11 false) _;refine zk 0 rfl (ah (av:=.pt _ _) rfl) ?_;show zI 11 1;refine zk 1 rfl (ah (av:=.pt _ _) rfl) ?_;show zI 11 3;refine zk 2 rfl (am rfl) ?_;show zI 11 7;refine zk 3 rfl (ai (n:=4) (by kernel_rfl) rfl) ?_;show zI 11 15;refine dj (i:=4) (j:=5) (by kernel_rfl) rfl rfl rfl rfl ?_ ?_
    ·refine aJ rfl (al (i:=0) ay rfl rfl rfl rfl) ?_;show zI 11 31;refine bj (i:=5) (by kernel_rfl) rfl rfl<|aJ rfl (fN (i:=1) (n:=4) cA rfl (by kernel_rfl) rfl rfl (af rfl)) ?_;show zI 11 63;refine bj (i:=6) (by kernel_rfl) rfl rfl<|aJ rfl (dL (ds:=[i64 0,S x18,S ([]:List UInt8),slE (Enc.prod Enc.str Enc.str) y72 none]) 128 (.cons (.refl _) (.cons (.refl _) (.cons (.refl _) (.cons (.tok _ _ _) (.nil))))) (hc:=rfl)<|cW (E:=(Enc.prod Enc.int (Enc.prod Enc.str (Enc.prod Enc.str (Enc.sl (Enc.prod Enc.str Enc.str)))))) (bytes:=64) (zs:=[.int .i64 0,.string ⟨#[]⟩,.string ⟨#[]⟩,.slice none 0 0]) (l:=([(0,x18,([]:List UInt8),y72)]:List (Int×(List UInt8)×(List UInt8)×List ((List UInt8)×List UInt8)))) ay (by kernel_rfl) (by kernel_rfl) rfl rfl rfl rfl rfl) ?_;show zI 11 127;refine bj (i:=7) (by kernel_rfl) rfl rfl<|dC rfl (cM (E:=(Enc.prod Enc.int (Enc.prod Enc.str (Enc.prod Enc.str (Enc.sl (Enc.prod Enc.str Enc.str)))))) (bytes:=64) 3 ay ay rfl (by kernel_rfl) rfl rfl rfl rfl g108 e110) ?_;rintro _ _ ⟨t107,rfl,rfl⟩;show zI 11 255;refine zk 8 rfl (am rfl) ?_;show zI 11 511;refine zk 9 rfl (ai (n:=4) (by kernel_rfl) rfl) ?_;show zI 11 1023;refine bj (i:=10) (by kernel_rfl) rfl rfl<|dY (aA (i:=0) (c:=slE _ _ _) (by kernel_rfl) rfl rfl rfl rfl (af rfl)) ?_;show zI 11 2047;refine bw rfl ?_
     exact Exists.intro (x109,t107) ⟨H,aP [0,0,0,0,0] (.cons (.refl _) (.cons (.refl _) (.cons (.refl _) (.nil _)))) rfl⟩
    ·refine aJ rfl (fN (i:=1) (n:=4) cA rfl (by kernel_rfl) rfl rfl (af rfl)) ?_;show zI 11 47;refine dj (i:=4) (j:=6) (by kernel_rfl) rfl rfl rfl rfl ?_ ?_
     ·refine aJ rfl (al (i:=0) ay rfl rfl rfl rfl) ?_;show zI 11 63;refine bj (i:=6) (by kernel_rfl) rfl rfl<|aJ rfl (dL (ds:=[i64 0,S x18,S ([]:List UInt8),slE (Enc.prod Enc.str Enc.str) y72 none]) 128 (.cons (.refl _) (.cons (.refl _) (.cons (.refl _) (.cons (.tok _ _ _) (.nil))))) (hc:=rfl)<|cW (E:=(Enc.prod Enc.int (Enc.prod Enc.str (Enc.prod Enc.str (Enc.sl (Enc.prod Enc.str Enc.str)))))) (bytes:=64) (zs:=[.int .i64 0,.string ⟨#[]⟩,.string ⟨#[]⟩,.slice none 0 0]) (l:=([(0,x18,([]:List UInt8),y72)]:List (Int×(List UInt8)×(List UInt8)×List ((List UInt8)×List UInt8)))) ay (by kernel_rfl) (by kernel_rfl) rfl rfl rfl rfl rfl) ?_;show zI 11 127;refine bj (i:=7) (by kernel_rfl) rfl rfl<|dC rfl (cM (E:=(Enc.prod Enc.int (Enc.prod Enc.str (Enc.prod Enc.str (Enc.sl (Enc.prod Enc.str Enc.str)))))) (bytes:=64) 3 ay ay rfl (by kernel_rfl) rfl rfl rfl rfl g108 e110) ?_;rintro _ _ ⟨t111,rfl,rfl⟩;show zI 11 255;refine zk 8 rfl (am rfl) ?_;show zI 11 511;refine zk 9 rfl (ai (n:=4) (by kernel_rfl) rfl) ?_;show zI 11 1023;refine bj (i:=10) (by kernel_rfl) rfl rfl<|dY (aA (i:=0) (c:=slE _ _ _) (by kernel_rfl) rfl rfl rfl rfl (af rfl)) ?_;show zI 11 2047;refine bw rfl ?_;exact Exists.intro (x109,t111) ⟨H,aP [0,0,0,0,0] (.cons (.refl _) (.cons (.refl _) (.cons (.refl _) (.nil _)))) rfl⟩
     ·refine aJ rfl (dL (ds:=[i64 0,S x18,S ([]:List UInt8),slE (Enc.prod Enc.str Enc.str) y72 none]) 128 (.cons (.refl _) (.cons (.refl _) (.cons (.refl _) (.cons (.tok _ _ _) (.nil))))) (hc:=rfl)<|cW (E:=(Enc.prod Enc.int (Enc.prod Enc.str (Enc.prod Enc.str (Enc.sl (Enc.prod Enc.str Enc.str)))))) (bytes:=64) (zs:=[.int .i64 0,.string ⟨#[]⟩,.string ⟨#[]⟩,.slice none 0 0]) (l:=([(0,x18,([]:List UInt8),y72)]:List (Int×(List UInt8)×(List UInt8)×List ((List UInt8)×List UInt8)))) ay (by kernel_rfl) (by kernel_rfl) rfl rfl rfl rfl rfl) ?_;show zI 11 111;refine bj (i:=4) (by kernel_rfl) rfl rfl<|aJ rfl (al (i:=0) ay rfl rfl rfl rfl) ?_;show zI 11 127;refine bj (i:=7) (by kernel_rfl) rfl rfl<|dC rfl (cM (E:=(Enc.prod Enc.int (Enc.prod Enc.str (Enc.prod Enc.str (Enc.sl (Enc.prod Enc.str Enc.str)))))) (bytes:=64) 3 ay ay rfl (by kernel_rfl) rfl rfl rfl rfl g108 e110) ?_;rintro _ _ ⟨t112,rfl,rfl⟩;show zI 11 255;refine zk 8 rfl (am rfl) ?_;show zI 11 511;refine zk 9 rfl (ai (n:=4) (by kernel_rfl) rfl) ?_;show zI 11 1023;refine bj (i:=10) (by kernel_rfl) rfl rfl<|dY (aA (i:=0) (c:=slE _ _ _) (by kernel_rfl) rfl rfl rfl rfl (af rfl)) ?_;show zI 11 2047;refine bw rfl ?_;exact Exists.intro (x109,t112) ⟨H,aP [0,0,0,0,0] (.cons (.refl _) (.cons (.refl _) (.cons (.refl _) (.nil _)))) rfl⟩
   rintro ⟨y113,t114⟩ H;replace H:fH F a2 x18 y70 y71 y81 x83 y101 y113=some (r10,r11,r13,r14,r16):=H
   unfold fH at H
   refine ac ?_;obtain ⟨g116,H⟩:=aI H;refine aa ?_;show AR _ _ _ _ _ [0,1,2,3,4,5,6,7] _;refine zS rfl (ah (av:=.pt _ _) rfl)<|zS rfl (am rfl)<|zS rfl (ai (n:=1) (by kernel_rfl) rfl)<|zR rfl (al (i:=0) au rfl rfl rfl rfl)<|zS rfl (bB rfl rfl g116)<|zS rfl (am rfl)<|zS rfl (ai (n:=1) (by kernel_rfl) rfl)<|s0 rfl rfl (aA (i:=0) (c:=.v _) (by kernel_rfl) rfl rfl rfl rfl (af rfl))<|ag<|ac<|aa ?_;show AR _ _ _ _ _ [0] _;refine zm rfl<|ag<|ax rfl (fun c117=>?_) (fun c117=>?_)
   ·replace H:=be c117 H;refine ac ?_;obtain ⟨g118,H⟩:=aI H;refine aa ?_;show AR _ _ _ _ _ [0,1,2,3,4,5,6,7] _;refine zS rfl (ah (av:=.pt _ _) rfl)<|zS rfl (am rfl)<|zS rfl (ai (n:=1) (by kernel_rfl) rfl)<|zR rfl (al (i:=0) au rfl rfl rfl rfl)<|zS rfl (bB rfl rfl g118)<|zS rfl (am rfl)<|zS rfl (ai (n:=1) (by kernel_rfl) rfl)<|s0 rfl rfl (aA (i:=0) (c:=.v _) (by kernel_rfl) rfl rfl rfl rfl (af rfl))<|ag ?_;obtain ⟨x119,x120,x121,e122,H⟩:=mh H;refine aa ?_;show AR _ _ _ _ _ [0,1,2,3] _;refine zS rfl (ah (av:=.pt _ _) rfl)<|zS rfl (ai (n:=1) (by kernel_rfl) rfl)<|zR rfl (al (i:=1) ab rfl rfl rfl rfl)<|ar rfl rfl (aY [0,1,1] rfl uO rfl (og F o1 a2 ((y70+1)+1) y101 t102 y81 y113 t114 y71 x18 x119 x120 x121 e122) rfl (fun c A' h=>by cases h.1) ?_)
    rintro av A' ⟨h,t123,t124,rfl⟩; cases h
    refine ag ?_;obtain ⟨rfl,rfl,rfl,rfl,rfl⟩:=sj H;exact And.intro rfl (Exists.intro _ (Exists.intro _ ⟨bp rfl,aK [0,0,0] rfl,rfl,t123,t124,rfl⟩))
   ·replace H:=bf c117 H;refine aC ?_;obtain ⟨rfl,rfl,rfl,rfl,rfl⟩:=sj H;exact And.intro rfl (Exists.intro _ (Exists.intro _ ⟨bp rfl,aK [0,1,1] rfl,rfl,t102,t114,rfl⟩))
set_option maxRecDepth 100000 in
set_option maxHeartbeats 1000000 in
theorem tR (F:Nat) (o1:Nat) (a2:List UInt8) (a3:Int) (a4:List (List UInt8)) (t5:Nat) (a6:Int) (a7:List (Int×(List UInt8)×(List UInt8)×List ((List UInt8)×List UInt8))) (t8:Nat) (a9:Int) (r10:Int) (r11:List (List UInt8)) (r13:Int) (r14:List (Int×(List UInt8)×(List UInt8)×List ((List UInt8)×List UInt8))) (r16:Int) (H:lj F a2 a3 a4 a6 a7 a9=some (r10,r11,r13,r14,r16)):ACalls Tryz.prog 24 [.pt o1 0] [.obj o1 [S a2,i64 a3,slE Enc.str a4 (some t5),i64 a6,slE (Enc.prod Enc.int (Enc.prod Enc.str (Enc.prod Enc.str (Enc.sl (Enc.prod Enc.str Enc.str))))) a7 (some t8),i64 a9],.tok t5 9,.tok t8 33] (fun e A'=>e=.ret (.tup [])∧∃ t12 t15,A'=[.obj o1 [S a2,i64 r10,slE Enc.str r11 (some t12),i64 r13,slE (Enc.prod Enc.int (Enc.prod Enc.str (Enc.prod Enc.str (Enc.sl (Enc.prod Enc.str Enc.str))))) r14 (some t15),i64 r16],.tok t12 9,.tok t15 33]):=by
 unfold lj at H
 refine az Tryz.func24 rfl rfl ?_;show AW _ _ 90 _ _ _;refine ac ?_;obtain ⟨x17,e18,H⟩:=cm H;refine aa ?_;show AR _ _ _ _ _ [0,1,2] _;refine zS rfl (ah (av:=.pt _ _) rfl)<|ar rfl rfl (aY [0,0,0] rfl gq rfl (cN F o1 a2 a3 a4 t5 a6 a7 t8 a9 ([60,33,45,45]:List UInt8) x17 e18) rfl (fun c A' h=>by cases h.1) ?_)
 rintro av A' ⟨h,rfl⟩; cases h
 refine za rfl<|ag<|ac ?_;obtain ⟨x19,e20,H⟩:=cm H;refine aa ?_;show AR _ _ _ _ _ [0,1,2] _;refine zS rfl (ah (av:=.pt _ _) rfl)<|ar rfl rfl (aY [0,0,0] rfl gq rfl (cN F o1 a2 a3 a4 t5 a6 a7 t8 a9 ([60,63]:List UInt8) x19 e20) rfl (fun c A' h=>by cases h.1) ?_)
 rintro av A' ⟨h,rfl⟩; cases h
 refine za rfl<|ag<|ac ?_;obtain ⟨x21,e22,H⟩:=cm H;refine aa ?_;show AR _ _ _ _ _ [0,1,2] _;refine zS rfl (ah (av:=.pt _ _) rfl)<|ar rfl rfl (aY [0,0,0] rfl gq rfl (cN F o1 a2 a3 a4 t5 a6 a7 t8 a9 ([60,33,91,67,68,65,84,65,91]:List UInt8) x21 e22) rfl (fun c A' h=>by cases h.1) ?_)
 rintro av A' ⟨h,rfl⟩; cases h
 refine za rfl<|ag<|ac ?_;obtain ⟨x23,e24,H⟩:=cm H;refine aa ?_;show AR _ _ _ _ _ [0,1,2] _;refine zS rfl (ah (av:=.pt _ _) rfl)<|ar rfl rfl (aY [0,0,0] rfl gq rfl (cN F o1 a2 a3 a4 t5 a6 a7 t8 a9 ([60,33]:List UInt8) x23 e24) rfl (fun c A' h=>by cases h.1) ?_)
 rintro av A' ⟨h,rfl⟩; cases h
 refine za rfl<|ag<|ac ?_;obtain ⟨x25,e26,H⟩:=cm H;refine aa ?_;show AR _ _ _ _ _ [0,1,2] _;refine zS rfl (ah (av:=.pt _ _) rfl)<|ar rfl rfl (aY [0,0,0] rfl gq rfl (cN F o1 a2 a3 a4 t5 a6 a7 t8 a9 ([60,47]:List UInt8) x25 e26) rfl (fun c A' h=>by cases h.1) ?_)
 rintro av A' ⟨h,rfl⟩; cases h
 refine za rfl<|ag<|bq (X:=Bool) (fun y30=>⟨[(0,.pt o1 0),(2,B x17),(3,B x19),(4,B x21),(5,B x23),(6,B x25),(27,B y30)],[],[.obj o1 [S a2,i64 a3,slE Enc.str a4 (some t5),i64 a6,slE (Enc.prod Enc.int (Enc.prod Enc.str (Enc.prod Enc.str (Enc.sl (Enc.prod Enc.str Enc.str))))) a7 (some t8),i64 a9],.tok t5 9,.tok t8 33]⟩) (fun y30=>iv F a2 a3 a4 a6 a7 a9 x17 x19 x21 x23 x25 y30=some (r10,r11,r13,r14,r16)) ?_ ?_
 ·obtain ⟨g27,H⟩:=aI H;obtain ⟨x28,e29,H⟩:=bz H;refine bn (by kernel_rfl) ?_;show AI _ _ _ _ _ 10 (Array.replicate 10 false) _;refine zk 0 rfl (ah (av:=.pt _ _) rfl) ?_;show zI 10 1;refine zk 1 rfl (am rfl) ?_;show zI 10 3;refine zk 2 rfl (ai (n:=0) (by kernel_rfl) rfl) ?_;show zI 10 7;refine zk 4 rfl (ah (av:=.pt _ _) rfl) ?_;show zI 10 23;refine zk 5 rfl (am rfl) ?_;show zI 10 55;refine zk 6 rfl (ai (n:=1) (by kernel_rfl) rfl) ?_;show zI 10 119;refine dj (i:=3) (j:=7) (by kernel_rfl) rfl rfl rfl rfl ?_ ?_
  ·refine aJ rfl (al (i:=0) ab rfl rfl rfl rfl) ?_;show zI 10 127;refine bj (i:=7) (by kernel_rfl) rfl rfl<|aJ rfl (al (i:=0) au rfl rfl rfl rfl) ?_;show zI 10 255;refine zk 8 rfl (bg ab rfl rfl g27 e29) ?_;show zI 10 511;refine zk 9 rfl (sg (a:=x28) (b:=60) rfl rfl) ?_;show zI 10 1023;refine bw rfl ?_;exact Exists.intro (!decide (x28=60)) ⟨H,aP [0,0,0] (.cons (.refl _) (.cons (.refl _) (.cons (.refl _) (.cons (.refl _) (.cons (.refl _) (.cons (.refl _) (.cons (.refl _) (.nil _)))))))) rfl⟩
  ·refine aJ rfl (al (i:=0) au rfl rfl rfl rfl) ?_;show zI 10 247;refine bj (i:=3) (by kernel_rfl) rfl rfl<|aJ rfl (al (i:=0) ab rfl rfl rfl rfl) ?_;show zI 10 255;refine zk 8 rfl (bg ab rfl rfl g27 e29) ?_;show zI 10 511;refine zk 9 rfl (sg (a:=x28) (b:=60) rfl rfl) ?_;show zI 10 1023;refine bw rfl ?_;exact Exists.intro (!decide (x28=60)) ⟨H,aP [0,0,0] (.cons (.refl _) (.cons (.refl _) (.cons (.refl _) (.cons (.refl _) (.cons (.refl _) (.cons (.refl _) (.cons (.refl _) (.nil _)))))))) rfl⟩
 rintro y30 H;replace H:iv F a2 a3 a4 a6 a7 a9 x17 x19 x21 x23 x25 y30=some (r10,r11,r13,r14,r16):=H
 unfold iv at H
 refine ax rfl (fun c32=>?_) (fun c32=>?_)
 ·replace H:=be c32 H;obtain ⟨x33,x34,x35,e36,H⟩:=mh H;refine aa ?_;show AR _ _ _ _ _ [0,1] _;refine zS rfl (ah (av:=.pt _ _) rfl)<|ar rfl rfl (aY [0,0,0] rfl AP rfl (sB F o1 a2 a3 a4 t5 a6 a7 t8 a9 x33 x34 x35 e36) rfl (fun c A' h=>by cases h.1) ?_)
  rintro av A' ⟨h,t37,rfl⟩; cases h
  refine ag ?_;obtain ⟨rfl,rfl,rfl,rfl,rfl⟩:=sj H;exact And.intro rfl (Exists.intro _ (Exists.intro _ ⟨bp rfl,aK [0,0,0] rfl,rfl,t5,t37,rfl⟩))
 ·replace H:=bf c32 H;refine ac<|aa ?_;show AR _ _ _ _ _ [0] _;refine zm rfl<|ag<|ax rfl (fun c38=>?_) (fun c38=>?_)
  ·replace H:=be c38 H;refine ac ?_;obtain ⟨g39,H⟩:=aI H;refine aa ?_;show AR _ _ _ _ _ [0,1,2,3,4,5,6,7,8] _;refine zS rfl (ah (av:=.pt _ _) rfl)<|zS rfl (ah (av:=.pt _ _) rfl)<|zS rfl (am rfl)<|zS rfl (ai (n:=1) (by kernel_rfl) rfl)<|zR rfl (al (i:=0) au rfl rfl rfl rfl)<|zS rfl (bB rfl rfl g39)<|zS rfl (am rfl)<|zS rfl (ai (n:=1) (by kernel_rfl) rfl)<|s0 rfl rfl (aA (i:=0) (c:=.v _) (by kernel_rfl) rfl rfl rfl rfl (af rfl))<|ag ?_;obtain ⟨x40,x41,x42,e43,H⟩:=mh H;refine aa ?_;show AR _ _ _ _ _ [0,1] _;refine zS rfl (ah (av:=.pt _ _) rfl)<|ar rfl rfl (aY [0,0,0] rfl nd rfl (jp F o1 a2 (a3+4) a4 t5 a6 a7 t8 a9 ([45,45,62]:List UInt8) x40 x41 x42 e43) rfl (fun c A' h=>by cases h.1) ?_)
   rintro av A' ⟨h,rfl⟩; cases h
   refine ag ?_;obtain ⟨rfl,rfl,rfl,rfl,rfl⟩:=sj H;exact And.intro rfl (Exists.intro _ (Exists.intro _ ⟨bp rfl,aK [0,0,0] rfl,rfl,t5,t8,rfl⟩))
  ·replace H:=bf c38 H;refine ac<|aa ?_;show AR _ _ _ _ _ [0] _;refine zm rfl<|ag<|ax rfl (fun c44=>?_) (fun c44=>?_)
   ·replace H:=be c44 H;refine ac ?_;obtain ⟨g45,H⟩:=aI H;refine aa ?_;show AR _ _ _ _ _ [0,1,2,3,4,5,6,7,8] _;refine zS rfl (ah (av:=.pt _ _) rfl)<|zS rfl (ah (av:=.pt _ _) rfl)<|zS rfl (am rfl)<|zS rfl (ai (n:=1) (by kernel_rfl) rfl)<|zR rfl (al (i:=0) au rfl rfl rfl rfl)<|zS rfl (bB rfl rfl g45)<|zS rfl (am rfl)<|zS rfl (ai (n:=1) (by kernel_rfl) rfl)<|s0 rfl rfl (aA (i:=0) (c:=.v _) (by kernel_rfl) rfl rfl rfl rfl (af rfl))<|ag ?_;obtain ⟨x46,x47,x48,e49,H⟩:=mh H;refine aa ?_;show AR _ _ _ _ _ [0,1] _;refine zS rfl (ah (av:=.pt _ _) rfl)<|ar rfl rfl (aY [0,0,0] rfl nd rfl (jp F o1 a2 (a3+2) a4 t5 a6 a7 t8 a9 ([63,62]:List UInt8) x46 x47 x48 e49) rfl (fun c A' h=>by cases h.1) ?_)
    rintro av A' ⟨h,rfl⟩; cases h
    refine ag ?_;obtain ⟨rfl,rfl,rfl,rfl,rfl⟩:=sj H;exact And.intro rfl (Exists.intro _ (Exists.intro _ ⟨bp rfl,aK [0,0,0] rfl,rfl,t5,t8,rfl⟩))
   ·replace H:=bf c44 H;refine ac<|aa ?_;show AR _ _ _ _ _ [0] _;refine zm rfl<|ag<|ax rfl (fun c50=>?_) (fun c50=>?_)
    ·replace H:=be c50 H;refine ac ?_;obtain ⟨g51,H⟩:=aI H;refine aa ?_;show AR _ _ _ _ _ [0,1,2,3,4,5,6,7,8] _;refine zS rfl (ah (av:=.pt _ _) rfl)<|zS rfl (ah (av:=.pt _ _) rfl)<|zS rfl (am rfl)<|zS rfl (ai (n:=1) (by kernel_rfl) rfl)<|zR rfl (al (i:=0) au rfl rfl rfl rfl)<|zS rfl (bB rfl rfl g51)<|zS rfl (am rfl)<|zS rfl (ai (n:=1) (by kernel_rfl) rfl)<|s0 rfl rfl (aA (i:=0) (c:=.v _) (by kernel_rfl) rfl rfl rfl rfl (af rfl))<|ag<|ac ?_;obtain ⟨x52,x53,x54,e55,H⟩:=mh H;refine aa ?_;show AR _ _ _ _ _ [0,1,2] _;refine zS rfl (ah (av:=.pt _ _) rfl)<|ar rfl rfl (aY [0,0,0] rfl nd rfl (jp F o1 a2 (a3+9) a4 t5 a6 a7 t8 a9 ([93,93,62]:List UInt8) x52 x53 x54 e55) rfl (fun c A' h=>by cases h.1) ?_)
     rintro av A' ⟨h,rfl⟩; cases h
     refine za rfl<|ag<|bq (X:=Int) (fun y59=>⟨[(0,.pt o1 0),(7,S x52)],[],[.obj o1 [S a2,i64 x53,slE Enc.str a4 (some t5),i64 a6,slE (Enc.prod Enc.int (Enc.prod Enc.str (Enc.prod Enc.str (Enc.sl (Enc.prod Enc.str Enc.str))))) a7 (some t8),i64 y59],.tok t5 9,.tok t8 33]⟩) (fun y59=>fc F a2 a4 a6 a7 x52 x53 y59=some (r10,r11,r13,r14,r16)) ?_ ?_
     ·refine ac<|aa ?_;show AR _ _ _ _ _ [0,1,2,3,4,5] _;refine zS rfl (ah (av:=.pt _ _) rfl)<|zS rfl (am rfl)<|zS rfl (ai (n:=2) (by kernel_rfl) rfl)<|zR rfl (al (i:=0) ao rfl rfl rfl rfl)<|zS rfl (bh ao rfl)<|zS rfl (bI rfl rfl)<|ag<|ax rfl (fun c56=>?_) (fun c56=>?_)
      ·replace H:=be c56 H;obtain ⟨x57,e58,H⟩:=cm H;refine aa ?_;show AR _ _ _ _ _ [0,1] _;refine zS rfl (ah (av:=.pt _ _) rfl)<|ar rfl rfl (aY [0,0,0] rfl fa rfl (cR F o1 a2 x53 a4 t5 a6 a7 t8 x54 2 x57 e58) rfl (fun c A' h=>by cases h.1) ?_)
       rintro av A' ⟨h,rfl⟩; cases h
       refine ag ?_;exact Exists.intro x57 ⟨H,aP [0,0,0] (.cons (.refl _) (.cons (.refl _) (.nil _))) rfl⟩
      ·replace H:=bf c56 H;refine aC ?_;exact Exists.intro x54 ⟨H,aP [0,0,0] (.cons (.refl _) (.cons (.refl _) (.nil _))) rfl⟩
     rintro y59 H;replace H:fc F a2 a4 a6 a7 x52 x53 y59=some (r10,r11,r13,r14,r16):=H
     unfold fc at H
     obtain ⟨x61,e62,H⟩:=cm H;refine aa ?_;show AR _ _ _ _ _ [0,1,2] _;refine zS rfl (ah (av:=.pt _ _) rfl)<|zm rfl<|ar rfl rfl (aY [0,0,0] rfl uV rfl (pp F o1 a2 x53 a4 t5 a6 a7 t8 y59 x52 x61 e62) rfl (fun c A' h=>by cases h.1) ?_)
     rintro av A' ⟨h,t63,rfl⟩; cases h
     refine ag ?_;obtain ⟨rfl,rfl,rfl,rfl,rfl⟩:=sj H;exact And.intro rfl (Exists.intro _ (Exists.intro _ ⟨bp rfl,aK [0,0,0] rfl,rfl,t5,t63,rfl⟩))
    ·replace H:=bf c50 H;refine ac<|aa ?_;show AR _ _ _ _ _ [0] _;refine zm rfl<|ag<|ax rfl (fun c64=>?_) (fun c64=>?_)
     ·replace H:=be c64 H;refine ac ?_;obtain ⟨g65,H⟩:=aI H;refine aa ?_;show AR _ _ _ _ _ [0,1,2,3,4,5,6,7,8] _;refine zS rfl (ah (av:=.pt _ _) rfl)<|zS rfl (ah (av:=.pt _ _) rfl)<|zS rfl (am rfl)<|zS rfl (ai (n:=1) (by kernel_rfl) rfl)<|zR rfl (al (i:=0) au rfl rfl rfl rfl)<|zS rfl (bB rfl rfl g65)<|zS rfl (am rfl)<|zS rfl (ai (n:=1) (by kernel_rfl) rfl)<|s0 rfl rfl (aA (i:=0) (c:=.v _) (by kernel_rfl) rfl rfl rfl rfl (af rfl))<|ag ?_;obtain ⟨x66,x67,x68,e69,H⟩:=mh H;refine aa ?_;show AR _ _ _ _ _ [0,1] _;refine zS rfl (ah (av:=.pt _ _) rfl)<|ar rfl rfl (aY [0,0,0] rfl nd rfl (jp F o1 a2 (a3+2) a4 t5 a6 a7 t8 a9 ([62]:List UInt8) x66 x67 x68 e69) rfl (fun c A' h=>by cases h.1) ?_)
      rintro av A' ⟨h,rfl⟩; cases h
      refine ag ?_;obtain ⟨rfl,rfl,rfl,rfl,rfl⟩:=sj H;exact And.intro rfl (Exists.intro _ (Exists.intro _ ⟨bp rfl,aK [0,0,0] rfl,rfl,t5,t8,rfl⟩))
     ·replace H:=bf c64 H;refine ac<|aa ?_;show AR _ _ _ _ _ [0] _;refine zm rfl<|ag<|ax rfl (fun c70=>?_) (fun c70=>?_)
      ·replace H:=be c70 H;obtain ⟨x71,x72,x73,x74,e75,H⟩:=bnd4_s H;refine aa ?_;show AR _ _ _ _ _ [0,1] _;refine zS rfl (ah (av:=.pt _ _) rfl)<|ar rfl rfl (aY [0,0,0] rfl AN rfl (rR F o1 a2 a3 a4 t5 a6 a7 t8 a9 x71 x72 x73 x74 e75) rfl (fun c A' h=>by cases h.1) ?_)
       rintro av A' ⟨h,t76,t77,rfl⟩; cases h
       refine ag ?_;obtain ⟨rfl,rfl,rfl,rfl,rfl⟩:=sj H;exact And.intro rfl (Exists.intro _ (Exists.intro _ ⟨bp rfl,aK [0,0,0] rfl,rfl,t76,t77,rfl⟩))
      ·replace H:=bf c70 H;obtain ⟨x78,x79,x80,x81,x82,e83,H⟩:=bnd5_s H;refine aa ?_;show AR _ _ _ _ _ [0,1] _;refine zS rfl (ah (av:=.pt _ _) rfl)<|ar rfl rfl (aY [0,0,0] rfl AL rfl (qG F o1 a2 a3 a4 t5 a6 a7 t8 a9 x78 x79 x80 x81 x82 e83) rfl (fun c A' h=>by cases h.1) ?_)
       rintro av A' ⟨h,t84,t85,rfl⟩; cases h
       refine ag ?_;obtain ⟨rfl,rfl,rfl,rfl,rfl⟩:=sj H;exact And.intro rfl (Exists.intro _ (Exists.intro _ ⟨bp rfl,aK [0,0,0] rfl,rfl,t84,t85,rfl⟩))
set_option maxRecDepth 100000 in
set_option maxHeartbeats 1000000 in
theorem sA (F:Nat) (a1:List UInt8) (q2:Option Nat) (r3:List (Int×(List UInt8)×(List UInt8)×List ((List UInt8)×List UInt8))) (r4:Int) (H:gD F a1=some (r3,r4)):ACalls Tryz.prog 11 [slE Enc.byte a1 q2] [] (Ret (.tup [slE (Enc.prod Enc.int (Enc.prod Enc.str (Enc.prod Enc.str (Enc.sl (Enc.prod Enc.str Enc.str))))) r3 none,i64 r4]) []):=by
 unfold gD at H
 refine az Tryz.func11 rfl rfl ?_;show AW _ _ 67 _ _ _;refine ac<|aa ?_;show AR _ _ _ _ _ [0,1] _;refine za rfl<|za rfl<|ag<|ac<|ac<|aa ?_;show AR _ _ _ _ _ [0,1,2] _;refine zS rfl (ah (av:=slE _ _ _) rfl)<|zS rfl (bh ak rfl)<|zS rfl (eN rfl rfl)<|ag<|ax rfl (fun c5=>?_) (fun c5=>?_)
 ·replace H:=be c5 H;refine ac<|aa ?_;show AR _ _ _ _ _ [0,1] _;refine za rfl<|za rfl<|ag<|aQ ?_;obtain ⟨rfl,rfl⟩:=ek H;exact And.intro rfl (Exists.intro _ (Exists.intro _ ⟨bt rfl (.nil _) (.refl _),aK [] rfl,rfl,rfl⟩))
 ·replace H:=bf c5 H;refine aC<|ac<|aa ?_;show AR _ _ _ _ _ [0,1,2,3,4] _;refine zS rfl (ah (av:=slE _ _ _) rfl)<|zS rfl (bV ak bi ab rfl)<|zS rfl (eH (zs:=[.string ⟨#[]⟩,.int .i64 0,.slice none 0 0,.int .i64 0,.slice none 0 0,.int .i64 0]) (ps:=[(0,1),(1,1),(2,1),(3,1),(4,1),(5,1)]) (cs:=[S a1,i64 0,aj,i64 0,aj,i64 0]) (by kernel_rfl) rfl rfl)<|zX rfl (vW rfl (.inr ⟨_,rfl⟩)) ?_;rintro _ _ ⟨o6,rfl,rfl⟩;refine zS rfl (aZ (av:=.pt _ _) rfl)<|ag ?_
  refine gE 0 2 1 9 rfl rfl fun t7=>?_
  show AW _ _ _ _ _ ⟨_,_,[.tok t7 9,.obj o6 [S a1,i64 0,slE Enc.str [] (some t7),i64 0,aj,i64 0]]⟩
  refine gE 1 4 4 33 rfl rfl fun t8=>?_
  show AW _ _ _ _ _ ⟨_,_,[.tok t8 33,.tok t7 9,.obj o6 [S a1,i64 0,slE Enc.str [] (some t7),i64 0,slE (Enc.prod Enc.int (Enc.prod Enc.str (Enc.prod Enc.str (Enc.sl (Enc.prod Enc.str Enc.str))))) [] (some t8),i64 0]]⟩;refine bq (X:=Int×(List (List UInt8))×Nat×Int×(List (Int×(List UInt8)×(List UInt8)×List ((List UInt8)×List UInt8)))×Nat×Int) (fun (y30,y31,t32,y33,y34,t35,y36)=>⟨[(4,.pt o6 0)],[],[.obj o6 [S a1,i64 y30,slE Enc.str y31 (some t32),i64 y33,slE (Enc.prod Enc.int (Enc.prod Enc.str (Enc.prod Enc.str (Enc.sl (Enc.prod Enc.str Enc.str))))) y34 (some t35),i64 y36],.tok t32 9,.tok t35 33]⟩) (fun (y30,y31,t32,y33,y34,t35,y36)=>fA y30 y31 y33 y34 y36=some (r3,r4)) ?_ ?_
  ·refine aR<|cl (X:=Nat×Int×(List (List UInt8))×Nat×Int×(List (Int×(List UInt8)×(List UInt8)×List ((List UInt8)×List UInt8)))×Nat×Int) (fun (n17,y9,y10,t11,y12,y13,t14,y15)=>⟨[(4,.pt o6 0)],[],[.obj o6 [S a1,i64 y9,slE Enc.str y10 (some t11),i64 y12,slE (Enc.prod Enc.int (Enc.prod Enc.str (Enc.prod Enc.str (Enc.sl (Enc.prod Enc.str Enc.str))))) y13 (some t14),i64 y15],.tok t11 9,.tok t14 33]⟩) (fun (n17,y9,y10,t11,y12,y13,t14,y15)=>dy F a1 n17 (y9,y10,y12,y13,y15)=some (r3,r4)) (fun (n17,y9,y10,t11,y12,y13,t14,y15)=>n17) (F,0,[],t7,0,[],t8,0) H (aP [2,1,0] (.cons (.refl _) (.nil _)) rfl) ?_;rintro ⟨n17,y9,y10,t11,y12,y13,t14,y15⟩ H;obtain ⟨n17,rfl,H⟩:=cO H;replace H:eB F a1 (dy F a1 n17) y9 y10 y12 y13 y15=some (r3,r4):=H
   unfold eB at H
   refine ac<|bq (X:=Unit) (fun _=>⟨[(4,.pt o6 0),(28,B ((decide (y9 < (a1.length:Int)))&&(decide (y15=0))))],[],[.obj o6 [S a1,i64 y9,slE Enc.str y10 (some t11),i64 y12,slE (Enc.prod Enc.int (Enc.prod Enc.str (Enc.prod Enc.str (Enc.sl (Enc.prod Enc.str Enc.str))))) y13 (some t14),i64 y15],.tok t11 9,.tok t14 33]⟩) (fun _=>fy F a1 y9 y10 y12 y13 y15 (dy F a1 n17)=some (r3,r4)) ?_ ?_
   ·refine bn (by kernel_rfl) ?_;show AI _ _ _ _ _ 17 (Array.replicate 17 false) _;refine zk 0 rfl (ah (av:=.pt _ _) rfl) ?_;show zI 17 1;refine zk 1 rfl (am rfl) ?_;show zI 17 3;refine zk 2 rfl (ai (n:=1) (by kernel_rfl) rfl) ?_;show zI 17 7;refine zk 4 rfl (ah (av:=.pt _ _) rfl) ?_;show zI 17 23;refine zk 5 rfl (am rfl) ?_;show zI 17 55;refine zk 6 rfl (ai (n:=0) (by kernel_rfl) rfl) ?_;show zI 17 119;refine dj (i:=3) (j:=7) (by kernel_rfl) rfl rfl rfl rfl ?_ ?_
    ·refine aJ rfl (al (i:=0) au rfl rfl rfl rfl) ?_;show zI 17 127;refine bj (i:=7) (by kernel_rfl) rfl rfl<|aJ rfl (al (i:=0) ab rfl rfl rfl rfl) ?_;show zI 17 255;refine zk 8 rfl (aW ab rfl) ?_;show zI 17 511;refine zk 9 rfl (bN rfl rfl) ?_;show zI 17 1023;refine zk 10 rfl (mv rfl) ?_;show zI 17 2047;refine AI.meet 0 (zb 17 131071) 28 (B ((decide (y9 < (a1.length:Int)))&&(decide (y15=0)))) (fun K16=>?_) ?_
     ·refine ic (t:=22) rfl (fun h18=>?_) (fun h18=>?_)
      ·refine aL (i:=11) rfl rfl (by kernel_rfl) (by kernel_rfl) (by kernel_rfl) rfl rfl rfl (fun _ _ h=>h) h18 (ah (av:=.pt _ _) rfl) ?_;show zI 17 4095;refine aL (i:=12) rfl rfl (by kernel_rfl) (by kernel_rfl) (by kernel_rfl) rfl rfl rfl (fun _ _ h=>h) h18 (am rfl) ?_;show zI 17 8191;refine aL (i:=13) rfl rfl (by kernel_rfl) (by kernel_rfl) (by kernel_rfl) rfl rfl rfl (fun _ _ h=>h) h18 (ai (n:=5) (by kernel_rfl) rfl) ?_;show zI 17 16383;refine eI (i:=14) (by kernel_rfl) rfl rfl rfl rfl rfl h18<|aJ rfl (al (i:=0) bZ rfl rfl rfl rfl) ?_;show zI 17 32767;refine aL (i:=15) rfl rfl (by kernel_rfl) (by kernel_rfl) (by kernel_rfl) rfl rfl rfl (fun _ _ h=>h) h18 (bI rfl rfl) ?_;show zI 17 65535;refine zk 16 rfl (bo (av':=B ((decide (y9 < (a1.length:Int)))&&(decide (y15=0)))) (aD (av:=.v _) rfl h18 rfl) (aw (cd h18))) ?_;show zI 17 131071;exact K16 _ 5 rfl rfl
      ·refine aU (i:=11) rfl rfl (by kernel_rfl) (by kernel_rfl) (by kernel_rfl) rfl rfl rfl (fun _ _ h=>h) h18 ?_;show zI 17 4095;refine aU (i:=12) rfl rfl (by kernel_rfl) (by kernel_rfl) (by kernel_rfl) rfl rfl rfl (fun _ _ h=>h) h18 ?_;show zI 17 8191;refine aU (i:=13) rfl rfl (by kernel_rfl) (by kernel_rfl) (by kernel_rfl) rfl rfl rfl (fun _ _ h=>h) h18 ?_;show zI 17 16383;refine aU (i:=14) rfl rfl (by kernel_rfl) (by kernel_rfl) (by kernel_rfl) rfl rfl rfl (fun _ _ h=>h) h18 ?_;show zI 17 32767;refine aU (i:=15) rfl rfl (by kernel_rfl) (by kernel_rfl) (by kernel_rfl) rfl rfl rfl (fun _ _ h=>h) h18 ?_;show zI 17 65535;refine zk 16 rfl (bo (av':=B ((decide (y9 < (a1.length:Int)))&&(decide (y15=0)))) (aF (av:=.v _) rfl h18 rfl) (aw (cq h18))) ?_;show zI 17 131071;exact K16 _ 5 rfl rfl
     refine bw rfl ?_;exact Exists.intro () ⟨H,aP [0,0,0] (.cons (.refl _) (.cons (.refl _) (.nil _))) rfl⟩
    ·refine aJ rfl (al (i:=0) ab rfl rfl rfl rfl) ?_;show zI 17 247;refine zk 8 rfl (aW ab rfl) ?_;show zI 17 503;refine bj (i:=3) (by kernel_rfl) rfl rfl<|aJ rfl (al (i:=0) au rfl rfl rfl rfl) ?_;show zI 17 511;refine zk 9 rfl (bN rfl rfl) ?_;show zI 17 1023;refine zk 10 rfl (mv rfl) ?_;show zI 17 2047;refine AI.meet 0 (zb 17 131071) 28 (B ((decide (y9 < (a1.length:Int)))&&(decide (y15=0)))) (fun K16=>?_) ?_
     ·refine ic (t:=22) rfl (fun h19=>?_) (fun h19=>?_)
      ·refine aL (i:=11) rfl rfl (by kernel_rfl) (by kernel_rfl) (by kernel_rfl) rfl rfl rfl (fun _ _ h=>h) h19 (ah (av:=.pt _ _) rfl) ?_;show zI 17 4095;refine aL (i:=12) rfl rfl (by kernel_rfl) (by kernel_rfl) (by kernel_rfl) rfl rfl rfl (fun _ _ h=>h) h19 (am rfl) ?_;show zI 17 8191;refine aL (i:=13) rfl rfl (by kernel_rfl) (by kernel_rfl) (by kernel_rfl) rfl rfl rfl (fun _ _ h=>h) h19 (ai (n:=5) (by kernel_rfl) rfl) ?_;show zI 17 16383;refine eI (i:=14) (by kernel_rfl) rfl rfl rfl rfl rfl h19<|aJ rfl (al (i:=0) bZ rfl rfl rfl rfl) ?_;show zI 17 32767;refine aL (i:=15) rfl rfl (by kernel_rfl) (by kernel_rfl) (by kernel_rfl) rfl rfl rfl (fun _ _ h=>h) h19 (bI rfl rfl) ?_;show zI 17 65535;refine zk 16 rfl (bo (av':=B ((decide (y9 < (a1.length:Int)))&&(decide (y15=0)))) (aD (av:=.v _) rfl h19 rfl) (aw (cd h19))) ?_;show zI 17 131071;exact K16 _ 5 rfl rfl
      ·refine aU (i:=11) rfl rfl (by kernel_rfl) (by kernel_rfl) (by kernel_rfl) rfl rfl rfl (fun _ _ h=>h) h19 ?_;show zI 17 4095;refine aU (i:=12) rfl rfl (by kernel_rfl) (by kernel_rfl) (by kernel_rfl) rfl rfl rfl (fun _ _ h=>h) h19 ?_;show zI 17 8191;refine aU (i:=13) rfl rfl (by kernel_rfl) (by kernel_rfl) (by kernel_rfl) rfl rfl rfl (fun _ _ h=>h) h19 ?_;show zI 17 16383;refine aU (i:=14) rfl rfl (by kernel_rfl) (by kernel_rfl) (by kernel_rfl) rfl rfl rfl (fun _ _ h=>h) h19 ?_;show zI 17 32767;refine aU (i:=15) rfl rfl (by kernel_rfl) (by kernel_rfl) (by kernel_rfl) rfl rfl rfl (fun _ _ h=>h) h19 ?_;show zI 17 65535;refine zk 16 rfl (bo (av':=B ((decide (y9 < (a1.length:Int)))&&(decide (y15=0)))) (aF (av:=.v _) rfl h19 rfl) (aw (cq h19))) ?_;show zI 17 131071;exact K16 _ 5 rfl rfl
     refine bw rfl ?_;exact Exists.intro () ⟨H,aP [0,0,0] (.cons (.refl _) (.cons (.refl _) (.nil _))) rfl⟩
   rintro _ H;replace H:fy F a1 y9 y10 y12 y13 y15 (dy F a1 n17)=some (r3,r4):=H
   unfold fy at H
   refine ax rfl (fun c21=>?_) (fun c21=>?_)
   ·replace H:=be c21 H;refine aC<|aR ?_;obtain ⟨x22,x23,x24,x25,x26,e27,H⟩:=bnd5_s H;refine aa ?_;show AR _ _ _ _ _ [0,1] _;refine zS rfl (ah (av:=.pt _ _) rfl)<|ar rfl rfl (aY [0,0,0] rfl Bd rfl (tR F o6 a1 y9 y10 t11 y12 y13 t14 y15 x22 x23 x24 x25 x26 e27) rfl (fun c A' h=>by cases h.1) ?_)
    rintro av A' ⟨h,t28,t29,rfl⟩; cases h
    refine ag ?_;exact Exists.intro (n17,x22,x23,t28,x24,x25,t29,x26) ⟨H,Nat.lt_succ_self _,aP [0,0,0] (.cons (.refl _) (.nil _)) rfl⟩
   ·replace H:=bf c21 H;refine bU ?_;exact Exists.intro (y9,y10,t11,y12,y13,t14,y15) ⟨H,aP [0,0,0] (.cons (.refl _) (.nil _)) rfl⟩
  rintro ⟨y30,y31,t32,y33,y34,t35,y36⟩ H;replace H:fA y30 y31 y33 y34 y36=some (r3,r4):=H
  unfold fA at H
  refine bq (X:=Int) (fun y41=>⟨[(4,.pt o6 0)],[],[.obj o6 [S a1,i64 y30,slE Enc.str y31 (some t32),i64 y33,slE (Enc.prod Enc.int (Enc.prod Enc.str (Enc.prod Enc.str (Enc.sl (Enc.prod Enc.str Enc.str))))) y34 (some t35),i64 y41],.tok t32 9,.tok t35 33]⟩) (fun y41=>fB y34 y41=some (r3,r4)) ?_ ?_
  ·refine ac<|aa ?_;show AR _ _ _ _ _ [0,1,2,3,4,5,6,7,8,9,10,11,12,13,14,15,16,17,18,19] _;refine zS rfl (ah (av:=.pt _ _) rfl)<|zS rfl (am rfl)<|zS rfl (ai (n:=5) (by kernel_rfl) rfl)<|zR rfl (al (i:=0) bZ rfl rfl rfl rfl)<|zS rfl (bI rfl rfl)<|zm rfl<|bk (l:=[]) 50 (B ((decide (y36=0))&&((decide (0 < (y31.length:Int)))||(decide (y33=0))))) (fun K=>?_) ?_
   ·rcases ap (decide (y36=0)) with h38 | h38
    ·refine zU h38 rfl (ah (av:=.pt _ _) rfl)<|zU h38 rfl (am rfl)<|zU h38 rfl (ai (n:=2) (by kernel_rfl) rfl)<|zT h38 rfl (cG rfl rfl (al (i:=0) ao rfl rfl rfl rfl) ?_);refine zU h38 rfl (bh ao rfl)<|zU h38 rfl (eN rfl rfl)<|zM h38 rfl<|bk (l:=[19]) 49 (B ((decide (0 < (y31.length:Int)))||(decide (y33=0)))) (fun K=>?_) ?_
     ·rcases ap (decide (0 < (y31.length:Int))) with h39 | h39
      ·refine zF h39 rfl<|zF h39 rfl<|zF h39 rfl<|zF h39 rfl<|zF h39 rfl<|zU h38 rfl (aD (av:=.v _) rfl h39 rfl) ?_;exact K _ 5 _ (aw (ii h39)) rfl rfl
      ·refine zU h39 rfl (ah (av:=.pt _ _) rfl)<|zU h39 rfl (am rfl)<|zU h39 rfl (ai (n:=3) (by kernel_rfl) rfl)<|zT h39 rfl (cG rfl rfl (al (i:=0) au rfl rfl rfl rfl) ?_);refine zU h39 rfl (bI rfl rfl)<|zU h38 rfl (aF (av:=.v _) rfl h39 rfl) ?_;exact K _ 5 _ (aw (ie h39)) rfl rfl
     refine zS rfl (aD (av:=.v _) rfl h38 rfl) ?_;exact K _ 8 _ (aw (cd h38)) rfl rfl
    ·refine zF h38 rfl<|zF h38 rfl<|zF h38 rfl<|zF h38 rfl<|zF h38 rfl<|zF h38 rfl<|zF h38 rfl<|gU rfl rfl rfl rfl rfl<|gU rfl rfl rfl rfl rfl<|gU rfl rfl rfl rfl rfl<|gU rfl rfl rfl rfl rfl<|gU rfl rfl rfl rfl rfl<|zF h38 rfl<|zS rfl (aF (av:=.v _) rfl h38 rfl) ?_;exact K _ 13 _ (aw (cq h38)) rfl rfl
   refine ag<|ax rfl (fun c40=>?_) (fun c40=>?_)
   ·replace H:=be c40 H;refine aa ?_;show AR _ _ _ _ _ [0,1,2,3] _;refine zS rfl (ah (av:=.pt _ _) rfl)<|zS rfl (am rfl)<|zS rfl (ai (n:=5) (by kernel_rfl) rfl)<|s0 rfl rfl (aA (i:=0) (c:=.v _) (by kernel_rfl) rfl rfl rfl rfl (af rfl))<|ag ?_;exact Exists.intro 2 ⟨H,aP [0,0,0] (.cons (.refl _) (.nil _)) rfl⟩
   ·replace H:=bf c40 H;refine aC ?_;exact Exists.intro y36 ⟨H,aP [0,0,0] (.cons (.refl _) (.nil _)) rfl⟩
  rintro y41 H;replace H:fB y34 y41=some (r3,r4):=H
  unfold fB at H
  refine ac<|ac<|aa ?_;show AR _ _ _ _ _ [0,1,2,3,4] _;refine zS rfl (ah (av:=.pt _ _) rfl)<|zS rfl (am rfl)<|zS rfl (ai (n:=5) (by kernel_rfl) rfl)<|zR rfl (al (i:=0) bZ rfl rfl rfl rfl)<|zS rfl (dD rfl rfl)<|ag<|ax rfl (fun c43=>?_) (fun c43=>?_)
  ·replace H:=be c43 H;refine ac<|bn (by kernel_rfl) ?_;show AI _ _ _ _ _ 6 (Array.replicate 6 false) _;refine zk 0 rfl (ah (av:=.pt _ _) rfl) ?_;show zI 6 1;refine zk 1 rfl (am rfl) ?_;show zI 6 3;refine zk 2 rfl (ai (n:=5) (by kernel_rfl) rfl) ?_;show zI 6 7;refine zk 4 rfl (asg rfl) ?_;show zI 6 23;refine bj (i:=3) (by kernel_rfl) rfl rfl<|aJ rfl (al (i:=0) bZ rfl rfl rfl rfl) ?_;show zI 6 31;refine zk 5 rfl (asg rfl) ?_;show zI 6 63;refine bw rfl<|aQ ?_;obtain ⟨rfl,rfl⟩:=ek H;exact And.intro rfl (Exists.intro _ (Exists.intro _ ⟨bt rfl (.nil _) (.refl _),aK [] rfl,rfl,rfl⟩))
  ·replace H:=bf c43 H;refine aC<|ac<|aa ?_;show AR _ _ _ _ _ [0,1,2,3,4,5] _;refine zS rfl (ah (av:=.pt _ _) rfl)<|zS rfl (am rfl)<|zS rfl (ai (n:=4) (by kernel_rfl) rfl)<|zR rfl (al (i:=0) ay rfl rfl rfl rfl)<|zS rfl (aZ (av:=slE _ _ _) rfl)<|za rfl<|ag<|aQ ?_;obtain ⟨rfl,rfl⟩:=ek H;exact And.intro rfl (Exists.intro _ (Exists.intro _ ⟨bt rfl (.tok _ _ _) (.refl _),aK [] rfl,rfl,rfl⟩))
end Go.Proofs.YteokdkimegepoaaGreatDoor
namespace Go.Pv
def gl (F:Nat) (a1:List (Int×(List UInt8)×(List UInt8)×List ((List UInt8)×List UInt8))) (y83:List UInt8):Option ((List UInt8)×Int) :=
iE (gD F y83) fun x86 x87 =>
bnd (jO F x86 a1) fun x89 =>
bif (!decide (x87=0))||(!x89) then
  some ([],1)
else
  some (y83,0)
def dJ (y8:Int) (rec9:((List UInt8)×Int)→Option ((List UInt8)×Int)) (y79:List UInt8):Option ((List UInt8)×Int) :=
grd (okI (y8+1)) <|
rec9 (y79,y8+1)
def ij (y8:Int) (rec9:((List UInt8)×Int)→Option ((List UInt8)×Int)) (y55:List UInt8):Option ((List UInt8)×Int) :=
grd (cI (y55.length+([62]:List UInt8).length)) <|
lt (y55++([62]:List UInt8)) fun x60 =>
dJ y8 rec9 x60
def io (F:Nat) (y8:Int) (x13:Int×(List UInt8)×(List UInt8)×List ((List UInt8)×List UInt8)) (rec9:((List UInt8)×Int)→Option ((List UInt8)×Int)) (rec27:((List UInt8)×Int)→Option ((List UInt8)×Int)) (y24:List UInt8) (y26:Int):Option ((List UInt8)×Int) :=
bif decide (y26 < (x13.2.2.2.length:Int)) then
  grd (co y26 x13.2.2.2.length) <|
  lt (at_ x13.2.2.2 y26) fun x31 =>
  grd (cI (([32]:List UInt8).length+x31.1.length)) <|
  lt (([32]:List UInt8)++x31.1) fun x34 =>
  grd (cI (x34.length+([61,34]:List UInt8).length)) <|
  lt (x34++([61,34]:List UInt8)) fun x37 =>
  grd (co y26 x13.2.2.2.length) <|
  lt (at_ x13.2.2.2 y26) fun x40 =>
  bnd (iX F x40.2) fun x42 =>
  grd (cI (x37.length+x42.length)) <|
  lt (x37++x42) fun x45 =>
  grd (cI (x45.length+([34]:List UInt8).length)) <|
  lt (x45++([34]:List UInt8)) fun x48 =>
  grd (cI (y24.length+x48.length)) <|
  lt (y24++x48) fun x52 =>
  grd (okI (y26+1)) <|
  rec27 (x52,y26+1)
else
  ij y8 rec9 y24
def ik (F:Nat) (y8:Int) (x13:Int×(List UInt8)×(List UInt8)×List ((List UInt8)×List UInt8)) (rec9:((List UInt8)×Int)→Option ((List UInt8)×Int)) (n:Nat):((List UInt8)×Int)→Option ((List UInt8)×Int) :=
  loop (fun rec x=>io F y8 x13 rec9 rec x.1 x.2) n
def im (F:Nat) (a1:List (Int×(List UInt8)×(List UInt8)×List ((List UInt8)×List UInt8))) (rec9:((List UInt8)×Int)→Option ((List UInt8)×Int)) (y6:List UInt8) (y8:Int):Option ((List UInt8)×Int) :=
bif decide (y8 < (a1.length:Int)) then
  grd (co y8 a1.length) <|
  lt (at_ a1 y8) fun x13 =>
  bif decide (x13.1=0) then
    grd (cI (([60]:List UInt8).length+x13.2.1.length)) <|
    lt (([60]:List UInt8)++x13.2.1) fun x18 =>
    grd (cI (y6.length+x18.length)) <|
    lt (y6++x18) fun x22 =>
    ik F y8 x13 rec9 F (x22,0)
  else
    bif decide (x13.1=1) then
      grd (cI (([60,47]:List UInt8).length+x13.2.1.length)) <|
      lt (([60,47]:List UInt8)++x13.2.1) fun x64 =>
      grd (cI (x64.length+([62]:List UInt8).length)) <|
      lt (x64++([62]:List UInt8)) fun x67 =>
      grd (cI (y6.length+x67.length)) <|
      lt (y6++x67) fun x71 =>
      dJ y8 rec9 x71
    else
      bnd (iX F x13.2.2.1) fun x73 =>
      grd (cI (y6.length+x73.length)) <|
      lt (y6++x73) fun x77 =>
      dJ y8 rec9 x77
else
  gl F a1 y6
def cy (F:Nat) (a1:List (Int×(List UInt8)×(List UInt8)×List ((List UInt8)×List UInt8))) (n:Nat):((List UInt8)×Int)→Option ((List UInt8)×Int) :=
  loop (fun rec x=>im F a1 rec x.1 x.2) n
def mB (F:Nat) (a1:List (Int×(List UInt8)×(List UInt8)×List ((List UInt8)×List UInt8))):Option ((List UInt8)×Int) :=
cy F a1 F ([],0)
end Go.Pv
namespace Go.Proofs.YteokdkimegepoaaGreatDoor
open Go.RowKit Go.Av Go.Pv
theorem Bx:∀ (args:Array Value) (w:World),(callFunc 11 args).run Tryz.prog w=.ok (.enter 11 args) w:=fun _ _=>by kernel_rfl
theorem Br:∀ (args:Array Value) (w:World),(callFunc 12 args).run Tryz.prog w=.ok (.enter 12 args) w:=fun _ _=>by kernel_rfl
theorem vd:∀ (args:Array Value) (w:World),(callFunc 31 args).run Tryz.prog w=.ok (.enter 31 args) w:=fun _ _=>by kernel_rfl
set_option maxRecDepth 100000 in
set_option maxHeartbeats 1000000 in
theorem tQ (F:Nat) (a1:List (Int×(List UInt8)×(List UInt8)×List ((List UInt8)×List UInt8))) (q2:Option Nat) (r3:List UInt8) (r4:Int) (H:mB F a1=some (r3,r4)):ACalls Tryz.prog 16 [slE (Enc.prod Enc.int (Enc.prod Enc.str (Enc.prod Enc.str (Enc.sl (Enc.prod Enc.str Enc.str))))) a1 q2] [] (Ret (.tup [slE Enc.byte r3 none,i64 r4]) []):=by
 unfold mB at H
 refine az Tryz.func16 rfl rfl ?_;show AW _ _ 87 _ _ _;refine ac<|aa ?_;show AR _ _ _ _ _ [0,1] _;refine za rfl<|za rfl<|ag<|ac<|aa ?_;show AR _ _ _ _ _ [0] _;refine za rfl<|ag ?_
 refine lK 4 1 5 rfl fun t5=>?_
 show AW _ _ _ _ _ ⟨(4,slE Enc.byte [] (some t5))::_,_,_⟩;refine bq (X:=(List UInt8)×Nat) (fun (y83,t84)=>⟨[(0,slE (Enc.prod Enc.int (Enc.prod Enc.str (Enc.prod Enc.str (Enc.sl (Enc.prod Enc.str Enc.str))))) a1 q2),(4,slE Enc.byte y83 (some t84))],[],[.tok t84 5]⟩) (fun (y83,t84)=>gl F a1 y83=some (r3,r4)) ?_ ?_
 ·refine ac<|aa ?_;show AR _ _ _ _ _ [0] _;refine za rfl<|ag<|aR<|cl (X:=Nat×(List UInt8)×Nat×Int) (fun (n10,y6,t7,y8)=>⟨[(0,slE (Enc.prod Enc.int (Enc.prod Enc.str (Enc.prod Enc.str (Enc.sl (Enc.prod Enc.str Enc.str))))) a1 q2),(4,slE Enc.byte y6 (some t7)),(5,i64 y8)],[],[.tok t7 5]⟩) (fun (n10,y6,t7,y8)=>cy F a1 n10 (y6,y8)=some (r3,r4)) (fun (n10,y6,t7,y8)=>n10) (F,[],t5,0) H (aP [0] (.cons (.refl _) (.cons (.refl _) (.cons (.refl _) (.nil _)))) rfl) ?_;rintro ⟨n10,y6,t7,y8⟩ H;obtain ⟨n10,rfl,H⟩:=cO H;replace H:im F a1 (cy F a1 n10) y6 y8=some (r3,r4):=H
  unfold im at H
  refine ac<|ac<|aa ?_;show AR _ _ _ _ _ [0,1,2,3] _;refine zm rfl<|zS rfl (ah (av:=slE _ _ _) rfl)<|zS rfl (bh ay rfl)<|zS rfl (bN rfl rfl)<|ag<|ax rfl (fun c11=>?_) (fun c11=>?_)
  ·replace H:=be c11 H;refine aC<|bq (X:=(List UInt8)×Nat) (fun (y79,t80)=>⟨[(0,slE (Enc.prod Enc.int (Enc.prod Enc.str (Enc.prod Enc.str (Enc.sl (Enc.prod Enc.str Enc.str))))) a1 q2),(4,slE Enc.byte y79 (some t80)),(5,i64 y8)],[],[.tok t80 5]⟩) (fun (y79,t80)=>dJ y8 (cy F a1 n10) y79=some (r3,r4)) ?_ ?_
   ·refine aR<|ac ?_;obtain ⟨g12,H⟩:=aI H;obtain ⟨x13,e14,H⟩:=bz H;refine aa ?_;show AR _ _ _ _ _ [0,1,2,3,4,5] _;refine zS rfl (ah (av:=slE _ _ _) rfl)<|zm rfl<|zS rfl (bA (E:=(Enc.prod Enc.int (Enc.prod Enc.str (Enc.prod Enc.str (Enc.sl (Enc.prod Enc.str Enc.str)))))) ay (by kernel_rfl) rfl rfl g12 e14)<|zS rfl (cx cA rfl (n:=4) (by kernel_rfl) rfl (af rfl))<|zX rfl (dw (zs:=[.int .i64 0,.string ⟨#[]⟩,.string ⟨#[]⟩,.slice none 0 0]) (by kernel_rfl)) ?_;rintro _ _ ⟨o15,rfl,rfl⟩;refine s0 rfl rfl (cn (i:=0) (vs:=[i64 x13.1,S x13.2.1,S x13.2.2.1,slE (Enc.prod Enc.str Enc.str) x13.2.2.2 none]) (by kernel_rfl) rfl rfl (by simp [cE,slE]) rfl (af rfl))<|AR.freezeCp 6 0 rfl rfl ?_;show AR _ _ _ _ _ _ ⟨_,_,[.tok t7 5]⟩;refine ag<|ac<|aa ?_;show AR _ _ _ _ _ [0,1] _;refine zS rfl (aN (n:=0) (by kernel_rfl) rfl (af rfl))<|zS rfl (aG au rfl rfl)<|ag<|aR<|ac<|aa ?_;show AR _ _ _ _ _ [0,1] _;refine zS rfl (bI rfl rfl)<|za rfl<|ag<|ax rfl (fun c16=>?_) (fun c16=>?_)
    ·replace H:=be c16 H;refine ac ?_;obtain ⟨g17,H⟩:=aI H;obtain ⟨x18,e19,H⟩:=bz H;obtain ⟨g21,H⟩:=aI H;obtain ⟨x22,e23,H⟩:=bz H;refine aa ?_;show AR _ _ _ _ _ [0,1,2,3,4,5] _;refine zS rfl (ah (av:=slE _ _ _) rfl)<|zS rfl (aN (n:=1) (by kernel_rfl) rfl (af rfl))<|zS rfl (aG ab rfl rfl)<|zS rfl (mZ rfl rfl g17 e19)<|zX rfl (eK (bytes:=1) 0 ak ab rfl (by kernel_rfl) rfl rfl rfl rfl g21 e23) ?_;rintro _ _ ⟨t20,rfl,rfl⟩;refine zS rfl (aZ (av:=slE _ _ _) rfl)<|ag<|bq (X:=(List UInt8)×Nat) (fun (y55,t56)=>⟨[(0,slE (Enc.prod Enc.int (Enc.prod Enc.str (Enc.prod Enc.str (Enc.sl (Enc.prod Enc.str Enc.str))))) a1 q2),(4,slE Enc.byte y55 (some t56)),(5,i64 y8)],[],[.tok t56 5]⟩) (fun (y55,t56)=>ij y8 (cy F a1 n10) y55=some (r3,r4)) ?_ ?_
     ·refine ac<|aa ?_;show AR _ _ _ _ _ [0] _;refine za rfl<|ag<|aR<|cl (X:=Nat×(List UInt8)×Nat×Int) (fun (n28,y24,t25,y26)=>⟨[(0,slE (Enc.prod Enc.int (Enc.prod Enc.str (Enc.prod Enc.str (Enc.sl (Enc.prod Enc.str Enc.str))))) a1 q2),(4,slE Enc.byte y24 (some t25)),(5,i64 y8),(6,.cp [i64 x13.1,S x13.2.1,S x13.2.2.1,slE (Enc.prod Enc.str Enc.str) x13.2.2.2 none]),(7,i64 y26)],[],[.tok t25 5]⟩) (fun (n28,y24,t25,y26)=>ik F y8 x13 (cy F a1 n10) n28 (y24,y26)=some (r3,r4)) (fun (n28,y24,t25,y26)=>n28) (F,x22,t20,0) H (aP [0] (.cons (.refl _) (.cons (.refl _) (.cons (.refl _) (.cons (.refl _) (.cons (.refl _) (.nil _)))))) rfl) ?_;rintro ⟨n28,y24,t25,y26⟩ H;obtain ⟨n28,rfl,H⟩:=cO H;replace H:io F y8 x13 (cy F a1 n10) (ik F y8 x13 (cy F a1 n10) n28) y24 y26=some (r3,r4):=H
      unfold io at H
      refine ac<|ac<|aa ?_;show AR _ _ _ _ _ [0,1,2,3,4] _;refine zm rfl<|zS rfl (aN (n:=3) (by kernel_rfl) rfl (af rfl))<|zS rfl (aG aH rfl rfl)<|zS rfl (bh aH rfl)<|zS rfl (bN rfl rfl)<|ag<|ax rfl (fun c29=>?_) (fun c29=>?_)
      ·replace H:=be c29 H;refine aC<|ac<|aR ?_;obtain ⟨g30,H⟩:=aI H;obtain ⟨x31,e32,H⟩:=bz H;obtain ⟨g33,H⟩:=aI H;obtain ⟨x34,e35,H⟩:=bz H;obtain ⟨g36,H⟩:=aI H;obtain ⟨x37,e38,H⟩:=bz H;obtain ⟨g39,H⟩:=aI H;obtain ⟨x40,e41,H⟩:=bz H;obtain ⟨x42,e43,H⟩:=cm H;obtain ⟨g44,H⟩:=aI H;obtain ⟨x45,e46,H⟩:=bz H;obtain ⟨g47,H⟩:=aI H;obtain ⟨x48,e49,H⟩:=bz H;obtain ⟨g51,H⟩:=aI H;obtain ⟨x52,e53,H⟩:=bz H;refine bn (by kernel_rfl) ?_;show AI _ _ _ _ _ 20 (Array.replicate 20 false) _;refine zk 0 rfl (ah (av:=slE _ _ _) rfl) ?_;show zI 20 1;refine zk 1 rfl (aN (n:=3) (by kernel_rfl) rfl (af rfl)) ?_;show zI 20 3;refine zk 2 rfl (aG aH rfl rfl) ?_;show zI 20 7;refine zk 3 rfl (mv rfl) ?_;show zI 20 15;refine zk 4 rfl (bA (E:=(Enc.prod Enc.str Enc.str)) aH (by kernel_rfl) rfl rfl g30 e32) ?_;show zI 20 31;refine zk 5 rfl (aN (n:=0) (by kernel_rfl) rfl (af rfl)) ?_;show zI 20 63;refine zk 6 rfl (aG ab rfl rfl) ?_;show zI 20 127;refine zk 7 rfl (mZ rfl rfl g33 e35) ?_;show zI 20 255;refine zk 8 rfl (mZ rfl rfl g36 e38) ?_;show zI 20 511;refine zk 9 rfl (aN (n:=3) (by kernel_rfl) rfl (af rfl)) ?_;show zI 20 1023;refine zk 10 rfl (aG aH rfl rfl) ?_;show zI 20 2047;refine zk 11 rfl (mv rfl) ?_;show zI 20 4095
       refine zk 12 rfl (bA (E:=(Enc.prod Enc.str Enc.str)) aH (by kernel_rfl) rfl rfl g39 e41) ?_;show zI 20 8191;refine zk 13 rfl (aN (n:=1) (by kernel_rfl) rfl (af rfl)) ?_;show zI 20 16383;refine zk 14 rfl (aG ab rfl rfl) ?_;show zI 20 32767;refine bj (i:=15) (by kernel_rfl) rfl rfl<|dV rfl vd rfl (om F x40.2 x42 e43) ?_;show zI 20 65535;refine zk 16 rfl (mZ rfl rfl g44 e46) ?_;show zI 20 131071;refine zk 17 rfl (mZ rfl rfl g47 e49) ?_;show zI 20 262143;refine bj (i:=18) (by kernel_rfl) rfl rfl<|dC rfl (eK (bytes:=1) 0 ak ab rfl (by kernel_rfl) rfl rfl rfl rfl g51 e53) ?_;rintro _ _ ⟨t50,rfl,rfl⟩;show zI 20 524287;refine zk 19 rfl (aZ (av:=slE _ _ _) rfl) ?_;show zI 20 1048575;refine bw rfl ?_;obtain ⟨g54,H⟩:=aI H;refine aa ?_;show AR _ _ _ _ _ [0,1,2] _;refine zm rfl<|zS rfl (bB rfl rfl g54)<|za rfl<|ag ?_;exact Exists.intro (n28,x52,t50,y26+1) ⟨H,Nat.lt_succ_self _,aP [0] (.cons (.refl _) (.cons (.refl _) (.cons (.refl _) (.cons (.refl _) (.cons (.refl _) (.nil _)))))) rfl⟩
      ·replace H:=bf c29 H;refine bU ?_;exact Exists.intro (y24,t25) ⟨H,aP [0] (.cons (.refl _) (.cons (.refl _) (.cons (.refl _) (.nil _)))) rfl⟩
     rintro ⟨y55,t56⟩ H;replace H:ij y8 (cy F a1 n10) y55=some (r3,r4):=H
     unfold ij at H
     obtain ⟨g59,H⟩:=aI H;obtain ⟨x60,e61,H⟩:=bz H;refine aa ?_;show AR _ _ _ _ _ [0,1,2,3] _;refine zS rfl (ah (av:=slE _ _ _) rfl)<|zR rfl (ce (E:=Enc.byte) (bytes:=1) (xs:=[.const _]) (l:=([62]:List UInt8)) ak (by kernel_rfl) rfl rfl (by decide) rfl rfl)<|zX rfl (cM (E:=Enc.byte) (bytes:=1) 0 ak ak rfl (by kernel_rfl) rfl rfl rfl rfl g59 e61) ?_;rintro _ _ ⟨t58,rfl,rfl⟩;refine zS rfl (aZ (av:=slE _ _ _) rfl)<|ag ?_;exact Exists.intro (x60,t58) ⟨H,aP [0] (.cons (.refl _) (.cons (.refl _) (.cons (.refl _) (.nil _)))) rfl⟩
    ·replace H:=bf c16 H;refine ac<|aa ?_;show AR _ _ _ _ _ [0,1] _;refine zS rfl (bI rfl rfl)<|za rfl<|ag<|ax rfl (fun c62=>?_) (fun c62=>?_)
     ·replace H:=be c62 H;obtain ⟨g63,H⟩:=aI H;obtain ⟨x64,e65,H⟩:=bz H;obtain ⟨g66,H⟩:=aI H;obtain ⟨x67,e68,H⟩:=bz H;obtain ⟨g70,H⟩:=aI H;obtain ⟨x71,e72,H⟩:=bz H;refine aa ?_;show AR _ _ _ _ _ [0,1,2,3,4,5,6] _;refine zS rfl (ah (av:=slE _ _ _) rfl)<|zS rfl (aN (n:=1) (by kernel_rfl) rfl (af rfl))<|zS rfl (aG ab rfl rfl)<|zS rfl (mZ rfl rfl g63 e65)<|zS rfl (mZ rfl rfl g66 e68)<|zX rfl (eK (bytes:=1) 0 ak ab rfl (by kernel_rfl) rfl rfl rfl rfl g70 e72) ?_;rintro _ _ ⟨t69,rfl,rfl⟩;refine zS rfl (aZ (av:=slE _ _ _) rfl)<|ag ?_;exact Exists.intro (x71,t69) ⟨H,aP [0] (.cons (.refl _) (.cons (.refl _) (.cons (.refl _) (.nil _)))) rfl⟩
     ·replace H:=bf c62 H;obtain ⟨x73,e74,H⟩:=cm H;obtain ⟨g76,H⟩:=aI H;obtain ⟨x77,e78,H⟩:=bz H;refine aa ?_;show AR _ _ _ _ _ [0,1,2,3,4,5] _;refine zS rfl (ah (av:=slE _ _ _) rfl)<|zS rfl (aN (n:=2) (by kernel_rfl) rfl (af rfl))<|zS rfl (aG ab rfl rfl)<|ar rfl rfl (aX rfl vd rfl (om F x13.2.2.1 x73 e74) ?_);refine zX rfl (eK (bytes:=1) 0 ak ab rfl (by kernel_rfl) rfl rfl rfl rfl g76 e78) ?_;rintro _ _ ⟨t75,rfl,rfl⟩;refine zS rfl (aZ (av:=slE _ _ _) rfl)<|ag ?_;exact Exists.intro (x77,t75) ⟨H,aP [0] (.cons (.refl _) (.cons (.refl _) (.cons (.refl _) (.nil _)))) rfl⟩
   rintro ⟨y79,t80⟩ H;replace H:dJ y8 (cy F a1 n10) y79=some (r3,r4):=H
   unfold dJ at H
   obtain ⟨g82,H⟩:=aI H;refine aa ?_;show AR _ _ _ _ _ [0,1,2] _;refine zm rfl<|zS rfl (bB rfl rfl g82)<|za rfl<|ag ?_;exact Exists.intro (n10,y79,t80,y8+1) ⟨H,Nat.lt_succ_self _,aP [0] (.cons (.refl _) (.cons (.refl _) (.cons (.refl _) (.nil _)))) rfl⟩
  ·replace H:=bf c11 H;refine bU ?_;exact Exists.intro (y6,t7) ⟨H,aP [0] (.cons (.refl _) (.cons (.refl _) (.nil _))) rfl⟩
 rintro ⟨y83,t84⟩ H;replace H:gl F a1 y83=some (r3,r4):=H
 unfold gl at H
 refine ac ?_;obtain ⟨x86,x87,e88,H⟩:=dd H;refine aa ?_;show AR _ _ _ _ _ [0,1,2,3,4,5,6] _;refine zS rfl (ah (av:=slE _ _ _) rfl)<|ar rfl rfl (aX rfl Bx rfl (sA F y83 (some t84) x86 x87 e88) ?_);refine zS rfl (ah (av:=.tup _) rfl)<|zS rfl (ba (av:=slE _ _ _) rfl rfl)<|zS rfl (ba (av:=.v _) rfl rfl)<|zS rfl (aZ (av:=slE _ _ _) rfl)<|za rfl<|ag<|ac ?_;obtain ⟨x89,e90,H⟩:=cm H;refine aa ?_;show AR _ _ _ _ _ [0,1,2,3] _;refine zS rfl (ah (av:=slE _ _ _) rfl)<|zS rfl (ah (av:=slE _ _ _) rfl)<|ar rfl rfl (aX rfl Br rfl (nv F x86 none a1 q2 x89 e90) ?_);refine za rfl<|ag<|ac<|ac<|aa ?_;show AR _ _ _ _ _ [0,1,2,3,4,5] _;refine zm rfl<|zS rfl (dD rfl rfl)<|zm rfl<|bk (l:=[]) 85 (B ((!decide (x87=0))||(!x89))) (fun K=>?_) ?_
 ·rcases ap (!decide (x87=0)) with h91 | h91
  ·refine zF h91 rfl<|zF h91 rfl<|zS rfl (aD (av:=.v _) rfl h91 rfl) ?_;exact K _ 2 _ (aw (ii h91)) rfl rfl
  ·refine zM h91 rfl<|zU h91 rfl (ca rfl)<|zS rfl (aF (av:=.v _) rfl h91 rfl) ?_;exact K _ 2 _ (aw (ie h91)) rfl rfl
 refine ag<|ax rfl (fun c92=>?_) (fun c92=>?_)
 ·replace H:=be c92 H;refine ac<|aa ?_;show AR _ _ _ _ _ [0,1] _;refine za rfl<|za rfl<|ag<|aQ ?_;obtain ⟨rfl,rfl⟩:=ek H;exact And.intro rfl (Exists.intro _ (Exists.intro _ ⟨bt rfl (.nil _) (.refl _),aK [] rfl,rfl,rfl⟩))
 ·replace H:=bf c92 H;refine aC<|ac<|aa ?_;show AR _ _ _ _ _ [0,1,2] _;refine zS rfl (ah (av:=slE _ _ _) rfl)<|zS rfl (aZ (av:=slE _ _ _) rfl)<|za rfl<|ag<|aQ ?_;obtain ⟨rfl,rfl⟩:=ek H;exact And.intro rfl (Exists.intro _ (Exists.intro _ ⟨bt rfl (.tok _ _ _) (.refl _),aK [] rfl,rfl,rfl⟩))
end Go.Proofs.YteokdkimegepoaaGreatDoor
namespace Go.Av
open Go.RowKit
section
variable {P:Program} {A:List Chunk} {e:Env} {x y z:Operand} {d:Option Nat} {pos:String} {after:Array Edge} {g:Option (Nat×Bool)} {f:FuncId} {fn:Func} {ts:Array TypeId} {T2:TypeId}
structure Ext0 (P:Program) (f:FuncId) (fn:Func) (ext:Array Value→Sem Value):Prop where
  hf:P.funcs[f]?=some fn
  nm:(fn.name == "runtime.NumGoroutine")=false
  nb:fn.body.isNone=true
  nn:Extern.findNext fn=none
  he:Extern.find fn=some ext
theorem lQ {I:Info} {w w':World} {ρ:Operand→Value} {args:Array Operand} {r:Next} (hρ:∀ x,Rel I w (opv e x) (ρ x)) (h:(callFunc f (args.map ρ)).run P w=.ok r w') :
    (execOp ρ ⟨d,.call ⟨.value (.func f),args,ts⟩,T2,pos,after,g⟩).run P w=.ok r w':=by
  have h0:=cf (hρ (.func f))
  simp only [execOp,resolve,h0,Deferred.ofValue,Sem.run_bind,Sem.run_pure,Result.andThen_ok,invoke]
  simp only [Array.empty_append,Array.append_empty]
  exact h
theorem qD {I:Info} {w:World} {F:List Chunk} {o off i b:Nat} {cs:List AV} {k:IntKind} {n:Int} (hI:Inv I (A++F) w) (hA:A[i]?=some (.obj o cs)) (hc:cs[off]?=some (.v (.int k n))) (ho:I.obj o=some b) :
    w.cell? ⟨b,off,none⟩=some (.int k n)∧w.frozen? ⟨b,off,none⟩=false:=by
  obtain ⟨b',arr,ho',he,hca,hrl⟩:=hI.holds _ (jV hA F)
  rw [ho] at ho'; cases ho'
  have hlt:off < cs.length:=(List.getElem?_eq_some_iff.1 hc).1
  have hlt':off < arr.length:=by rw [hrl.1]; exact hlt
  have h0:w.cell? ⟨b,off,none⟩=some (arr.getD off undef):=by rw [hca.cell]; simp [List.getD,hlt']
  have hr:=hrl.2 off hlt
  rw [(List.getElem?_eq_some_iff.1 hc).2] at hr
  rw [cf hr] at h0
  exact ⟨h0,hca.free hlt'⟩
theorem vH {o off i:Nat} {cs:List AV} {k:IntKind} {n:Int} (h:Ext0 P f fn (Extern.Atomic.loadT (.int k))) (hx:opv e x=.pt o off) (hA:A[i]?=some (.obj o cs)) (hc:cs[off]?=some (.v (.int k n))) :
    OpR P ⟨d,.call ⟨.value (.func f),#[x],ts⟩,T2,pos,after,g⟩ e A (.v (.int k n)) A:=fun F I w ρ hI hρ=>by
  have hp:=hx ▸ hρ x
  generalize e1:ρ x=v at hp
  cases hp with
  | pt o off b ho =>
    obtain ⟨h1,_⟩:=qD hI hA hc ho;refine ⟨_,_,w,I,lQ hρ ?_,.inl rfl,cj _ _,hI,.v _⟩
    rw [show (#[x].map ρ) = #[ρ x] by simp,e1]
    exact run_call_load h.hf h.nm h.nb h.nn k h.he h1
theorem ud {o off i:Nat} {cs:List AV} {k k':IntKind} {n m:Int} (h:Ext0 P f fn Extern.Atomic.storeT) (hx:opv e x=.pt o off) (hy:opv e y=.v (.int k' m)) (hA:A[i]?=some (.obj o cs)) (hc:cs[off]?=some (.v (.int k n))) :
    OpR P ⟨d,.call ⟨.value (.func f),#[x,y],ts⟩,T2,pos,after,g⟩ e A (.tup []) (A.set i (.obj o (cs.set off (.v (.int k' m))))):=fun F I w ρ hI hρ=>by
  have hp:=hx ▸ hρ x
  have hv:=cf (hy ▸ hρ y)
  generalize e1:ρ x=v at hp
  cases hp with
  | pt o off b ho =>
    obtain ⟨h1,h2⟩:=qD hI hA hc ho
    have hI2:=hI.take_at hA
    obtain ⟨E,hI3⟩:=hI2.set_obj ho off (Rel.v (I:=I) (w:=w) (.int k' m));refine ⟨_,.tuple #[],_,I,lQ hρ ?_,.inl rfl,E,eG hA hI3,.tup [] [] rfl (fun j h=>absurd h (Nat.not_lt_zero _))⟩
    rw [show (#[x,y].map ρ) = #[ρ x,ρ y] by simp,e1,hv]
    exact run_call_store h.hf h.nm h.nb h.nn h.he h1 h2
theorem wL {o off i:Nat} {cs:List AV} {k:IntKind} {n m:Int} (h:Ext0 P f fn (Extern.Atomic.casT (.int k))) (hx:opv e x=.pt o off) (hy:opv e y=.v (.int k n)) (hz:opv e z=.v (.int k m)) (hA:A[i]?=some (.obj o cs)) (hc:cs[off]?=some (.v (.int k n))) :
    OpR P ⟨d,.call ⟨.value (.func f),#[x,y,z],ts⟩,T2,pos,after,g⟩ e A (B true) (A.set i (.obj o (cs.set off (.v (.int k m))))):=fun F I w ρ hI hρ=>by
  have hp:=hx ▸ hρ x
  have hv:=cf (hy ▸ hρ y)
  have hu:=cf (hz ▸ hρ z)
  generalize e1:ρ x=v at hp
  cases hp with
  | pt o off b ho =>
    obtain ⟨h1,h2⟩:=qD hI hA hc ho
    have hI2:=hI.take_at hA
    obtain ⟨E,hI3⟩:=hI2.set_obj ho off (Rel.v (I:=I) (w:=w) (.int k m));refine ⟨_,.bool true,_,I,lQ hρ ?_,.inl rfl,E,eG hA hI3,.v _⟩
    rw [show (#[x,y,z].map ρ) = #[ρ x,ρ y,ρ z] by simp,e1,hv,hu]
    exact run_call_cas_hit h.hf h.nm h.nb h.nn k h.he h1 h2
theorem wM {o off i:Nat} {cs:List AV} {k:IntKind} {n m s:Int} (h:Ext0 P f fn (Extern.Atomic.update (Op.intArith .add) k true)) (hx:opv e x=.pt o off) (hy:opv e y=.v (.int k m)) (hA:A[i]?=some (.obj o cs)) (hc:cs[off]?=some (.v (.int k n)))
    (hs:k.wrap (n+m)=s) :
    OpR P ⟨d,.call ⟨.value (.func f),#[x,y],ts⟩,T2,pos,after,g⟩ e A (.v (.int k s)) (A.set i (.obj o (cs.set off (.v (.int k s))))):=fun F I w ρ hI hρ=>by
  have hp:=hx ▸ hρ x
  have hv:=cf (hy ▸ hρ y)
  generalize e1:ρ x=v at hp
  cases hp with
  | pt o off b ho =>
    obtain ⟨h1,h2⟩:=qD hI hA hc ho
    have hI2:=hI.take_at hA
    obtain ⟨E,hI3⟩:=hI2.set_obj ho off (Rel.v (I:=I) (w:=w) (.int k s));refine ⟨_,_,_,I,lQ hρ ?_,.inl rfl,E,eG hA hI3,.v _⟩
    rw [show (#[x,y].map ρ) = #[ρ x,ρ y] by simp,e1,hv]
    exact run_call_add h.hf h.nm h.nb h.nn k h.he h1 h2 (by subst hs; rfl)
theorem oW (m:Mark) (h:Ext0 P f fn (fun _=>do mark m; pure Extern.Race.none_)):OpR P ⟨d,.call ⟨.value (.func f),#[],ts⟩,T2,pos,after,g⟩ e A (.tup []) A:=fun F I w ρ hI hρ =>
  ⟨_,.tuple #[],w,I,lQ hρ (by rw [show (#[].map ρ) = #[] by simp]; exact run_call_mark0 h.hf h.nm h.nb h.nn m h.he w),.inl rfl,cj _ _,hI,.tup [] [] rfl (fun j h=>absurd h (Nat.not_lt_zero _))⟩
theorem uC {o off:Nat} (m:Addr→Mark) (h:Ext0 P f fn (Extern.Race.marked m)) (hx:opv e x=.pt o off):OpR P ⟨d,.call ⟨.value (.func f),#[x],ts⟩,T2,pos,after,g⟩ e A (.tup []) A:=fun F I w ρ hI hρ=>by
  have hp:=hx ▸ hρ x
  generalize e1:ρ x=v at hp
  cases hp with
  | pt o off b ho =>
    refine ⟨_,.tuple #[],w,I,lQ hρ ?_,.inl rfl,cj _ _,hI,.tup [] [] rfl (fun j h=>absurd h (Nat.not_lt_zero _))⟩
    rw [show (#[x].map ρ) = #[ρ x] by simp,e1]
    exact run_call_marked h.hf h.nm h.nb h.nn m h.he _ w
theorem qe {S T t:TypeId} {o off i:Nat} {cs:List AV} {k:IntKind} {n:Int} (hs:P.underlying S=some (.pointer t)) (hd:P.underlying T=some .unsafePointer) (hsz:(P.info? t).map (fun i=>decide (i.size=0))=some false)
    (hx:opv e x=.pt o off) (hA:A[i]?=some (.obj o cs)) (hc:cs[off]?=some (.v (.int k n))):OpR P ⟨d,.convert S T x,T2,pos,after,g⟩ e A (.pt o off) A:=fun F I w ρ hI hρ=>by
  have hp:=hx ▸ hρ x
  generalize e1:ρ x=v at hp
  cases hp with
  | pt o off b ho =>
    obtain ⟨h1,_⟩:=qD hI hA hc ho;refine ⟨.value (.pointer (some ⟨b,off,none⟩)),_,w,I,?_,.inl rfl,cj _ _,hI,.pt o off b ho⟩
    simp only [execOp,e1,Sem.run_bind,run_convert_to_unsafe hs hd hsz h1,Result.andThen_ok,Sem.run_pure]
end
end Go.Av
namespace Go.Av
open Go.RowKit Go.Pv
section
variable {P:Program} {A:List Chunk} {e:Env} {x y z:Operand} {d:Option Nat} {pos:String} {after:Array Edge} {g:Option (Nat×Bool)} {T T' T2:TypeId} {av av':AV} {o:Oper}
theorem tx (h:OpS P o e av) (hw:∀ I w v,Rel I w av v→Rel I w av' v):OpS P o e av':=fun I w ρ hρ=>let ⟨v,hv,k⟩:=h I w ρ hρ; ⟨v,hw I w v hv,k⟩
theorem OpX.still {α:Type} {E:Enc α} {l:List α} {El:TypeId} (h:OpX P o e A (fun av A'=>∃ t,av=slE E l (some t)∧A'=.tok t El::A)):OpR P o e A (slE E l none) A:=fun F I w ρ hI hρ=>by
  obtain ⟨n,v,w',I',av,A',a,b,c,hI',hr,t,rfl,rfl⟩:=h F I w ρ hI hρ;exact ⟨n,v,w',I',a,b,c,hI'.sub (List.sublist_cons_self ..),(Wv.tok _ _ _).rel hr⟩
def ob:Option (List UInt8)→AV
  | none=>aj
  | some l=>slE Enc.byte l none
def Enc.ob:Enc (Option (List UInt8)):=⟨1,fun z=>[Go.Av.ob z],by decide,fun _=>rfl,fun z c h=>by simp at h; subst h; cases z <;> rfl⟩
theorem ob_sl (z:Option (List UInt8)) (I:Info) (w:World) (v:Value) (h:Rel I w (ob z) v):Rel I w (slE Enc.byte (z.getD []) none) v:=by
  cases z with
  | some l=>exact h
  | none =>
    have:=cf h
    subst this;exact .slz _ _ _
theorem td {op:BinOp} {a b:Option Addr} {l c m n:Nat} (w:World):(eqGuard op T x y (.slice a l c) (.slice b m n)).run P w=.ok () w:=by
  unfold eqGuard
  cases op <;> rfl
theorem qh {El:TypeId} {a:Option Addr} {l c:Nat} (hT:P.underlying T=some (.slice El)) (w:World):(Op.equal T (.slice a l c) (.slice none 0 0)).run P w=.ok a.isNone w:=by
  unfold Op.equal
  rw [show Op.maxDepth=9999+1 from rfl,Op.equalIn]
  simp only [Sem.run_bind,run_underlying hT,Result.andThen_ok]
  cases a <;> rfl
theorem pK {op:BinOp} {El:TypeId} {z:Option (List UInt8)} (hop:op=.eql∨op=.neq) (hT:P.underlying T=some (.slice El)) (hx:opv e x=ob z) (hy:opv e y=aj) (hz:decide (z≠some [])=true) :
    OpS P ⟨d,.binOp op T x y T',T2,pos,after,g⟩ e (B (if op=.eql then z.isNone else !z.isNone)):=fun I w ρ hρ=>by
  have h1:=hx ▸ hρ x
  have h2:=cf (hy ▸ hρ y)
  have key:∃ a l c,ρ x=.slice a l c∧a.isNone=z.isNone:=by
    cases z with
    | none=>exact ⟨none,0,0,cf h1,rfl⟩
    | some l =>
      obtain ⟨a,cap,xs,e1,_,_,hor⟩:=mO h1;refine ⟨a,_,cap,e1,?_⟩
      rcases hor with h0 | ⟨b,off,e2,_⟩
      · have:l=[]:=List.eq_nil_of_length_eq_zero h0
        subst this
        simp at hz
      · rw [e2]; rfl
  obtain ⟨a,l,c,e1,ha⟩:=key;refine ⟨.bool (if op=.eql then z.isNone else !z.isNone),.v _,fun w' _ _=>?_⟩
  rcases hop with rfl | rfl
  · simp only [execOp,e1,h2,Sem.run_bind,td,Result.andThen_ok,binOp,qh hT,Sem.run_pure,ha,if_true]
  · simp only [execOp,e1,h2,Sem.run_bind,td,Result.andThen_ok,binOp,qh hT,Sem.run_pure,ha]
    rfl
theorem mC {op:BinOp} {El:TypeId} (hop:op=.eql∨op=.neq) (hT:P.underlying T=some (.slice El)) (hx:opv e x=aj) (hy:opv e y=aj) :
    OpS P ⟨d,.binOp op T x y T',T2,pos,after,g⟩ e (B (if op=.eql then true else false)):=by
  have:=pK (P:=P) (d:=d) (pos:=pos) (after:=after) (g:=g) (T':=T') (T2:=T2) (z:=none) hop hT (hx.trans rfl) hy (by decide)
  rcases hop with rfl | rfl <;> exact this
theorem wR {o len cap:Nat} {q:IntKind} {n:Int} {El:TypeId} (hT:P.underlying T=some (.slice El)) (hsz:bO P El=some 1) (hx:opv e x=.vw o 0 len cap) (hy:opv e y=.v (.int q n)) (hg:decide (0≤n∧n < len)=true) (hc:len≤cap) :
    OpS P ⟨d,.slice T x (some y) none none,T2,pos,after,g⟩ e (.vw o n.toNat (len - n.toNat) (cap - n.toNat)):=by
  obtain ⟨h1,h2⟩:=of_decide_eq_true hg
  have:=pT (P:=P) (d:=d) (pos:=pos) (after:=after) (g:=g) (T2:=T2) (k:=1) (lo:=n.toNat) hT hsz hx hy (Int.toNat_of_nonneg h1).symm (by omega) (by omega) (by omega)
  rw [Nat.zero_add,Nat.mul_one] at this
  exact this
theorem yo {l m r:List UInt8} {o n lo len cap k:Nat} {El T3:TypeId} (hT:P.underlying T=some (.slice El)) (hsz:bO P El=some 1) (hx:opv e x=.vw o lo len cap) (hy:opv e y=slE Enc.byte m none)
    (hA:A[k]?=some (.obj o (Enc.byte.fl l++List.replicate n .any))) (hg:decide (m.length≤len)=true) (hg2:decide (lo+m.length≤l.length)=true) (hr:l.take lo++m++l.drop (lo+m.length)=r) :
    OpR P ⟨d,.call ⟨.builtin .copy,#[x,y],#[T,T2]⟩,T3,pos,after,g⟩ e A (i64 m.length) (A.set k (.obj o (Enc.byte.fl r++List.replicate n .any))):=by
  have h1:=of_decide_eq_true hg
  have h2:=of_decide_eq_true hg2
  have hl:(Enc.byte.fl l).length=l.length:=by rw [Enc.fl_length]; exact Nat.mul_one _
  have hm:(Enc.byte.fl m).length=m.length:=by rw [Enc.fl_length]; exact Nat.mul_one _
  have:=iI (P:=P) (d:=d) (pos:=pos) (after:=after) (g:=g) (T2:=T2) (T3:=T3) (A:=A) hT (E:=Enc.byte) hsz hx hy hA h1 (by rw [List.length_append,hl]; show lo+m.length*1≤_; omega)
  have e1:kj (Enc.byte.fl l++List.replicate n .any) lo (Enc.byte.fl m)=Enc.byte.fl r++List.replicate n .any:=by
    have f1:∀ q:List UInt8,Enc.byte.fl q=q.map u8:=fun q=>by
      induction q with
      | nil=>rfl
      | cons a q ih=>rw [eu,ih]; rfl
    subst hr
    unfold kj
    simp only [f1,List.map_append,List.map_take,List.map_drop,List.length_map]
    rw [List.take_append_of_le_length (by simp; omega),List.drop_append_of_le_length (by simp; omega)]
    simp
  rw [e1] at this
  exact this
end
theorem AO.invoke {P:Program} {N:Nat} {Q:gt} {ro:Option Nat} {ops:Array Oper} {rest:List Nat} {d:Nat} {x:Operand} {nm:String} {f:FuncId} {t:TypeId} {args:Array Operand} {argTypes:Array TypeId} {T:TypeId} {pos:String} {after:Array Edge} {g:Option (Nat×Bool)} {e:Env} {ds:List ADef} {A A1:List Chunk} (B:List Chunk)
    {R:AE→List Chunk→Prop} {rv:AV} {avs:List AV} (hd:Nat.blt d N=true) (hx:opv e x=.ifc t rv) (hm:∀ v w,(method (P.types.size+Made.depth) t v nm).run P w=.ok (f,v) w) (hf:∀ args w,(callFunc f args).run P w=.ok (.enter f args) w) (ha:args.toList.map (opv e)=avs)
    (h:ACalls P f (rv::avs) A1 R) (p:A.Perm (A1++B)) (k:∀ av A',R (.ret av) A'→AR P ro N ops Q rest ⟨(d,av)::e,ds,A'++B⟩)
    (kp:∀ c A',R (.pan c) A'→Q (.panic c) ⟨e,ds,A'++B⟩) :
    AO P ro N ops Q rest ⟨some d,.call ⟨.invoke x nm,args,argTypes⟩,T,pos,after,g⟩ ⟨e,ds,A⟩:=fun F I w a hI hS=>by
  have hS':=hS
  have hrl:RelL I w avs (args.toList.map a.eval):=by
    rw [← ha]; exact gf _ _ _ fun x _=>hS'.op x
  have hxr:=hx ▸ hS'.op x
  generalize e1:a.eval x=u at hxr
  cases hxr with
  | ifc _ _ y hy =>
  refine ⟨fun _ _=>dQ _,?_⟩
  have hex:(Oper.semAt (dX ro).round a.eval ⟨some d,.call ⟨.invoke x nm,args,argTypes⟩,T,pos,after,g⟩).run P w=.ok (.enter f (#[y]++args.map a.eval)) w:=by
    rw [Oper.semAt_eq _ _ _ (fun c h=>by cases h)]
    simp only [execOp,resolve,Sem.run_bind,Sem.run_pure,Result.andThen_ok,Go.invoke]
    have e0:(#[a.eval x]++args.map a.eval)[0]?=some (.iface t y):=by rw [e1,Array.getElem?_append]; rfl
    have e2:(#[a.eval x]++args.map a.eval).extract 1 (#[a.eval x]++args.map a.eval).size=args.map a.eval:=by
      apply Array.ext'
      simp
      exact List.take_of_length_le (by simp)
    have e3:Sem.run P program w=.ok P w:=rfl
    simp only [e0,e2,callMethod,Sem.run_bind,e3,hm,Result.andThen_ok]
    exact hf _ _
  rw [hex]
  refine ⟨qA,AO.call.callsIn_wide'.2 ?_⟩
  have hI2:Inv I (A1++(B++F)) w:=by rw [← List.append_assoc]; exact hI.perm (p.append_right F)
  have hc:=h (B++F) I w _ hI2 (fp hy hrl)
  have he:(y::args.toList.map a.eval).toArray = #[y]++args.map a.eval:=by apply Array.ext'; simp
  rw [he] at hc
  refine hc.mono fun en w' ⟨I',ae,A',E,hI',hre,hR⟩=>?_
  have hI3:Inv I' ((A'++B)++F) w':=by rw [List.append_assoc]; exact hI'
  cases en with
  | returned v =>
    cases ae with
    | ret av =>
      have hk:=k av A' hR F I' w' (a.put (some d) v) hI3 ((hS.mono E).put (af hd) hre _)
      exact cZ rest (fun _ _ _=>eL E fun _ _ h=>h) _ _ hk
    | pan c=>exact hre.elim
  | panicked c =>
    cases ae with
    | ret av=>exact hre.elim
    | pan c' =>
      cases hre
      exact ⟨I',⟨e,ds,A'++B⟩,E,hI3,⟨hS.size,(hS.mono E).env,(hS.mono E).ds⟩,kp _ A' hR⟩
  | outgrown=>cases ae <;> exact hre.elim
theorem AO.deferFn {P:Program} {N:Nat} {Q:gt} {ops:Array Oper} {rest:List Nat} {x:Operand} {f:Fn} {args:Array Operand} {argTypes:Array TypeId} {T:TypeId} {pos:String} {after:Array Edge} {g:Option (Nat×Bool)} {e:Env} {ds:List ADef} {A:List Chunk}
    (hx:opv e x=.v (.func f #[] #[])) (k:AR P none N ops Q rest ⟨e,.call f [] (args.toList.map (opv e))::ds,A⟩) :
    AO P none N ops Q rest ⟨none,.defer ⟨.value x,args,argTypes⟩,T,pos,after,g⟩ ⟨e,ds,A⟩:=fun F I w a hI hS=>by
  have hS':=hS
  have hv:=cf (hx ▸ hS'.op x)
  refine ⟨fun _ _=>dQ _,?_⟩
  have hex:(Oper.semAt (dX none).round a.eval ⟨none,.defer ⟨.value x,args,argTypes⟩,T,pos,after,g⟩).run P w=.ok (.defer { target:=.fn f #[],args:=(args.toList.map a.eval).toArray }) w:=by
    rw [show (dX none).round=none from rfl,Oper.semAt_none]
    simp only [execOp,Sem.run_bind,ox hv,Result.andThen_ok,Sem.run_pure]
    congr 2
    congr 1
    apply Array.ext'; simp
  rw [hex]
  exact k F I w _ hI ⟨hS.size,hS.env,.cons (.call f [] _ [] _ ge (gf _ _ _ fun x _=>hS'.op x)) hS.ds⟩
end Go.Av
