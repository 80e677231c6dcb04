/-
  Texts in one (only what XmlWrites needs): XmU, XmV, XmX, LXmlTokensP, XmTo, XmWs, AvOpen.
-/
import Derived.Test.YteokdkimegepoaaGreatDoorZXmlWrites5
import Derived.RowKit
import Derived.OpenShut
import Derived.ChangeSlices
import Derived.SliceStrings
set_option linter.unusedVariables false
set_option linter.unusedSimpArgs false
set_option linter.unusedSectionVars false
namespace Go.Xm
open Go.Pv Go.Av
def fl (e c:Int):Int:=if e=0 then c else e
theorem sn (c:Int):fl 0 c=c:=by unfold fl; rw [if_pos rfl]
theorem fl_n {e:Int} (h:e≠0) (c:Int):fl e c=e:=by unfold fl; rw [if_neg h]
theorem eW {F:Nat} {S:Bs} {i:Int} {o:List Bs} {k:Int} {l:List Tok} {e c:Int}:cK F S i o k l e c=some (fl e c):=by
  unfold cK fl
  by_cases h:e=0
  · rw [bT h,if_pos h]
  · rw [bF h,if_neg h]
theorem xq (p t:Bs):p.isPrefixOf t=(decide (p.length≤t.length)&&decide (t.take p.length=p)):=by
  rw [Bool.eq_iff_iff,List.isPrefixOf_iff_prefix,List.prefix_iff_eq_take,Bool.and_eq_true,decide_eq_true_eq,decide_eq_true_eq]
  constructor
  · intro h
    refine ⟨?_,h.symm⟩
    have:=congrArg List.length h
    rw [List.length_take] at this
    omega
  · intro h; exact h.2.symm
theorem rM (S:Bs) (i m:Nat):sub S (i:Int) ((i:Int)+(m:Int))=(S.drop i).take m:=by
  rw [← Int.natCast_add,qz,List.drop_take]
  congr 1; omega
theorem gcI {α:Type} {k:Option α} {c:Bool} {n:Int} (h : -9223372036854775808≤n∧n≤9223372036854775807):fq c (okI n) k=k:=by
  cases c
  · exact gp
  · rw [kC,bD h]
section
variable {F:Nat} {S:Bs} (hS:S.length≤100000) {o:List Bs} {k:Int} {l:List Tok}
include hS
theorem eD {i:Nat} {e:Int} {p:Bs} (hi:i≤S.length) (hp:p.length≤100):cC F S (i:Int) o k l e p=some (p.isPrefixOf (S.drop i)):=by
  unfold cC
  rw [bD (by omega),gcI (by omega),xq,List.length_drop,rM]
  by_cases h:p.length≤S.length - i
  · rw [decide_eq_true (p:=(p.length:Int)≤(S.length:Int) - (i:Int)) (by omega),decide_eq_true h,kC,jX (by omega),bm]
  · rw [decide_eq_false (p:=(p.length:Int)≤(S.length:Int) - (i:Int)) (by omega),decide_eq_false h,gp,bm]
theorem qP {e:Int} {p:Bs} (hp:p.length≤100) (hp0:p≠[]) (i:Nat):∀ (n j:Nat),S.length - j < n→i≤j→j≤S.length →
    ir F S (i:Int) o k l e p n (j:Int)=some (match kh p (S.drop j) with | none=>([],(S.length:Int),fl e 2) | some (a,b)=>((S.drop i).take (j+a.length - i),((j+a.length+p.length:Nat):Int),e))
  | 0,j,h,_,_=>by omega
  | n+1,j,h,hij,hj=>by
    have hpl:=List.length_pos_iff.2 hp0
    show iu F S (i:Int) o k l e p (ir F S (i:Int) o k l e p n) (j:Int)=_
    unfold iu
    rw [bD (by omega)]
    by_cases g:j+p.length≤S.length
    · rw [bT (by omega),bD (by omega),jX (by omega),bm,rM,aB (by omega:j < S.length)]
      have hpt:=xq p (S[j]'(by omega)::S.drop (j+1))
      rw [← aB (by omega:j < S.length),decide_eq_true (by rw [List.length_drop]; omega),Bool.true_and] at hpt
      rw [← aB (by omega:j < S.length),← hpt,aB (by omega:j < S.length)]
      unfold kh
      by_cases q:p.isPrefixOf (S[j]'(by omega)::S.drop (j+1))=true
      · rw [q,dr,if_pos rfl]
        unfold ip
        rw [jX (by omega),bm,bD (by omega)]
        rw [show (j:Int)=(i:Int)+((j - i:Nat):Int) by omega,rM]
        simp only [List.length_nil,Nat.add_zero]
        rw [show (i:Int)+((j - i:Nat):Int)+(p.length:Int)=((j+p.length:Nat):Int) by omega]
      · rw [eq_false_of_ne_true q,cJ,if_neg (by decide),bD (by omega),bx,qP hp hp0 i n (j+1) (by omega) (by omega) (by omega)]
        cases kh p (S.drop (j+1)) with
        | none=>rfl
        | some x =>
          obtain ⟨a,b⟩:=x
          simp only [List.length_cons]
          rw [show j+1+a.length=j+(a.length+1) by omega]
    · have:kh p (S.drop j)=none:=by
        cases e:kh p (S.drop j) with
        | none=>rfl
        | some x =>
          obtain ⟨a,b⟩:=x
          have:=congrArg List.length (me hp0 e)
          simp only [List.length_append,List.length_drop] at this
          omega
      rw [bF (by omega),this]
      unfold iq
      rw [eW,bb]
theorem oQ {e:Int} {p:Bs} (hp:p.length≤100) (hp0:p≠[]) (hF:200000 < F) {i:Nat} (hi:i≤S.length) (h:kh p (S.drop i)=none):er F S (i:Int) o k l e p=some ([],(S.length:Int),fl e 2):=by
  have:=qP (F:=F) hS (o:=o) (k:=k) (l:=l) (e:=e) hp hp0 i F i (by omega) (Nat.le_refl _) hi
  rw [h] at this
  exact this
theorem oP {e:Int} {p:Bs} (hp:p.length≤100) (hp0:p≠[]) (hF:200000 < F) {i:Nat} (hi:i≤S.length) {a b:Bs} (h:kh p (S.drop i)=some (a,b)) :
    er F S (i:Int) o k l e p=some (a,((i+a.length+p.length:Nat):Int),e)∧i+a.length+p.length≤S.length∧S.drop (i+a.length+p.length)=b:=by
  have:=qP (F:=F) hS (o:=o) (k:=k) (l:=l) (e:=e) hp hp0 i F i (by omega) (Nat.le_refl _) hi
  rw [h] at this
  have hc:=me hp0 h
  have hl:=congrArg List.length hc
  simp only [List.length_append,List.length_drop] at hl
  refine ⟨Eq.trans this ?_,by omega,?_⟩
  · simp only []
    rw [show i+a.length - i=a.length by omega,hc,List.append_assoc,List.take_left' rfl]
  · rw [show i+a.length+p.length=i+(a++p).length by rw [List.length_append]; omega,← List.drop_drop,hc,List.drop_left' rfl]
theorem upto_any {e:Int} {p:Bs} (hp:p.length≤100) (hp0:p≠[]) (hF:200000 < F) {i:Nat} (hi:i≤S.length):∃ (a:Bs) (j:Nat) (e':Int),er F S (i:Int) o k l e p=some (a,(j:Int),e')∧j≤S.length∧a.length≤S.length∧(e≠0→e'=e):=by
  cases h:kh p (S.drop i) with
  | none=>exact ⟨[],S.length,fl e 2,oQ hS hp hp0 hF hi h,Nat.le_refl _,by simp,fun q=>fl_n q 2⟩
  | some x =>
    obtain ⟨a,b⟩:=x;obtain ⟨h1,h2,h3⟩:=oP (F:=F) (o:=o) (k:=k) (l:=l) (e:=e) hS hp hp0 hF hi h;exact ⟨a,i+a.length+p.length,e,h1,h2,by omega,fun _=>rfl⟩
omit hS in
theorem rspace (F:Nat) (c:UInt8):lm F c=some (eg c):=Eq.symm (Eq.symm rfl)
theorem rn:∀ (n j c:Nat),S.length - j < n→j≤S.length→c≤j→dc F S n ((c:Int),(j:Int))=some (((c+((S.drop j).takeWhile eg).length:Nat):Int),((j+((S.drop j).takeWhile eg).length:Nat):Int))
  | 0,j,c,h,_,_=>by omega
  | n+1,j,c,h,hj,hc=>by
    show gj F S (dc F S n) (c:Int) (j:Int)=_
    unfold gj gg
    by_cases g:j < S.length
    · rw [bT (by omega),bR (by omega),bm,cF g,rspace,bb,aB g,List.takeWhile_cons]
      unfold gh
      cases eg S[j] with
      | false=>rw [bnF,if_neg (by decide)]; rfl
      | true =>
        rw [bnT,if_pos rfl,bD (by omega),bD (by omega),bx,bx,rn n (j+1) (c+1) (by omega) (by omega) (by omega),List.length_cons]
        rw [show c+1+((S.drop (j+1)).takeWhile eg).length=c+(((S.drop (j+1)).takeWhile eg).length+1) by omega,show j+1+((S.drop (j+1)).takeWhile eg).length=j+(((S.drop (j+1)).takeWhile eg).length+1) by omega]
    · rw [bF (by omega),aM (by omega)]; rfl
omit hS in
theorem vQ (f:UInt8→Bool) (s:Bs):s.drop (s.takeWhile f).length=s.dropWhile f:=by
  have:=List.takeWhile_append_dropWhile (p:=f) (l:=s)
  have h2:(s.takeWhile f++s.dropWhile f).drop (s.takeWhile f).length=s.dropWhile f:=List.drop_left' rfl
  rwa [this] at h2
omit hS in
theorem tw_le (f:UInt8→Bool) (s:Bs):(s.takeWhile f).length+(s.dropWhile f).length=s.length:=by
  have:=congrArg List.length (List.takeWhile_append_dropWhile (p:=f) (l:=s))
  rwa [List.length_append] at this
theorem sP {e:Int} (hF:200000 < F) {i:Nat} (hi:i≤S.length):hN F S (i:Int) o k l e=some ((((S.drop i).takeWhile eg).length:Int),((i+((S.drop i).takeWhile eg).length:Nat):Int)) ∧
    i+((S.drop i).takeWhile eg).length≤S.length∧S.drop (i+((S.drop i).takeWhile eg).length)=(S.drop i).dropWhile eg:=by
  have:=rn (F:=F) hS F i 0 (by omega) hi (by omega)
  refine ⟨?_,?_,?_⟩
  · refine Eq.trans this ?_
    rw [Nat.zero_add]
  · have:=tw_le eg (S.drop i); rw [List.length_drop] at this; omega
  · rw [← List.drop_drop,vQ]
omit hS in
theorem sp (F:Nat) (c:UInt8) (f:Bool):kH F c f=some (if f then sm c else ig c):=by
  have h:((((decide (65≤(c.toNat:Int)))&&(decide ((c.toNat:Int)≤90)))||((decide (97≤(c.toNat:Int)))&&(decide ((c.toNat:Int)≤122))))||(decide (c=95)))=sm c:=by
    have:=all8 (fun c=>((((decide (65≤(c.toNat:Int)))&&(decide ((c.toNat:Int)≤90)))||((decide (97≤(c.toNat:Int)))&&(decide ((c.toNat:Int)≤122))))||(decide (c=95)))==sm c) (by decide +kernel) c
    exact eq_of_beq this
  have h2:(((((decide (48≤(c.toNat:Int)))&&(decide ((c.toNat:Int)≤57)))||(decide (c=45)))||(decide (c=46)))||(decide (c=58)))=((((decide (48≤c.toNat)&&decide (c.toNat≤57))||decide (c=45))||decide (c=46))||decide (c=58)):=by
    have:=all8 (fun c=>(((((decide (48≤(c.toNat:Int)))&&(decide ((c.toNat:Int)≤57)))||(decide (c=45)))||(decide (c=46)))||(decide (c=58)))==((((decide (48≤c.toNat)&&decide (c.toNat≤57))||decide (c=45))||decide (c=46))||decide (c=58))) (by decide +kernel) c
    exact eq_of_beq this
  unfold kH ig
  rw [h,h2]
  cases sm c <;> cases f <;> rfl
theorem sV (n':Bs) (hn:n'.length≤100000):∀ (m j:Nat),n'.length - j < m→0 < j→j≤n'.length→fV F n' m (j:Int)=some ((n'.drop j).all ig&&(decide (1≤n'.length)&&decide (n'.length≤60)))
  | 0,j,h,_,_=>by omega
  | m+1,j,h,h0,hj=>by
    show fW F n' (fV F n' m) (j:Int)=_
    unfold fW
    by_cases g:j < n'.length
    · rw [bT (by omega),bR (by omega),bm,cF g,sp,decide_eq_false (p:=(j:Int)=0) (by omega),bb,aB g,List.all_cons,if_neg (by decide)]
      cases ig n'[j] with
      | false=>rw [bnF,Bool.false_and,Bool.false_and]
      | true=>rw [bnT,bD (by omega),bx,sV n' hn m (j+1) (by omega) (by omega) (by omega),Bool.true_and]
    · rw [bF (by omega),aM (by omega)]
      unfold jw
      rw [List.all_nil,Bool.true_and]
      congr 2
      · exact decide_eq_decide.2 (by omega)
      · exact decide_eq_decide.2 (by omega)
omit hS in
theorem zu {c:UInt8} (h:sm c=true):ig c=true:=by unfold ig; rw [h]; rfl
theorem xp (hF:200000 < F) (n':Bs) (hn:n'.length≤100000):kI F n'=some (oc n'):=by
  obtain ⟨m,hm⟩:∃ m,F=m+1:=⟨F - 1,by omega⟩
  unfold kI
  have e:fV F n' F 0=fW F n' (fV F n' m) 0:=by
    conv=>lhs; arg 3; rw [hm]
    rfl
  rw [e]
  unfold fW
  cases n' with
  | nil=>rw [bF (by simp)]; rfl
  | cons c r =>
    rw [bT (by simp),bR (by simp),bm,at_zero (by simp),List.getElem_cons_zero,sp,decide_eq_true rfl,if_pos rfl,bb,pL]
    cases h:sm c with
    | false=>rw [bnF,Bool.false_and]
    | true =>
      have:=sV (F:=F) hS (c::r) hn m 1 (by simp at hn ⊢; omega) (by omega) (by simp)
      rw [bnT,bD (by omega)]
      refine Eq.trans this ?_
      rw [show (c::r).drop 1=r from rfl,List.all_cons,zu h,decide_eq_true (p:=1≤(c::r).length) (by simp),Bool.true_and,Bool.true_and,Bool.true_and]
end
end Go.Xm
namespace Go.Xm
open Go.Pv Go.Av
def sh:Option Bs→Bs×Int
  | some t=>(t,0)
  | none=>([],2)
theorem zj {F:Nat} (hF:1500000 < F) {s:Bs} (hs:s.length≤100000):iY F s=some (sh (dec F s)):=by
  unfold iY dec
  rw [Go.Pn.gone_same F (by omega) s hs,Go.Pn.goneG F (by omega) s hs]
  obtain ⟨a,b⟩:=Go.Pn.G1 F (s.length+1) s true []
  rw [br]
  cases b <;> rfl
section
variable {F:Nat} (hF:1500000 < F) {S:Bs} (hS:S.length≤100000) {o:List Bs} {k:Int} {l:List Tok}
include hF hS
theorem xn {e:Int} {i j:Nat} (hij:i≤j) (hj:j≤S.length):dK F S (i:Int) o k l e (j:Int)=some ((S.drop i).take (j - i),(j:Int),if oc ((S.drop i).take (j - i))=true then e else fl e 2):=by
  unfold dK ix
  rw [jX (by omega),bm,show (j:Int)=(i:Int)+((j - i:Nat):Int) by omega,rM,xp hS (by omega) _ (by simp; omega),bb]
  cases oc ((S.drop i).take (j - i)) with
  | true=>rw [bnT,if_pos rfl]; rfl
  | false=>rw [bnF,eW,bb,if_neg (by decide)]; rfl
theorem sU {e:Int} (i:Nat):∀ (n j:Nat),S.length - j < n→i < j→j≤S.length→dt F S (i:Int) o k l e n (j:Int)=dK F S (i:Int) o k l e ((j+((S.drop j).takeWhile ig).length:Nat):Int)
  | 0,j,h,_,_=>by omega
  | n+1,j,h,hij,hj=>by
    show fe F S (i:Int) o k l e (dt F S (i:Int) o k l e n) (j:Int)=_
    unfold fe gm
    by_cases g:j < S.length
    · rw [bT (by omega),bR (by omega),bm,cF g,sp,decide_eq_false (p:=(j:Int)=(i:Int)) (by omega),bb,if_neg (by decide),aB g,List.takeWhile_cons]
      unfold gn
      cases ig S[j] with
      | false=>rw [bnF,if_neg (by decide)]; rfl
      | true =>
        rw [bnT,if_pos rfl,bD (by omega),bx,sU i n (j+1) (by omega) (by omega) (by omega),List.length_cons]
        rw [show j+1+((S.drop (j+1)).takeWhile ig).length=j+(((S.drop (j+1)).takeWhile ig).length+1) by omega]
    · rw [bF (by omega),aM (by omega)]; rfl
omit hF hS in
theorem nameP_tw {s n r:Bs} (h:gz s=some (n,r)):n=s.takeWhile ig∧r=s.dropWhile ig∧oc n=true:=by
  unfold gz at h
  split at h
  · rename_i g; cases h; exact ⟨rfl,rfl,g⟩
  · cases h
omit hF hS in
theorem yW (f:UInt8→Bool) (s:Bs):s.take (s.takeWhile f).length=s.takeWhile f:=by
  have:=List.takeWhile_append_dropWhile (p:=f) (l:=s)
  have h2:(s.takeWhile f++s.dropWhile f).take (s.takeWhile f).length=s.takeWhile f:=List.take_left' rfl
  rwa [this] at h2
theorem xo {e:Int} {i:Nat} (hi:i≤S.length):∃ j:Nat,eQ F S (i:Int) o k l e=dK F S (i:Int) o k l e (j:Int)∧i≤j∧j≤S.length∧((S.drop i).take (j - i)=(S.drop i).takeWhile ig∨(gz (S.drop i)=none∧j=i)):=by
  obtain ⟨m,hm⟩:∃ m,F=m+1:=⟨F - 1,by omega⟩
  have e0:eQ F S (i:Int) o k l e=fe F S (i:Int) o k l e (dt F S (i:Int) o k l e m) (i:Int):=by
    unfold eQ
    conv=>lhs; arg 8; rw [hm]
    rfl
  rw [e0]
  unfold fe gm
  by_cases g:i < S.length
  · rw [bT (by omega),bR (by omega),bm,cF g,sp,decide_eq_true (p:=(i:Int)=(i:Int)) rfl,bb,if_pos rfl]
    unfold gn
    cases h:sm S[i] with
    | false =>
      rw [bnF]
      refine ⟨i,rfl,Nat.le_refl _,hi,.inr ⟨?_,rfl⟩⟩
      unfold gz
      rw [aB g,List.takeWhile_cons]
      cases ig S[i] with
      | false=>simp [oc]
      | true=>rw [if_pos rfl,pL,h,Bool.false_and,if_neg (by decide)]
    | true =>
      rw [bnT,bD (by omega),bx,sU hF hS i m (i+1) (by omega) (by omega) (by omega)]
      have hl:=tw_le ig (S.drop (i+1))
      rw [List.length_drop] at hl
      refine ⟨i+1+((S.drop (i+1)).takeWhile ig).length,rfl,by omega,by omega,.inl ?_⟩
      rw [show i+1+((S.drop (i+1)).takeWhile ig).length - i=((S.drop (i+1)).takeWhile ig).length+1 by omega,aB g,List.takeWhile_cons,zu h,if_pos rfl,List.take_succ_cons,yW]
  · rw [bF (by omega)]
    refine ⟨i,rfl,Nat.le_refl _,hi,.inl ?_⟩
    rw [aM (by omega)]; simp
theorem tn {e:Int} {i:Nat} (hi:i≤S.length) {n r:Bs} (h:gz (S.drop i)=some (n,r)):eQ F S (i:Int) o k l e=some (n,((i+n.length:Nat):Int),e)∧i+n.length≤S.length∧S.drop (i+n.length)=r:=by
  obtain ⟨j,h1,h2,h3,h4⟩:=xo (F:=F) hF hS (o:=o) (k:=k) (l:=l) (e:=e) hi;obtain ⟨q1,q2,q3⟩:=nameP_tw h
  rcases h4 with h4 | ⟨h4,_⟩
  · rw [← q1] at h4
    have hl:=congrArg List.length h4
    rw [List.length_take,List.length_drop] at hl
    have ej:j=i+n.length:=by omega
    refine ⟨?_,by omega,?_⟩
    · rw [h1,xn hF hS h2 h3,h4,if_pos q3,ej]
    · rw [← List.drop_drop,q1,vQ,q2]
  · rw [h4] at h; cases h
theorem tp {e:Int} {i:Nat} (hi:i≤S.length) (h:gz (S.drop i)=none):∃ (n:Bs) (j:Nat),eQ F S (i:Int) o k l e=some (n,(j:Int),fl e 2)∧j≤S.length:=by
  obtain ⟨j,h1,h2,h3,h4⟩:=xo (F:=F) hF hS (o:=o) (k:=k) (l:=l) (e:=e) hi;refine ⟨(S.drop i).take (j - i),j,Eq.trans h1 (Eq.trans (xn hF hS h2 h3) ?_),h3⟩
  rw [if_neg]
  rcases h4 with h4 | ⟨h4,h5⟩
  · rw [h4]
    intro q
    unfold gz at h
    rw [if_pos q] at h; cases h
  · rw [h5,Nat.sub_self,List.take_zero]; decide
omit hF hS in
theorem nk {F:Nat} {S:Bs} {i k e:Int} {t:Bs} (hl:l.length≤1000000):jZ F S i o k l e t=some (if o=[] then l else nK t l):=by
  unfold jZ nK
  by_cases h:t=[]
  · rw [bT h,if_pos h]; split <;> rfl
  · rw [bF h,if_neg h]
    by_cases ho:o=[]
    · rw [bF (by rw [ho]; simp),if_pos ho]
    · have:=List.length_pos_iff.2 ho
      rw [bT (by omega),if_neg ho,cc (by simp; omega),bm]
def ltB (c:UInt8):Bool:=decide (c≠60)
theorem sW {e:Int} (i:Nat):∀ (n j:Nat) (f:Bool),S.length - j < n→j≤S.length→dz F S (i:Int) o k l e n (f,(j:Int))=fC F S (i:Int) o k l e (f&&((S.drop j).takeWhile ltB).all eg) ((j+((S.drop j).takeWhile ltB).length:Nat):Int)
  | 0,j,f,h,_=>by omega
  | n+1,j,f,h,hj=>by
    show gN F S (i:Int) o k l e (dz F S (i:Int) o k l e n) f (j:Int)=_
    unfold gN gL
    by_cases g:j < S.length
    · rw [decide_eq_true (p:=(j:Int) < (S.length:Int)) (by omega),kC,bR (by omega),bm,cF g,Bool.true_and,aB g,List.takeWhile_cons]
      by_cases c:S[j]=60
      · have hc:ltB S[j]=false:=by unfold ltB; rw [c]; rfl
        rw [decide_eq_true c,oL,cJ,hc,if_neg (by decide),List.all_nil,Bool.and_true]; rfl
      · have hc:ltB S[j]=true:=decide_eq_true c
        rw [decide_eq_false c,ns,dr,hc,if_pos rfl,bR (by omega),bm,rspace,bb]
        unfold gM
        rw [bD (by omega),bx,sW i n (j+1) _ (by omega) (by omega),List.all_cons,List.length_cons,Bool.and_assoc]
        rw [show j+1+((S.drop (j+1)).takeWhile ltB).length=j+(((S.drop (j+1)).takeWhile ltB).length+1) by omega]
    · rw [decide_eq_false (p:=(j:Int) < (S.length:Int)) (by omega),gp,bm,Bool.false_and,cJ,aM (by omega)]
      simp
theorem Ae {i kk:Nat} (hi:i≤S.length) (hl:l.length≤1000000) :
    match lv (dec F) (S.drop i) o kk l with
    | .ok x=>∃ j:Nat,j≤S.length∧S.drop j=x.1∧x.2.1=o∧x.2.2.1=kk∧iV F S (i:Int) o k l 0=some ((j:Int),x.2.2.2,0)
    | .no e=>∃ j:Int,iV F S (i:Int) o k l 0=some (j,l,e):=by
  have e0:iV F S (i:Int) o k l 0=_:=sW hF hS (o:=o) (k:=k) (l:=l) (e:=0) i F i true (by omega) hi
  have hl1:=tw_le ltB (S.drop i)
  rw [List.length_drop] at hl1
  have ed:S.drop (i+((S.drop i).takeWhile ltB).length)=(S.drop i).dropWhile ltB:=by rw [← List.drop_drop,vQ]
  unfold fC at e0
  rw [Bool.true_and,jX (by omega),bm,Int.natCast_add,rM,yW,zj hF (by omega)] at e0
  unfold lv
  show match (match dec F ((S.drop i).takeWhile ltB) with
    | none=>Rx.no 2
    | some t=>if o=[] then (if ((S.drop i).takeWhile ltB).all eg=true then Rx.ok ((S.drop i).dropWhile ltB,o,kk,l) else Rx.no 2) else Rx.ok ((S.drop i).dropWhile ltB,o,kk,nK t l)) with
    | .ok x=>_
    | .no e=>_
  cases hd:dec F ((S.drop i).takeWhile ltB) with
  | none =>
    rw [hd] at e0
    simp only [sh] at e0
    rw [br] at e0
    unfold fD at e0
    rw [decide_eq_false (by decide),ns,Bool.true_or,dr,eW,bb] at e0
    exact ⟨_,e0⟩
  | some t =>
    rw [hd] at e0
    simp only [sh] at e0
    rw [br] at e0
    unfold fD at e0
    rw [decide_eq_true rfl,oL,Bool.false_or] at e0
    simp only []
    by_cases ho:o=[]
    · rw [if_pos ho]
      rw [decide_eq_true (p:=(o.length:Int)=0) (by rw [ho]; rfl),Bool.true_and] at e0
      by_cases hb:((S.drop i).takeWhile ltB).all eg=true
      · rw [if_pos hb]
        rw [hb,bnT,nk hl,bb,if_pos ho,← Int.natCast_add] at e0
        exact ⟨_,by omega,ed,rfl,rfl,e0⟩
      · rw [if_neg hb]
        rw [eq_false_of_ne_true hb,bnF,eW,bb] at e0
        exact ⟨_,e0⟩
    · have:=List.length_pos_iff.2 ho
      rw [if_neg ho]
      rw [decide_eq_false (p:=(o.length:Int)=0) (by omega),Bool.false_and,cJ,nk hl,bb,if_neg ho,← Int.natCast_add] at e0
      exact ⟨_,by omega,ed,rfl,rfl,e0⟩
omit hF hS in
theorem qR {F:Nat} {S:Bs} {i k e:Int} {n:Bs} (ho:o.length≤100) (hl:l.length≤1000000):iW F S i o k l e n=some (if o.getLast?=some n then (o.dropLast,l++[(1,n,[],[])],e) else (o,l,fl e 2)):=by
  unfold iW
  by_cases h:o=[]
  · subst h
    rw [decide_eq_true (p:=((([]:List Bs).length:Nat):Int)=0) (by simp),oL,gp,gp,bm,Bool.true_or,dr,eW,bb,if_neg (by simp)]
  · have hp:=List.length_pos_iff.2 h
    rw [decide_eq_false (p:=(o.length:Int)=0) (by omega),ns,kC,kC,bD (by omega),bR (by omega),bm,zH h,Bool.false_or,List.getLast?_eq_some_getLast h]
    by_cases g:o.getLast h=n
    · rw [decide_eq_true g,bnT,if_pos (by rw [g]),bD (by omega),jd (by omega),bm,show (o.length:Int) - 1=((o.length - 1:Nat):Int) by omega,rL,← List.dropLast_eq_take,cc (by simp; omega),cc (by simp; omega),bm]
    · rw [decide_eq_false g,bnF,eW,bb,if_neg (by simpa using g)]
theorem yc {i kk:Nat} (hi:i+2≤S.length) (ho:o.length≤20) (hl:l.length≤1000000) :
    match tE (S.drop (i+2)) o kk l with
    | .ok x=>∃ j:Nat,j≤S.length∧S.drop j=x.1∧x.2.2.1=kk∧hO F S (i:Int) o k l 0=some ((j:Int),x.2.1,x.2.2.2,0)
    | .no e=>∃ (j:Int) (o':List Bs) (l':List Tok),hO F S (i:Int) o k l 0=some (j,o',l',e):=by
  unfold tE hO
  rw [bD (by omega),show (i:Int)+2=((i+2:Nat):Int) by omega]
  have fin:∀ (n:Bs) (j:Nat) (e:Int),j≤S.length→∃ (j1:Nat) ,j1≤S.length∧S.drop j1=(S.drop j).dropWhile eg∧∀ g:Int→Option (Int×List Bs×List Tok×Int),(iE (hN F S (j:Int) o k l e) fun x21 x22=>g x22)=g (j1:Int):=fun n j e hj=>by
    obtain ⟨h1,h2,h3⟩:=sP (F:=F) hS (o:=o) (k:=k) (l:=l) (e:=e) (by omega) hj;refine ⟨_,h2,h3,fun g=>?_⟩
    rw [h1,br]
  cases hn:gz (S.drop (i+2)) with
  | none =>
    obtain ⟨n,j,h1,h2⟩:=tp hF hS (o:=o) (k:=k) (l:=l) (e:=0) hi hn
    rw [h1,dS,sn]
    obtain ⟨j1,h3,h4,h5⟩:=fin n j 2 h2
    rw [h5,eD hS h3 (by simp),bb]
    simp only []
    cases hb:([62]:Bs).isPrefixOf (S.drop j1) with
    | false=>rw [bnF,eW,bb,fl_n (by decide)]; exact ⟨_,_,_,rfl⟩
    | true =>
      rw [bnT,bD (by omega),qR (by omega) hl]
      split
      · exact ⟨_,_,_,rfl⟩
      · exact ⟨_,_,_,rfl⟩
  | some y =>
    obtain ⟨n,r⟩:=y;obtain ⟨h1,h2,h2'⟩:=tn hF hS (o:=o) (k:=k) (l:=l) (e:=0) hi hn
    rw [h1,dS]
    obtain ⟨j1,h3,h4,h5⟩:=fin n _ 0 h2
    rw [h2'] at h4
    rw [h5,eD hS h3 (by simp),bb,h4]
    simp only []
    by_cases hb:([62]:Bs).isPrefixOf (r.dropWhile eg)=true
    · rw [hb,bnT,bD (by omega),qR (by omega) hl,if_pos rfl]
      have hpos:j1+1≤S.length:=by
        have:=congrArg List.length (oI hb)
        rw [← h4] at this
        simp at this
        omega
      unfold nL
      by_cases g:o.getLast?=some n
      · rw [if_pos g,if_pos g]
        exact ⟨j1+1,hpos,by rw [← List.drop_drop,h4],rfl,rfl⟩
      · rw [if_neg g,if_neg g]
        exact ⟨_,_,_,rfl⟩
    · rw [eq_false_of_ne_true hb,bnF,eW,bb,if_neg (by decide)]
      exact ⟨_,_,_,rfl⟩
end
end Go.Xm
namespace Go.Xm
open Go.Pv Go.Av
theorem f22:fl 2 2=2:=Eq.symm (Eq.symm rfl)
section
variable {F:Nat} (hF:1500000 < F) {S:Bs} (hS:S.length≤100000) {o:List Bs} {k:Int} {l:List Tok}
include hF hS
theorem oH (n' raw:Bs) (x:Int) (hx:raw.length≤100000):∀ (n j:Nat) (e:Int),raw.length - j < n→j≤raw.length→fh F S o k l n' raw x n ((j:Int),e)=fg F S o k l n' raw x (if 60∈raw.drop j then fl e 2 else e)
  | 0,j,e,h,_=>by omega
  | n+1,j,e,h,hj=>by
    show iA F S o k l n' raw x (fh F S o k l n' raw x n) (j:Int) e=_
    unfold iA
    by_cases g:j < raw.length
    · rw [bT (by omega),bR (by omega),bm,cF g,aB g]
      have hm:(60∈raw[j]::raw.drop (j+1))↔(raw[j]=60∨60∈raw.drop (j+1)):=by
        rw [List.mem_cons]; exact ⟨fun q=>q.imp Eq.symm id,fun q=>q.imp Eq.symm id⟩
      by_cases c:raw[j]=60
      · rw [bT c,eW,bb,if_pos (hm.2 (.inl c))]
        unfold ff
        rw [bD (by omega),bx,oH n' raw x hx n (j+1) _ (by omega) (by omega)]
        have:fl (fl e 2) 2=fl e 2:=by
          unfold fl
          by_cases q:e=0
          · rw [if_pos q,if_neg (by decide)]
          · rw [if_neg q,if_neg q]
        rw [this,ite_self]
      · rw [bF c]
        unfold ff
        rw [bD (by omega),bx,oH n' raw x hx n (j+1) _ (by omega) (by omega)]
        congr 1
        by_cases q:60∈raw.drop (j+1)
        · rw [if_pos q,if_pos (hm.2 (.inr q))]
        · rw [if_neg q,if_neg fun z=>(hm.1 z).elim c q]
    · rw [bF (by omega),aM (by omega),if_neg (by simp)]
theorem tq (n' raw:Bs) (x e:Int) (hx:raw.length≤100000):fg F S o k l n' raw x e=some (n',(sh (dec F raw)).1,x,if (dec F raw).isNone=true then fl e 2 else e):=by
  unfold fg
  rw [zj hF hx]
  cases dec F raw with
  | none=>simp only [sh]; rw [br,decide_eq_false (by decide),bnF,eW,bb]; rfl
  | some t=>simp only [sh]; rw [br,decide_eq_true rfl,bnT]; rfl
def AtOK (S:Bs):Option (At×Bs)→Option (Bs×Bs×Int×Int)→Prop
  | some (a,r),x=>∃ j:Nat,j≤S.length∧S.drop j=r∧x=some (a.1,a.2,(j:Int),0)
  | none,x=>∃ (n v:Bs) (j:Int),x=some (n,v,j,2)
theorem rattr_j4 (n':Bs) (q:UInt8) {j:Nat} (hj:j+2≤S.length):AtOK S (qN (dec F) n' q (S.drop (j+2))) (du F S o k l n' (j:Int) 0 [q]):=by
  unfold du qN
  rw [bD (by omega),show (j:Int)+2=((j+2:Nat):Int) by omega]
  cases h:kh [q] (S.drop (j+2)) with
  | none =>
    rw [oQ hS (by simp) (by simp) (by omega) hj h,dS]
    have:=oH hF hS (o:=o) (k:=k) (l:=l) n' [] (S.length:Int) (by simp) F 0 (fl 0 2) (by simp; omega) (by simp)
    refine ⟨n',(sh (dec F [])).1,(S.length:Int),Eq.trans this ?_⟩
    rw [tq hF hS n' [] _ _ (by simp),if_neg (show ¬ 60∈List.drop 0 ([]:Bs) by simp),sn,f22,ite_self]
  | some y =>
    obtain ⟨raw,r⟩:=y;obtain ⟨h1,h2,h3⟩:=oP (F:=F) (o:=o) (k:=k) (l:=l) (e:=0) hS (by simp) (by simp) (by omega) hj h
    have hr:raw.length≤100000:=by omega
    rw [h1,dS]
    have:=oH hF hS (o:=o) (k:=k) (l:=l) n' raw ((j+2+raw.length+[q].length:Nat):Int) hr F 0 0 (by omega) (by omega)
    have e1:=Eq.trans this (tq hF hS n' raw _ _ hr)
    rw [List.drop_zero,sn] at e1
    simp only []
    by_cases g:60∈raw
    · rw [if_pos g]
      rw [if_pos g,fl_n (by decide),ite_self] at e1
      exact ⟨_,_,_,e1⟩
    · rw [if_neg g]
      rw [if_neg g] at e1
      cases hd:dec F raw with
      | none =>
        rw [hd] at e1
        exact ⟨_,_,_,e1⟩
      | some t =>
        rw [hd] at e1
        exact ⟨_,h2,h3,e1⟩
theorem Ai (n' q':Bs) (hq:q'.length≤100) (hq0:q'≠[]) {j:Nat} (hj:j+2≤S.length):AtOK S none (du F S o k l n' (j:Int) 2 q'):=by
  unfold du
  rw [bD (by omega),show (j:Int)+2=((j+2:Nat):Int) by omega]
  obtain ⟨a,j',e',h1,h2,h3,h4⟩:=upto_any (F:=F) (o:=o) (k:=k) (l:=l) (e:=2) hS hq hq0 (by omega) hj
  rw [h1,dS,h4 (by decide)]
  have:=oH hF hS (o:=o) (k:=k) (l:=l) n' a (j':Int) (by omega) F 0 2 (by omega) (by omega)
  refine ⟨n',(sh (dec F a)).1,(j':Int),Eq.trans this ?_⟩
  rw [tq hF hS n' a _ _ (by omega),f22,ite_self,f22,ite_self]
omit hF hS in
theorem jL {S p:Bs} {i:Nat} (h:p.isPrefixOf (S.drop i)=true) (hi:i≤S.length):i+p.length≤S.length∧S.drop i=p++S.drop (i+p.length):=by
  have h1:=oI h
  rw [List.drop_drop] at h1
  refine ⟨?_,h1⟩
  have:=congrArg List.length h1
  simp only [List.length_append,List.length_drop] at this
  omega
omit hF hS in
theorem zt {S:Bs} {i:Nat} {a b:UInt8} {r:Bs} (h:S.drop i=[a,b]++r) (hi:i+2≤S.length):sub S ((i:Int)+1) ((i:Int)+2)=[b]:=by
  rw [show (i:Int)+1=((i+1:Nat):Int) by omega,show (i:Int)+2=((i+1:Nat):Int)+((1:Nat):Int) by omega,rM,← List.drop_drop,h]; rfl
theorem rattr_eq {i:Nat} (hi:i≤S.length):AtOK S (nN (dec F) (S.drop i)) (lk F S (i:Int) o k l 0):=by
  unfold lk nN
  cases hn:gz (S.drop i) with
  | none =>
    obtain ⟨n,j,h1,h2⟩:=tp hF hS (o:=o) (k:=k) (l:=l) (e:=0) hi hn
    rw [h1,dS,sn,eD hS h2 (by simp),bb,eD hS h2 (by simp),bb]
    have go:∀ a b:UInt8,([a,b]:Bs).isPrefixOf (S.drop j)=true→AtOK S none (grd (okI ((j:Int)+1))<|grd (okI ((j:Int)+2))<|grd (mG ((j:Int)+1) ((j:Int)+2) S.length)<|lt (sub S ((j:Int)+1) ((j:Int)+2)) fun x31=>du F S o k l n (j:Int) 2 x31):=fun a b h=>by
      obtain ⟨q1,q2⟩:=jL h h2
      have q1':j+2≤S.length:=q1
      rw [bD (by omega),bD (by omega),jX (by omega),bm,zt q2 q1']
      exact Ai hF hS n [b] (by simp) (by simp) q1'
    cases h3:([61,34]:Bs).isPrefixOf (S.drop j) with
    | true=>rw [oL,Bool.false_and,cJ]; exact go _ _ h3
    | false =>
      cases h4:([61,39]:Bs).isPrefixOf (S.drop j) with
      | true=>rw [ns,oL,Bool.true_and,cJ]; exact go _ _ h4
      | false=>rw [ns,Bool.true_and,dr,eW,bb,fl_n (by decide)]; exact ⟨_,_,_,rfl⟩
  | some y =>
    obtain ⟨n,r⟩:=y;obtain ⟨h1,h2,h2'⟩:=tn hF hS (o:=o) (k:=k) (l:=l) (e:=0) hi hn
    rw [h1,dS,eD hS h2 (by simp),bb,eD hS h2 (by simp),bb,← h2']
    generalize i+n.length=j at h2 h2' ⊢
    simp only []
    have go:∀ a b:UInt8,([a,b]:Bs).isPrefixOf (S.drop j)=true→AtOK S (qN (dec F) n b ((S.drop j).drop 2)) (grd (okI ((j:Int)+1))<|grd (okI ((j:Int)+2))<|grd (mG ((j:Int)+1) ((j:Int)+2) S.length)<|lt (sub S ((j:Int)+1) ((j:Int)+2)) fun x31=>du F S o k l n (j:Int) 0 x31):=fun a b h=>by
      obtain ⟨q1,q2⟩:=jL h h2
      have q1':j+2≤S.length:=q1
      rw [bD (by omega),bD (by omega),jX (by omega),bm,zt q2 q1',List.drop_drop]
      exact rattr_j4 hF hS n b q1'
    cases h3:([61,34]:Bs).isPrefixOf (S.drop j) with
    | true=>rw [oL,Bool.false_and,cJ,if_pos rfl]; exact go _ _ h3
    | false =>
      rw [if_neg (by decide)]
      cases h4:([61,39]:Bs).isPrefixOf (S.drop j) with
      | true=>rw [ns,oL,Bool.true_and,cJ,if_pos rfl]; exact go _ _ h4
      | false=>rw [ns,Bool.true_and,dr,eW,bb,if_neg (by decide)]; exact ⟨_,_,_,rfl⟩
abbrev OT:=Option (Int×List Bs×Int×List Tok×Int)
def StOK (S:Bs):Rx→OT→Prop
  | .ok x,r=>∃ j:Nat,j≤S.length∧S.drop j=x.1∧r=some ((j:Int),x.2.1,(x.2.2.1:Int),x.2.2.2,0)
  | .no e,r=>∃ (j:Int) (o:List Bs) (k:Int) (l:List Tok),r=some (j,o,k,l,e)
theorem oV (as_:List At) (ha:as_.length≤100000) (nm v:Bs) (x:Int) (rec28:(List At×Int×Int)→OT):∀ (n j:Nat) (e:Int),as_.length - j < n→j≤as_.length →
    cV F S o k l as_ nm v x rec28 n ((j:Int),e)=dG as_ nm v x rec28 (if (as_.drop j).any (fun y=>decide (y.1=nm))=true then fl e 2 else e)
  | 0,j,e,h,_=>by omega
  | n+1,j,e,h,hj=>by
    show fI F S o k l as_ nm v x rec28 (cV F S o k l as_ nm v x rec28 n) (j:Int) e=_
    unfold fI
    by_cases g:j < as_.length
    · rw [bT (by omega),bR (by omega),bm,cF g,aB g,List.any_cons]
      by_cases c:as_[j].1=nm
      · rw [bT c,eW,bb,decide_eq_true c,Bool.true_or,if_pos rfl]
        unfold dF
        rw [bD (by omega),bx,oV as_ ha nm v x rec28 n (j+1) _ (by omega) (by omega)]
        have:fl (fl e 2) 2=fl e 2:=by
          unfold fl
          by_cases q:e=0
          · rw [if_pos q,if_neg (by decide)]
          · rw [if_neg q,if_neg q]
        rw [this,ite_self]
      · rw [bF c,decide_eq_false c,Bool.false_or]
        unfold dF
        rw [bD (by omega),bx,oV as_ ha nm v x rec28 n (j+1) _ (by omega) (by omega)]
    · rw [bF (by omega),aM (by omega),List.any_nil,if_neg (by decide)]
theorem qQ {nm:Bs} {as_:List At} {j e:Int} (he:e≠0) (m:Nat):bL F S o k l nm (m+1) (as_,j,e)=some (j,o,k,l,e):=by
  show dI F S o k l nm (bL F S o k l nm m) as_ j e=_
  unfold dI
  rw [bF he]
  unfold dk
  rw [decide_eq_false he,bnF]
theorem xm {nm:Bs} {as_:List At} {em:Bool} {j kk:Nat} (hj:j≤S.length) (ho:o.length≤20) (hl:l.length≤999000) (h1:em=([47,62]:Bs).isPrefixOf (S.drop j)) (h2:em=false→([62]:Bs).isPrefixOf (S.drop j)=true) :
    StOK S (if 20≤o.length then .no 5 else if em=true then .ok ((S.drop j).drop 2,o,kk,(l++[(0,nm,[],as_)])++[(1,nm,[],[])]) else .ok ((S.drop j).drop 1,o++[nm],kk,l++[(0,nm,[],as_)]))
      (dH F S o l nm (j:Int) 0 as_ (kk:Int)):=by
  have hn:(o++[nm]).length=o.length+1:=by simp
  unfold dH fG
  rw [eD hS hj (by simp),← h1,bb,cc (by omega),cc (by simp; omega),bm]
  by_cases h:20≤o.length
  · rw [bT (by omega),eW,bb,if_pos h,sn]
    exact ⟨_,_,_,_,rfl⟩
  · rw [bF (by omega),if_neg h]
    unfold fH
    rw [cc (by simp; omega),bm,bD (by omega)]
    cases em with
    | true =>
      obtain ⟨q1,q2⟩:=jL h1.symm hj
      have q1':j+2≤S.length:=q1
      rw [dr,if_pos rfl,bD (by omega),qR (by omega) (by simp; omega),if_pos (by simp),dS]
      refine ⟨j+2,q1',by rw [List.drop_drop],?_⟩
      rw [show (j:Int)+1+1=((j+2:Nat):Int) by omega]
      simp
    | false =>
      obtain ⟨q1,q2⟩:=jL (h2 rfl) hj
      have q1':j+1≤S.length:=q1
      rw [cJ,if_neg (by decide)]
      exact ⟨j+1,q1',by rw [List.drop_drop],rfl⟩
theorem xl {nm:Bs} {as_:List At} {em:Bool} {j kk:Nat} (hk:kk≤1) (hj:j≤S.length) (ho:o.length≤20) (hl:l.length≤999000) (h1:em=([47,62]:Bs).isPrefixOf (S.drop j)) (h2:em=false→([62]:Bs).isPrefixOf (S.drop j)=true) :
    StOK S (nZ nm as_ em (if em=true then (S.drop j).drop 2 else (S.drop j).drop 1) o kk l) (dk F S o (kk:Int) l nm (j:Int) 0 as_):=by
  have key:nZ nm as_ em (if em=true then (S.drop j).drop 2 else (S.drop j).drop 1) o kk l=(if o=[]∧kk≠0 then Rx.no 2 else if 20≤o.length then .no 5 else if em=true then .ok ((S.drop j).drop 2,o,(if o=[] then kk+1 else kk),(l++[(0,nm,[],as_)])++[(1,nm,[],[])]) else .ok ((S.drop j).drop 1,o++[nm],(if o=[] then kk+1 else kk),l++[(0,nm,[],as_)])):=by
    unfold nZ
    cases em <;> rfl
  rw [key]
  unfold dk
  rw [decide_eq_true (p:=(0:Int)=0) rfl,bnT]
  by_cases h:o=[]
  · rw [bT (by rw [h]; rfl),bD (by omega),if_pos h]
    by_cases g:kk=0
    · rw [bF (by omega),if_neg fun q=>q.2 g,show (kk:Int)+1=((kk+1:Nat):Int) by omega]
      exact xm hF hS hj ho hl h1 h2
    · rw [bT (by omega),eW,bb,if_pos ⟨h,g⟩,sn]
      exact ⟨_,_,_,_,rfl⟩
  · have:=List.length_pos_iff.2 h
    rw [bF (by omega),if_neg (fun q=>h q.1),if_neg h]
    exact xm hF hS hj ho hl h1 h2
theorem sT {nm:Bs} {kk:Nat} (hk:kk≤1) (ho:o.length≤20) (hl:l.length≤999000):∀ (m:Nat) (as_:List At) (j:Nat),S.length - j+1 < m→j≤S.length→as_.length+(S.length - j)≤100000 →
    StOK S (elemP' F nm o kk l (jG (dec F) ((S.drop j).length+1) as_ (S.drop j))) (bL F S o (kk:Int) l nm m (as_,(j:Int),0))
  | 0,as_,j,h,_,_=>by omega
  | m+1,as_,j,h,hj,hs=>by
    show StOK S _ (dI F S o (kk:Int) l nm (bL F S o (kk:Int) l nm m) as_ (j:Int) 0);obtain ⟨h1,h2,h3⟩:=sP (F:=F) hS (o:=o) (k:=(kk:Int)) (l:=l) (e:=0) (by omega) hj
    have htw:=tw_le eg (S.drop j)
    unfold dI jG
    rw [bT rfl,h1,br,eD hS h2 (by simp),bb,eD hS h2 (by simp),bb,h3]
    rw [← h3]
    by_cases q1:([62]:Bs).isPrefixOf (S.drop (j+((S.drop j).takeWhile eg).length))=true
    · rw [q1,Bool.true_or,dr,if_pos rfl]
      have q2:([47,62]:Bs).isPrefixOf (S.drop (j+((S.drop j).takeWhile eg).length))=false:=by
        rw [(jL q1 h2).2]; rfl
      have:=xl hF hS (o:=o) (l:=l) (nm:=nm) (as_:=as_) (em:=false) hk h2 ho hl q2.symm fun _=>q1
      exact this
    · rw [eq_false_of_ne_true q1,Bool.false_or,if_neg (by decide)]
      by_cases q2:([47,62]:Bs).isPrefixOf (S.drop (j+((S.drop j).takeWhile eg).length))=true
      · rw [q2,dr,if_pos rfl]
        have:=xl hF hS (o:=o) (l:=l) (nm:=nm) (as_:=as_) (em:=true) hk h2 ho hl q2.symm fun z=>by cases z
        exact this
      · rw [eq_false_of_ne_true q2,cJ,if_neg (by decide)]
        have e2:(S.drop (j+((S.drop j).takeWhile eg).length)).length=(S.drop j).length↔((S.drop j).takeWhile eg).length=0:=by
          rw [h3]; omega
        by_cases q3:((S.drop j).takeWhile eg).length=0
        · rw [if_pos (e2.2 q3),decide_eq_true (by omega),Bool.true_or,dr,eW,bb,sn]
          exact ⟨_,_,_,_,rfl⟩
        · rw [if_neg (fun z=>q3 (e2.1 z)),decide_eq_false (p:=(((S.drop j).takeWhile eg).length:Int)=0) (by omega),Bool.false_or]
          generalize ((S.drop j).takeWhile eg).length=c at *
          have hat:=rattr_eq hF hS (o:=o) (k:=(kk:Int)) (l:=l) h2
          by_cases q4:S.length≤j+c
          · rw [bT (by omega),eW,bb,sn]
            have:nN (dec F) (S.drop (j+c))=none:=by
              rw [aM (by omega)]; rfl
            rw [this]
            exact ⟨_,_,_,_,rfl⟩
          · rw [bF (by omega)]
            cases ea:nN (dec F) (S.drop (j+c)) with
            | none =>
              rw [ea] at hat
              obtain ⟨n,v,x,hx⟩:=hat
              rw [hx]
              show StOK S (.no 2) (cV F S o (kk:Int) l as_ n v x (bL F S o (kk:Int) l nm m) F (((0:Nat):Int),2))
              rw [oV hF hS as_ (by omega) n v x _ F 0 2 (by omega) (by omega),fl_n (by decide),ite_self]
              unfold dG
              obtain ⟨m',hm'⟩:∃ m',m=m'+1:=⟨m - 1,by omega⟩
              rw [cc (by simp; omega),bm,hm',qQ hF hS (by decide)]
              exact ⟨_,_,_,_,rfl⟩
            | some y =>
              obtain ⟨a,r⟩:=y
              have hr:=nh ea
              rw [ea] at hat
              obtain ⟨x,hx1,hx2,hx3⟩:=hat
              rw [hx3]
              show StOK S _ (cV F S o (kk:Int) l as_ a.1 a.2 (x:Int) (bL F S o (kk:Int) l nm m) F (((0:Nat):Int),0))
              rw [oV hF hS as_ (by omega) a.1 a.2 (x:Int) _ F 0 0 (by omega) (by omega),List.drop_zero,sn]
              unfold dG
              rw [cc (by simp; omega),bm]
              simp only []
              rw [← hx2] at hr ⊢
              simp only [List.length_drop] at hr
              cases hc:as_.any fun y=>decide (y.1=a.1) with
              | true =>
                obtain ⟨m',hm'⟩:∃ m',m=m'+1:=⟨m - 1,by omega⟩
                rw [if_pos rfl,if_pos rfl,hm',qQ hF hS (by decide)]
                exact ⟨_,_,_,_,rfl⟩
              | false =>
                rw [if_neg (by decide),if_neg (by decide)]
                rw [oB (k:=(S.drop j).length) (m:=(S.drop x).length+1) (by simp only [List.length_drop]; omega) (by omega)]
                exact sT hk ho hl m (as_++[a]) x (by omega) hx1 (by simp; omega)
theorem wE {i kk:Nat} (hi:i+1≤S.length) (hk:kk≤1) (ho:o.length≤20) (hl:l.length≤999000):StOK S (od (dec F) (S.drop (i+1)) o kk l) (iw F S (i:Int) o (kk:Int) l 0):=by
  unfold iw od
  rw [bD (by omega),bx]
  cases hn:gz (S.drop (i+1)) with
  | none =>
    obtain ⟨n,j,h1,h2⟩:=tp hF hS (o:=o) (k:=(kk:Int)) (l:=l) (e:=0) hi hn;obtain ⟨m',hm'⟩:∃ m',F=m'+1:=⟨F - 1,by omega⟩
    rw [h1,dS,sn]
    have:bL F S o (kk:Int) l n F ([],(j:Int),2)=some ((j:Int),o,(kk:Int),l,2):=by
      conv=>lhs; arg 7; rw [hm']
      exact qQ hF hS (by decide) m'
    exact ⟨_,_,_,_,this⟩
  | some y =>
    obtain ⟨n,r⟩:=y;obtain ⟨h1,h2,h2'⟩:=tn hF hS (o:=o) (k:=(kk:Int)) (l:=l) (e:=0) hi hn
    rw [h1,dS]
    have:=sT hF hS (o:=o) (l:=l) (nm:=n) hk ho hl F [] (i+1+n.length) (by omega) h2 (by simp; omega)
    rw [h2'] at this
    simp only []
    revert this
    cases jG (dec F) (r.length+1) [] r with
    | none=>exact id
    | some z=>exact id
end
end Go.Xm
namespace Go.Xm
open Go.Pv Go.Av
section
variable {F:Nat} (hF:1500000 < F) {S:Bs} (hS:S.length≤100000) {o:List Bs} {l:List Tok}
include hF hS
theorem tm {p q:Bs} {i kk:Nat} (hp:p.length≤100) (hp0:p≠[]) (hq:i+q.length≤S.length) (e:Int) (he:e=((i+q.length:Nat):Int)) :
    StOK S (ki p ((S.drop i).drop q.length) o kk l) (grd (okI e)<|rN (er F S e o (kk:Int) l 0 p) fun x40 x41 x42=>some (x41,o,(kk:Int),l,x42)):=by
  subst he
  rw [bD (by omega),List.drop_drop]
  unfold ki
  cases h:kh p (S.drop (i+q.length)) with
  | none =>
    rw [oQ hS hp hp0 (by omega) hq h,dS,sn]
    exact ⟨_,_,_,_,rfl⟩
  | some y =>
    obtain ⟨a,b⟩:=y;obtain ⟨h1,h2,h3⟩:=oP (F:=F) (o:=o) (k:=(kk:Int)) (l:=l) (e:=0) hS hp hp0 (by omega) hq h
    rw [h1,dS]
    exact ⟨_,h2,h3,rfl⟩
theorem rstep_eq {i kk:Nat} (hi:i < S.length) (hk:kk≤1) (ho:o.length≤20) (hl:l.length≤999000):StOK S (kB (dec F) (S.drop i) o kk l) (lj F S (i:Int) o (kk:Int) l 0):=by
  have hi':i≤S.length:=by omega
  unfold lj kB
  rw [eD hS hi' (by simp),bb,eD hS hi' (by simp),bb,eD hS hi' (by simp),bb,eD hS hi' (by simp),bb,eD hS hi' (by simp),bb,bR (by omega),bm,cF hi]
  unfold iv
  have h60:([60]:Bs).isPrefixOf (S.drop i)=decide (S[i]=60):=by
    rw [aB hi]
    by_cases c:S[i]=60
    · rw [c]; rfl
    · have:(60==S[i])=false:=by simpa using fun q=>c q.symm
      rw [decide_eq_false c]
      simp [List.isPrefixOf,this]
  rw [h60]
  by_cases c:S[i]=60
  · rw [decide_eq_true c,oL,cJ,if_neg (by decide)]
    have hd1:(S.drop i).drop 1=S.drop (i+1):=List.drop_drop
    have hd2:(S.drop i).drop 2=S.drop (i+2):=List.drop_drop
    by_cases h2:([60,33,45,45]:Bs).isPrefixOf (S.drop i)=true
    · rw [h2,dr,if_pos rfl]
      exact tm hF hS (q:=[60,33,45,45]) (by simp) (by simp) (jL h2 hi').1 _ (by simp)
    · rw [eq_false_of_ne_true h2,cJ,if_neg (by decide)]
      by_cases h3:([60,63]:Bs).isPrefixOf (S.drop i)=true
      · rw [h3,dr,if_pos rfl]
        exact tm hF hS (q:=[60,63]) (by simp) (by simp) (jL h3 hi').1 _ (by simp)
      · rw [eq_false_of_ne_true h3,cJ,if_neg (by decide)]
        by_cases h4:([60,33,91,67,68,65,84,65,91]:Bs).isPrefixOf (S.drop i)=true
        · rw [h4,dr,if_pos rfl]
          have hq:i+9≤S.length:=(jL h4 hi').1
          rw [bD (by omega),show (i:Int)+9=((i+9:Nat):Int) by omega,List.drop_drop]
          unfold pQ
          cases h:kh [93,93,62] (S.drop (i+9)) with
          | none =>
            rw [oQ hS (by simp) (by simp) (by omega) hq h,dS,sn]
            unfold fc
            by_cases g:o=[]
            · rw [bT (by rw [g]; rfl),eW,bb,nk (by omega),bb,fl_n (by decide)]
              exact ⟨_,_,_,_,rfl⟩
            · have:=List.length_pos_iff.2 g
              rw [bF (by omega),nk (by omega),bb]
              exact ⟨_,_,_,_,rfl⟩
          | some y =>
            obtain ⟨a,b⟩:=y;obtain ⟨q1,q2,q3⟩:=oP (F:=F) (o:=o) (k:=(kk:Int)) (l:=l) (e:=0) hS (by simp) (by simp) (by omega) hq h
            rw [q1,dS]
            unfold fc
            simp only []
            by_cases g:o=[]
            · rw [bT (by rw [g]; rfl),eW,bb,nk (by omega),bb,if_pos g,sn]
              exact ⟨_,_,_,_,rfl⟩
            · have:=List.length_pos_iff.2 g
              rw [bF (by omega),nk (by omega),bb,if_neg g,if_neg g]
              exact ⟨_,q2,q3,rfl⟩
        · rw [eq_false_of_ne_true h4,cJ,if_neg (by decide)]
          by_cases h5:([60,33]:Bs).isPrefixOf (S.drop i)=true
          · rw [h5,dr,if_pos rfl]
            exact tm hF hS (q:=[60,33]) (by simp) (by simp) (jL h5 hi').1 _ (by simp)
          · rw [eq_false_of_ne_true h5,cJ,if_neg (by decide)]
            by_cases h6:([60,47]:Bs).isPrefixOf (S.drop i)=true
            · rw [h6,dr,if_pos rfl,hd2]
              have:=yc hF hS (o:=o) (k:=(kk:Int)) (l:=l) (kk:=kk) (jL h6 hi').1 ho (by omega)
              revert this
              cases tE (S.drop (i+2)) o kk l with
              | ok x =>
                rintro ⟨j,a1,a2,a3,a4⟩
                rw [a4,bnd4]
                exact ⟨j,a1,a2,by rw [a3]⟩
              | no e =>
                rintro ⟨j,o',l',a4⟩
                rw [a4,bnd4]
                exact ⟨_,_,_,_,rfl⟩
            · rw [eq_false_of_ne_true h6,cJ,if_neg (by decide),hd1]
              have:=wE hF hS (o:=o) (l:=l) (i:=i) (by omega) hk ho hl
              revert this
              cases od (dec F) (S.drop (i+1)) o kk l with
              | ok x =>
                rintro ⟨j,a1,a2,a4⟩
                rw [a4,bnd5]
                exact ⟨j,a1,a2,rfl⟩
              | no e =>
                rintro ⟨j,o',k',l',a4⟩
                rw [a4,bnd5]
                exact ⟨_,_,_,_,rfl⟩
  · rw [decide_eq_false c,ns,dr,if_pos rfl]
    have:=Ae hF hS (o:=o) (k:=(kk:Int)) (l:=l) (kk:=kk) hi' (by omega)
    revert this
    cases lv (dec F) (S.drop i) o kk l with
    | ok x =>
      rintro ⟨j,a1,a2,a3,a4,a5⟩
      rw [a5,dS]
      exact ⟨j,a1,a2,by rw [a3,a4]⟩
    | no e =>
      rintro ⟨j,a5⟩
      rw [a5,dS]
      exact ⟨_,_,_,_,rfl⟩
theorem rtok_err {j k e:Int} (he:e≠0) (m:Nat):dy F S (m+1) (j,o,k,l,e)=some ([],e):=by
  show eB F S (dy F S m) j o k l e=_
  unfold eB fy
  rw [decide_eq_false he,Bool.and_false,cJ]
  unfold fA
  rw [decide_eq_false he,Bool.false_and,cJ]
  unfold fB
  rw [decide_eq_false he,bnF]
end
theorem uy {F:Nat} (hF:1500000 < F) {S:Bs} (hS:S.length≤100000):∀ (n m i:Nat) (o:List Bs) (k:Nat) (l:List Tok),S.length - i+1 < n→(S.drop i).length < m→i≤S.length→Kp o k l (900000 - 2*(S.drop i).length) →
    dy F S n ((i:Int),o,(k:Int),l,0)=some (tokE (qk (dec F) m (S.drop i,o,k,l)))
  | 0,_,i,o,k,l,h,_,_,_=>by omega
  | _,0,i,o,k,l,_,h,_,_=>by omega
  | n+1,m+1,i,o,k,l,hn,hm,hi,hk=>by
    show eB F S (dy F S n) (i:Int) o (k:Int) l 0=_
    unfold eB fy qk
    rw [decide_eq_true (p:=(0:Int)=0) rfl,Bool.and_true]
    by_cases h0:i < S.length
    · have hne:S.drop i≠[]:=by rw [aB h0]; exact List.cons_ne_nil _ _
      rw [bT (by omega),if_neg hne]
      have hs:=rstep_eq hF hS (o:=o) (l:=l) h0 hk.2.1 hk.1 (by have:=hk.2.2; omega)
      revert hs
      cases e:kB (dec F) (S.drop i) o k l with
      | no e =>
        rintro ⟨j,o',k',l',a⟩
        rw [a,bnd5]
        obtain ⟨n',hn'⟩:∃ n',n=n'+1:=⟨n - 1,by omega⟩
        simp only []
        rw [hn',rtok_err hF hS (step_no e)]
        rfl
      | ok x =>
        rintro ⟨j,a1,a2,a⟩
        rw [a,bnd5]
        have h1:=qq hne e
        have h2:=vS hk e
        obtain ⟨s',o',k',l'⟩:=x
        simp only at a2 h1 h2 ⊢
        subst a2
        simp only [List.length_drop] at h1 h2 hm
        exact uy hF hS n m j o' k' l' (by omega) (by simp only [List.length_drop]; omega) a1 ⟨h2.1,h2.2.1,by have:=h2.2.2; simp only [List.length_drop]; omega⟩
    · rw [bF (by omega),if_pos (aM (by omega))]
      unfold fA tokE
      rw [decide_eq_true (p:=(0:Int)=0) rfl,Bool.true_and]
      simp only []
      by_cases g:o=[]∧0 < k
      · rw [if_pos g,g.1,decide_eq_false (p:=(0:Int) < ((([]:List Bs).length:Nat):Int)) (by simp),decide_eq_false (p:=(k:Int)=0) (by have:=g.2; omega)]; rfl
      · rw [if_neg g]
        have:(decide ((0:Int) < (o.length:Int))||decide ((k:Int)=0))=true:=by
          by_cases q:o=[]
          · have:k=0:=Classical.byContradiction fun z=>g ⟨q,by omega⟩
            rw [decide_eq_true (p:=(k:Int)=0) (by omega),Bool.or_true]
          · have:=List.length_pos_iff.2 q
            rw [decide_eq_true (p:=(0:Int) < (o.length:Int)) (by omega),Bool.true_or]
        rw [this,dr]; rfl
theorem rtok_eq {F:Nat} (hF:1500000 < F) {S:Bs} (hS:S.length≤100000):gD F S=some (pO (dec F) S):=by
  unfold gD
  rw [bF (by omega),so]
  have:=uy hF hS F (S.length+1) 0 [] 0 [] (by omega) (by simp) (by omega) ⟨by simp,by omega,by simp⟩
  rw [List.drop_zero] at this
  exact this
theorem Ad {F:Nat} {s:Bs} (hs:100000 < s.length):gD F s=some ([],4):=by
  unfold gD
  rw [bT (by omega)]
end Go.Xm
namespace Go.Xm
open Go.Pv Go.Av
open Go.Pn (enc)
section
variable {F:Nat} (hF:1500000 < F)
include hF
theorem rwr_j1 (l:List Tok) (w:Bs) (hw:w.length≤10000000) (hl:wt l≤1000000):gl F l w=some (wrR F l w):=by
  unfold gl wrR
  by_cases h:w.length≤100000
  · rw [rtok_eq hF h,show pO (dec F) w=((pO (dec F) w).1,(pO (dec F) w).2) from rfl,br]
    rw [tr F _ _ (by have:=yX (d:=dec F) h; omega) (fun t ht=>Nat.le_trans (yY (Nat.le_refl _) t ht) (by omega)) (by omega),bb]
    by_cases e:(pO (dec F) w).2=0
    · rw [decide_eq_true e,oL]
      by_cases g:(pO (dec F) w).1=l
      · rw [decide_eq_true g,oL,Bool.or_self,cJ,if_pos ⟨h,by rw [← g,← e]⟩]
      · rw [decide_eq_false g,ns,Bool.false_or,dr,if_neg fun q=>g (congrArg Prod.fst q.2)]
    · rw [decide_eq_false e,ns,Bool.true_or,dr,if_neg fun q=>e (congrArg Prod.snd q.2)]
  · have e4:decide ((4:Int)=0)=false:=by decide
    rw [Ad (by omega),br,tr F [] l (by simp) (fun t ht=>by cases ht) (by omega),bb,e4,ns,Bool.true_or,dr,if_neg fun q=>h q.1]
theorem rwr_in (l:List Tok) (i:Nat) (hi:i < l.length) (hl:wtT l[i]≤100000) (hi2:l.length≤1000000) (rec9:Bs×Int→Option (Bs×Int)):∀ (n j:Nat) (w:Bs),l[i].2.2.2.length - j < n→j≤l[i].2.2.2.length→w.length+6*wtA (l[i].2.2.2.drop j)≤10000000 →
    ik F (i:Int) l[i] rec9 n (w,(j:Int))=dJ (i:Int) rec9 (w++((l[i].2.2.2.drop j).map (wrA enc)).flatten++[62])
  | 0,j,w,h,_,_=>by omega
  | n+1,j,w,h,hj,hw=>by
    have hb:=hl
    have hb2:=pg l[i].2.2.2
    unfold wtT at hb
    show io F (i:Int) l[i] rec9 (ik F (i:Int) l[i] rec9 n) w (j:Int)=_
    unfold io
    by_cases g:j < l[i].2.2.2.length
    · have hd:=wZ g
      have ht:=wY l[i].2.2.2 j
      have he:=(Go.Pn.enc_len l[i].2.2.2[j].2).2
      rw [bT (by omega),bR (by omega),bm,cF g,cc (by simp; omega),bm,cc (by simp; omega),bm,bR (by omega),bm,Go.Pn.renc_eq F (by omega) _ (by omega),bb,cc (by simp; omega),bm,cc (by simp; omega),bm,
        cc (by simp; omega),bm,bD (by omega),bx,rwr_in l i hi hl hi2 rec9 n (j+1) _ (by omega) (by omega) (by simp; omega),aB g,List.map_cons,List.flatten_cons]
      unfold wrA
      simp
    · rw [bF (by omega),aM (by omega)]
      unfold ij
      rw [cc (by simp; omega),bm]
      simp
theorem xi (l:List Tok) (hl:wt l≤1000000) (hM:∀ t∈l,wtT t≤100000):∀ (n i:Nat),l.length - i < n→i≤l.length→cy F l n (wrO (l.take i),(i:Int))=some (wrR F l (wrO l))
  | 0,i,h,_=>by omega
  | n+1,i,h,hi=>by
    have hll:=rJ l
    have hk:=tz (l.take i)
    have hk2:=yR l i
    show im F l (cy F l n) (wrO (l.take i)) (i:Int)=_
    unfold im
    by_cases g:i < l.length
    · have hd:=yS g
      have hb:wtT l[i]=l[i].2.1.length+l[i].2.2.1.length+wtA l[i].2.2.2+1:=rfl
      have he:=(Go.Pn.enc_len l[i].2.2.1).2
      have hm:=hM _ (List.getElem_mem g)
      have ih:=xi l hl hM n (i+1) (by omega) (by omega)
      have go:∀ w:Bs,w=wrO (l.take i)++wrT enc l[i]→dJ (i:Int) (cy F l n) w=some (wrR F l (wrO l)):=fun w e=>by
        unfold dJ
        rw [bD (by omega),bx,e,← yU l i g]
        exact ih
      rw [bT (by omega),bR (by omega),bm,cF g]
      by_cases k0:l[i].1=0
      · rw [bT k0,cc (by simp; omega),bm,cc (by simp; omega),bm]
        have:=pg l[i].2.2.2
        have h1:=rwr_in hF l i g hm (by omega) (cy F l n) F 0 (wrO (l.take i)++([60]++l[i].2.1)) (by omega) (by omega) (by simp; omega)
        refine Eq.trans h1 (go _ ?_)
        unfold wrT
        rw [if_pos k0,List.drop_zero]
        simp
      · rw [bF k0]
        by_cases k1:l[i].1=1
        · rw [bT k1,cc (by simp; omega),bm,cc (by simp; omega),bm,cc (by simp; omega),bm]
          refine go _ ?_
          unfold wrT
          rw [if_neg k0,if_pos k1]
        · rw [bF k1,Go.Pn.renc_eq F (by omega) _ (by omega),bb,cc (by omega),bm]
          refine go _ ?_
          unfold wrT
          rw [if_neg k0,if_neg k1]
    · have e:l.take i=l:=List.take_of_length_le (by omega)
      rw [bF (by omega),e]
      exact rwr_j1 hF l _ (by have:=tz l; omega) hl
theorem Aj (l:List Tok) (hl:wt l≤1000000) (hM:∀ t∈l,wtT t≤100000):mB F l=some (wrR F l (wrO l)):=by
  have:=rJ l
  exact xi hF l hl hM F 0 (by omega) (by omega)
end
structure LocK (s:Bs) (k i:Nat):Prop where
  le:k≤i
  at':k=0∨∃ h:k - 1 < s.length,s[k - 1]=58
  no:∀ (m:Nat) (h:m < s.length),k≤m→m < i→s[m]≠58
theorem lock_one {s:Bs} {a b:Nat} (ha:LocK s a s.length) (hb:LocK s b s.length):a=b:=by
  have go:∀ {a b:Nat},LocK s a s.length→LocK s b s.length→¬ a < b:=fun {a b} ha hb h=>by
    rcases hb.at' with q | ⟨h1,h2⟩
    · omega
    · exact ha.no (b - 1) h1 (by omega) h1 h2
  have:=go ha hb
  have:=go hb ha
  omega
theorem uE (s:Bs) (hs:s.length≤1000000):∀ (n j:Nat),j < n→j≤s.length→(∀ (m:Nat) (h:m < s.length),j≤m→s[m]≠58)→∃ k:Nat,LocK s k s.length∧jm s 58 n ((j:Int) - 1)=some ((k:Int) - 1)
  | 0,j,h,_,_=>by omega
  | n+1,j,h,hj,hn=>by
    show ∃ k:Nat,_∧jn s 58 (jm s 58 n) ((j:Int) - 1)=_
    unfold jn
    by_cases g:j=0
    · subst g
      refine ⟨0,⟨by omega,.inl rfl,fun m h h1 _=>hn m h h1⟩,?_⟩
      rw [bF (by omega)]; rfl
    · have g1:j - 1 < s.length:=by omega
      rw [bT (by omega),show (j:Int) - 1=((j - 1:Nat):Int) by omega,bR (by omega),bm,cF g1]
      by_cases c:s[j - 1]=58
      · rw [bT c]
        exact ⟨j,⟨hj,.inr ⟨g1,c⟩,fun m h h1 _=>hn m h h1⟩,by congr 1; omega⟩
      · rw [bF c,bD (by omega)]
        refine uE s hs n (j - 1) (by omega) (by omega) fun m h h1=>?_
        by_cases w:j≤m
        · exact hn m h w
        · have:m=j - 1:=by omega
          subst this; exact c
theorem local_is (F:Nat) (s:Bs) (hs:s.length≤1000000) (hF:1500000 < F):∃ k:Nat,LocK s k s.length∧md F s=some (s.drop k):=by
  obtain ⟨k,h1,h2⟩:=uE s hs F s.length (by omega) (Nat.le_refl _) fun m h h1=>by omega
  refine ⟨k,h1,?_⟩
  have:=h1.le
  unfold md iR nz
  rw [bD (by omega),h2,bb,bb,bD (by omega),jd (by omega),bm,show (k:Int) - 1+1=(k:Int) by omega,nl]
theorem ou (s:Bs) (hs:s.length≤1000000):∀ (n i k:Nat),s.length - i < n→i≤s.length→LocK s k i→∃ k':Nat,LocK s k' s.length∧fj s n (s.drop k,(i:Int))=some (s.drop k')
  | 0,i,k,h,_,_=>by omega
  | n+1,i,k,h,hi,hk=>by
    show ∃ k':Nat,_∧iB s (fj s n) (s.drop k) (i:Int)=_
    unfold iB
    by_cases g:i < s.length
    · rw [bT (by omega),bR (by omega),bm,cF g]
      by_cases c:s[i]=58
      · rw [bT c,bD (by omega),jd (by omega),bm,bx,nl]
        unfold fi
        rw [bD (by omega),bx]
        exact ou s hs n (i+1) (i+1) (by omega) (by omega) ⟨Nat.le_refl _,.inr ⟨g,c⟩,fun m h h1 h2=>by omega⟩
      · rw [bF c]
        unfold fi
        rw [bD (by omega),bx]
        refine ou s hs n (i+1) k (by omega) (by omega) ⟨by have:=hk.le; omega,hk.at',fun m h h1 h2=>?_⟩
        by_cases w:m < i
        · exact hk.no m h h1 w
        · have:m=i:=by omega
          subst this; exact c
    · have:i=s.length:=by omega
      subst this
      rw [bF (by omega)]
      exact ⟨k,hk,rfl⟩
theorem Af (F:Nat) (s:Bs) (hs:s.length≤1000000) (hF:1500000 < F):∃ k:Nat,LocK s k s.length∧ll F s=some (s.drop k):=by
  obtain ⟨k,h1,h2⟩:=ou s hs F 0 0 (by omega) (by omega) ⟨Nat.le_refl _,.inl rfl,fun m h h1 h2=>by omega⟩;exact ⟨k,h1,h2⟩
theorem yg (F:Nat) (s:Bs) (hs:s.length≤1000000) (hF:1500000 < F):∃ x:Bs,md F s=some x∧ll F s=some x:=by
  obtain ⟨a,h1,h2⟩:=local_is F s hs hF;obtain ⟨b,h3,h4⟩:=Af F s hs hF
  have:=lock_one h1 h3
  subst this;exact ⟨_,h2,h4⟩
theorem writes_t (F:Nat) (hF:1500000 < F) (hw:ln F=some true) (a b:List Tok) (s:Bs):gS F a b s=some true:=by
  unfold gS
  rw [hw,bb,oL]
  rcases yP F hF a with ⟨h1,h2,h3⟩ | h1
  · rcases yP F hF b with ⟨h4,h5,h6⟩ | h4
    · rw [h1,bb,h4,bb,oL,Bool.or_self,Bool.or_self,Bool.false_or]
      by_cases h:200 < s.length
      · rw [bT (by omega)]
      · obtain ⟨x,e1,e2⟩:=yg F s (by omega) hF
        have hb:AtS a 1000000:=fun t ht=>Nat.le_trans (wt_ats t ht) (by omega)
        have hlen:=rJ a
        rw [bF (by omega),Write_eq hF a (by omega) h3,Aj hF a (by omega) h3,show wrR F a (wrO a)=((wrR F a (wrO a)).1,(wrR F a (wrO a)).2) from rfl,br,br]
        rw [xp (S:=[]) (by simp) (by omega) s (by omega),bb,tr F a b (by omega) hb (by omega),bb,zK F s (by omega) (by omega),decide_eq_true rfl,decide_eq_true rfl,Bool.and_self,tD,bb]
        rw [beq_self_eq_true,Bool.and_self,tD,e1,bb,tD,e2,bb,decide_eq_true rfl,Bool.and_self,tD,zJ F a b (by omega) hb (by omega),bb,beq_self_eq_true]; rfl
    · rw [h1,bb,h4,bb,ns,Bool.or_true,Bool.true_or,dr]
  · rcases yP F hF b with ⟨h4,h5,h6⟩ | h4
    · rw [h1,bb,h4,bb,ns,Bool.or_true,Bool.true_or,Bool.true_or,dr]
    · rw [h1,bb,h4,bb,ns,Bool.or_true,Bool.true_or,dr]
theorem XmlWrites_t (a b:List Tok) (s:Bs):gS 2000000 a b s=some true:=writes_t 2000000 (by omega) awake a b s
end Go.Xm
namespace Go.Av
open Go.RowKit Go.ChangeShapes Go.WideShapes
section
variable {H:Type} {enc:TypeId×Value→H} {P:Program} {w:World}
def tJ {H:Type} (enc:TypeId×Value→H) (P:Program) (w:World) (t:TypeId) {α:Type} (E:α→List AV) (p:α→Prop):Prop :=
  ∀ fuel cs d,DataW.trod enc P w 0 (fun _=>true) true fuel t cs=some d→∃ x,p x∧RelL (Info.start w) w (E x) cs
theorem opens_int {t:TypeId} {k:IntKind} (ht:P.underlying t=some (.int k)):tJ enc P w t (fun n:Int=>[.v (.int k n)]) (fun n=>(Lit.int k n).wf=true):=by
  intro fuel cs d h;obtain ⟨n,rfl,_,hw⟩:=DataW.trod_int ht h;exact ⟨n,hw,.cons (.v _) .nil⟩
theorem opens_str {t:TypeId} (ht:P.underlying t=some .string):tJ enc P w t (fun s:List UInt8=>[S s]) (fun s=>s.length≤maxLen):=by
  intro fuel cs d h;obtain ⟨s,rfl,_,hw⟩:=DataW.trod_string ht h;refine ⟨s.data.toList,by simpa using hw,.cons (rel_string _ _ s) .nil⟩
theorem add_add (a:Addr) (m r:Nat):(a.add m).add r=a.add (m+r):=by
  unfold Addr.add
  by_cases hm:m=0
  · subst hm; simp
  · by_cases hr:r=0
    · subst hr; simp
    · simp [hm,hr,Nat.add_assoc]
theorem opens_slice {t e:TypeId} {α β:Type} {E:α→List AV} {p:α→Prop} (G:Enc β) (g:α→β) (ht:P.underlying t=some (.slice e)) (hc:P.cellsOf e=G.k)
    (h:tJ enc P w e E p) (hg:∀ x,E x=G.f (g x)):tJ enc P w t (fun l:List β=>[slE G l none]) (fun l=>l.length≤maxLen∧∀ y∈l,∃ x,g x=y∧p x):=by
  intro fuel cs d hd
  rcases DataW.trod_slice ht hd with ⟨rfl,_⟩ | ⟨a,len,cap,elems,rest,n,_,rfl,_,_,hl,hm,hlen,hel,_,_⟩
  · exact ⟨[],⟨by simp,by simp⟩,.cons (.slz _ _ _) .nil⟩
  · have go:∀ r i,i+r=len→∃ (l:List β) (vs:List Value),(l.length=r∧∀ y∈l,∃ x,g x=y∧p x)∧RelL (Info.start w) w (G.fl l) vs∧∀ j,j < vs.length→w.cell? (a.add (i*G.k+j))=vs[j]?:=by
      intro r
      induction r with
      | zero=>intro i hi; exact ⟨[],[],⟨rfl,by simp⟩,.nil,fun j hj=>by simp at hj⟩
      | succ r ih =>
        intro i hi
        have hb:=hel i (by omega)
        rw [aV (by omega),Option.bind_eq_some_iff] at hb
        obtain ⟨cs',hcs,hy⟩:=hb
        rw [hc] at hcs
        obtain ⟨_,hcl,hce⟩:=World.cells?_some hcs;obtain ⟨x,hx,rx⟩:=h _ _ _ hy
        rw [hg] at rx
        obtain ⟨l,vs,⟨l1,l2⟩,rl,hv⟩:=ih (i+1) (by omega);refine ⟨g x::l,cs'++vs,⟨by simp [l1],fun y hy=>?_⟩,by rw [G.fl_cons]; exact rx.append rl,fun j hj=>?_⟩
        · rcases List.mem_cons.1 hy with rfl | hy
          · exact ⟨x,rfl,hx⟩
          · exact l2 y hy
        · by_cases hjk:j < G.k
          · have:=hce j hjk
            rw [add_add] at this
            rw [this,List.getElem?_append_left (by omega)]
          · have:=hv (j - G.k) (by simp at hj; omega)
            rw [List.getElem?_append_right (by omega),hcl,← this,Nat.succ_mul]
            congr 2; omega
    obtain ⟨l,vs,⟨l1,l2⟩,rl,hv⟩:=go len 0 (by omega);refine ⟨l,⟨by omega,l2⟩,.cons ?_ .nil⟩
    by_cases h0:l=[]
    · subst h0
      simp at l1
      subst l1;exact .slz _ _ _
    · have hlp:=List.length_pos_iff.2 h0
      have hvl:vs.length=len*G.k:=by rw [rl.1,G.fl_length,l1]
      have hpos:=G.pos
      have hv0:0 < vs.length:=by rw [hvl]; exact Nat.mul_pos (by omega) hpos
      have hx0:=hv 0 hv0
      rw [aV hv0,Nat.zero_mul] at hx0
      obtain ⟨hb,hs⟩:=zD hx0
      have hx:a=⟨a.block,a.off,none⟩:=by
        have:a.add (0+0)=a:=rfl
        rw [this] at hs
        cases a; simp at hs; subst hs; rfl
      have hb':a.block < w.heap.size:=hb
      rw [hx]
      have hadd:∀ i,w.cell? ⟨a.block,a.off+i,none⟩=w.cell? (a.add i):=fun i=>by
        unfold Addr.add
        by_cases h:i=0
        · rw [if_pos h]; subst h; rw [Nat.add_zero,← hx]
        · rw [if_neg h]
      unfold slE
      have hfl:(G.fl l).length=vs.length:=rl.1.symm
      refine .sl G.k (G.fl l) none a.block a.off len cap (fun j=>vs.getD j undef) G.pos (by rw [hfl,hvl]) hl (sO hb') ?_ ?_ (fun _ h=>by cases h)
      · intro j hj
        have:=hv j (by omega)
        rw [Nat.zero_mul,Nat.zero_add] at this
        rw [hadd j,this,aV (by omega)]
        simp [List.getD,show j < vs.length by omega]
      · intro j hj
        have:=rl.2 j hj
        simpa [List.getD,show j < vs.length by omega] using this
def wq {H:Type} (enc:TypeId×Value→H) (P:Program) (w:World) (tot off:Nat) (fs:List Field) {α:Type} (E:α→List AV) (p:α→Prop):Prop :=
  ∀ (n:Nat) (cs:List Value),cs.length=tot→(∀ f∈fs,∃ d,DataW.trod enc P w 0 (fun _=>true) true n f.type ((cs.drop f.offset).take (P.cellsOf f.type))=some d)→∃ x,p x∧RelL (Info.start w) w (E x) (cs.drop off)
theorem opensF_nil {tot:Nat}:wq enc P w tot tot [] (fun _:Unit=>[]) (fun _=>True):=fun n cs hl _=>⟨(),trivial,by rw [aM (by omega)]; exact .nil⟩
theorem opensF_cons {tot off k:Nat} {f:Field} {fs:List Field} {α β:Type} {E:α→List AV} {p:α→Prop} {F:β→List AV} {q:β→Prop} (ho:f.offset=off) (hk:P.cellsOf f.type=k)
    (h:tJ enc P w f.type E p) (g:wq enc P w tot (off+k) fs F q):wq enc P w tot off (f::fs) (fun x:α×β=>E x.1++F x.2) (fun x=>p x.1∧q x.2):=by
  intro n cs hl H;obtain ⟨d,hd⟩:=H f (by simp);obtain ⟨x,hx,rx⟩:=h _ _ _ hd
  obtain ⟨y,hy,ry⟩:=g n cs hl fun f' hf'=>H f' (by simp [hf'])
  refine ⟨(x,y),⟨hx,hy⟩,?_⟩
  rw [ho,hk] at rx
  have:=rx.append ry
  rwa [← List.drop_drop,List.take_append_drop] at this
theorem opens_struct {t:TypeId} {fs:Array Field} {tot:Nat} {α:Type} {E:α→List AV} {p:α→Prop} (ht:P.underlying t=some (.struct fs)) (hc:P.cellsOf t=tot) (h:wq enc P w tot 0 fs.toList E p) :
    tJ enc P w t E p:=by
  intro fuel cs d hd;obtain ⟨xs,n,_,_,hl,hlen,each⟩:=DataW.trod_struct ht hd
  obtain ⟨x,hx,rx⟩:=h n cs (by omega) fun f hf=>by
    obtain ⟨i,hi,rfl⟩:=List.getElem_of_mem hf
    have hi':i < fs.size:=by simpa using hi
    rw [each i _ (by simp [hi'])]
    exact ⟨xs[i]'(by omega),aV _⟩
  exact ⟨x,hx,by simpa using rx⟩
theorem one_of {t:TypeId} {v:Value} {d:DataW H} {ps:List MemPlace} {α:Type} {E:α→AV} {p:α→Prop} (hv:v.cells = #[v]) (hd:DataW.Trod enc P w 0 (fun _=>true) true t v d ps) (h:tJ enc P w t (fun x=>[E x]) p) :
    ∃ x,p x∧Rel (Info.start w) w (E x) v:=by
  obtain ⟨fuel,hf⟩:=hd;obtain ⟨x,hx,rx⟩:=h _ _ _ hf
  rw [hv] at rx
  exact ⟨x,hx,rx.head⟩
end
end Go.Av
