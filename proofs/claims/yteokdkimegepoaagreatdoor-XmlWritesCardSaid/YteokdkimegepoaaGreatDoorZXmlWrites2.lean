/-
  Texts in one (only what XmlWrites needs): AvN, AvOwn, StrPure, PvLib, P11Lib, P11Build, P11Join, P11Split, AvDefer, AvFn, AvLaw, AvCard, AvPan, AvArr, AvStill, AvLoop, AvFor, PvSl, AvHd, AvSl, AvBig, AvTab, AvTv, AvXm, AvStk, AvStg, LibSW, PvO, EntAP, EntAW, NumP, NumW, AnyP, AnyW, EntBP.
-/
import Derived.Test.YteokdkimegepoaaGreatDoorZXmlWrites1
import Derived.Lib.SplitLaws
import Derived.Lib.IndexMore
import Derived.Lib.Strings
import Derived.Lib.SlTrimSet
import Derived.Lib.Atoi
import Derived.Test.YteokdkimegepoaaGreatDoorShelf
import Derived.Recover
import Derived.Below
import Derived.ProofKit
import Derived.HandedShaped
import Derived.Shelf.Vars
import Derived.LaidLaws
import Derived.LaidMore
import Derived.Stop.Joined
import Derived.MakeChecks
import Derived.LoopNIn
import Derived.Laws.MakeOwn
import Derived.RangeFuncLeaves
import Derived.RangeFuncRecord
import Derived.Lib.FieldsP
import Derived.Laws.StructEq
import Derived.Lib.SlFresh
import Derived.Lib.SlParts
import Derived.Shelf.Bytes.SlSmallAll
import Derived.Shelf.Strings.FuncGrows
import Derived.Lib.LaidTab
import Derived.Lib.ItoaNum
import Derived.Lib.AppendIntMem
import Derived.Lib.IndexLaws
import Derived.Test.YteokdkimegepoaaGreatDoorChecked
import Derived.Lib.IndexAny
set_option linter.unusedVariables false
set_option linter.unusedSimpArgs false
set_option linter.unusedSectionVars false
namespace Go.Av
open Go.RowKit Go.Pv
section
variable {P:Program} {ro:Option Nat} {N:Nat} {Q:gt} {ops:Array Oper} {l:List Nat} {e:Env} {ds:List ADef} {A:List Chunk}
end
section
variable {P:Program} {e:Env} {d:Option Nat} {T:TypeId} {pos:String} {after:Array Edge} {g:Option (Nat×Bool)} {x:Operand} {A:List Chunk}
def isAgg:AV→Bool
  | .agg _=>true
  | _=>false
theorem zw {a:AV} (h:isAgg a=true):∃ cs,a=.agg cs:=by
  cases a <;> first | exact ⟨_,rfl⟩ | cases h
def vX (e:Env) (parts:List (Nat×Operand)):Bool:=parts.all fun p=>cE (opv e p.2)||isAgg (opv e p.2)
theorem eH {parts:Array (Nat×Operand)} {zs:List Value} {ps:List (Nat×Nat)} {cs:List AV} {T2:TypeId} (hi:pH P T=some (zs,ps))
    (hok:vX e parts.toList=true) (hf:tI ps (zs.map .v) (parts.toList.map fun p=>(p.1,opv e p.2))=some cs):OpS P ⟨d,.build T parts,T2,pos,after,g⟩ e (.agg cs) :=
  Ak hi (fun p hp=>by
    have h:=List.all_eq_true.1 hok p hp
    cases hc:cE (opv e p.2) with
    | true=>exact .inl rfl
    | false=>rw [hc,Bool.false_or] at h; exact .inr (zw h)) hf
end
section
variable {P:Program} {ro:Option Nat} {N:Nat} {Q:gt} {ops:Array Oper}
theorem eI {fuel:Nat} {listed:Array Bool} {i j t:Nat} {o:Oper} {want b:Bool} {s:St} (hr:Region.ready .any ops listed=[i]) (ho:ops[i]?=some o) (hg:o.guard=some (j,want))
    (hj:(ops[j]?).bind (·.dst)=some t) (hb:ev s.env t=.v (.bool b)) (ht:Nat.blt t N=true) (hw:b=want)
    (h:AIO P ro N ops Q fuel (listed.setIfInBounds i true) o s):AI P ro N ops Q (fuel+1) listed s:=fun hp F I0 w0 I w a E hI hS=>by
  refine ⟨fun h0=>(by rw [hr] at h0; cases h0),fun k hk=>?_⟩
  rw [hr] at hk
  simp at hk
  subst hk;obtain ⟨e,ds,A⟩:=s
  have hy:=oM (ops:=ops) hS hj hb ht
  have hwant:Region.wanted o (yielded ops a.tmps)=true:=by simp only [Region.wanted,hg,hy,hw]; cases want <;> rfl
  unfold Go.wpOpIn
  simp only [ho,hwant,if_true]
  exact h hp (hp _ o ho) F I0 w0 I w a E hI hS
theorem AI.meet {e:Env} {ds:List ADef} {A:List Chunk} {fuel0:Nat} {listed0:Array Bool} (fuel:Nat) (listed:Array Bool) (d:Nat) (av:AV)
    (k:(∀ (r:Env) (m:Nat),r.drop m=e→fresh ((r.take m).map Prod.fst) e=true→AI P ro N ops Q fuel listed ⟨(d,av)::r,ds,A⟩)→AI P ro N ops Q fuel0 listed0 ⟨e,ds,A⟩)
    (h:AI P ro N ops Q fuel listed ⟨(d,av)::e,ds,A⟩):AI P ro N ops Q fuel0 listed0 ⟨e,ds,A⟩ :=
  k fun r m hr hf=>fun hp F I0 w0 I w a E hI hS=>h hp F I0 w0 I w a E hI ⟨hS.size,fun t=>by
    have ht:=hS.env t
    have hre:r=r.take m++e:=by rw [← hr,List.take_append_drop]
    generalize r.take m=pre at hf hre
    subst hre
    simp only [ev] at ht ⊢
    cases hb:Nat.beq d t with
    | true=>rw [hb] at ht; exact ht
    | false =>
      rw [hb] at ht
      simp only at ht ⊢
      by_cases hm:∃ p∈pre,p.1=t
      · obtain ⟨p,hp,rfl⟩:=hm
        have:ev e p.1=.any:=by
          clear ht hS hI h k hr
          induction e with
          | nil=>rfl
          | cons q e ih =>
            obtain ⟨j,b⟩:=q
            simp only [fresh,List.all_cons,Bool.and_eq_true,Bool.not_eq_true'] at hf
            have hj:j≠p.1:=fun e=>by
              have:=hf.1
              rw [e] at this
              have h2:(pre.map Prod.fst).contains p.1=true:=by simpa using ⟨p.2,hp⟩
              rw [h2] at this; cases this
            simp only [ev]
            have hb:Nat.beq j p.1=false:=by
              cases hb:Nat.beq j p.1 with
              | false=>rfl
              | true=>exact absurd (Nat.eq_of_beq_eq_true hb) hj
            rw [hb]
            exact ih hf.2
        rw [this]; exact .any _
      · rw [← lA pre t (fun p hp e=>hm ⟨p,hp,e⟩)]; exact ht,hS.ds⟩
end
end Go.Av
namespace Go.Av
open Go.RowKit Go.Pv
def Info.stillN (I:Info) (b n:Nat):Info:={ I with ext:=fun x=>if x=b then some n else I.ext x }
theorem Inv.other {I:Info} {A:List Chunk} {w:World} {c:Chunk} {b:Nat} (h:Inv I (c::A) w) (hc:c.blk I=some b):∀ d∈A,∀ b',d.blk I=some b'→b'≠b:=by
  intro d hd b' hb' e;subst e
  have hn:=h.nodup
  rw [List.filterMap_cons,hc] at hn
  exact (List.nodup_cons.1 hn).1 (List.mem_filterMap.2 ⟨d,hd,hb'⟩)
theorem Inv.freeze {I:Info} {A:List Chunk} {w:World} {o:Nat} {cs:List AV} (h:Inv I (.obj o cs::A) w) (n:Nat) (hn:n≤cs.length) :
    ∃ I',Ext I w I' w∧Inv I' A w∧∀ cap v,n≤cap→Rel I w (.vw o 0 n cap) v→Rel I' w (.sl 1 (cs.take n) none) v:=by
  obtain ⟨b,arr,ho,he,hca,hrl⟩:=h.holds _ (List.mem_cons_self ..)
  have hbl:(Chunk.obj o cs).blk I=some b:=ho
  have E:Ext I w (I.stillN b n) w:=by
    refine ⟨rfl,rfl,rfl,Nat.le_refl _,fun b' hb'=>⟨rfl,?_⟩,fun _ _ _=>rfl,fun b' m hs=>?_,fun _ _ x=>x,fun _ _ x=>x,fun _ _ x=>x⟩
    · simp only [Info.stillN]
      rw [if_neg]
      · exact hb'
      · rintro rfl; rw [he] at hb'; cases hb'
    · intro q hq
      simp only [Info.stillN] at hq
      by_cases e:b'=b
      · subst e
        have:=hs 0 he
        omega
      · rw [if_neg e] at hq; exact hs q hq
  refine ⟨I.stillN b n,E,?_,?_⟩
  · have hA:Inv I A w:=h.sub (List.sublist_cons_self ..)
    refine hA.keep E (fun c hc b' hb'=>⟨rfl,?_⟩) (fun b' hb'=>?_) h.ids
    · simp only [Info.stillN]; rw [if_neg (h.other hbl c hc b' hb')]
    · have hlt:=hca.lt
      simp only [Info.stillN]; rw [if_neg (by omega)]; exact h.fresh b' hb'
  · intro cap v hcap hv
    cases hv with
    | vw o off len cap b' ho' =>
      rw [ho] at ho'; cases ho'
      have hlen:arr.length=cs.length:=hrl.1
      have htk:(cs.take n).length=n:=by simp; omega
      refine .sl 1 _ none b 0 n cap (fun j=>arr.getD j undef) Nat.one_pos (by rw [htk,Nat.mul_one]) hcap ?_ ?_ ?_ (fun t' e=>by cases e)
      · intro q hq
        simp only [Info.stillN,if_true,Option.some.injEq] at hq
        omega
      · intro j hj
        rw [Nat.zero_add,hca.cell,List.getD,aV (by omega)]; rfl
      · intro j hj
        have:=(hrl.2 j (by omega)).mono E
        simpa using this
section
variable {P:Program} {ro:Option Nat} {N:Nat} {Q:gt}
end
section
variable {P:Program} {e:Env} {d:Option Nat} {T:TypeId} {pos:String} {after:Array Edge} {g:Option (Nat×Bool)} {x y z:Operand} {av:AV} {A:List Chunk}
end
section
variable {P:Program} {I:Info} {w:World}
end
section
variable {P:Program} {e:Env} {d:Option Nat} {T:TypeId} {pos:String} {after:Array Edge} {g:Option (Nat×Bool)} {x y z:Operand} {av:AV} {A:List Chunk}
end
section
variable {P:Program} {e:Env} {d:Option Nat} {T T2:TypeId} {pos:String} {after:Array Edge} {g:Option (Nat×Bool)} {x y z:Operand} {av:AV} {A:List Chunk}
end
section
variable {P:Program} {e:Env} {d:Option Nat} {T:TypeId} {pos:String} {after:Array Edge} {g:Option (Nat×Bool)} {x y z:Operand} {av:AV} {A:List Chunk}
end
section
variable {P:Program} {ro:Option Nat} {N:Nat} {Q:gt}
end
end Go.Av
namespace Go.Av.Str
def rest (sep:List UInt8):List (List UInt8)→List UInt8
  | []=>[]
  | x::r=>sep++x++rest sep r
def join (sep:List UInt8):List (List UInt8)→List UInt8
  | []=>[]
  | x::r=>x++rest sep r
def total:List (List UInt8)→Nat
  | []=>0
  | x::r=>x.length+total r
theorem total_drop (l:List (List UInt8)) (i:Nat) (h:i < l.length):total (l.drop i)=l[i].length+total (l.drop (i+1)):=by
  rw [aB h]; rfl
theorem rest_drop (sep:List UInt8) (l:List (List UInt8)) (i:Nat) (h:i < l.length):rest sep (l.drop i)=sep++l[i]++rest sep (l.drop (i+1)):=by
  rw [aB h]; rfl
theorem rest_end (sep:List UInt8) (l:List (List UInt8)) (i:Nat) (h:l.length≤i):rest sep (l.drop i)=[]:=by
  rw [aM h]; rfl
theorem ru (sep:List UInt8):∀ l,(rest sep l).length=sep.length*l.length+total l
  | []=>by simp [rest,total]
  | x::r=>by
    have:=ru sep r
    simp only [rest,total,List.length_append,List.length_cons,Nat.mul_succ]; omega
theorem join_at (sep:List UInt8) (l:List (List UInt8)) (h:0 < l.length):join sep l=l[0]++rest sep (l.drop 1):=by
  cases l with
  | nil=>simp at h
  | cons x r=>rfl
theorem join_one (sep:List UInt8) (l:List (List UInt8)) (h:l.length=1) (h0:0 < l.length):join sep l=l[0]:=by
  rw [join_at sep l h0,rest_end _ _ _ (by omega),List.append_nil]
theorem mul_bounds (a b N:Nat) (h:a*b≤N) (hb:1≤b):0≤(a:Int)*((b:Int) - 1)∧(a:Int)*((b:Int) - 1)≤N:=by
  have h1:((a*(b - 1):Nat):Int)=(a:Int)*((b:Int) - 1):=by rw [Int.natCast_mul,Int.natCast_sub hb]; rfl
  rw [← h1]
  have h2:a*(b - 1)≤a*b:=Nat.mul_le_mul_left _ (by omega)
  omega
theorem quo_great (a b N:Nat) (h:a*b≤1000000000) (hb:2≤b) (hb2:b≤1000000000):¬ (9223372036854775807 / ((b:Int) - 1)≤(a:Int)):=by
  intro h1
  have hp:(0:Int) < (b:Int) - 1:=by omega
  have h2:(9223372036854775807:Int) < ((a:Int)+1)*((b:Int) - 1):=by
    have:=Int.lt_ediv_add_one_mul_self 9223372036854775807 hp
    have h3:((9223372036854775807 / ((b:Int) - 1))+1)*((b:Int) - 1)≤((a:Int)+1)*((b:Int) - 1):=Int.mul_le_mul_of_nonneg_right (by omega) (by omega)
    omega
  have h4:=(mul_bounds a b 1000000000 h (by omega)).2
  rw [Int.add_mul,Int.one_mul] at h2
  omega
theorem rA (sep:List UInt8) (l:List (List UInt8)):(join sep l).length≤sep.length*l.length+total l:=by
  cases l with
  | nil=>simp [join]
  | cons x r =>
    simp only [join,List.length_append,ru,List.length_cons,total]
    have:sep.length*r.length≤sep.length*(r.length+1):=Nat.mul_le_mul_left _ (by omega)
    omega
theorem room (sep out:List UInt8) (l:List (List UInt8)) (i:Nat) (h:i < l.length) (h2:out++rest sep (l.drop i)=join sep l) (hb:sep.length*l.length+total l≤1000000000):out.length+sep.length+l[i].length≤1000000000:=by
  have h3:=congrArg List.length h2
  have h4:=rA sep l
  rw [rest_drop sep l i h] at h3
  simp only [List.length_append] at h3
  omega
theorem out_room (sep out r:List UInt8) (l:List (List UInt8)) (h2:out++r=join sep l) (hb:sep.length*l.length+total l≤1000000000):out.length≤1000000000:=by
  have h3:=congrArg List.length h2
  have h4:=rA sep l
  simp only [List.length_append] at h3
  omega
theorem mul_cast (a b:Nat) (hb:1≤b):0+(a:Int)*((b:Int) - 1)=((a*(b - 1):Nat):Int):=by
  rw [Int.natCast_mul,Int.natCast_sub hb,Int.zero_add]; rfl
end Go.Av.Str
namespace Go.Pv
open Go.Av
def okS (n:Nat):Bool:=decide (n < 4294967281)
def wk (l:List (List UInt8)) (sep:List UInt8):Bool:=decide (sep.length*l.length+Str.total l≤1000000000∧l.length≤1000000000)
def okW (l s:List UInt8):Bool:=decide (l.length+s.length≤1000000000)
theorem pP {n:Nat} (h:okS n=true):n < 4294967281:=of_decide_eq_true h
theorem xu {l:List (List UInt8)} {sep:List UInt8} (h:wk l sep=true):sep.length*l.length+Str.total l≤1000000000∧l.length≤1000000000:=of_decide_eq_true h
theorem qM {l s:List UInt8} (h:okW l s=true):l.length+s.length≤1000000000:=of_decide_eq_true h
theorem okW0_s {l:List UInt8} (h:okW l []=true):l.length≤1000000000:=by have:=qM h; simpa using this
section
variable {ρ:Type} {k:Option ρ}
theorem pn {n:Nat} (h:n < 4294967281):grd (okS n) k=k:=by rw [okS,decide_eq_true h]; rfl
theorem grd_Join {l:List (List UInt8)} {sep:List UInt8} (h:sep.length*l.length+Str.total l≤1000000000∧l.length≤1000000000):grd (wk l sep) k=k:=by rw [wk,decide_eq_true h]; rfl
theorem grd_W {l s:List UInt8} (h:l.length+s.length≤1000000000):grd (okW l s) k=k:=by rw [okW,decide_eq_true h]; rfl
end
def km (l:List UInt8):Bool:=l.all fun b=>decide (b.toNat < 128)
theorem tw {l:List UInt8} (h:km l=true):∀ (j:Nat) b,l[j]?=some b→b.toNat < 128:=fun j b hj=>of_decide_eq_true (List.all_eq_true.1 h b (List.mem_of_getElem? hj))
def trimPrefix (s p:List UInt8):List UInt8:=if p.isPrefixOf s then s.drop p.length else s
end Go.Pv
namespace Go.Proofs.YteokdkimegepoaaGreatDoor
open Go.RowKit Go.Av
theorem lib_Cut (s sep:List UInt8) (hs:s.length < 4294967281):ACalls Tryz.prog 94 [S s,S sep] [] (Ret (.tup [S (Go.Lib.cut s sep).1,S (Go.Lib.cut s sep).2.1,B (Go.Lib.cut s sep).2.2]) []):=by
  refine lC (rs:=[.string ⟨(Go.Lib.cut s sep).1.toArray⟩,.string ⟨(Go.Lib.cut s sep).2.1.toArray⟩,.bool (Go.Lib.cut s sep).2.2]) rfl fun I A w vs hI hv=>?_
  obtain ⟨v1,r1,rfl,h1,hv⟩:=hv.out_cons;obtain ⟨v2,r2,rfl,h2,hv⟩:=hv.out_cons
  rw [hv.out_nil,kD h1,kD h2]
  obtain ⟨m,hm⟩:=uG hI (g:=0) (k:=.i64) (r:=[]) rfl
  refine (Tryz.strings_Cut ⟨s.toArray⟩ ⟨sep.toArray⟩ m w (by simpa [ByteArray.size] using hs) hm).mono fun e w' ⟨he,n,hw⟩=>⟨by simpa using he,hw ▸ Below.drewN _ _⟩
theorem fY (s:List UInt8) (c:UInt8):ACalls Tryz.prog 62 [S s,u8 c] [] (Ret (i64 (Go.Lib.indexByte s c)) []):=by
  refine fF fun I A w vs hI hv=>?_
  obtain ⟨v1,r1,rfl,h1,hv⟩:=hv.out_cons;obtain ⟨v2,r2,rfl,h2,hv⟩:=hv.out_cons
  rw [hv.out_nil,kD h1,cf h2]
  refine (Tryz.strings_IndexByte ⟨s.toArray⟩ c.toNat w).mono fun e w' ⟨he,hw⟩=>⟨by simpa using he,hw ▸ Below.refl _ _⟩
end Go.Proofs.YteokdkimegepoaaGreatDoor
namespace Go.Proofs.YteokdkimegepoaaGreatDoor
open Go.RowKit Go.Av
theorem en51:∀ (args:Array Value) (w:World),(callFunc 51 args).run Tryz.prog w=.ok (.enter 51 args) w:=fun _ _=>by kernel_rfl
theorem en28:∀ (args:Array Value) (w:World),(callFunc 28 args).run Tryz.prog w=.ok (.enter 28 args) w:=fun _ _=>by kernel_rfl
theorem en30:∀ (args:Array Value) (w:World),(callFunc 30 args).run Tryz.prog w=.ok (.enter 30 args) w:=fun _ _=>by kernel_rfl
theorem en109:∀ (args:Array Value) (w:World),(callFunc 109 args).run Tryz.prog w=.ok (.enter 109 args) w:=fun _ _=>by kernel_rfl
theorem en123:∀ (args:Array Value) (w:World),(callFunc 123 args).run Tryz.prog w=.ok (.enter 123 args) w:=fun _ _=>by kernel_rfl
abbrev _root_.Go.Av.bE := @Tryz.underlying58
abbrev _root_.Go.Av.fJ := @Tryz.underlying92
set_option maxRecDepth 100000 in
set_option maxHeartbeats 1000000 in
theorem pc (o:Nat) (b:AV) :
    ACalls Tryz.prog 51 [.pt o 0] [.obj o [.v (.pointer none),b],.ty o 60] (Ret (.tup []) [.obj o [.pt o 0,b],.ty o 60]):=by
  refine az Tryz.func51 rfl rfl ?_;show AW _ _ 20 _ _ _;refine ac<|aa ?_;show AR _ _ _ _ _ [0,1,2,3,4] _;refine ar rfl rfl ?_
  first | (refine aE rfl rfl (ah (av:=.pt _ _) rfl) ?_) | (refine aE rfl rfl (ah (av:=.cp _) rfl) ?_) | (refine aE rfl rfl (ah (av:=.v _) rfl) ?_)
  refine ar rfl rfl ?_
  first | (refine aE rfl rfl (am rfl) ?_) | (refine aE rfl rfl (bu rfl) ?_) | (refine aE rfl rfl (bJ rfl) ?_)
  refine ar rfl rfl<|aE rfl rfl (ai (n:=0) (by kernel_rfl) rfl)<|ar rfl rfl ?_
  first | refine aE rfl rfl (aG bE rfl rfl) ?_ | refine cG rfl rfl (al (i:=0) bE rfl rfl rfl rfl) ?_ | refine cG rfl rfl (al (i:=1) bE rfl rfl rfl rfl) ?_
  refine ar rfl rfl ?_
  first | (refine aE rfl rfl (qd bE rfl rfl) ?_) | (refine aE rfl rfl (py bE rfl rfl) ?_)
  refine ag<|ax rfl (fun c1=>?_) (fun c1=>?_)
  · have c1p:=c1; try simp only [decide_eq_true_eq,decide_eq_false_iff_not,Bool.not_eq_true',Bool.not_eq_false',Bool.not_true,Bool.not_false,Bool.not_eq_eq_eq_not] at c1p
    refine aa ?_;show AR _ _ _ _ _ [0,1,2,3,4,5,6,7] _;refine ar rfl rfl ?_
    first | (refine aE rfl rfl (ah (av:=.pt _ _) rfl) ?_) | (refine aE rfl rfl (ah (av:=.cp _) rfl) ?_) | (refine aE rfl rfl (ah (av:=.v _) rfl) ?_)
    refine ar rfl rfl ?_
    first | (refine aE rfl rfl (ah (av:=.pt _ _) rfl) ?_) | (refine aE rfl rfl (ah (av:=.cp _) rfl) ?_) | (refine aE rfl rfl (ah (av:=.v _) rfl) ?_)
    refine ar rfl rfl ?_
    first | (refine cG rfl rfl (pA (i:=0) (k:=2) bE fJ (by kernel_rfl) (by decide) rfl rfl ?h1) ?_; (case h1=>(simp))) | (refine cG rfl rfl (pA (i:=1) (k:=2) bE fJ (by kernel_rfl) (by decide) rfl rfl ?h2) ?_; (case h2=>(simp)))
    refine ar rfl rfl<|aE rfl rfl (wJ (a:=.pt _ _) Tryz.func81 ⟨by kernel_rfl,by kernel_rfl,by kernel_rfl,by kernel_rfl⟩ rfl)<|ar rfl rfl ?_
    first | refine cG rfl rfl (nH (i:=0) (j:=1) (k:=2) fJ bE (by kernel_rfl) rfl rfl rfl (by kernel_rfl)) ?_ | refine cG rfl rfl (nH (i:=1) (j:=0) (k:=2) fJ bE (by kernel_rfl) rfl rfl rfl (by kernel_rfl)) ?_
    refine ar rfl rfl ?_
    first | (refine aE rfl rfl (am rfl) ?_) | (refine aE rfl rfl (bu rfl) ?_) | (refine aE rfl rfl (bJ rfl) ?_)
    refine ar rfl rfl<|aE rfl rfl (ai (n:=0) (by kernel_rfl) rfl)<|ar rfl rfl ?_
    first | (refine dM rfl (aA (i:=0) (c:=.pt _ _) (by kernel_rfl) rfl rfl rfl rfl ?h4) ?_; (case h4=>(simp))) | (refine dM rfl (aA (i:=0) (c:=.cp _) (by kernel_rfl) rfl rfl rfl rfl ?h5) ?_; (case h5=>(simp))) | (refine dM rfl (aA (i:=0) (c:=.v _) (by kernel_rfl) rfl rfl rfl rfl ?h6) ?_; (case h6=>(simp))) | (refine dM rfl (aA (i:=1) (c:=.pt _ _) (by kernel_rfl) rfl rfl rfl rfl ?h7) ?_; (case h7=>(simp))) | (refine dM rfl (aA (i:=1) (c:=.cp _) (by kernel_rfl) rfl rfl rfl rfl ?h8) ?_; (case h8=>(simp))) | (refine dM rfl (aA (i:=1) (c:=.v _) (by kernel_rfl) rfl rfl rfl rfl ?h9) ?_; (case h9=>(simp)))
    refine ag ?_
    -- END 1 (end)
    show dn _ _ _ _ .normal _
    (refine ⟨rfl,_,_,bp rfl,?_,⟨rfl,rfl⟩⟩; all_goals first | exact bX _ | exact bC _ | ((repeat (first | exact bX _ | exact bC _ | refine gd _ ?_ | refine gc _ ?_)); done) | exact Wv.refl _ | exact Wv.tok _ _ _ | exact Wv.nil _)
  · exact absurd c1 (by decide)
set_option maxRecDepth 100000 in
set_option maxHeartbeats 1000000 in
theorem pb (o:Nat) (b:AV) :
    ACalls Tryz.prog 51 [.pt o 0] [.obj o [.pt o 0,b],.ty o 60] (Ret (.tup []) [.obj o [.pt o 0,b],.ty o 60]):=by
  refine az Tryz.func51 rfl rfl ?_;show AW _ _ 20 _ _ _;refine ac<|aa ?_;show AR _ _ _ _ _ [0,1,2,3,4] _;refine ar rfl rfl ?_
  first | (refine aE rfl rfl (ah (av:=.pt _ _) rfl) ?_) | (refine aE rfl rfl (ah (av:=.cp _) rfl) ?_) | (refine aE rfl rfl (ah (av:=.v _) rfl) ?_)
  refine ar rfl rfl ?_
  first | (refine aE rfl rfl (am rfl) ?_) | (refine aE rfl rfl (bu rfl) ?_) | (refine aE rfl rfl (bJ rfl) ?_)
  refine ar rfl rfl<|aE rfl rfl (ai (n:=0) (by kernel_rfl) rfl)<|ar rfl rfl ?_
  first | refine aE rfl rfl (aG bE rfl rfl) ?_ | refine cG rfl rfl (al (i:=0) bE rfl rfl rfl rfl) ?_ | refine cG rfl rfl (al (i:=1) bE rfl rfl rfl rfl) ?_
  refine ar rfl rfl ?_
  first | (refine aE rfl rfl (qd bE rfl rfl) ?_) | (refine aE rfl rfl (py bE rfl rfl) ?_)
  refine ag<|ax rfl (fun c1=>?_) (fun c1=>?_)
  · exact absurd c1 (by decide)
  · have c1p:=c1; try simp only [decide_eq_true_eq,decide_eq_false_iff_not,Bool.not_eq_true',Bool.not_eq_false',Bool.not_true,Bool.not_false,Bool.not_eq_eq_eq_not] at c1p
    refine ac<|aa ?_;show AR _ _ _ _ _ [0,1,2,3,4,5] _;refine ar rfl rfl ?_
    first | (refine aE rfl rfl (ah (av:=.pt _ _) rfl) ?_) | (refine aE rfl rfl (ah (av:=.cp _) rfl) ?_) | (refine aE rfl rfl (ah (av:=.v _) rfl) ?_)
    refine ar rfl rfl ?_
    first | (refine aE rfl rfl (am rfl) ?_) | (refine aE rfl rfl (bu rfl) ?_) | (refine aE rfl rfl (bJ rfl) ?_)
    refine ar rfl rfl<|aE rfl rfl (ai (n:=0) (by kernel_rfl) rfl)<|ar rfl rfl ?_
    first | refine aE rfl rfl (aG bE rfl rfl) ?_ | refine cG rfl rfl (al (i:=0) bE rfl rfl rfl rfl) ?_ | refine cG rfl rfl (al (i:=1) bE rfl rfl rfl rfl) ?_
    refine ar rfl rfl ?_
    first | (refine aE rfl rfl (ah (av:=.pt _ _) rfl) ?_) | (refine aE rfl rfl (ah (av:=.cp _) rfl) ?_) | (refine aE rfl rfl (ah (av:=.v _) rfl) ?_)
    refine ar rfl rfl ?_
    first | (refine aE rfl rfl (vE bE rfl rfl) ?_) | (refine aE rfl rfl (tZ bE rfl rfl) ?_) | (refine aE rfl rfl (wK (k:=2) bE (by kernel_rfl) (by decide) rfl rfl) ?_)
    refine ag<|ax rfl (fun c2=>?_) (fun c2=>?_)
    · have c2p:=c2; try simp only [decide_eq_true_eq,decide_eq_false_iff_not,Bool.not_eq_true',Bool.not_eq_false',Bool.not_true,Bool.not_false,Bool.not_eq_eq_eq_not] at c2p
      exfalso; first | omega | simp_all
    · have c2p:=c2; try simp only [decide_eq_true_eq,decide_eq_false_iff_not,Bool.not_eq_true',Bool.not_eq_false',Bool.not_true,Bool.not_false,Bool.not_eq_eq_eq_not] at c2p
      refine aC ?_
      -- END 1 (end)
      show dn _ _ _ _ .normal _
      (refine ⟨rfl,_,_,bp rfl,?_,⟨rfl,rfl⟩⟩; all_goals first | exact bX _ | exact bC _ | ((repeat (first | exact bX _ | exact bC _ | refine gd _ ?_ | refine gc _ ?_)); done) | exact Wv.refl _ | exact Wv.tok _ _ _ | exact Wv.nil _)
theorem jI (o:Nat) (a b:AV) (ha:a=.v (.pointer none)∨a=.pt o 0):ACalls Tryz.prog 51 [.pt o 0] [.obj o [a,b],.ty o 60] (Ret (.tup []) [.obj o [.pt o 0,b],.ty o 60]):=by
  rcases ha with rfl | rfl
  · exact pc  o b
  · exact pb  o b
abbrev _root_.Go.Av.ak := @Tryz.underlying22
abbrev _root_.Go.Av.ab := @Tryz.underlying9
set_option maxRecDepth 100000 in
set_option maxHeartbeats 1000000 in
theorem ci (o:Nat) (a:AV) (ha:a=.v (.pointer none)∨a=.pt o 0) (l s:List UInt8) (t:Nat) (hl:l.length+s.length≤1000000000) :
    ACalls Tryz.prog 28 [.pt o 0,S s] [.obj o [a,slE Enc.byte l (some t)],.ty o 60,.tok t 5] (fun e A'=>e=.ret (.tup [i64 s.length,.v .nilIface])∧∃ t',A'=[.obj o [.pt o 0,slE Enc.byte (l++s) (some t')],.ty o 60,.tok t' 5]):=by
  refine az Tryz.func28 rfl rfl ?_;show AW _ _ 19 _ _ _;refine ac<|aa ?_;show AR _ _ _ _ _ [0,1] _;refine ar rfl rfl<|aE rfl rfl (aZ (av:=.v _) rfl)<|ar rfl rfl<|aE rfl rfl (aZ (av:=.v _) rfl)<|ag<|ac<|aa ?_;show AR _ _ _ _ _ [0,1] _;refine ar rfl rfl ?_
  first | (refine aE rfl rfl (ah (av:=.pt _ _) rfl) ?_) | (refine aE rfl rfl (ah (av:=.cp _) rfl) ?_) | (refine aE rfl rfl (ah (av:=.v _) rfl) ?_)
  refine ar rfl rfl<|eM [.tok t 5] rfl en51 rfl (jI  o a (slE Enc.byte l (some t)) ha) ?p1 ?k1 ?q1
  (case p1=>(exact bG _))
  (case q1=>(rintro c A' ⟨h,_⟩; cases h))
  rintro av A' ⟨h,rfl⟩; cases h
  refine ag<|ac<|aa ?_;show AR _ _ _ _ _ [0,1,2,3,4,5,6,7,8,9] _;refine ar rfl rfl ?_
  first | (refine aE rfl rfl (ah (av:=.pt _ _) rfl) ?_) | (refine aE rfl rfl (ah (av:=.cp _) rfl) ?_) | (refine aE rfl rfl (ah (av:=.v _) rfl) ?_)
  refine ar rfl rfl ?_
  first | (refine aE rfl rfl (ah (av:=.pt _ _) rfl) ?_) | (refine aE rfl rfl (ah (av:=.cp _) rfl) ?_) | (refine aE rfl rfl (ah (av:=.v _) rfl) ?_)
  refine ar rfl rfl ?_
  first | (refine aE rfl rfl (am rfl) ?_) | (refine aE rfl rfl (bu rfl) ?_) | (refine aE rfl rfl (bJ rfl) ?_)
  refine ar rfl rfl<|aE rfl rfl (ai (n:=1) (by kernel_rfl) rfl)<|ar rfl rfl ?_
  first | refine aE rfl rfl (aG ak rfl rfl) ?_ | refine cG rfl rfl (al (i:=0) ak rfl rfl rfl rfl) ?_ | refine cG rfl rfl (al (i:=1) ak rfl rfl rfl rfl) ?_
  refine ar rfl rfl<|aE rfl rfl (ah (av:=.v _) rfl)<|ar rfl rfl ?_
  first | (refine AO.opx rfl rfl (iC (bytes:=1) 0 ak ab rfl (by kernel_rfl) rfl rfl rfl ?h3 ?h4) ?_; (case h3=>(first | omega | (simp; done) | (simp; omega))); (case h4=>(first | omega | (simp; done) | (simp; omega)))) | (refine AO.opx rfl rfl (iC (bytes:=1) 1 ak ab rfl (by kernel_rfl) rfl rfl rfl ?h5 ?h6) ?_; (case h5=>(first | omega | (simp; done) | (simp; omega))); (case h6=>(first | omega | (simp; done) | (simp; omega)))) | (refine AO.opx rfl rfl (iC (bytes:=1) 2 ak ab rfl (by kernel_rfl) rfl rfl rfl ?h7 ?h8) ?_; (case h7=>(first | omega | (simp; done) | (simp; omega))); (case h8=>(first | omega | (simp; done) | (simp; omega)))) | (refine AO.opx rfl rfl (iC (bytes:=1) 3 ak ab rfl (by kernel_rfl) rfl rfl rfl ?h9 ?h10) ?_; (case h9=>(first | omega | (simp; done) | (simp; omega))); (case h10=>(first | omega | (simp; done) | (simp; omega))))
  rintro _ _ ⟨t14,rfl,rfl⟩;refine ar rfl rfl ?_
  first | (refine aE rfl rfl (am rfl) ?_) | (refine aE rfl rfl (bu rfl) ?_) | (refine aE rfl rfl (bJ rfl) ?_)
  refine ar rfl rfl<|aE rfl rfl (ai (n:=1) (by kernel_rfl) rfl)<|ar rfl rfl ?_
  first | (refine dM rfl (aA (i:=0) (c:=slE _ _ _) (by kernel_rfl) rfl rfl rfl rfl ?h12) ?_; (case h12=>(simp))) | (refine dM rfl (aA (i:=0) (c:=.v _) (by kernel_rfl) rfl rfl rfl rfl ?h13) ?_; (case h13=>(simp))) | (refine dM rfl (aA (i:=0) (c:=.vw _ _ _ _) (by kernel_rfl) rfl rfl rfl rfl ?h14) ?_; (case h14=>(simp))) | (refine dM rfl (aA (i:=1) (c:=slE _ _ _) (by kernel_rfl) rfl rfl rfl rfl ?h15) ?_; (case h15=>(simp))) | (refine dM rfl (aA (i:=1) (c:=.v _) (by kernel_rfl) rfl rfl rfl rfl ?h16) ?_; (case h16=>(simp))) | (refine dM rfl (aA (i:=1) (c:=.vw _ _ _ _) (by kernel_rfl) rfl rfl rfl rfl ?h17) ?_; (case h17=>(simp)))
  refine ag<|ac<|aa ?_;show AR _ _ _ _ _ [0,1,2,3] _;refine ar rfl rfl<|aE rfl rfl (ah (av:=.v _) rfl)<|ar rfl rfl<|aE rfl rfl (aW ab rfl)<|ar rfl rfl<|aE rfl rfl (aZ (av:=.v _) rfl)<|ar rfl rfl<|aE rfl rfl (aZ (av:=.v _) rfl)<|ag<|aQ ?_
  -- END 1 (ret)
  show dn _ _ _ _ .ret _;exact ⟨rfl,_,_,ResV.two (av:=.v _) (bv:=.v _) rfl rfl rfl,bX _,rfl,t14,rfl⟩
abbrev _root_.Go.Av.cz := @Tryz.underlying76
set_option maxRecDepth 100000 in
set_option maxHeartbeats 1000000 in
theorem lB (o:Nat) (a:AV) (l:List UInt8) (t:Nat) (hl:l.length≤1000000000) :
    ACalls Tryz.prog 30 [.pt o 0] [.obj o [a,slE Enc.byte l (some t)],.tok t 5] (Ret (S l) [.obj o [a,slE Enc.byte l (some t)]]):=by
  refine az Tryz.func30 rfl rfl ?_;show AW _ _ 14 _ _ _;refine ac<|aa ?_;show AR _ _ _ _ _ [0] _;refine ar rfl rfl<|aE rfl rfl (aZ (av:=.v _) rfl)<|ag<|ac<|bn (by kernel_rfl) ?_;show AI _ _ _ _ _ 12 (Array.replicate 12 false) _
  first | (refine bc (i:=0) rfl rfl (by kernel_rfl) (by kernel_rfl) (by kernel_rfl) (fun _ _ h=>by obtain ⟨_,_,_,h,_⟩:=h; cases h) (ah (av:=.pt _ _) rfl) ?_) | (refine bc (i:=0) rfl rfl (by kernel_rfl) (by kernel_rfl) (by kernel_rfl) (fun _ _ h=>by obtain ⟨_,_,_,h,_⟩:=h; cases h) (ah (av:=.cp _) rfl) ?_) | (refine bc (i:=0) rfl rfl (by kernel_rfl) (by kernel_rfl) (by kernel_rfl) (fun _ _ h=>by obtain ⟨_,_,_,h,_⟩:=h; cases h) (ah (av:=.v _) rfl) ?_)
  show zI 12 1
  first | (refine bc (i:=1) rfl rfl (by kernel_rfl) (by kernel_rfl) (by kernel_rfl) (fun _ _ h=>by obtain ⟨_,_,_,h,_⟩:=h; cases h) (am rfl) ?_) | (refine bc (i:=1) rfl rfl (by kernel_rfl) (by kernel_rfl) (by kernel_rfl) (fun _ _ h=>by obtain ⟨_,_,_,h,_⟩:=h; cases h) (bu rfl) ?_) | (refine bc (i:=1) rfl rfl (by kernel_rfl) (by kernel_rfl) (by kernel_rfl) (fun _ _ h=>by obtain ⟨_,_,_,h,_⟩:=h; cases h) (bJ rfl) ?_)
  show zI 12 3;refine bc (i:=2) rfl rfl (by kernel_rfl) (by kernel_rfl) (by kernel_rfl) (fun _ _ h=>by obtain ⟨_,_,_,h,_⟩:=h; cases h) (ai (n:=1) (by kernel_rfl) rfl) ?_;show zI 12 7
  first | (refine bc (i:=5) rfl rfl (by kernel_rfl) (by kernel_rfl) (by kernel_rfl) (fun _ _ h=>by obtain ⟨_,_,_,h,_⟩:=h; cases h) (ah (av:=.pt _ _) rfl) ?_) | (refine bc (i:=5) rfl rfl (by kernel_rfl) (by kernel_rfl) (by kernel_rfl) (fun _ _ h=>by obtain ⟨_,_,_,h,_⟩:=h; cases h) (ah (av:=.cp _) rfl) ?_) | (refine bc (i:=5) rfl rfl (by kernel_rfl) (by kernel_rfl) (by kernel_rfl) (fun _ _ h=>by obtain ⟨_,_,_,h,_⟩:=h; cases h) (ah (av:=.v _) rfl) ?_)
  show zI 12 39
  first | (refine bc (i:=6) rfl rfl (by kernel_rfl) (by kernel_rfl) (by kernel_rfl) (fun _ _ h=>by obtain ⟨_,_,_,h,_⟩:=h; cases h) (am rfl) ?_) | (refine bc (i:=6) rfl rfl (by kernel_rfl) (by kernel_rfl) (by kernel_rfl) (fun _ _ h=>by obtain ⟨_,_,_,h,_⟩:=h; cases h) (bu rfl) ?_) | (refine bc (i:=6) rfl rfl (by kernel_rfl) (by kernel_rfl) (by kernel_rfl) (fun _ _ h=>by obtain ⟨_,_,_,h,_⟩:=h; cases h) (bJ rfl) ?_)
  show zI 12 103;refine bc (i:=7) rfl rfl (by kernel_rfl) (by kernel_rfl) (by kernel_rfl) (fun _ _ h=>by obtain ⟨_,_,_,h,_⟩:=h; cases h) (ai (n:=1) (by kernel_rfl) rfl) ?_;show zI 12 231;refine dj (i:=3) (j:=8) (by kernel_rfl) rfl rfl rfl rfl ?_ ?_
  · first | refine aJ rfl (al (i:=0) ak rfl rfl rfl rfl) ?_ | refine aJ rfl (al (i:=1) ak rfl rfl rfl rfl) ?_
    show zI 12 239;refine dj (i:=4) (j:=8) (by kernel_rfl) rfl rfl rfl rfl ?_ ?_
    · first | refine aJ rfl (hY (i:=0) cz rfl rfl) ?_ | refine aJ rfl (hY (i:=1) cz rfl rfl) ?_
      show zI 12 255;refine bj (i:=8) (by kernel_rfl) rfl rfl ?_
      first | refine aJ rfl (al (i:=0) ak rfl rfl rfl rfl) ?_ | refine aJ rfl (al (i:=1) ak rfl rfl rfl rfl) ?_
      show zI 12 511
      first | (refine bc (i:=9) rfl rfl (by kernel_rfl) (by kernel_rfl) (by kernel_rfl) (fun _ _ h=>by obtain ⟨_,_,_,h,_⟩:=h; cases h) (bh ak rfl) ?_) | (refine bc (i:=9) rfl rfl (by kernel_rfl) (by kernel_rfl) (by kernel_rfl) (fun _ _ h=>by obtain ⟨_,_,_,h,_⟩:=h; cases h) (cY ak rfl) ?_)
      show zI 12 1023;refine bj (i:=10) (by kernel_rfl) rfl rfl ?_
      first | (refine aJ rfl (eO (i:=0) (El:=5) cz (by kernel_rfl) rfl rfl rfl ?h2 rfl) ?_; (case h2=>(first | omega | (simp; omega)))) | (refine aJ rfl (eO (i:=1) (El:=5) cz (by kernel_rfl) rfl rfl rfl ?h3 rfl) ?_; (case h3=>(first | omega | (simp; omega))))
      show zI 12 2047;refine bc (i:=11) rfl rfl (by kernel_rfl) (by kernel_rfl) (by kernel_rfl) (fun _ _ h=>by obtain ⟨_,_,_,h,_⟩:=h; cases h) (aZ (av:=.v _) rfl) ?_;show zI 12 4095;refine bw rfl<|aQ ?_
      -- END 1 (ret)
      show dn _ _ _ _ .ret _
      (refine ⟨rfl,_,_,aO rfl ?_,?_,⟨rfl,rfl⟩⟩; all_goals first | exact bX _ | exact bC _ | ((repeat (first | exact bX _ | exact bC _ | refine gd _ ?_ | refine gc _ ?_)); done) | exact Wv.refl _ | exact Wv.tok _ _ _ | exact Wv.nil _)
    · first | refine aJ rfl (al (i:=0) ak rfl rfl rfl rfl) ?_ | refine aJ rfl (al (i:=1) ak rfl rfl rfl rfl) ?_
      show zI 12 495
      first | (refine bc (i:=9) rfl rfl (by kernel_rfl) (by kernel_rfl) (by kernel_rfl) (fun _ _ h=>by obtain ⟨_,_,_,h,_⟩:=h; cases h) (bh ak rfl) ?_) | (refine bc (i:=9) rfl rfl (by kernel_rfl) (by kernel_rfl) (by kernel_rfl) (fun _ _ h=>by obtain ⟨_,_,_,h,_⟩:=h; cases h) (cY ak rfl) ?_)
      show zI 12 1007;refine bj (i:=4) (by kernel_rfl) rfl rfl ?_
      first | refine aJ rfl (hY (i:=0) cz rfl rfl) ?_ | refine aJ rfl (hY (i:=1) cz rfl rfl) ?_
      show zI 12 1023;refine bj (i:=10) (by kernel_rfl) rfl rfl ?_
      first | (refine aJ rfl (eO (i:=0) (El:=5) cz (by kernel_rfl) rfl rfl rfl ?h5 rfl) ?_; (case h5=>(first | omega | (simp; omega)))) | (refine aJ rfl (eO (i:=1) (El:=5) cz (by kernel_rfl) rfl rfl rfl ?h6 rfl) ?_; (case h6=>(first | omega | (simp; omega))))
      show zI 12 2047;refine bc (i:=11) rfl rfl (by kernel_rfl) (by kernel_rfl) (by kernel_rfl) (fun _ _ h=>by obtain ⟨_,_,_,h,_⟩:=h; cases h) (aZ (av:=.v _) rfl) ?_;show zI 12 4095;refine bw rfl<|aQ ?_
      -- END 2 (ret)
      show dn _ _ _ _ .ret _
      (refine ⟨rfl,_,_,aO rfl ?_,?_,⟨rfl,rfl⟩⟩; all_goals first | exact bX _ | exact bC _ | ((repeat (first | exact bX _ | exact bC _ | refine gd _ ?_ | refine gc _ ?_)); done) | exact Wv.refl _ | exact Wv.tok _ _ _ | exact Wv.nil _)
  · first | refine aJ rfl (al (i:=0) ak rfl rfl rfl rfl) ?_ | refine aJ rfl (al (i:=1) ak rfl rfl rfl rfl) ?_
    show zI 12 487
    first | (refine bc (i:=9) rfl rfl (by kernel_rfl) (by kernel_rfl) (by kernel_rfl) (fun _ _ h=>by obtain ⟨_,_,_,h,_⟩:=h; cases h) (bh ak rfl) ?_) | (refine bc (i:=9) rfl rfl (by kernel_rfl) (by kernel_rfl) (by kernel_rfl) (fun _ _ h=>by obtain ⟨_,_,_,h,_⟩:=h; cases h) (cY ak rfl) ?_)
    show zI 12 999;refine bj (i:=3) (by kernel_rfl) rfl rfl ?_
    first | refine aJ rfl (al (i:=0) ak rfl rfl rfl rfl) ?_ | refine aJ rfl (al (i:=1) ak rfl rfl rfl rfl) ?_
    show zI 12 1007;refine bj (i:=4) (by kernel_rfl) rfl rfl ?_
    first | refine aJ rfl (hY (i:=0) cz rfl rfl) ?_ | refine aJ rfl (hY (i:=1) cz rfl rfl) ?_
    show zI 12 1023;refine bj (i:=10) (by kernel_rfl) rfl rfl ?_
    first | (refine aJ rfl (eO (i:=0) (El:=5) cz (by kernel_rfl) rfl rfl rfl ?h8 rfl) ?_; (case h8=>(first | omega | (simp; omega)))) | (refine aJ rfl (eO (i:=1) (El:=5) cz (by kernel_rfl) rfl rfl rfl ?h9 rfl) ?_; (case h9=>(first | omega | (simp; omega))))
    show zI 12 2047;refine bc (i:=11) rfl rfl (by kernel_rfl) (by kernel_rfl) (by kernel_rfl) (fun _ _ h=>by obtain ⟨_,_,_,h,_⟩:=h; cases h) (aZ (av:=.v _) rfl) ?_;show zI 12 4095;refine bw rfl<|aQ ?_
    -- END 3 (ret)
    show dn _ _ _ _ .ret _
    (refine ⟨rfl,_,_,aO rfl ?_,?_,⟨rfl,rfl⟩⟩; all_goals first | exact bX _ | exact bC _ | ((repeat (first | exact bX _ | exact bC _ | refine gd _ ?_ | refine gc _ ?_)); done) | exact Wv.refl _ | exact Wv.tok _ _ _ | exact Wv.nil _)
set_option maxRecDepth 100000 in
set_option maxHeartbeats 1000000 in
theorem kZ (o:Nat) (a:AV) (n:Nat) (hn:n≤1000000000) :
    ACalls Tryz.prog 123 [.pt o 0,i64 n] [.obj o [a,aj]] (fun e A'=>e=.ret (.tup [])∧∃ t',A'=[.tok t' 5,.obj o [a,slE Enc.byte [] (some t')]]):=by
  refine az Tryz.func123 rfl rfl ?_;show AW _ _ 30 _ _ _;refine ac<|bn (by kernel_rfl) ?_;show AI _ _ _ _ _ 16 (Array.replicate 16 false) _
  first | (refine bc (i:=0) rfl rfl (by kernel_rfl) (by kernel_rfl) (by kernel_rfl) (fun _ _ h=>by obtain ⟨_,_,_,h,_⟩:=h; cases h) (ah (av:=.pt _ _) rfl) ?_) | (refine bc (i:=0) rfl rfl (by kernel_rfl) (by kernel_rfl) (by kernel_rfl) (fun _ _ h=>by obtain ⟨_,_,_,h,_⟩:=h; cases h) (ah (av:=.cp _) rfl) ?_) | (refine bc (i:=0) rfl rfl (by kernel_rfl) (by kernel_rfl) (by kernel_rfl) (fun _ _ h=>by obtain ⟨_,_,_,h,_⟩:=h; cases h) (ah (av:=.v _) rfl) ?_)
  show zI 16 1
  first | (refine bc (i:=1) rfl rfl (by kernel_rfl) (by kernel_rfl) (by kernel_rfl) (fun _ _ h=>by obtain ⟨_,_,_,h,_⟩:=h; cases h) (am rfl) ?_) | (refine bc (i:=1) rfl rfl (by kernel_rfl) (by kernel_rfl) (by kernel_rfl) (fun _ _ h=>by obtain ⟨_,_,_,h,_⟩:=h; cases h) (bu rfl) ?_) | (refine bc (i:=1) rfl rfl (by kernel_rfl) (by kernel_rfl) (by kernel_rfl) (fun _ _ h=>by obtain ⟨_,_,_,h,_⟩:=h; cases h) (bJ rfl) ?_)
  show zI 16 3;refine bc (i:=2) rfl rfl (by kernel_rfl) (by kernel_rfl) (by kernel_rfl) (fun _ _ h=>by obtain ⟨_,_,_,h,_⟩:=h; cases h) (ai (n:=1) (by kernel_rfl) rfl) ?_;show zI 16 7;refine bc (i:=6) rfl rfl (by kernel_rfl) (by kernel_rfl) (by kernel_rfl) (fun _ _ h=>by obtain ⟨_,_,_,h,_⟩:=h; cases h) (ah (av:=.v _) rfl) ?_;show zI 16 71
  first | (refine bc (i:=9) rfl rfl (by kernel_rfl) (by kernel_rfl) (by kernel_rfl) (fun _ _ h=>by obtain ⟨_,_,_,h,_⟩:=h; cases h) (ah (av:=.pt _ _) rfl) ?_) | (refine bc (i:=9) rfl rfl (by kernel_rfl) (by kernel_rfl) (by kernel_rfl) (fun _ _ h=>by obtain ⟨_,_,_,h,_⟩:=h; cases h) (ah (av:=.cp _) rfl) ?_) | (refine bc (i:=9) rfl rfl (by kernel_rfl) (by kernel_rfl) (by kernel_rfl) (fun _ _ h=>by obtain ⟨_,_,_,h,_⟩:=h; cases h) (ah (av:=.v _) rfl) ?_)
  show zI 16 583
  first | (refine bc (i:=10) rfl rfl (by kernel_rfl) (by kernel_rfl) (by kernel_rfl) (fun _ _ h=>by obtain ⟨_,_,_,h,_⟩:=h; cases h) (am rfl) ?_) | (refine bc (i:=10) rfl rfl (by kernel_rfl) (by kernel_rfl) (by kernel_rfl) (fun _ _ h=>by obtain ⟨_,_,_,h,_⟩:=h; cases h) (bu rfl) ?_) | (refine bc (i:=10) rfl rfl (by kernel_rfl) (by kernel_rfl) (by kernel_rfl) (fun _ _ h=>by obtain ⟨_,_,_,h,_⟩:=h; cases h) (bJ rfl) ?_)
  show zI 16 1607;refine bc (i:=11) rfl rfl (by kernel_rfl) (by kernel_rfl) (by kernel_rfl) (fun _ _ h=>by obtain ⟨_,_,_,h,_⟩:=h; cases h) (ai (n:=1) (by kernel_rfl) rfl) ?_;show zI 16 3655;refine dj (i:=3) (j:=12) (by kernel_rfl) rfl rfl rfl rfl ?_ ?_
  · first | refine aJ rfl (al (i:=0) ak rfl rfl rfl rfl) ?_ | refine aJ rfl (al (i:=1) ak rfl rfl rfl rfl) ?_
    show zI 16 3663
    first | (refine bc (i:=4) rfl rfl (by kernel_rfl) (by kernel_rfl) (by kernel_rfl) (fun _ _ h=>by obtain ⟨_,_,_,h,_⟩:=h; cases h) (kb ak rfl) ?_) | (refine bc (i:=4) rfl rfl (by kernel_rfl) (by kernel_rfl) (by kernel_rfl) (fun _ _ h=>by obtain ⟨_,_,_,h,_⟩:=h; cases h) (opS_cap_vw ak rfl) ?_)
    show zI 16 3679
    refine bc (i:=5) rfl rfl (by kernel_rfl) (by kernel_rfl) (by kernel_rfl) (fun _ _ h=>by obtain ⟨_,_,_,h,_⟩:=h; cases h) (sr rfl rfl ?h2) ?_; (case h2=>(omega))
    show zI 16 3711
    refine bc (i:=7) rfl rfl (by kernel_rfl) (by kernel_rfl) (by kernel_rfl) (fun _ _ h=>by obtain ⟨_,_,_,h,_⟩:=h; cases h) (nT rfl rfl ?h4) ?_; (case h4=>(omega))
    show zI 16 3839;refine dj (i:=8) (j:=12) (by kernel_rfl) rfl rfl rfl rfl ?_ ?_
    · refine dC rfl (lU (m:=n) (ps := #[3]) (t0:=22) Tryz.func136 ⟨by kernel_rfl,by kernel_rfl,by kernel_rfl,by kernel_rfl⟩ ak rfl ?h7 ?h8) ?_; (case h7=>(omega)); (case h8=>(first | omega | (simp; omega)))
      rintro _ _ ⟨t13,rfl,rfl⟩;show zI 16 4095;refine bj (i:=12) (by kernel_rfl) rfl rfl ?_
      first | refine aJ rfl (al (i:=0) ak rfl rfl rfl rfl) ?_ | refine aJ rfl (al (i:=1) ak rfl rfl rfl rfl) ?_
      show zI 16 8191
      first | (refine bc (i:=13) rfl rfl (by kernel_rfl) (by kernel_rfl) (by kernel_rfl) (fun _ _ h=>by obtain ⟨_,_,_,h,_⟩:=h; cases h) (bh ak rfl) ?_) | (refine bc (i:=13) rfl rfl (by kernel_rfl) (by kernel_rfl) (by kernel_rfl) (fun _ _ h=>by obtain ⟨_,_,_,h,_⟩:=h; cases h) (cY ak rfl) ?_)
      show zI 16 16383
      refine bc (i:=14) rfl rfl (by kernel_rfl) (by kernel_rfl) (by kernel_rfl) (fun _ _ h=>by obtain ⟨_,_,_,h,_⟩:=h; cases h) (nw (E:=Enc.byte) ak (by kernel_rfl) rfl rfl rfl ?h9) ?_; (case h9=>(first | rfl | omega))
      show zI 16 32767
      first | (refine bc (i:=15) rfl rfl (by kernel_rfl) (by kernel_rfl) (by kernel_rfl) (fun _ _ h=>by obtain ⟨_,_,_,h,_⟩:=h; cases h) (aZ (av:=slE _ _ _) rfl) ?_) | (refine bc (i:=15) rfl rfl (by kernel_rfl) (by kernel_rfl) (by kernel_rfl) (fun _ _ h=>by obtain ⟨_,_,_,h,_⟩:=h; cases h) (aZ (av:=.v _) rfl) ?_) | (refine bc (i:=15) rfl rfl (by kernel_rfl) (by kernel_rfl) (by kernel_rfl) (fun _ _ h=>by obtain ⟨_,_,_,h,_⟩:=h; cases h) (aZ (av:=.vw _ _ _ _) rfl) ?_)
      show zI 16 65535;refine bw rfl<|ac<|aa ?_;show AR _ _ _ _ _ [0,1,2,3,4,5] _;refine ar rfl rfl ?_
      first | (refine aE rfl rfl (ah (av:=slE _ _ _) rfl) ?_) | (refine aE rfl rfl (ah (av:=.v _) rfl) ?_) | (refine aE rfl rfl (ah (av:=.vw _ _ _ _) rfl) ?_)
      refine ar rfl rfl ?_
      first | (refine aE rfl rfl (ah (av:=.pt _ _) rfl) ?_) | (refine aE rfl rfl (ah (av:=.cp _) rfl) ?_) | (refine aE rfl rfl (ah (av:=.v _) rfl) ?_)
      refine ar rfl rfl ?_
      first | (refine aE rfl rfl (am rfl) ?_) | (refine aE rfl rfl (bu rfl) ?_) | (refine aE rfl rfl (bJ rfl) ?_)
      refine ar rfl rfl<|aE rfl rfl (ai (n:=1) (by kernel_rfl) rfl)<|ar rfl rfl ?_
      first | refine aE rfl rfl (aG ak rfl rfl) ?_ | refine cG rfl rfl (al (i:=0) ak rfl rfl rfl rfl) ?_ | refine cG rfl rfl (al (i:=1) ak rfl rfl rfl rfl) ?_
      refine ar rfl rfl ?_
      first | (refine cG rfl rfl (OpS.opR (mJ (E:=Enc.byte) ak (by kernel_rfl) rfl rfl) _) ?_) | (refine cG rfl rfl (iI (E:=Enc.byte) (i:=0) ak (by kernel_rfl) rfl rfl rfl ?h12 ?h13) ?_; (case h12=>(first | omega | (simp; omega))); (case h13=>(first | omega | (simp; omega)))) | (refine cG rfl rfl (iI (E:=Enc.byte) (i:=1) ak (by kernel_rfl) rfl rfl rfl ?h14 ?h15) ?_; (case h14=>(first | omega | (simp; omega))); (case h15=>(first | omega | (simp; omega)))) | (refine cG rfl rfl (iZ (i:=0) ak (by kernel_rfl) rfl rfl rfl ?h16 ?h17) ?_; (case h16=>(first | omega | (simp; omega))); (case h17=>(first | omega | (simp; omega)))) | (refine cG rfl rfl (iZ (i:=1) ak (by kernel_rfl) rfl rfl rfl ?h18 ?h19) ?_; (case h18=>(first | omega | (simp; omega))); (case h19=>(first | omega | (simp; omega))))
      refine ag<|aa ?_;show AR _ _ _ _ _ [0,1,2,3,4] _;refine ar rfl rfl ?_
      first | (refine aE rfl rfl (ah (av:=.pt _ _) rfl) ?_) | (refine aE rfl rfl (ah (av:=.cp _) rfl) ?_) | (refine aE rfl rfl (ah (av:=.v _) rfl) ?_)
      refine ar rfl rfl ?_
      first | (refine aE rfl rfl (ah (av:=slE _ _ _) rfl) ?_) | (refine aE rfl rfl (ah (av:=.v _) rfl) ?_) | (refine aE rfl rfl (ah (av:=.vw _ _ _ _) rfl) ?_)
      refine ar rfl rfl ?_
      first | (refine aE rfl rfl (am rfl) ?_) | (refine aE rfl rfl (bu rfl) ?_) | (refine aE rfl rfl (bJ rfl) ?_)
      refine ar rfl rfl<|aE rfl rfl (ai (n:=1) (by kernel_rfl) rfl)<|ar rfl rfl ?_
      first | (refine dM rfl (aA (i:=0) (c:=slE _ _ _) (by kernel_rfl) rfl rfl rfl rfl ?h21) ?_; (case h21=>(simp))) | (refine dM rfl (aA (i:=0) (c:=.v _) (by kernel_rfl) rfl rfl rfl rfl ?h22) ?_; (case h22=>(simp))) | (refine dM rfl (aA (i:=0) (c:=.vw _ _ _ _) (by kernel_rfl) rfl rfl rfl rfl ?h23) ?_; (case h23=>(simp))) | (refine dM rfl (aA (i:=1) (c:=slE _ _ _) (by kernel_rfl) rfl rfl rfl rfl ?h24) ?_; (case h24=>(simp))) | (refine dM rfl (aA (i:=1) (c:=.v _) (by kernel_rfl) rfl rfl rfl rfl ?h25) ?_; (case h25=>(simp))) | (refine dM rfl (aA (i:=1) (c:=.vw _ _ _ _) (by kernel_rfl) rfl rfl rfl rfl ?h26) ?_; (case h26=>(simp)))
      refine ag ?_
      -- END 1 (end)
      show dn _ _ _ _ .normal _;exact ⟨rfl,_,_,gx rfl,bX _,rfl,t13,rfl⟩
    · first | refine aJ rfl (al (i:=0) ak rfl rfl rfl rfl) ?_ | refine aJ rfl (al (i:=1) ak rfl rfl rfl rfl) ?_
      show zI 16 7935
      first | (refine bc (i:=13) rfl rfl (by kernel_rfl) (by kernel_rfl) (by kernel_rfl) (fun _ _ h=>by obtain ⟨_,_,_,h,_⟩:=h; cases h) (bh ak rfl) ?_) | (refine bc (i:=13) rfl rfl (by kernel_rfl) (by kernel_rfl) (by kernel_rfl) (fun _ _ h=>by obtain ⟨_,_,_,h,_⟩:=h; cases h) (cY ak rfl) ?_)
      show zI 16 16127;refine bj (i:=8) (by kernel_rfl) rfl rfl ?_
      refine dC rfl (lU (m:=n) (ps := #[3]) (t0:=22) Tryz.func136 ⟨by kernel_rfl,by kernel_rfl,by kernel_rfl,by kernel_rfl⟩ ak rfl ?h29 ?h30) ?_; (case h29=>(omega)); (case h30=>(first | omega | (simp; omega)))
      rintro _ _ ⟨t13,rfl,rfl⟩;show zI 16 16383
      refine bc (i:=14) rfl rfl (by kernel_rfl) (by kernel_rfl) (by kernel_rfl) (fun _ _ h=>by obtain ⟨_,_,_,h,_⟩:=h; cases h) (nw (E:=Enc.byte) ak (by kernel_rfl) rfl rfl rfl ?h31) ?_; (case h31=>(first | rfl | omega))
      show zI 16 32767
      first | (refine bc (i:=15) rfl rfl (by kernel_rfl) (by kernel_rfl) (by kernel_rfl) (fun _ _ h=>by obtain ⟨_,_,_,h,_⟩:=h; cases h) (aZ (av:=slE _ _ _) rfl) ?_) | (refine bc (i:=15) rfl rfl (by kernel_rfl) (by kernel_rfl) (by kernel_rfl) (fun _ _ h=>by obtain ⟨_,_,_,h,_⟩:=h; cases h) (aZ (av:=.v _) rfl) ?_) | (refine bc (i:=15) rfl rfl (by kernel_rfl) (by kernel_rfl) (by kernel_rfl) (fun _ _ h=>by obtain ⟨_,_,_,h,_⟩:=h; cases h) (aZ (av:=.vw _ _ _ _) rfl) ?_)
      show zI 16 65535;refine bw rfl<|ac<|aa ?_;show AR _ _ _ _ _ [0,1,2,3,4,5] _;refine ar rfl rfl ?_
      first | (refine aE rfl rfl (ah (av:=slE _ _ _) rfl) ?_) | (refine aE rfl rfl (ah (av:=.v _) rfl) ?_) | (refine aE rfl rfl (ah (av:=.vw _ _ _ _) rfl) ?_)
      refine ar rfl rfl ?_
      first | (refine aE rfl rfl (ah (av:=.pt _ _) rfl) ?_) | (refine aE rfl rfl (ah (av:=.cp _) rfl) ?_) | (refine aE rfl rfl (ah (av:=.v _) rfl) ?_)
      refine ar rfl rfl ?_
      first | (refine aE rfl rfl (am rfl) ?_) | (refine aE rfl rfl (bu rfl) ?_) | (refine aE rfl rfl (bJ rfl) ?_)
      refine ar rfl rfl<|aE rfl rfl (ai (n:=1) (by kernel_rfl) rfl)<|ar rfl rfl ?_
      first | refine aE rfl rfl (aG ak rfl rfl) ?_ | refine cG rfl rfl (al (i:=0) ak rfl rfl rfl rfl) ?_ | refine cG rfl rfl (al (i:=1) ak rfl rfl rfl rfl) ?_
      refine ar rfl rfl ?_
      first | (refine cG rfl rfl (OpS.opR (mJ (E:=Enc.byte) ak (by kernel_rfl) rfl rfl) _) ?_) | (refine cG rfl rfl (iI (E:=Enc.byte) (i:=0) ak (by kernel_rfl) rfl rfl rfl ?h34 ?h35) ?_; (case h34=>(first | omega | (simp; omega))); (case h35=>(first | omega | (simp; omega)))) | (refine cG rfl rfl (iI (E:=Enc.byte) (i:=1) ak (by kernel_rfl) rfl rfl rfl ?h36 ?h37) ?_; (case h36=>(first | omega | (simp; omega))); (case h37=>(first | omega | (simp; omega)))) | (refine cG rfl rfl (iZ (i:=0) ak (by kernel_rfl) rfl rfl rfl ?h38 ?h39) ?_; (case h38=>(first | omega | (simp; omega))); (case h39=>(first | omega | (simp; omega)))) | (refine cG rfl rfl (iZ (i:=1) ak (by kernel_rfl) rfl rfl rfl ?h40 ?h41) ?_; (case h40=>(first | omega | (simp; omega))); (case h41=>(first | omega | (simp; omega))))
      refine ag<|aa ?_;show AR _ _ _ _ _ [0,1,2,3,4] _;refine ar rfl rfl ?_
      first | (refine aE rfl rfl (ah (av:=.pt _ _) rfl) ?_) | (refine aE rfl rfl (ah (av:=.cp _) rfl) ?_) | (refine aE rfl rfl (ah (av:=.v _) rfl) ?_)
      refine ar rfl rfl ?_
      first | (refine aE rfl rfl (ah (av:=slE _ _ _) rfl) ?_) | (refine aE rfl rfl (ah (av:=.v _) rfl) ?_) | (refine aE rfl rfl (ah (av:=.vw _ _ _ _) rfl) ?_)
      refine ar rfl rfl ?_
      first | (refine aE rfl rfl (am rfl) ?_) | (refine aE rfl rfl (bu rfl) ?_) | (refine aE rfl rfl (bJ rfl) ?_)
      refine ar rfl rfl<|aE rfl rfl (ai (n:=1) (by kernel_rfl) rfl)<|ar rfl rfl ?_
      first | (refine dM rfl (aA (i:=0) (c:=slE _ _ _) (by kernel_rfl) rfl rfl rfl rfl ?h43) ?_; (case h43=>(simp))) | (refine dM rfl (aA (i:=0) (c:=.v _) (by kernel_rfl) rfl rfl rfl rfl ?h44) ?_; (case h44=>(simp))) | (refine dM rfl (aA (i:=0) (c:=.vw _ _ _ _) (by kernel_rfl) rfl rfl rfl rfl ?h45) ?_; (case h45=>(simp))) | (refine dM rfl (aA (i:=1) (c:=slE _ _ _) (by kernel_rfl) rfl rfl rfl rfl ?h46) ?_; (case h46=>(simp))) | (refine dM rfl (aA (i:=1) (c:=.v _) (by kernel_rfl) rfl rfl rfl rfl ?h47) ?_; (case h47=>(simp))) | (refine dM rfl (aA (i:=1) (c:=.vw _ _ _ _) (by kernel_rfl) rfl rfl rfl rfl ?h48) ?_; (case h48=>(simp)))
      refine ag ?_
      -- END 2 (end)
      show dn _ _ _ _ .normal _;exact ⟨rfl,_,_,gx rfl,bX _,rfl,t13,rfl⟩
  · first | refine aJ rfl (al (i:=0) ak rfl rfl rfl rfl) ?_ | refine aJ rfl (al (i:=1) ak rfl rfl rfl rfl) ?_
    show zI 16 7751
    first | (refine bc (i:=13) rfl rfl (by kernel_rfl) (by kernel_rfl) (by kernel_rfl) (fun _ _ h=>by obtain ⟨_,_,_,h,_⟩:=h; cases h) (bh ak rfl) ?_) | (refine bc (i:=13) rfl rfl (by kernel_rfl) (by kernel_rfl) (by kernel_rfl) (fun _ _ h=>by obtain ⟨_,_,_,h,_⟩:=h; cases h) (cY ak rfl) ?_)
    show zI 16 15943;refine bj (i:=3) (by kernel_rfl) rfl rfl ?_
    first | refine aJ rfl (al (i:=0) ak rfl rfl rfl rfl) ?_ | refine aJ rfl (al (i:=1) ak rfl rfl rfl rfl) ?_
    show zI 16 15951
    first | (refine bc (i:=4) rfl rfl (by kernel_rfl) (by kernel_rfl) (by kernel_rfl) (fun _ _ h=>by obtain ⟨_,_,_,h,_⟩:=h; cases h) (kb ak rfl) ?_) | (refine bc (i:=4) rfl rfl (by kernel_rfl) (by kernel_rfl) (by kernel_rfl) (fun _ _ h=>by obtain ⟨_,_,_,h,_⟩:=h; cases h) (opS_cap_vw ak rfl) ?_)
    show zI 16 15967
    refine bc (i:=5) rfl rfl (by kernel_rfl) (by kernel_rfl) (by kernel_rfl) (fun _ _ h=>by obtain ⟨_,_,_,h,_⟩:=h; cases h) (sr rfl rfl ?h50) ?_; (case h50=>(omega))
    show zI 16 15999
    refine bc (i:=7) rfl rfl (by kernel_rfl) (by kernel_rfl) (by kernel_rfl) (fun _ _ h=>by obtain ⟨_,_,_,h,_⟩:=h; cases h) (nT rfl rfl ?h52) ?_; (case h52=>(omega))
    show zI 16 16127;refine bj (i:=8) (by kernel_rfl) rfl rfl ?_
    refine dC rfl (lU (m:=n) (ps := #[3]) (t0:=22) Tryz.func136 ⟨by kernel_rfl,by kernel_rfl,by kernel_rfl,by kernel_rfl⟩ ak rfl ?h55 ?h56) ?_; (case h55=>(omega)); (case h56=>(first | omega | (simp; omega)))
    rintro _ _ ⟨t13,rfl,rfl⟩;show zI 16 16383
    refine bc (i:=14) rfl rfl (by kernel_rfl) (by kernel_rfl) (by kernel_rfl) (fun _ _ h=>by obtain ⟨_,_,_,h,_⟩:=h; cases h) (nw (E:=Enc.byte) ak (by kernel_rfl) rfl rfl rfl ?h57) ?_; (case h57=>(first | rfl | omega))
    show zI 16 32767
    first | (refine bc (i:=15) rfl rfl (by kernel_rfl) (by kernel_rfl) (by kernel_rfl) (fun _ _ h=>by obtain ⟨_,_,_,h,_⟩:=h; cases h) (aZ (av:=slE _ _ _) rfl) ?_) | (refine bc (i:=15) rfl rfl (by kernel_rfl) (by kernel_rfl) (by kernel_rfl) (fun _ _ h=>by obtain ⟨_,_,_,h,_⟩:=h; cases h) (aZ (av:=.v _) rfl) ?_) | (refine bc (i:=15) rfl rfl (by kernel_rfl) (by kernel_rfl) (by kernel_rfl) (fun _ _ h=>by obtain ⟨_,_,_,h,_⟩:=h; cases h) (aZ (av:=.vw _ _ _ _) rfl) ?_)
    show zI 16 65535;refine bw rfl<|ac<|aa ?_;show AR _ _ _ _ _ [0,1,2,3,4,5] _;refine ar rfl rfl ?_
    first | (refine aE rfl rfl (ah (av:=slE _ _ _) rfl) ?_) | (refine aE rfl rfl (ah (av:=.v _) rfl) ?_) | (refine aE rfl rfl (ah (av:=.vw _ _ _ _) rfl) ?_)
    refine ar rfl rfl ?_
    first | (refine aE rfl rfl (ah (av:=.pt _ _) rfl) ?_) | (refine aE rfl rfl (ah (av:=.cp _) rfl) ?_) | (refine aE rfl rfl (ah (av:=.v _) rfl) ?_)
    refine ar rfl rfl ?_
    first | (refine aE rfl rfl (am rfl) ?_) | (refine aE rfl rfl (bu rfl) ?_) | (refine aE rfl rfl (bJ rfl) ?_)
    refine ar rfl rfl<|aE rfl rfl (ai (n:=1) (by kernel_rfl) rfl)<|ar rfl rfl ?_
    first | refine aE rfl rfl (aG ak rfl rfl) ?_ | refine cG rfl rfl (al (i:=0) ak rfl rfl rfl rfl) ?_ | refine cG rfl rfl (al (i:=1) ak rfl rfl rfl rfl) ?_
    refine ar rfl rfl ?_
    first | (refine cG rfl rfl (OpS.opR (mJ (E:=Enc.byte) ak (by kernel_rfl) rfl rfl) _) ?_) | (refine cG rfl rfl (iI (E:=Enc.byte) (i:=0) ak (by kernel_rfl) rfl rfl rfl ?h60 ?h61) ?_; (case h60=>(first | omega | (simp; omega))); (case h61=>(first | omega | (simp; omega)))) | (refine cG rfl rfl (iI (E:=Enc.byte) (i:=1) ak (by kernel_rfl) rfl rfl rfl ?h62 ?h63) ?_; (case h62=>(first | omega | (simp; omega))); (case h63=>(first | omega | (simp; omega)))) | (refine cG rfl rfl (iZ (i:=0) ak (by kernel_rfl) rfl rfl rfl ?h64 ?h65) ?_; (case h64=>(first | omega | (simp; omega))); (case h65=>(first | omega | (simp; omega)))) | (refine cG rfl rfl (iZ (i:=1) ak (by kernel_rfl) rfl rfl rfl ?h66 ?h67) ?_; (case h66=>(first | omega | (simp; omega))); (case h67=>(first | omega | (simp; omega))))
    refine ag<|aa ?_;show AR _ _ _ _ _ [0,1,2,3,4] _;refine ar rfl rfl ?_
    first | (refine aE rfl rfl (ah (av:=.pt _ _) rfl) ?_) | (refine aE rfl rfl (ah (av:=.cp _) rfl) ?_) | (refine aE rfl rfl (ah (av:=.v _) rfl) ?_)
    refine ar rfl rfl ?_
    first | (refine aE rfl rfl (ah (av:=slE _ _ _) rfl) ?_) | (refine aE rfl rfl (ah (av:=.v _) rfl) ?_) | (refine aE rfl rfl (ah (av:=.vw _ _ _ _) rfl) ?_)
    refine ar rfl rfl ?_
    first | (refine aE rfl rfl (am rfl) ?_) | (refine aE rfl rfl (bu rfl) ?_) | (refine aE rfl rfl (bJ rfl) ?_)
    refine ar rfl rfl<|aE rfl rfl (ai (n:=1) (by kernel_rfl) rfl)<|ar rfl rfl ?_
    first | (refine dM rfl (aA (i:=0) (c:=slE _ _ _) (by kernel_rfl) rfl rfl rfl rfl ?h69) ?_; (case h69=>(simp))) | (refine dM rfl (aA (i:=0) (c:=.v _) (by kernel_rfl) rfl rfl rfl rfl ?h70) ?_; (case h70=>(simp))) | (refine dM rfl (aA (i:=0) (c:=.vw _ _ _ _) (by kernel_rfl) rfl rfl rfl rfl ?h71) ?_; (case h71=>(simp))) | (refine dM rfl (aA (i:=1) (c:=slE _ _ _) (by kernel_rfl) rfl rfl rfl rfl ?h72) ?_; (case h72=>(simp))) | (refine dM rfl (aA (i:=1) (c:=.v _) (by kernel_rfl) rfl rfl rfl rfl ?h73) ?_; (case h73=>(simp))) | (refine dM rfl (aA (i:=1) (c:=.vw _ _ _ _) (by kernel_rfl) rfl rfl rfl rfl ?h74) ?_; (case h74=>(simp)))
    refine ag ?_
    -- END 3 (end)
    show dn _ _ _ _ .normal _;exact ⟨rfl,_,_,gx rfl,bX _,rfl,t13,rfl⟩
set_option maxRecDepth 100000 in
set_option maxHeartbeats 1000000 in
theorem sI (o:Nat) (a:AV) (ha:a=.v (.pointer none)∨a=.pt o 0) (n:Nat) (hn:n≤1000000000) (hz:n=0) :
    ACalls Tryz.prog 109 [.pt o 0,i64 n] [.obj o [a,aj],.ty o 60] (fun e A'=>e=.ret (.tup [])∧A'=[.obj o [.pt o 0,aj],.ty o 60]):=by
  refine az Tryz.func109 rfl rfl ?_;show AW _ _ 25 _ _ _;refine ac<|aa ?_;show AR _ _ _ _ _ [0,1] _;refine ar rfl rfl ?_
  first | (refine aE rfl rfl (ah (av:=.pt _ _) rfl) ?_) | (refine aE rfl rfl (ah (av:=.cp _) rfl) ?_) | (refine aE rfl rfl (ah (av:=.v _) rfl) ?_)
  refine ar rfl rfl<|eM [] rfl en51 rfl (jI  o a aj ha) ?p1 ?k1 ?q1
  (case p1=>(exact bG _))
  (case q1=>(rintro c A' ⟨h,_⟩; cases h))
  rintro av A' ⟨h,rfl⟩; cases h
  refine ag<|ac<|ac<|aa ?_;show AR _ _ _ _ _ [0,1] _;refine ar rfl rfl<|aE rfl rfl (ah (av:=.v _) rfl)<|ar rfl rfl<|aE rfl rfl (bN rfl rfl)<|ag<|ax rfl (fun c1=>?_) (fun c1=>?_)
  · have c1p:=c1; try simp only [decide_eq_true_eq,decide_eq_false_iff_not,Bool.not_eq_true',Bool.not_eq_false',Bool.not_true,Bool.not_false,Bool.not_eq_eq_eq_not] at c1p
    refine aa ?_;show AR _ _ _ _ _ [0,1] _;refine ar rfl rfl<|aE rfl rfl (bW (a:=.v _) ab rfl rfl)<|ar rfl rfl ?_
    exfalso; first | omega | simp_all
  · have c1p:=c1; try simp only [decide_eq_true_eq,decide_eq_false_iff_not,Bool.not_eq_true',Bool.not_eq_false',Bool.not_true,Bool.not_false,Bool.not_eq_eq_eq_not] at c1p
    refine aC<|ac<|bn (by kernel_rfl) ?_;show AI _ _ _ _ _ 13 (Array.replicate 13 false) _
    first | (refine bc (i:=0) rfl rfl (by kernel_rfl) (by kernel_rfl) (by kernel_rfl) (fun _ _ h=>by obtain ⟨_,_,_,h,_⟩:=h; cases h) (ah (av:=.pt _ _) rfl) ?_) | (refine bc (i:=0) rfl rfl (by kernel_rfl) (by kernel_rfl) (by kernel_rfl) (fun _ _ h=>by obtain ⟨_,_,_,h,_⟩:=h; cases h) (ah (av:=.cp _) rfl) ?_) | (refine bc (i:=0) rfl rfl (by kernel_rfl) (by kernel_rfl) (by kernel_rfl) (fun _ _ h=>by obtain ⟨_,_,_,h,_⟩:=h; cases h) (ah (av:=.v _) rfl) ?_)
    show zI 13 1
    first | (refine bc (i:=1) rfl rfl (by kernel_rfl) (by kernel_rfl) (by kernel_rfl) (fun _ _ h=>by obtain ⟨_,_,_,h,_⟩:=h; cases h) (am rfl) ?_) | (refine bc (i:=1) rfl rfl (by kernel_rfl) (by kernel_rfl) (by kernel_rfl) (fun _ _ h=>by obtain ⟨_,_,_,h,_⟩:=h; cases h) (bu rfl) ?_) | (refine bc (i:=1) rfl rfl (by kernel_rfl) (by kernel_rfl) (by kernel_rfl) (fun _ _ h=>by obtain ⟨_,_,_,h,_⟩:=h; cases h) (bJ rfl) ?_)
    show zI 13 3;refine bc (i:=2) rfl rfl (by kernel_rfl) (by kernel_rfl) (by kernel_rfl) (fun _ _ h=>by obtain ⟨_,_,_,h,_⟩:=h; cases h) (ai (n:=1) (by kernel_rfl) rfl) ?_;show zI 13 7
    first | (refine bc (i:=5) rfl rfl (by kernel_rfl) (by kernel_rfl) (by kernel_rfl) (fun _ _ h=>by obtain ⟨_,_,_,h,_⟩:=h; cases h) (ah (av:=.pt _ _) rfl) ?_) | (refine bc (i:=5) rfl rfl (by kernel_rfl) (by kernel_rfl) (by kernel_rfl) (fun _ _ h=>by obtain ⟨_,_,_,h,_⟩:=h; cases h) (ah (av:=.cp _) rfl) ?_) | (refine bc (i:=5) rfl rfl (by kernel_rfl) (by kernel_rfl) (by kernel_rfl) (fun _ _ h=>by obtain ⟨_,_,_,h,_⟩:=h; cases h) (ah (av:=.v _) rfl) ?_)
    show zI 13 39
    first | (refine bc (i:=6) rfl rfl (by kernel_rfl) (by kernel_rfl) (by kernel_rfl) (fun _ _ h=>by obtain ⟨_,_,_,h,_⟩:=h; cases h) (am rfl) ?_) | (refine bc (i:=6) rfl rfl (by kernel_rfl) (by kernel_rfl) (by kernel_rfl) (fun _ _ h=>by obtain ⟨_,_,_,h,_⟩:=h; cases h) (bu rfl) ?_) | (refine bc (i:=6) rfl rfl (by kernel_rfl) (by kernel_rfl) (by kernel_rfl) (fun _ _ h=>by obtain ⟨_,_,_,h,_⟩:=h; cases h) (bJ rfl) ?_)
    show zI 13 103;refine bc (i:=7) rfl rfl (by kernel_rfl) (by kernel_rfl) (by kernel_rfl) (fun _ _ h=>by obtain ⟨_,_,_,h,_⟩:=h; cases h) (ai (n:=1) (by kernel_rfl) rfl) ?_;show zI 13 231;refine bc (i:=11) rfl rfl (by kernel_rfl) (by kernel_rfl) (by kernel_rfl) (fun _ _ h=>by obtain ⟨_,_,_,h,_⟩:=h; cases h) (ah (av:=.v _) rfl) ?_;show zI 13 2279;refine dj (i:=3) (j:=8) (by kernel_rfl) rfl rfl rfl rfl ?_ ?_
    · first | refine aJ rfl (al (i:=0) ak rfl rfl rfl rfl) ?_ | refine aJ rfl (al (i:=1) ak rfl rfl rfl rfl) ?_
      show zI 13 2287
      first | (refine bc (i:=4) rfl rfl (by kernel_rfl) (by kernel_rfl) (by kernel_rfl) (fun _ _ h=>by obtain ⟨_,_,_,h,_⟩:=h; cases h) (kb ak rfl) ?_) | (refine bc (i:=4) rfl rfl (by kernel_rfl) (by kernel_rfl) (by kernel_rfl) (fun _ _ h=>by obtain ⟨_,_,_,h,_⟩:=h; cases h) (opS_cap_vw ak rfl) ?_)
      show zI 13 2303;refine bj (i:=8) (by kernel_rfl) rfl rfl ?_
      first | refine aJ rfl (al (i:=0) ak rfl rfl rfl rfl) ?_ | refine aJ rfl (al (i:=1) ak rfl rfl rfl rfl) ?_
      show zI 13 2559
      first | (refine bc (i:=9) rfl rfl (by kernel_rfl) (by kernel_rfl) (by kernel_rfl) (fun _ _ h=>by obtain ⟨_,_,_,h,_⟩:=h; cases h) (bh ak rfl) ?_) | (refine bc (i:=9) rfl rfl (by kernel_rfl) (by kernel_rfl) (by kernel_rfl) (fun _ _ h=>by obtain ⟨_,_,_,h,_⟩:=h; cases h) (cY ak rfl) ?_)
      show zI 13 3071
      refine bc (i:=10) rfl rfl (by kernel_rfl) (by kernel_rfl) (by kernel_rfl) (fun _ _ h=>by obtain ⟨_,_,_,h,_⟩:=h; cases h) (mP rfl rfl ?h2) ?_; (case h2=>(omega))
      show zI 13 4095;refine bc (i:=12) rfl rfl (by kernel_rfl) (by kernel_rfl) (by kernel_rfl) (fun _ _ h=>by obtain ⟨_,_,_,h,_⟩:=h; cases h) (bN rfl rfl) ?_;show zI 13 8191;refine bw rfl<|ax rfl (fun c2=>?_) (fun c2=>?_)
      · have c2p:=c2; try simp only [decide_eq_true_eq,decide_eq_false_iff_not,Bool.not_eq_true',Bool.not_eq_false',Bool.not_true,Bool.not_false,Bool.not_eq_eq_eq_not] at c2p
        refine aa ?_;show AR _ _ _ _ _ [0,1,2] _;refine ar rfl rfl ?_
        first | (refine aE rfl rfl (ah (av:=.pt _ _) rfl) ?_) | (refine aE rfl rfl (ah (av:=.cp _) rfl) ?_) | (refine aE rfl rfl (ah (av:=.v _) rfl) ?_)
        refine ar rfl rfl<|aE rfl rfl (ah (av:=.v _) rfl)<|ar rfl rfl<|eM [.ty o 60] rfl en123 rfl (kZ  o (.pt o 0) n hn) ?p2 ?k2 ?q2
        (case p2=>(exact bG _))
        (case q2=>(rintro c A' ⟨h,_⟩; cases h))
        rintro av A' ⟨h,t24,rfl⟩; cases h
        refine ag ?_
        -- END 1 (end)
        show dn _ _ _ _ .normal _
        first | exact ⟨rfl,_,_,gx rfl,bX _,rfl,rfl⟩ | (exfalso; omega)
      · have c2p:=c2; try simp only [decide_eq_true_eq,decide_eq_false_iff_not,Bool.not_eq_true',Bool.not_eq_false',Bool.not_true,Bool.not_false,Bool.not_eq_eq_eq_not] at c2p
        refine aC ?_
        -- END 2 (end)
        show dn _ _ _ _ .normal _
        first | exact ⟨rfl,_,_,gx rfl,bX _,rfl,rfl⟩ | (exfalso; omega)
    · first | refine aJ rfl (al (i:=0) ak rfl rfl rfl rfl) ?_ | refine aJ rfl (al (i:=1) ak rfl rfl rfl rfl) ?_
      show zI 13 2535
      first | (refine bc (i:=9) rfl rfl (by kernel_rfl) (by kernel_rfl) (by kernel_rfl) (fun _ _ h=>by obtain ⟨_,_,_,h,_⟩:=h; cases h) (bh ak rfl) ?_) | (refine bc (i:=9) rfl rfl (by kernel_rfl) (by kernel_rfl) (by kernel_rfl) (fun _ _ h=>by obtain ⟨_,_,_,h,_⟩:=h; cases h) (cY ak rfl) ?_)
      show zI 13 3047;refine bj (i:=3) (by kernel_rfl) rfl rfl ?_
      first | refine aJ rfl (al (i:=0) ak rfl rfl rfl rfl) ?_ | refine aJ rfl (al (i:=1) ak rfl rfl rfl rfl) ?_
      show zI 13 3055
      first | (refine bc (i:=4) rfl rfl (by kernel_rfl) (by kernel_rfl) (by kernel_rfl) (fun _ _ h=>by obtain ⟨_,_,_,h,_⟩:=h; cases h) (kb ak rfl) ?_) | (refine bc (i:=4) rfl rfl (by kernel_rfl) (by kernel_rfl) (by kernel_rfl) (fun _ _ h=>by obtain ⟨_,_,_,h,_⟩:=h; cases h) (opS_cap_vw ak rfl) ?_)
      show zI 13 3071
      refine bc (i:=10) rfl rfl (by kernel_rfl) (by kernel_rfl) (by kernel_rfl) (fun _ _ h=>by obtain ⟨_,_,_,h,_⟩:=h; cases h) (mP rfl rfl ?h4) ?_; (case h4=>(omega))
      show zI 13 4095;refine bc (i:=12) rfl rfl (by kernel_rfl) (by kernel_rfl) (by kernel_rfl) (fun _ _ h=>by obtain ⟨_,_,_,h,_⟩:=h; cases h) (bN rfl rfl) ?_;show zI 13 8191;refine bw rfl<|ax rfl (fun c3=>?_) (fun c3=>?_)
      · have c3p:=c3; try simp only [decide_eq_true_eq,decide_eq_false_iff_not,Bool.not_eq_true',Bool.not_eq_false',Bool.not_true,Bool.not_false,Bool.not_eq_eq_eq_not] at c3p
        refine aa ?_;show AR _ _ _ _ _ [0,1,2] _;refine ar rfl rfl ?_
        first | (refine aE rfl rfl (ah (av:=.pt _ _) rfl) ?_) | (refine aE rfl rfl (ah (av:=.cp _) rfl) ?_) | (refine aE rfl rfl (ah (av:=.v _) rfl) ?_)
        refine ar rfl rfl<|aE rfl rfl (ah (av:=.v _) rfl)<|ar rfl rfl<|eM [.ty o 60] rfl en123 rfl (kZ  o (.pt o 0) n hn) ?p3 ?k3 ?q3
        (case p3=>(exact bG _))
        (case q3=>(rintro c A' ⟨h,_⟩; cases h))
        rintro av A' ⟨h,t24,rfl⟩; cases h
        refine ag ?_
        -- END 3 (end)
        show dn _ _ _ _ .normal _
        first | exact ⟨rfl,_,_,gx rfl,bX _,rfl,rfl⟩ | (exfalso; omega)
      · have c3p:=c3; try simp only [decide_eq_true_eq,decide_eq_false_iff_not,Bool.not_eq_true',Bool.not_eq_false',Bool.not_true,Bool.not_false,Bool.not_eq_eq_eq_not] at c3p
        refine aC ?_
        -- END 4 (end)
        show dn _ _ _ _ .normal _
        first | exact ⟨rfl,_,_,gx rfl,bX _,rfl,rfl⟩ | (exfalso; omega)
set_option maxRecDepth 100000 in
set_option maxHeartbeats 1000000 in
theorem sJ (o:Nat) (a:AV) (ha:a=.v (.pointer none)∨a=.pt o 0) (n:Nat) (hn:n≤1000000000) (hz:0 < n) :
    ACalls Tryz.prog 109 [.pt o 0,i64 n] [.obj o [a,aj],.ty o 60] (fun e A'=>e=.ret (.tup [])∧∃ t',A'=[.tok t' 5,.obj o [.pt o 0,slE Enc.byte [] (some t')],.ty o 60]):=by
  refine az Tryz.func109 rfl rfl ?_;show AW _ _ 25 _ _ _;refine ac<|aa ?_;show AR _ _ _ _ _ [0,1] _;refine ar rfl rfl ?_
  first | (refine aE rfl rfl (ah (av:=.pt _ _) rfl) ?_) | (refine aE rfl rfl (ah (av:=.cp _) rfl) ?_) | (refine aE rfl rfl (ah (av:=.v _) rfl) ?_)
  refine ar rfl rfl<|eM [] rfl en51 rfl (jI  o a aj ha) ?p1 ?k1 ?q1
  (case p1=>(exact bG _))
  (case q1=>(rintro c A' ⟨h,_⟩; cases h))
  rintro av A' ⟨h,rfl⟩; cases h
  refine ag<|ac<|ac<|aa ?_;show AR _ _ _ _ _ [0,1] _;refine ar rfl rfl<|aE rfl rfl (ah (av:=.v _) rfl)<|ar rfl rfl<|aE rfl rfl (bN rfl rfl)<|ag<|ax rfl (fun c1=>?_) (fun c1=>?_)
  · have c1p:=c1; try simp only [decide_eq_true_eq,decide_eq_false_iff_not,Bool.not_eq_true',Bool.not_eq_false',Bool.not_true,Bool.not_false,Bool.not_eq_eq_eq_not] at c1p
    refine aa ?_;show AR _ _ _ _ _ [0,1] _;refine ar rfl rfl<|aE rfl rfl (bW (a:=.v _) ab rfl rfl)<|ar rfl rfl ?_
    exfalso; first | omega | simp_all
  · have c1p:=c1; try simp only [decide_eq_true_eq,decide_eq_false_iff_not,Bool.not_eq_true',Bool.not_eq_false',Bool.not_true,Bool.not_false,Bool.not_eq_eq_eq_not] at c1p
    refine aC<|ac<|bn (by kernel_rfl) ?_;show AI _ _ _ _ _ 13 (Array.replicate 13 false) _
    first | (refine bc (i:=0) rfl rfl (by kernel_rfl) (by kernel_rfl) (by kernel_rfl) (fun _ _ h=>by obtain ⟨_,_,_,h,_⟩:=h; cases h) (ah (av:=.pt _ _) rfl) ?_) | (refine bc (i:=0) rfl rfl (by kernel_rfl) (by kernel_rfl) (by kernel_rfl) (fun _ _ h=>by obtain ⟨_,_,_,h,_⟩:=h; cases h) (ah (av:=.cp _) rfl) ?_) | (refine bc (i:=0) rfl rfl (by kernel_rfl) (by kernel_rfl) (by kernel_rfl) (fun _ _ h=>by obtain ⟨_,_,_,h,_⟩:=h; cases h) (ah (av:=.v _) rfl) ?_)
    show zI 13 1
    first | (refine bc (i:=1) rfl rfl (by kernel_rfl) (by kernel_rfl) (by kernel_rfl) (fun _ _ h=>by obtain ⟨_,_,_,h,_⟩:=h; cases h) (am rfl) ?_) | (refine bc (i:=1) rfl rfl (by kernel_rfl) (by kernel_rfl) (by kernel_rfl) (fun _ _ h=>by obtain ⟨_,_,_,h,_⟩:=h; cases h) (bu rfl) ?_) | (refine bc (i:=1) rfl rfl (by kernel_rfl) (by kernel_rfl) (by kernel_rfl) (fun _ _ h=>by obtain ⟨_,_,_,h,_⟩:=h; cases h) (bJ rfl) ?_)
    show zI 13 3;refine bc (i:=2) rfl rfl (by kernel_rfl) (by kernel_rfl) (by kernel_rfl) (fun _ _ h=>by obtain ⟨_,_,_,h,_⟩:=h; cases h) (ai (n:=1) (by kernel_rfl) rfl) ?_;show zI 13 7
    first | (refine bc (i:=5) rfl rfl (by kernel_rfl) (by kernel_rfl) (by kernel_rfl) (fun _ _ h=>by obtain ⟨_,_,_,h,_⟩:=h; cases h) (ah (av:=.pt _ _) rfl) ?_) | (refine bc (i:=5) rfl rfl (by kernel_rfl) (by kernel_rfl) (by kernel_rfl) (fun _ _ h=>by obtain ⟨_,_,_,h,_⟩:=h; cases h) (ah (av:=.cp _) rfl) ?_) | (refine bc (i:=5) rfl rfl (by kernel_rfl) (by kernel_rfl) (by kernel_rfl) (fun _ _ h=>by obtain ⟨_,_,_,h,_⟩:=h; cases h) (ah (av:=.v _) rfl) ?_)
    show zI 13 39
    first | (refine bc (i:=6) rfl rfl (by kernel_rfl) (by kernel_rfl) (by kernel_rfl) (fun _ _ h=>by obtain ⟨_,_,_,h,_⟩:=h; cases h) (am rfl) ?_) | (refine bc (i:=6) rfl rfl (by kernel_rfl) (by kernel_rfl) (by kernel_rfl) (fun _ _ h=>by obtain ⟨_,_,_,h,_⟩:=h; cases h) (bu rfl) ?_) | (refine bc (i:=6) rfl rfl (by kernel_rfl) (by kernel_rfl) (by kernel_rfl) (fun _ _ h=>by obtain ⟨_,_,_,h,_⟩:=h; cases h) (bJ rfl) ?_)
    show zI 13 103;refine bc (i:=7) rfl rfl (by kernel_rfl) (by kernel_rfl) (by kernel_rfl) (fun _ _ h=>by obtain ⟨_,_,_,h,_⟩:=h; cases h) (ai (n:=1) (by kernel_rfl) rfl) ?_;show zI 13 231;refine bc (i:=11) rfl rfl (by kernel_rfl) (by kernel_rfl) (by kernel_rfl) (fun _ _ h=>by obtain ⟨_,_,_,h,_⟩:=h; cases h) (ah (av:=.v _) rfl) ?_;show zI 13 2279;refine dj (i:=3) (j:=8) (by kernel_rfl) rfl rfl rfl rfl ?_ ?_
    · first | refine aJ rfl (al (i:=0) ak rfl rfl rfl rfl) ?_ | refine aJ rfl (al (i:=1) ak rfl rfl rfl rfl) ?_
      show zI 13 2287
      first | (refine bc (i:=4) rfl rfl (by kernel_rfl) (by kernel_rfl) (by kernel_rfl) (fun _ _ h=>by obtain ⟨_,_,_,h,_⟩:=h; cases h) (kb ak rfl) ?_) | (refine bc (i:=4) rfl rfl (by kernel_rfl) (by kernel_rfl) (by kernel_rfl) (fun _ _ h=>by obtain ⟨_,_,_,h,_⟩:=h; cases h) (opS_cap_vw ak rfl) ?_)
      show zI 13 2303;refine bj (i:=8) (by kernel_rfl) rfl rfl ?_
      first | refine aJ rfl (al (i:=0) ak rfl rfl rfl rfl) ?_ | refine aJ rfl (al (i:=1) ak rfl rfl rfl rfl) ?_
      show zI 13 2559
      first | (refine bc (i:=9) rfl rfl (by kernel_rfl) (by kernel_rfl) (by kernel_rfl) (fun _ _ h=>by obtain ⟨_,_,_,h,_⟩:=h; cases h) (bh ak rfl) ?_) | (refine bc (i:=9) rfl rfl (by kernel_rfl) (by kernel_rfl) (by kernel_rfl) (fun _ _ h=>by obtain ⟨_,_,_,h,_⟩:=h; cases h) (cY ak rfl) ?_)
      show zI 13 3071
      refine bc (i:=10) rfl rfl (by kernel_rfl) (by kernel_rfl) (by kernel_rfl) (fun _ _ h=>by obtain ⟨_,_,_,h,_⟩:=h; cases h) (mP rfl rfl ?h2) ?_; (case h2=>(omega))
      show zI 13 4095;refine bc (i:=12) rfl rfl (by kernel_rfl) (by kernel_rfl) (by kernel_rfl) (fun _ _ h=>by obtain ⟨_,_,_,h,_⟩:=h; cases h) (bN rfl rfl) ?_;show zI 13 8191;refine bw rfl<|ax rfl (fun c2=>?_) (fun c2=>?_)
      · have c2p:=c2; try simp only [decide_eq_true_eq,decide_eq_false_iff_not,Bool.not_eq_true',Bool.not_eq_false',Bool.not_true,Bool.not_false,Bool.not_eq_eq_eq_not] at c2p
        refine aa ?_;show AR _ _ _ _ _ [0,1,2] _;refine ar rfl rfl ?_
        first | (refine aE rfl rfl (ah (av:=.pt _ _) rfl) ?_) | (refine aE rfl rfl (ah (av:=.cp _) rfl) ?_) | (refine aE rfl rfl (ah (av:=.v _) rfl) ?_)
        refine ar rfl rfl<|aE rfl rfl (ah (av:=.v _) rfl)<|ar rfl rfl<|eM [.ty o 60] rfl en123 rfl (kZ  o (.pt o 0) n hn) ?p2 ?k2 ?q2
        (case p2=>(exact bG _))
        (case q2=>(rintro c A' ⟨h,_⟩; cases h))
        rintro av A' ⟨h,t24,rfl⟩; cases h
        refine ag ?_
        -- END 1 (end)
        show dn _ _ _ _ .normal _
        first | exact ⟨rfl,_,_,gx rfl,bX _,rfl,t24,rfl⟩ | (exfalso; omega)
      · have c2p:=c2; try simp only [decide_eq_true_eq,decide_eq_false_iff_not,Bool.not_eq_true',Bool.not_eq_false',Bool.not_true,Bool.not_false,Bool.not_eq_eq_eq_not] at c2p
        refine aC ?_
        -- END 2 (end)
        show dn _ _ _ _ .normal _
        first | exact ⟨rfl,_,_,gx rfl,bX _,rfl,t24,rfl⟩ | (exfalso; omega)
    · first | refine aJ rfl (al (i:=0) ak rfl rfl rfl rfl) ?_ | refine aJ rfl (al (i:=1) ak rfl rfl rfl rfl) ?_
      show zI 13 2535
      first | (refine bc (i:=9) rfl rfl (by kernel_rfl) (by kernel_rfl) (by kernel_rfl) (fun _ _ h=>by obtain ⟨_,_,_,h,_⟩:=h; cases h) (bh ak rfl) ?_) | (refine bc (i:=9) rfl rfl (by kernel_rfl) (by kernel_rfl) (by kernel_rfl) (fun _ _ h=>by obtain ⟨_,_,_,h,_⟩:=h; cases h) (cY ak rfl) ?_)
      show zI 13 3047;refine bj (i:=3) (by kernel_rfl) rfl rfl ?_
      first | refine aJ rfl (al (i:=0) ak rfl rfl rfl rfl) ?_ | refine aJ rfl (al (i:=1) ak rfl rfl rfl rfl) ?_
      show zI 13 3055
      first | (refine bc (i:=4) rfl rfl (by kernel_rfl) (by kernel_rfl) (by kernel_rfl) (fun _ _ h=>by obtain ⟨_,_,_,h,_⟩:=h; cases h) (kb ak rfl) ?_) | (refine bc (i:=4) rfl rfl (by kernel_rfl) (by kernel_rfl) (by kernel_rfl) (fun _ _ h=>by obtain ⟨_,_,_,h,_⟩:=h; cases h) (opS_cap_vw ak rfl) ?_)
      show zI 13 3071
      refine bc (i:=10) rfl rfl (by kernel_rfl) (by kernel_rfl) (by kernel_rfl) (fun _ _ h=>by obtain ⟨_,_,_,h,_⟩:=h; cases h) (mP rfl rfl ?h4) ?_; (case h4=>(omega))
      show zI 13 4095;refine bc (i:=12) rfl rfl (by kernel_rfl) (by kernel_rfl) (by kernel_rfl) (fun _ _ h=>by obtain ⟨_,_,_,h,_⟩:=h; cases h) (bN rfl rfl) ?_;show zI 13 8191;refine bw rfl<|ax rfl (fun c3=>?_) (fun c3=>?_)
      · have c3p:=c3; try simp only [decide_eq_true_eq,decide_eq_false_iff_not,Bool.not_eq_true',Bool.not_eq_false',Bool.not_true,Bool.not_false,Bool.not_eq_eq_eq_not] at c3p
        refine aa ?_;show AR _ _ _ _ _ [0,1,2] _;refine ar rfl rfl ?_
        first | (refine aE rfl rfl (ah (av:=.pt _ _) rfl) ?_) | (refine aE rfl rfl (ah (av:=.cp _) rfl) ?_) | (refine aE rfl rfl (ah (av:=.v _) rfl) ?_)
        refine ar rfl rfl<|aE rfl rfl (ah (av:=.v _) rfl)<|ar rfl rfl<|eM [.ty o 60] rfl en123 rfl (kZ  o (.pt o 0) n hn) ?p3 ?k3 ?q3
        (case p3=>(exact bG _))
        (case q3=>(rintro c A' ⟨h,_⟩; cases h))
        rintro av A' ⟨h,t24,rfl⟩; cases h
        refine ag ?_
        -- END 3 (end)
        show dn _ _ _ _ .normal _
        first | exact ⟨rfl,_,_,gx rfl,bX _,rfl,t24,rfl⟩ | (exfalso; omega)
      · have c3p:=c3; try simp only [decide_eq_true_eq,decide_eq_false_iff_not,Bool.not_eq_true',Bool.not_eq_false',Bool.not_true,Bool.not_false,Bool.not_eq_eq_eq_not] at c3p
        refine aC ?_
        -- END 4 (end)
        show dn _ _ _ _ .normal _
        first | exact ⟨rfl,_,_,gx rfl,bX _,rfl,t24,rfl⟩ | (exfalso; omega)
theorem ui (o:Nat) (a:AV) (ha:a=.v (.pointer none)∨a=.pt o 0) (n:Nat) (hn:n≤1000000000):ACalls Tryz.prog 109 [.pt o 0,i64 n] [.obj o [a,aj],.ty o 60] (fun e A'=>e=.ret (.tup [])∧∃ t',A'=[.tok t' 5,.obj o [.pt o 0,slE Enc.byte [] (some t')],.ty o 60]):=by
  by_cases hz:n=0
  · refine (sI  o a ha n hn hz).conv fun ae A' h F I w hI=>?_
    obtain ⟨h1,rfl⟩:=h;obtain ⟨I',t,E,hI'⟩:=wX hI 1 1 5 rfl;exact ⟨I',_,E,hI',h1,t,rfl⟩
  · exact sJ  o a ha n hn (by omega)
end Go.Proofs.YteokdkimegepoaaGreatDoor
namespace Go.Proofs.YteokdkimegepoaaGreatDoor
open Go.RowKit Go.Av
abbrev _root_.Go.Av.ao := @Tryz.underlying30
set_option maxRecDepth 100000 in
set_option maxHeartbeats 1000000 in
theorem vD (l:List (List UInt8)) (sep:List UInt8) (tl:Option Nat) (hb:sep.length*l.length+Str.total l≤1000000000) (hl:l.length≤1000000000) :
    ACalls Tryz.prog 92 [slE Enc.str l tl,S sep] [] (Ret (S (Str.join sep l)) []):=by
  refine az Tryz.func92 rfl rfl ?_;show AW _ _ 75 _ _ _;refine ac<|aa ?_;show AR _ _ _ _ _ [0] _;refine ar rfl rfl<|aE rfl rfl (aZ (av:=.v _) rfl)<|ag<|ac<|ac<|aa ?_;show AR _ _ _ _ _ [0,1] _;refine ar rfl rfl ?_
  first | (refine aE rfl rfl (ah (av:=slE _ _ _) rfl) ?_) | (refine aE rfl rfl (ah (av:=.v _) rfl) ?_) | (refine aE rfl rfl (ah (av:=.vw _ _ _ _) rfl) ?_)
  refine ar rfl rfl ?_
  first | (refine aE rfl rfl (bh ao rfl) ?_) | (refine aE rfl rfl (cY ao rfl) ?_)
  refine ag<|aR<|ac<|aa ?_;show AR _ _ _ _ _ [0,1] _;refine ar rfl rfl<|aE rfl rfl (bI rfl rfl)<|ar rfl rfl<|aE rfl rfl (aZ (av:=.v _) rfl)<|ag<|ax rfl (fun c1=>?_) (fun c1=>?_)
  · have c1p:=c1; try simp only [decide_eq_true_eq,decide_eq_false_iff_not,Bool.not_eq_true',Bool.not_eq_false',Bool.not_true,Bool.not_false,Bool.not_eq_eq_eq_not] at c1p
    refine ac<|aa ?_;show AR _ _ _ _ _ [0] _;refine ar rfl rfl<|aE rfl rfl (aZ (av:=.v _) rfl)<|ag<|aQ ?_
    -- END 1 (ret)
    show dn _ _ _ _ .ret _
    have h0:l=[]:=List.length_eq_zero_iff.1 (by omega)
    subst h0
    (refine ⟨rfl,_,_,aO rfl ?_,?_,⟨rfl,rfl⟩⟩; all_goals first | exact bX _ | exact bC _ | ((repeat (first | exact bX _ | exact bC _ | refine gd _ ?_ | refine gc _ ?_)); done) | exact Wv.refl _ | exact Wv.tok _ _ _ | exact Wv.nil _)
  · have c1p:=c1; try simp only [decide_eq_true_eq,decide_eq_false_iff_not,Bool.not_eq_true',Bool.not_eq_false',Bool.not_true,Bool.not_false,Bool.not_eq_eq_eq_not] at c1p
    refine ac<|aa ?_;show AR _ _ _ _ _ [0,1] _;refine ar rfl rfl<|aE rfl rfl (bI rfl rfl)<|ar rfl rfl<|aE rfl rfl (aZ (av:=.v _) rfl)<|ag<|ax rfl (fun c2=>?_) (fun c2=>?_)
    · have c2p:=c2; try simp only [decide_eq_true_eq,decide_eq_false_iff_not,Bool.not_eq_true',Bool.not_eq_false',Bool.not_true,Bool.not_false,Bool.not_eq_eq_eq_not] at c2p
      refine ac<|aa ?_;show AR _ _ _ _ _ [0,1,2,3] _;refine ar rfl rfl ?_
      first | (refine aE rfl rfl (ah (av:=slE _ _ _) rfl) ?_) | (refine aE rfl rfl (ah (av:=.v _) rfl) ?_) | (refine aE rfl rfl (ah (av:=.vw _ _ _ _) rfl) ?_)
      refine ar rfl rfl<|aE rfl rfl (iU (m:=0) ao (by kernel_rfl) rfl rfl ?h1 ?h2) ?_
      (case h1=>(omega))
      (case h2=>(omega))
      refine ar rfl rfl ?_
      first | refine aE rfl rfl (aG ab rfl rfl) ?_ | refine cG rfl rfl (al (i:=0) ab rfl rfl rfl rfl) ?_ | refine cG rfl rfl (al (i:=1) ab rfl rfl rfl rfl) ?_ | refine cG rfl rfl (al (i:=2) ab rfl rfl rfl rfl) ?_ | refine cG rfl rfl (al (i:=3) ab rfl rfl rfl rfl) ?_
      refine ar rfl rfl<|aE rfl rfl (aZ (av:=.v _) rfl)<|ag<|aQ ?_
      -- END 2 (ret)
      show dn _ _ _ _ .ret _
      rw [Str.join_one sep l (by omega) (by omega)]
      (refine ⟨rfl,_,_,aO rfl ?_,?_,⟨rfl,rfl⟩⟩; all_goals first | exact bX _ | exact bC _ | ((repeat (first | exact bX _ | exact bC _ | refine gd _ ?_ | refine gc _ ?_)); done) | exact Wv.refl _ | exact Wv.tok _ _ _ | exact Wv.nil _)
    · have c2p:=c2; try simp only [decide_eq_true_eq,decide_eq_false_iff_not,Bool.not_eq_true',Bool.not_eq_false',Bool.not_true,Bool.not_false,Bool.not_eq_eq_eq_not] at c2p
      have hl2:2≤l.length:=by omega
      have hm:=Str.mul_bounds sep.length l.length 1000000000 (by omega) (by omega)
      refine aC<|ac<|aa ?_;show AR _ _ _ _ _ [0] _;refine ar rfl rfl<|aE rfl rfl (aZ (av:=.v _) rfl)<|ag<|bq (X:=Nat) (fun n0=>⟨[(0,slE Enc.str l tl),(1,S sep),(5,i64 n0)],[],[]⟩) (fun n0=>n0≤sep.length*l.length) ?_ ?_
      · refine ac<|aa ?_;show AR _ _ _ _ _ [0,1,2] _;refine ar rfl rfl<|aE rfl rfl (ah (av:=.v _) rfl)<|ar rfl rfl<|aE rfl rfl (aW ab rfl)<|ar rfl rfl<|aE rfl rfl (eN rfl rfl)<|ag<|ax rfl (fun c3=>?_) (fun c3=>?_)
        · have c3p:=c3; try simp only [decide_eq_true_eq,decide_eq_false_iff_not,Bool.not_eq_true',Bool.not_eq_false',Bool.not_true,Bool.not_false,Bool.not_eq_eq_eq_not] at c3p
          refine ac<|ac<|aa ?_;show AR _ _ _ _ _ [0,1,2,3,4,5,6] _;refine ar rfl rfl<|aE rfl rfl (ah (av:=.v _) rfl)<|ar rfl rfl<|aE rfl rfl (aW ab rfl)<|ar rfl rfl ?_
          first | (refine aE rfl rfl (ah (av:=slE _ _ _) rfl) ?_) | (refine aE rfl rfl (ah (av:=.v _) rfl) ?_) | (refine aE rfl rfl (ah (av:=.vw _ _ _ _) rfl) ?_)
          refine ar rfl rfl ?_
          first | (refine aE rfl rfl (bh ao rfl) ?_) | (refine aE rfl rfl (cY ao rfl) ?_)
          refine ar rfl rfl<|aE rfl rfl (mP rfl rfl ?h4) ?_
          (case h4=>(omega))
          refine ar rfl rfl<|aE rfl rfl (zq rfl rfl ?h6) ?_
          (case h6=>(omega))
          refine ar rfl rfl<|aE rfl rfl (cX rfl rfl)<|ag<|ax rfl (fun c4=>?_) (fun c4=>?_)
          · have c4p:=c4; try simp only [decide_eq_true_eq,decide_eq_false_iff_not,Bool.not_eq_true',Bool.not_eq_false',Bool.not_true,Bool.not_false,Bool.not_eq_eq_eq_not] at c4p
            exact absurd c4p (Str.quo_great _ _ 0 (by omega) (by omega) hl)
          · have c4p:=c4; try simp only [decide_eq_true_eq,decide_eq_false_iff_not,Bool.not_eq_true',Bool.not_eq_false',Bool.not_true,Bool.not_false,Bool.not_eq_eq_eq_not] at c4p
            refine aC<|aa ?_;show AR _ _ _ _ _ [0,1,2,3,4,5,6,7,8] _;refine ar rfl rfl<|aE rfl rfl (ah (av:=.v _) rfl)<|ar rfl rfl<|aE rfl rfl (ah (av:=.v _) rfl)<|ar rfl rfl<|aE rfl rfl (aW ab rfl)<|ar rfl rfl ?_
            first | (refine aE rfl rfl (ah (av:=slE _ _ _) rfl) ?_) | (refine aE rfl rfl (ah (av:=.v _) rfl) ?_) | (refine aE rfl rfl (ah (av:=.vw _ _ _ _) rfl) ?_)
            refine ar rfl rfl ?_
            first | (refine aE rfl rfl (bh ao rfl) ?_) | (refine aE rfl rfl (cY ao rfl) ?_)
            refine ar rfl rfl<|aE rfl rfl (mP rfl rfl ?h8) ?_
            (case h8=>(omega))
            refine ar rfl rfl<|aE rfl rfl (sr rfl rfl ?h10) ?_
            (case h10=>(omega))
            refine ar rfl rfl<|aE rfl rfl (nT rfl rfl ?h12) ?_
            (case h12=>(omega))
            refine ar rfl rfl<|aE rfl rfl (aZ (av:=.v _) rfl)<|ag ?_
            -- END 3 (cut('p',7))
            refine ⟨(sep.length*(l.length - 1)),?_,?_⟩
            · exact Nat.mul_le_mul_left _ (by omega)
            · refine WK.env (bK ?_ (bK ?_ (bK ?_ (Env.le.nil _)))) ?_
              all_goals first | exact bX _ | exact bC _ | ((repeat (first | exact bX _ | exact bC _ | refine gd _ ?_ | refine gc _ ?_)); done) | exact Wv.refl _ | exact Wv.any _ | exact Wv.tok _ _ _ | exact Wv.nil _ | (refine nq ?_; first | rfl | exact kO (by omega) | (exact kO (Str.mul_cast _ _ (by omega))))
        · have c3p:=c3; try simp only [decide_eq_true_eq,decide_eq_false_iff_not,Bool.not_eq_true',Bool.not_eq_false',Bool.not_true,Bool.not_false,Bool.not_eq_eq_eq_not] at c3p
          refine aC ?_
          -- END 4 (cut('p',7))
          refine ⟨0,?_,?_⟩
          · exact Nat.zero_le _
          · refine WK.env (bK ?_ (bK ?_ (bK ?_ (Env.le.nil _)))) ?_
            all_goals first | exact bX _ | exact bC _ | ((repeat (first | exact bX _ | exact bC _ | refine gd _ ?_ | refine gc _ ?_)); done) | exact Wv.refl _ | exact Wv.any _ | exact Wv.tok _ _ _ | exact Wv.nil _ | (refine nq ?_; first | rfl | exact kO (by omega) | (simp))
      · rintro n0 hn0
        refine ac<|ac<|aa ?_;show AR _ _ _ _ _ [0,1,2] _;refine ar rfl rfl ?_
        first | (refine aE rfl rfl (ah (av:=slE _ _ _) rfl) ?_) | (refine aE rfl rfl (ah (av:=.v _) rfl) ?_) | (refine aE rfl rfl (ah (av:=.vw _ _ _ _) rfl) ?_)
        refine ar rfl rfl ?_
        first | (refine aE rfl rfl (bh ao rfl) ?_) | (refine aE rfl rfl (cY ao rfl) ?_)
        refine ar rfl rfl<|aE rfl rfl (ah (av:=.v _) rfl)<|ag<|aR<|cl (X:=Nat×Nat) (fun (i,n)=>⟨[(0,slE Enc.str l tl),(1,S sep),(5,i64 n),(39,slE Enc.str l tl),(40,i64 l.length),(41,i64 i)],[],[]⟩) (fun (i,n)=>i≤l.length∧n+Str.total (l.drop i)≤1000000000) (fun (i,n)=>l.length - i) (0,n0) ?_ ?_ ?_
        · exact ⟨by omega,by simp; omega⟩
        · refine WK.env (bK ?_ (bK ?_ (bK ?_ (bK ?_ (bK ?_ (bK ?_ (Env.le.nil _))))))) ?_
          all_goals first | exact bX _ | exact bC _ | ((repeat (first | exact bX _ | exact bC _ | refine gd _ ?_ | refine gc _ ?_)); done) | exact Wv.refl _ | exact Wv.any _ | exact Wv.tok _ _ _ | exact Wv.nil _ | (refine nq ?_; first | rfl | exact kO (by omega) | (simp))
        · rintro ⟨i,n⟩ ⟨h1,h2⟩
          refine ac<|aa ?_;show AR _ _ _ _ _ [0] _;refine ar rfl rfl<|aE rfl rfl (bN rfl rfl)<|ag<|ac<|ax rfl (fun c5=>?_) (fun c5=>?_)
          · have c5p:=c5; try simp only [decide_eq_true_eq,decide_eq_false_iff_not,Bool.not_eq_true',Bool.not_eq_false',Bool.not_true,Bool.not_false,Bool.not_eq_eq_eq_not] at c5p
            refine aC<|ac<|aR<|ac<|aa ?_;show AR _ _ _ _ _ [0,1,2] _;refine ar rfl rfl<|aE rfl rfl (iU ao (by kernel_rfl) rfl rfl rfl ?h13) ?_
            (case h13=>(omega))
            refine ar rfl rfl ?_
            first | refine aE rfl rfl (aG ab rfl rfl) ?_ | refine cG rfl rfl (al (i:=0) ab rfl rfl rfl rfl) ?_ | refine cG rfl rfl (al (i:=1) ab rfl rfl rfl rfl) ?_ | refine cG rfl rfl (al (i:=2) ab rfl rfl rfl rfl) ?_ | refine cG rfl rfl (al (i:=3) ab rfl rfl rfl rfl) ?_
            refine ar rfl rfl<|aE rfl rfl (aZ (av:=.v _) rfl)<|ag<|ac<|ac<|aa ?_;show AR _ _ _ _ _ [0,1,2,3,4] _;refine ar rfl rfl<|aE rfl rfl (ah (av:=.v _) rfl)<|ar rfl rfl<|aE rfl rfl (aW ab rfl)<|ar rfl rfl<|aE rfl rfl (ah (av:=.v _) rfl)<|ar rfl rfl<|aE rfl rfl (mP rfl rfl ?h15) ?_
            (case h15=>(omega))
            refine ar rfl rfl<|aE rfl rfl (eN rfl rfl)<|ag<|ax rfl (fun c6=>?_) (fun c6=>?_)
            · have c6p:=c6; try simp only [decide_eq_true_eq,decide_eq_false_iff_not,Bool.not_eq_true',Bool.not_eq_false',Bool.not_true,Bool.not_false,Bool.not_eq_eq_eq_not] at c6p
              exfalso; have:=Str.total_drop l i (by omega); omega
            · have c6p:=c6; try simp only [decide_eq_true_eq,decide_eq_false_iff_not,Bool.not_eq_true',Bool.not_eq_false',Bool.not_true,Bool.not_false,Bool.not_eq_eq_eq_not] at c6p
              refine aC<|aa ?_;show AR _ _ _ _ _ [0,1,2,3,4] _;refine ar rfl rfl<|aE rfl rfl (ah (av:=.v _) rfl)<|ar rfl rfl<|aE rfl rfl (ah (av:=.v _) rfl)<|ar rfl rfl<|aE rfl rfl (aW ab rfl)<|ar rfl rfl<|aE rfl rfl (nT rfl rfl ?h17) ?_
              (case h17=>(omega))
              refine ar rfl rfl<|aE rfl rfl (aZ (av:=.v _) rfl)<|ag<|aa ?_;show AR _ _ _ _ _ [0,1] _;refine ar rfl rfl<|aE rfl rfl (nT rfl rfl ?h19) ?_
              (case h19=>(omega))
              refine ar rfl rfl<|aE rfl rfl (ah (av:=.v _) rfl)<|ag ?_
              -- END 5 (loop1)
              refine ⟨(i+1,n+l[i].length),?_,?_,?_⟩
              · exact ⟨by omega,by have:=Str.total_drop l i (by omega); omega⟩
              · (try simp only []); omega
              · refine WK.env (bK ?_ (bK ?_ (bK ?_ (bK ?_ (bK ?_ (bK ?_ (Env.le.nil _))))))) ?_
                all_goals first | exact bX _ | exact bC _ | ((repeat (first | exact bX _ | exact bC _ | refine gd _ ?_ | refine gc _ ?_)); done) | exact Wv.refl _ | exact Wv.any _ | exact Wv.tok _ _ _ | exact Wv.nil _ | (refine nq ?_; first | rfl | exact kO (by omega) | (simp))
          · have c5p:=c5; try simp only [decide_eq_true_eq,decide_eq_false_iff_not,Bool.not_eq_true',Bool.not_eq_false',Bool.not_true,Bool.not_false,Bool.not_eq_eq_eq_not] at c5p
            refine bU<|ac<|aa ?_;show AR _ _ _ _ _ [0] _;refine ar rfl rfl<|AO.opx rfl rfl (pJ (zs:=[.pointer none,.slice none 0 0]) (by kernel_rfl)) ?_;rintro _ _ ⟨o8,rfl,rfl⟩;refine ag<|ac<|aa ?_;show AR _ _ _ _ _ [0,1] _;refine ar rfl rfl<|aE rfl rfl (ah (av:=.v _) rfl)<|ar rfl rfl<|eM [] rfl en109 rfl (ui o8 (.v (.pointer none)) (.inl rfl) n (by omega)) ?p1 ?k1 ?q1
            (case p1=>(exact bG _))
            (case q1=>(rintro c A' ⟨h,_⟩; cases h))
            rintro av A' ⟨h,t57,rfl⟩; cases h
            refine ag<|ac<|aa ?_;show AR _ _ _ _ _ [0,1,2,3] _;refine ar rfl rfl ?_
            first | (refine aE rfl rfl (ah (av:=slE _ _ _) rfl) ?_) | (refine aE rfl rfl (ah (av:=.v _) rfl) ?_) | (refine aE rfl rfl (ah (av:=.vw _ _ _ _) rfl) ?_)
            refine ar rfl rfl<|aE rfl rfl (iU (m:=0) ao (by kernel_rfl) rfl rfl ?h20 ?h21) ?_
            (case h20=>(omega))
            (case h21=>(omega))
            refine ar rfl rfl ?_
            first | refine aE rfl rfl (aG ab rfl rfl) ?_ | refine cG rfl rfl (al (i:=0) ab rfl rfl rfl rfl) ?_ | refine cG rfl rfl (al (i:=1) ab rfl rfl rfl rfl) ?_ | refine cG rfl rfl (al (i:=2) ab rfl rfl rfl rfl) ?_ | refine cG rfl rfl (al (i:=3) ab rfl rfl rfl rfl) ?_
            refine ar rfl rfl<|eM [] rfl en28 rfl (ci o8 _ (.inr rfl) [] l[0] t57 (by have:=Str.total_drop l 0 (by omega); simp at this ⊢; omega)) ?p2 ?k2 ?q2
            (case p2=>(exact List.Perm.trans (List.Perm.swap _ _ _) ((List.Perm.swap _ _ _).cons _)))
            (case q2=>(rintro c A' ⟨h,_⟩; cases h))
            rintro av A' ⟨h,t61,rfl⟩; cases h
            refine ag<|ac<|ac<|aa ?_;show AR _ _ _ _ _ [0,1,2,3] _;refine ar rfl rfl ?_
            first | (refine aE rfl rfl (ah (av:=slE _ _ _) rfl) ?_) | (refine aE rfl rfl (ah (av:=.v _) rfl) ?_) | (refine aE rfl rfl (ah (av:=.vw _ _ _ _) rfl) ?_)
            refine ar rfl rfl<|aE rfl rfl (pU (lo:=1) ao (by kernel_rfl) rfl rfl ?h23 ?h24) ?_
            (case h23=>(omega))
            (case h24=>(first | omega | (simp; done) | (simp; omega)))
            refine ar rfl rfl ?_
            first | (refine aE rfl rfl (bh ao rfl) ?_) | (refine aE rfl rfl (cY ao rfl) ?_)
            refine ar rfl rfl<|aE rfl rfl (ah (av:=.v _) rfl)<|ag<|aR<|cl (X:=Nat×List UInt8×Nat) (fun (i,out,t)=>⟨[(0,slE Enc.str l tl),(1,S sep),(8,.pt o8 0),(63,slE Enc.str (l.drop 1) none),(64,i64 ((l.drop 1).length:Nat)),(65,i64 i)],[],[.obj o8 [.pt o8 0,slE Enc.byte out (some t)],.ty o8 60,.tok t 5]⟩) (fun (i,out,t)=>i≤l.length - 1∧out++Str.rest sep (l.drop (i+1))=Str.join sep l) (fun (i,out,t)=>l.length - i) (0,l[0],t61) ?_ ?_ ?_
            · exact ⟨by omega,(Str.join_at sep l (by omega)).symm⟩
            · refine WK.env (bK ?_ (bK ?_ (bK ?_ (bK ?_ (bK ?_ (bK ?_ (Env.le.nil _))))))) ?_
              all_goals first | exact bX _ | exact bC _ | ((repeat (first | exact bX _ | exact bC _ | refine gd _ ?_ | refine gc _ ?_)); done) | exact Wv.refl _ | exact Wv.any _ | exact Wv.tok _ _ _ | exact Wv.nil _ | (refine nq ?_; first | rfl | exact kO (by omega) | (simp))
            · rintro ⟨i,out,t⟩ ⟨h1,h2⟩
              refine ac<|aa ?_;show AR _ _ _ _ _ [0] _;refine ar rfl rfl<|aE rfl rfl (bN rfl rfl)<|ag<|ac<|ax rfl (fun c7=>?_) (fun c7=>?_)
              · have c7p:=c7; try simp only [decide_eq_true_eq,decide_eq_false_iff_not,Bool.not_eq_true',Bool.not_eq_false',Bool.not_true,Bool.not_false,Bool.not_eq_eq_eq_not] at c7p
                have hd:(l.drop 1).length=l.length - 1:=by simp
                have hi:i < (l.drop 1).length:=by omega
                have hroom:=Str.room sep out l (i+1) (by omega) h2 hb
                refine aC<|ac<|aR<|ac<|aa ?_;show AR _ _ _ _ _ [0,1,2] _;refine ar rfl rfl<|aE rfl rfl (iU ao (by kernel_rfl) rfl rfl rfl ?h25) ?_
                (case h25=>(omega))
                refine ar rfl rfl ?_
                first | refine aE rfl rfl (aG ab rfl rfl) ?_ | refine cG rfl rfl (al (i:=0) ab rfl rfl rfl rfl) ?_ | refine cG rfl rfl (al (i:=1) ab rfl rfl rfl rfl) ?_ | refine cG rfl rfl (al (i:=2) ab rfl rfl rfl rfl) ?_ | refine cG rfl rfl (al (i:=3) ab rfl rfl rfl rfl) ?_
                refine ar rfl rfl<|aE rfl rfl (aZ (av:=.v _) rfl)<|ag<|ac<|aa ?_;show AR _ _ _ _ _ [0,1] _;refine ar rfl rfl<|aE rfl rfl (ah (av:=.v _) rfl)<|ar rfl rfl<|eM [] rfl en28 rfl (ci o8 _ (.inr rfl) out sep t (by omega)) ?p3 ?k3 ?q3
                (case p3=>(exact bG _))
                (case q3=>(rintro c A' ⟨h,_⟩; cases h))
                rintro av A' ⟨h,t70,rfl⟩; cases h
                refine ag<|aa ?_;show AR _ _ _ _ _ [0,1] _;refine ar rfl rfl<|aE rfl rfl (ah (av:=.v _) rfl)<|ar rfl rfl<|eM [] rfl en28 rfl (ci o8 _ (.inr rfl) (out++sep) (l.drop 1)[i] t70 (by simp [List.getElem_drop,Nat.add_comm 1 i] at *; omega)) ?p4 ?k4 ?q4
                (case p4=>(exact bG _))
                (case q4=>(rintro c A' ⟨h,_⟩; cases h))
                rintro av A' ⟨h,t72,rfl⟩; cases h
                refine ag<|aa ?_;show AR _ _ _ _ _ [0,1] _;refine ar rfl rfl<|aE rfl rfl (nT rfl rfl ?h27) ?_
                (case h27=>(omega))
                refine ar rfl rfl<|aE rfl rfl (ah (av:=.v _) rfl)<|ag ?_
                -- END 6 (loop2)
                refine ⟨(i+1,out++sep++(l.drop 1)[i],t72),?_,?_,?_⟩
                · refine ⟨by omega,?_⟩
                  rw [← h2,Str.rest_drop sep l (i+1) (by omega)]
                  simp [List.getElem_drop,Nat.add_comm]
                · (try simp only []); omega
                · refine WK.env (bK ?_ (bK ?_ (bK ?_ (bK ?_ (bK ?_ (bK ?_ (Env.le.nil _))))))) ?_
                  all_goals first | exact bX _ | exact bC _ | ((repeat (first | exact bX _ | exact bC _ | refine gd _ ?_ | refine gc _ ?_)); done) | exact Wv.refl _ | exact Wv.any _ | exact Wv.tok _ _ _ | exact Wv.nil _ | (refine nq ?_; first | rfl | exact kO (by omega) | (simp))
              · have c7p:=c7; try simp only [decide_eq_true_eq,decide_eq_false_iff_not,Bool.not_eq_true',Bool.not_eq_false',Bool.not_true,Bool.not_false,Bool.not_eq_eq_eq_not] at c7p
                have hd:(l.drop 1).length=l.length - 1:=by simp
                have hroom:=Str.out_room sep out _ l h2 hb
                refine bU<|ac<|aa ?_;show AR _ _ _ _ _ [0,1] _;refine ar rfl rfl<|eM [.ty o8 60] rfl en30 rfl (lB o8 (.pt o8 0) out t (by omega)) ?p5 ?k5 ?q5
                (case p5=>(exact (List.Perm.swap _ _ _).cons _))
                (case q5=>(rintro c A' ⟨h,_⟩; cases h))
                rintro av A' ⟨h,rfl⟩; cases h
                refine ar rfl rfl<|aE rfl rfl (aZ (av:=.v _) rfl)<|ag<|aQ ?_
                -- END 7 (ret)
                show dn _ _ _ _ .ret _
                rw [Str.rest_end sep l (i+1) (by omega),List.append_nil] at h2
                rw [← h2]
                (refine ⟨rfl,_,_,aO rfl ?_,?_,⟨rfl,rfl⟩⟩; all_goals first | exact bX _ | exact bC _ | ((repeat (first | exact bX _ | exact bC _ | refine gd _ ?_ | refine gc _ ?_)); done) | exact Wv.refl _ | exact Wv.tok _ _ _ | exact Wv.nil _)
end Go.Proofs.YteokdkimegepoaaGreatDoor
namespace Go.Av
open Go.RowKit
def ResT (P:Program) (fn:Func) (N:Nat) (e:Env) (A:List Chunk) (av:AV):Prop :=
  ∀ F I w tmps,Inv I (A++F) w→tmps.size=N→(∀ t,Rel I w (ev e t) (tmps.getD t undef))→∃ v,(results fn tmps).run P w=.ok v w∧Rel I w av v
def ADCalls (P:Program) (f:FuncId) (args:List AV) (A:List Chunk) (u:FrameMode) (R:AE→FrameMode→List Chunk→Prop):Prop :=
  ∀ F I w vs,Inv I (A++F) w→RelL I w args vs→CallsD P f vs.toArray u w fun e u' w'=>∃ I' ae A',Ext I w I' w'∧Inv I' (A'++F) w'∧RelE I' w' ae e∧R ae u' A'
def ALeaves (P:Program) (fn:Func) (N:Nat) (e:Env) (R:AE→List Chunk→Prop):List ADef→FrameMode→List Chunk→Prop
  | [],.returning,A=>∃ av A',ResT P fn N e A av∧Sub A' A∧R (.ret av) A'
  | [],.panicking c,A=>∃ A',Sub A' A∧R (.pan c) A'
  | [],.run,_=>False
  | .call f cap args::ds,u,A=>u≠.run∧∃ g A1 B,f=.func g∧(∀ as_ w,(callFunc g as_).run P w=.ok (.enter g as_) w)∧A.Perm (A1++B) ∧
      ADCalls P g (args++cap) A1 u fun ae u' A'=>match ae with
        | .ret _=>ALeaves P fn N e R ds (settle u') (A'++B)
        | .pan c=>ALeaves P fn N e R ds (raised u' c) (A'++B)
  | .mark _::_,_,_=>False
section
variable {P:Program} {fn:Func} {N:Nat} {e:Env} {R:AE→List Chunk→Prop} {F:List Chunk} {I0:Info} {w0:World}
theorem ALeaves.sound:∀ (ads:List ADef) (u:FrameMode) (A:List Chunk) (ds:List Deferred) (I:Info) (w:World) (tmps:Array Value),
    Ext I0 w0 I w→Inv I (A++F) w→tmps.size=N→(∀ t,Rel I w (ev e t) (tmps.getD t undef))→RelDs I w ads ds→ALeaves P fn N e R ads u A →
    Leaves P fn tmps (fun en w'=>∃ I' ae A',Ext I0 w0 I' w'∧Inv I' (A'++F) w'∧RelE I' w' ae en∧R ae A') ds u w:=by
  intro ads
  induction ads with
  | nil =>
    intro u A ds I w tmps E hI hs ht hd h
    cases hd
    cases u with
    | run=>exact h.elim
    | returning =>
      obtain ⟨av,A',hr,hsub,hR⟩:=h;obtain ⟨v,hrun,hv⟩:=hr F I w tmps hI hs ht;exact ⟨v,hrun,I,.ret av,A',E,hsub.inv hI,hv,hR⟩
    | panicking c =>
      obtain ⟨A',hsub,hR⟩:=h;exact ⟨I,.pan c,A',E,hsub.inv hI,rfl,hR⟩
  | cons ad ads ih =>
    intro u A ds I w tmps E hI hs ht hd h
    cases hd with
    | cons hd hds =>
      rename_i d ds
      cases ad with
      | mark o=>exact h.elim
      | call f cap args =>
        obtain ⟨hu,g,A1,B,rfl,hf,hp,hc⟩:=h
        cases hd with
        | call f cap args xs ys hx hy =>
          have hI2:Inv I (A1++(B++F)) w:=by rw [← List.append_assoc]; exact hI.perm (hp.append_right F)
          refine ⟨hu,.func g,xs.toArray,g,(ys++xs).toArray,rfl,?_,?_⟩
          · simp only [invoke]
            rw [show ys.toArray++xs.toArray=(ys++xs).toArray by simp]
            exact hf _ _
          · intro c cs hcm
            obtain ⟨en,u',w',fr,hq,h1,h2,h3⟩:=hc (B++F) I w _ hI2 (hy.append hx) c cs hcm;refine ⟨en,u',w',fr,?_,h1,h2,h3⟩;obtain ⟨I',ae,A',E',hI',hre,hR⟩:=hq
            have hI3:Inv I' ((A'++B)++F) w':=by rw [List.append_assoc]; exact hI'
            cases en with
            | returned v =>
              cases ae with
              | ret av=>exact ih _ _ _ I' w' tmps (E.trans E') hI3 hs (fun t=>(ht t).mono E') (hds.mono E') hR
              | pan c=>exact hre.elim
            | panicked c =>
              cases ae with
              | ret av=>exact hre.elim
              | pan c'=>cases hre; exact ih _ _ _ I' w' tmps (E.trans E') hI3 hs (fun t=>(ht t).mono E') (hds.mono E') hR
            | outgrown=>cases ae <;> exact hre.elim
def RetPostD (P:Program) (fn:Func) (N:Nat) (K:List Nat) (R:AE→List Chunk→Prop):gt
  | .normal,s | .ret,s=>ALeaves P fn N s.env R s.ds .returning s.A
  | .panic c,s=>∃ e0:Env,(∀ p∈e0,p.1∈K)∧Env.le s.env e0∧ALeaves P fn N e0 R s.ds (.panicking c) s.A
  | _,_=>False
theorem RetPostD.free {K:List Nat} {d:Nat} (hd:K.contains d=false) {c:List PanicEntry} {s:St} (h:RetPostD P fn N K R (.panic c) s):RetPostD P fn N K R (.panic c) ⟨(d,.any)::s.env,s.ds,s.A⟩:=by
  obtain ⟨e0,h1,h2,h3⟩:=h;refine ⟨e0,h1,fun p hp=>?_,h3⟩
  have hne:d≠p.1:=fun e=>by
    have:=h1 p hp
    rw [← e] at this
    simp at hd
    exact hd this
  have hb:Nat.beq d p.1=false:=by
    cases hb:Nat.beq d p.1 with
    | false=>rfl
    | true=>exact absurd (Nat.eq_of_beq_eq_true hb) hne
  simp only [ev,hb]
  exact h2 p hp
end
theorem qV {args:List AV} {vs:List Value} {fn:Func} {I:Info} {w:World} {A:List Chunk} (hv:RelL I w args vs) (hl':args.length≤fn.ntmps) :
    RelS fn.ntmps I w ⟨mi 0 args,[],A⟩ { tmps:=vs.toArray++Array.replicate (fn.ntmps - vs.toArray.size) undef,defers:=[] }:=by
  refine ⟨?_,fun t=>?_,.nil⟩
  · simp [hv.1]; omega
  · show Rel I w (ev (mi 0 args) t) _
    rw [uL]
    simp only [Nat.zero_le,if_true,Nat.sub_zero]
    by_cases ht:t < args.length
    · have:=hv.2 t ht
      have hx:t < vs.length:=by rw [hv.1]; exact ht
      rw [show args.getD t .any=args[t] by simp [List.getD,ht]]
      have e1:(vs.toArray++Array.replicate (fn.ntmps - vs.toArray.size) undef).getD t undef=vs.getD t undef:=by
        rw [Array.getD_eq_getD_getElem?,Array.getElem?_append_left (by simpa using hx)]
        simp [List.getD]
      rw [e1]; exact this
    · rw [show args.getD t .any=.any by simp [List.getD,List.getElem?_eq_none (Nat.le_of_not_lt ht)]]
      exact .any _
theorem nJ {P:Program} {f:FuncId} {fn:Func} {c:Code} {args:List AV} {A:List Chunk} {R:AE→List Chunk→Prop} (K:List Nat) (hf:P.funcs[f]?=some fn) (hb:fn.body=some c) (hl:Nat.ble args.length fn.ntmps=true)
    (h:AW P none fn.ntmps c (RetPostD P fn fn.ntmps K R) ⟨mi 0 args,[],A⟩):ACalls P f args A R:=fun F I w vs hI hv=>by
  refine calls_of_wp_defers hf hb ((wpIn_wide (n:=0)).1 (wpIn_mono (h F I w _ hI (qV hv (af hl))) fun e a w' hq=>?_));obtain ⟨I',s',E,hI',hS',hq⟩:=hq
  cases e with
  | normal=>exact ALeaves.sound s'.ds .returning s'.A a.defers I' w' a.tmps E hI' hS'.size hS'.env hS'.ds hq
  | ret=>exact ALeaves.sound s'.ds .returning s'.A a.defers I' w' a.tmps E hI' hS'.size hS'.env hS'.ds hq
  | panic c =>
    obtain ⟨e0,_,hle,hq⟩:=hq;exact ALeaves.sound s'.ds (.panicking c) s'.A a.defers I' w' a.tmps E hI' hS'.size (fun t=>(hle.ev t).rel (hS'.env t)) hS'.ds hq
  | exit id=>exact hq.elim
  | goto l=>exact hq.elim
  | outgrown=>exact hq.elim
theorem ResT.oneW {P:Program} {fn:Func} {N t:Nat} {e:Env} {A:List Chunk} {av:AV} (hr:fn.results = #[.tmp t]) (h:Wv (ev e t) av):ResT P fn N e A av:=fun F I w tmps hI hs ht =>
  ⟨tmps.getD t undef,by simp [results,hr],h.rel (ht t)⟩
theorem ResT.none {P:Program} {fn:Func} {N:Nat} {e:Env} {A:List Chunk} (hr:fn.results = #[]):ResT P fn N e A (.tup []):=fun F I w tmps hI hs ht =>
  ⟨.tuple #[],by simp [results,hr],.tup [] [] rfl fun j h=>absurd h (Nat.not_lt_zero _)⟩
theorem xY {P:Program} {o:Oper} {a:Act} {K K':Act→World→Prop} {Q Q':Exit→Act→World→Prop} {r:Result Next} (h:∀ a w,K a w→K' a w) (hq:∀ e a w,Q e a w→Q' e a w) (hh:o.upon P a K Q r):o.upon P a K' Q' r:=by
  cases r with
  | ok n w' =>
    cases n <;> simp only [Oper.upon] at hh ⊢ <;> first
      | exact h _ _ hh
      | exact hh.mono fun e w'' he=>by cases e <;> first | exact h _ _ he | exact hq _ _ _ he | exact he.imp fun _ ⟨w,hx⟩=>⟨w,hq _ _ _ hx⟩
      | exact hh.mono fun v w'' he=>h _ _ he
      | exact hh
  | halt x w'=>cases x <;> simp only [Oper.upon] at hh ⊢ <;> first | exact hq _ _ _ hh | exact hh
theorem re {P:Program} {ops:Array Oper} {R R':Exit→Act→List Frame→World→Prop} (l:List Nat) (h:∀ e a cs w,R e a cs w→R' e a cs w) :
    ∀ a cs w,wpOpsS P ops R l a cs w→wpOpsS P ops R' l a cs w:=by
  induction l with
  | nil=>exact fun a cs w hh=>h _ _ _ _ hh
  | cons i rest ih =>
    intro a cs w hh
    simp only [wpOpsS] at hh ⊢
    cases ho:ops[i]? with
    | none=>simp only [ho] at hh ⊢; exact ih a cs w hh
    | some o =>
      simp only [ho] at hh ⊢
      by_cases hw:Region.wanted o (yielded ops a.tmps)=true
      · simp only [hw,if_true] at hh ⊢
        generalize (execOp a.eval o).run P w=r at hh ⊢
        split at hh
        · split at hh
          · exact ih _ _ _ hh
          · exact ih _ _ _ hh
        · rename_i r' hnr
          exact xY (fun a w=>ih a cs w) (fun e a w=>h e a cs w) hh
      · simp only [hw,if_false,Bool.false_eq_true] at hh ⊢
        exact ih _ _ _ hh
def ASR (P:Program) (N:Nat) (ops:Array Oper) (cs:List Frame) (Q:gt) (l:List Nat) (s:St):Prop :=
  ∀ F I w a,Inv I (s.A++F) w→RelS N I w s a→wpOpsS P ops (fun e a' cs' w'=>cs'=cs∧CQ N F I w Q e a' w') l a cs w
theorem ASR.nil {P:Program} {N:Nat} {ops:Array Oper} {cs:List Frame} {Q:gt} {s:St} (h:Q .normal s):ASR P N ops cs Q [] s:=fun F I w a hI hS =>
  ⟨rfl,I,s,cj _ _,hI,hS,h⟩
theorem ASR.op {P:Program} {N:Nat} {ops:Array Oper} {cs:List Frame} {Q:gt} {i:Nat} {rest:List Nat} {d:Nat} {op:Op} {T:TypeId} {pos:String} {after:Array Edge} {e:Env} {ds:List ADef} {A A':List Chunk} {av:AV}
    (ho:ops[i]?=some ⟨some d,op,T,pos,after,none⟩) (hd:Nat.blt d N=true) (h:OpR P ⟨some d,op,T,pos,after,none⟩ e A av A') (k:ASR P N ops cs Q rest ⟨(d,av)::e,ds,A'⟩) :
    ASR P N ops cs Q (i::rest) ⟨e,ds,A⟩:=fun F I w a hI hS=>by
  obtain ⟨n,v,w',I',hrun,hnv,E,hI',hv⟩:=h F I w a.eval hI hS.op
  have hk:=k F I' w' (a.put (some d) v) hI' ((hS.mono E).put (af hd) hv A')
  have hk':=re (R':=fun e a' cs' w'=>cs'=cs∧CQ N F I w Q e a' w') rest (fun e a' cs' w' ⟨h1,h2⟩=>⟨h1,eL E (fun _ _ h=>h) h2⟩) _ _ _ hk
  simp only [wpOpsS,ho,Region.wanted,if_true,hrun]
  rcases hnv with rfl | ⟨rfl,rfl⟩ <;> exact hk'
end Go.Av
namespace Go.Av
open Go.RowKit
section
variable {P:Program} {ro:Option Nat} {N:Nat} {Q:gt} {ops:Array Oper}
theorem rel_fn {I:Info} {w:World} {f:Fn} {as_ bs:List AV} {v:Value} (h:Rel I w (.fn f as_ bs) v):∃ xs ys:List Value,v=.func f xs.toArray ys.toArray∧RelL I w as_ xs∧RelL I w bs ys:=by
  cases h with
  | fn _ _ _ xs ys hl hr hl' hr'=>exact ⟨xs,ys,rfl,⟨hl,hr⟩,⟨hl',hr'⟩⟩
def FnV (a:AV) (f:Fn) (as_ bs:List AV):Prop:=a=.fn f as_ bs∨(a=.v (.func f #[] #[])∧as_=[]∧bs=[])
theorem rel_fnV {I:Info} {w:World} {a:AV} {f:Fn} {as_ bs:List AV} {v:Value} (h:FnV a f as_ bs) (hr:Rel I w a v):∃ xs ys:List Value,v=.func f xs.toArray ys.toArray∧RelL I w as_ xs∧RelL I w bs ys:=by
  rcases h with rfl | ⟨rfl,rfl,rfl⟩
  · exact rel_fn hr
  · exact ⟨[],[],cf hr,ge,ge⟩
theorem ox {P:Program} {ρ:Operand→Value} {f:Fn} {xs ys:Array Value} {x:Operand} {args:Array Operand} {argTypes:Array TypeId} {T:TypeId} {w:World} (h:ρ x=.func f xs ys) :
    (resolve ρ ⟨.value x,args,argTypes⟩ T).run P w=.ok { target:=.fn f ys,args:=xs++args.map ρ } w:=by
  simp only [resolve,h,Deferred.ofValue,Sem.run_pure]
theorem AO.callF {rest:List Nat} {d:Nat} {x:Operand} {f:FuncId} {fs cs:List AV} {args:Array Operand} {argTypes:Array TypeId} {T:TypeId} {pos:String} {after:Array Edge} {g:Option (Nat×Bool)} {e:Env} {ds:List ADef} {A A1:List Chunk} (B:List Chunk)
    {R:AE→List Chunk→Prop} {avs:List AV} (hd:Nat.blt d N=true) (hx:FnV (opv e x) (.func f) fs cs) (hf:∀ args w,(callFunc f args).run P w=.ok (.enter f args) w) (ha:fs++args.toList.map (opv e)++cs=avs)
    (h:ACalls P f avs A1 R) (p:A.Perm (A1++B)) (k:∀ av A',R (.ret av) A'→AR P ro N ops Q rest ⟨(d,av)::e,ds,A'++B⟩)
    (kp:∀ c A',R (.pan c) A'→Q (.panic c) ⟨e,ds,A'++B⟩) :
    AO P ro N ops Q rest ⟨some d,.call ⟨.value x,args,argTypes⟩,T,pos,after,g⟩ ⟨e,ds,A⟩:=fun F I w a hI hS=>by
  have hS':=hS
  obtain ⟨xs,ys,hv,hxs,hys⟩:=rel_fnV hx (hS'.op x)
  have hrl:RelL I w avs (xs++args.toList.map a.eval++ys):=by
    rw [← ha]; exact (hxs.append (gf _ _ _ fun x _=>hS'.op x)).append hys
  refine ⟨fun _ _=>dQ _,?_⟩
  have he:(xs.toArray++args.map a.eval)++ys.toArray=(xs++args.toList.map a.eval++ys).toArray:=by apply Array.ext'; simp
  have hex:(Oper.semAt (dX ro).round a.eval ⟨some d,.call ⟨.value x,args,argTypes⟩,T,pos,after,g⟩).run P w=.ok (.enter f (xs++args.toList.map a.eval++ys).toArray) w:=by
    rw [Oper.semAt_eq _ _ _ (fun c h=>by cases h)]
    simp only [execOp,Sem.run_bind,ox hv,Result.andThen_ok,invoke,he]
    exact hf _ _
  rw [hex]
  refine ⟨qA,AO.call.callsIn_wide'.2 ?_⟩
  have hI2:Inv I (A1++(B++F)) w:=by rw [← List.append_assoc]; exact hI.perm (p.append_right F)
  refine (h (B++F) I w _ hI2 hrl).mono fun en w' ⟨I',ae,A',E,hI',hre,hR⟩=>?_
  have hI3:Inv I' ((A'++B)++F) w':=by rw [List.append_assoc]; exact hI'
  cases en with
  | returned v =>
    cases ae with
    | ret av =>
      have hk:=k av A' hR F I' w' (a.put (some d) v) hI3 ((hS.mono E).put (af hd) hre _)
      exact cZ rest (fun _ _ _=>eL E fun _ _ h=>h) _ _ hk
    | pan c=>exact hre.elim
  | panicked c =>
    cases ae with
    | ret av=>exact hre.elim
    | pan c' =>
      cases hre
      exact ⟨I',⟨e,ds,A'++B⟩,E,hI3,⟨hS.size,(hS.mono E).env,(hS.mono E).ds⟩,kp _ A' hR⟩
  | outgrown=>cases ae <;> exact hre.elim
theorem AO.callFp {rest:List Nat} {d:Nat} {x:Operand} {f:FuncId} {fs cs:List AV} {args:Array Operand} {argTypes:Array TypeId} {T:TypeId} {pos:String} {after:Array Edge} {g:Option (Nat×Bool)} {e:Env} {ds:List ADef} {A:List Chunk}
    {avs:List AV} {v:AV} (hd:Nat.blt d N=true) (hx:FnV (opv e x) (.func f) fs cs) (hf:∀ args w,(callFunc f args).run P w=.ok (.enter f args) w) (ha:fs++args.toList.map (opv e)++cs=avs)
    (h:ACalls P f avs [] (Ret v [])) (k:AR P ro N ops Q rest ⟨(d,v)::e,ds,A⟩) :
    AO P ro N ops Q rest ⟨some d,.call ⟨.value x,args,argTypes⟩,T,pos,after,g⟩ ⟨e,ds,A⟩ :=
  AO.callF A hd hx hf ha h (bG _) (fun av A' ⟨h1,h2⟩=>by cases h1; subst h2; exact k) (fun c A' ⟨h1,_⟩=>by cases h1)
theorem AO.callFAt {rest:List Nat} {d:Nat} {x:Operand} {f:FuncId} {fs cs:List AV} {args:Array Operand} {argTypes:Array TypeId} {T:TypeId} {pos:String} {after:Array Edge} {g:Option (Nat×Bool)} {e:Env} {ds:List ADef} {A A1 B:List Chunk}
    {R:AE→List Chunk→Prop} {avs:List AV} (is:List Nat) (hd:Nat.blt d N=true) (hx:FnV (opv e x) (.func f) fs cs) (hf:∀ args w,(callFunc f args).run P w=.ok (.enter f args) w) (ha:fs++args.toList.map (opv e)++cs=avs)
    (h:ACalls P f avs A1 R) (p:nY A is=some (A1,B)) (hr:∀ c A',¬ R (.pan c) A') (k:∀ av A',R (.ret av) A'→AR P ro N ops Q rest ⟨(d,av)::e,ds,A'++B⟩) :
    AO P ro N ops Q rest ⟨some d,.call ⟨.value x,args,argTypes⟩,T,pos,after,g⟩ ⟨e,ds,A⟩ :=
  AO.callF B hd hx hf ha h (gH is _ _ _ p) k (fun c A' h=>(hr c A' h).elim)
theorem AO.defer {rest:List Nat} {x:Operand} {f:Fn} {fs cs:List AV} {args:Array Operand} {argTypes:Array TypeId} {T:TypeId} {pos:String} {after:Array Edge} {g:Option (Nat×Bool)} {e:Env} {ds:List ADef} {A:List Chunk}
    (hx:opv e x=.fn f fs cs) (k:AR P none N ops Q rest ⟨e,.call f cs (fs++args.toList.map (opv e))::ds,A⟩) :
    AO P none N ops Q rest ⟨none,.defer ⟨.value x,args,argTypes⟩,T,pos,after,g⟩ ⟨e,ds,A⟩:=fun F I w a hI hS=>by
  have hS':=hS
  obtain ⟨xs,ys,hv,hxs,hys⟩:=rel_fn (hx ▸ hS'.op x);refine ⟨fun _ _=>dQ _,?_⟩
  have hex:(Oper.semAt (dX none).round a.eval ⟨none,.defer ⟨.value x,args,argTypes⟩,T,pos,after,g⟩).run P w=.ok (.defer { target:=.fn f ys.toArray,args:=(xs++args.toList.map a.eval).toArray }) w:=by
    rw [show (dX none).round=none from rfl,Oper.semAt_none]
    simp only [execOp,Sem.run_bind,ox hv,Result.andThen_ok,Sem.run_pure]
    congr 2
    congr 1
    apply Array.ext'; simp
  rw [hex]
  exact k F I w _ hI ⟨hS.size,hS.env,.cons (.call f cs _ ys _ hys (hxs.append (gf _ _ _ fun x _=>hS'.op x))) hS.ds⟩
mutual
def conc:AV→Option Value
  | .v x=>some x
  | .ifc t a=>(conc a).map (.iface t)
  | .agg l=>(concL l).map fun l=>.agg l.toArray
  | _=>none
def concL:List AV→Option (List Value)
  | []=>some []
  | a::l=>match conc a,concL l with
    | some x,some r=>some (x::r)
    | _,_=>none
end
mutual
theorem conc_rel {I:Info} {w:World}:∀ (a:AV) (x v:Value),conc a=some x→Rel I w a v→v=x
  | .v y,x,v,h,hr=>by cases h; cases hr; rfl
  | .ifc t a,x,v,h,hr=>by
    simp only [conc,Option.map_eq_some_iff] at h
    obtain ⟨y,hy,rfl⟩:=h
    cases hr with
    | ifc _ _ z hz=>rw [conc_rel a y z hy hz]
  | .agg l,x,v,h,hr=>by
    simp only [conc,Option.map_eq_some_iff] at h
    obtain ⟨y,hy,rfl⟩:=h
    cases hr with
    | agg _ xs hl hr=>rw [concL_rel l y xs hy ⟨hl,hr⟩]
  | .sl ..,_,_,h,_ | .cp ..,_,_,h,_ | .pt ..,_,_,h,_ | .vw ..,_,_,h,_ | .tup ..,_,_,h,_ | .fn ..,_,_,h,_ | .any,_,_,h,_ | .anyk ..,_,_,h,_ | .anyi,_,_,h,_ | .mp ..,_,_,h,_ | .rp ..,_,_,h,_ | .mk ..,_,_,h,_ | .yl ..,_,_,h,_=>by simp [conc] at h
theorem concL_rel {I:Info} {w:World}:∀ (l:List AV) (xs vs:List Value),concL l=some xs→RelL I w l vs→vs=xs
  | [],xs,vs,h,hr=>by simp only [concL,Option.some.injEq] at h; rw [hr.out_nil,h]
  | a::l,xs,vs,h,hr=>by
    obtain ⟨v,vs',rfl,h1,h2⟩:=hr.out_cons
    simp only [concL] at h
    split at h
    · rename_i x r hx hrr
      cases h
      rw [conc_rel a x v hx h1,concL_rel l r vs' hrr h2]
    · cases h
end
theorem AO.panic {rest:List Nat} {d:Option Nat} {x:Operand} {t:TypeId} {v:Value} {T:TypeId} {pos:String} {after:Array Edge} {g:Option (Nat×Bool)} {e:Env} {ds:List ADef} {A:List Chunk}
    (hx:conc (opv e x)=some (.iface t v)) (k:Q (.panic [{ v:=.iface t v,recovered:=false }]) ⟨e,ds,A⟩) :
    AO P ro N ops Q rest ⟨d,.panic x,T,pos,after,g⟩ ⟨e,ds,A⟩:=fun F I w a hI hS=>by
  have hv:=conc_rel _ _ _ hx (hS.op x)
  refine ⟨fun _ _=>dQ _,?_⟩
  have hex:(Oper.semAt (dX ro).round a.eval ⟨d,.panic x,T,pos,after,g⟩).run P w=.halt (.panic (.iface t v)) w:=by
    rw [Oper.semAt_eq _ _ _ (fun c h=>by cases h)]
    simp only [execOp,hv,Instr.panic,Sem.run_bind]
    rfl
  rw [hex]
  exact ⟨I,⟨e,ds,A⟩,cj _ _,hI,hS,k⟩
end
end Go.Av
namespace Go.Av
open Go.RowKit
def Info.start (w:World):Info:=⟨fun b=>if b < w.heap.size then none else some 0,fun _=>none,fun _=>none⟩
theorem Inv.start (w:World) (hg:∀ g cs,G g=some cs→Rel (Info.start w) w (gv cs) (.pointer (some ⟨g,0,none⟩))):Inv (Info.start w) [] w where
  holds:=fun c h=>by cases h
  nodup:=by simp
  fresh:=fun b h=>by simp only [Info.start]; rw [if_neg (by omega)]
  ids:=⟨0,fun _ _=>⟨rfl,rfl⟩⟩
  glob:=hg
theorem sO {w:World} {b n:Nat} (h:b < w.heap.size):Stab (Info.start w) b n:=fun m hm=>by
  simp only [Info.start] at hm
  rw [if_pos h] at hm; cases hm
theorem law_of {P:Program} {f:FuncId} {args:List AV} {vs:List Value} {w:World} (h:ACalls P f args [] (Ret (B true) [])) (hr:RelL (Info.start w) w args vs)
    (hg:∀ g cs,G g=some cs→Rel (Info.start w) w (gv cs) (.pointer (some ⟨g,0,none⟩))) :
    Calls P f vs.toArray w fun e w'=>e=.returned (.bool true)∧Below w.heap.size w w' :=
  (h [] (Info.start w) w vs (Inv.start w hg) hr).mono fun e w' ⟨I',ae,A',E,_,he,h1,_⟩=>by
    subst h1;refine ⟨?_,E.os,E.tape,E.out,E.size,fun k hk=>(E.blk k (by simp only [Info.start]; rw [if_pos hk])).1⟩
    cases e with
    | returned v=>cases he; rfl
    | panicked c=>exact he.elim
    | outgrown=>exact he.elim
theorem zD {w:World} {a:Addr} {v:Value} (h:w.cell? a=some v):a.block < w.heap.size∧a.spot=none:=by
  unfold World.cell? at h
  split at h
  · rename_i c _ _ hb
    have hlt:=(Array.getElem?_eq_some_iff.1 hb).1
    split at h
    · cases h
    · rename_i hs
      cases hsp:a.spot with
      | none=>exact ⟨hlt,rfl⟩
      | some k=>rw [hsp] at hs; exact absurd rfl hs
  · cases h
theorem rel_string (I:Info) (w:World) (s:ByteArray):Rel I w (S s.data.toList) (.string s):=by
  have:(⟨s.data.toList.toArray⟩:ByteArray)=s:=by cases s; simp
  show Rel I w (.v (.string ⟨s.data.toList.toArray⟩)) _
  rw [this]; exact .v _
end Go.Av
namespace Go.Av
open Go.RowKit
section
variable {H:Type} {enc:TypeId×Value→H}
theorem returns_and_shaped {a:Assume} {C:Checked} {os:Os} {f:FuncId} {fn:Func} {s:ChangeSpec} {conds:List PathCond} {apart fresh handsOn again:Bool} {X:World→Array Value→Prop}
    (hX:∀ (w w':World) (args:Array Value),w.heap=w'.heap→X w args→X w' args)
    (own:ownKnob C.prog.godebug=none) (started:os.Started) (noInit:C.prog.inits.idxOf? f=none) (hfn:C.prog.funcs[f]?=some fn)
    (witness:∃ (w:World) (tape:Tape) (i:Input),w.os=os∧(w.forCall tape i).Shaped C.prog∧i.vars=[]∧Input.okWide C.prog (w.forCall tape i) .any w.heap.size f i ∧
      ((s.pre enc C.prog fn conds apart (w.forCall tape i).memory i.args∧X (w.forCall tape i).memory i.args)∧sizedMet enc C.prog fn (OpenSpec.ofChange s) apart (w.forCall tape i).memory i.args)∧a.holds C.prog (lone (Frame.enter C.prog f i.args .normal) [] (w.forCall tape i)))
    (contract:∀ (W:World) (base:Nat) (args:Array Value) (ds gs:List (DataW H)) (before:List MemPlace),
      (∀ (j:Nat) t v,fn.params[j]?=some t→args[j]?=some v→Value.okWide C.prog W .any base t v) →
      DataW.Whole enc C.prog fn.params.toList s.vars apart W args.toList ds gs before →
      W.ShapedOpen C.prog→X W args →
      Calls C.prog f args W fun e W'=>∃ v,e=.returned v∧s.post enc C.prog fn apart fresh handsOn again W args v W') :
    ReturnsInHanded a C os f .any (fun w args=>(s.pre enc C.prog fn conds apart w args∧X w args)∧sizedMet enc C.prog fn (OpenSpec.ofChange s) apart w args) (s.post enc C.prog fn apart fresh handsOn again):=by
  refine returnsInHanded_of_calls own started noInit witness ?_;intro w tape i _ hsh _ hok hpre hholds;obtain ⟨_,_,_,fn',hfn',_,_,_,_,hval⟩:=hok
  have e:fn'=fn:=aq (hfn'.symm.trans hfn)
  subst e;obtain ⟨⟨⟨ds,gs,before,hw,hc⟩,hx⟩,hz⟩:=hpre
  have hw':=DataW.Whole.of_heap (w':=w.forCall tape i) (by rfl) hw
  refine (contract (w.forCall tape i) w.heap.size i.args ds gs before hval hw' hsh (hX _ _ _ (by rfl) hx)).mono fun e W' ⟨v,he,hp⟩=>?_
  subst he;exact ChangeSpec.post_blind hp
end
theorem xy {P:Program} {w:World} {n:String} {d:DataW Unit}:∀ {l:List (String×DataW Unit)} {ps:List MemPlace},DataW.LaidVars P w l ps→(n,d)∈l →
    ∃ g t cs fuel p,P.globalNamed n=some g∧(P.globals[g]?).map (·.type)=some t∧w.var? P n=some cs∧DataW.trod (fun _=>()) P w 0 (fun _=>true) false fuel t cs.toList=some (d,p)
  | [],_,_,hm=>by cases hm
  | (n',d')::r,ps,h,hm=>by
    obtain ⟨g,t,cs,fuel,p,q,h1,h2,h3,h4,h5,_⟩:=h
    rcases List.mem_cons.1 hm with hm | hm
    · cases hm; exact ⟨g,t,cs,fuel,p,h1,h2,h3,h4⟩
    · exact xy h5 hm
theorem uf {H:Type} {tok:TypeId×Value→H} {P:Program} {w:World} {base:Nat} {fits:Nat→Bool} {b:Bool} {fuel t:Nat} {vs:List Value} {r:DataW H×List MemPlace} {ms:Array (String×TypeId)} (hT:P.underlying t=some (.interface ms))
    (h:DataW.trod tok P w base fits b fuel t vs=some r):vs=[.nilIface]∨∃ u v,vs=[.iface u v]:=by
  cases fuel with
  | zero=>simp [DataW.trod] at h
  | succ n =>
    unfold DataW.trod at h
    rw [hT] at h
    split at h <;> first | (exact .inl rfl) | (exact .inr ⟨_,_,rfl⟩) | simp_all
theorem laid_iface {P:Program} {w:World} {l:List (String×DataW Unit)} {n:String} {d:DataW Unit} {g t:Nat} {ms:Array (String×TypeId)} (h:laidMet P l w) (hm:(n,d)∈l) (hg:P.globalNamed n=some g) (ht:(P.globals[g]?).map (·.type)=some t) (hT:P.underlying t=some (.interface ms)):∃ v,w.cell? ⟨g,0,none⟩=some v∧(v=.nilIface∨∃ u y,v=.iface u y):=by
  obtain ⟨ps,hl,_,_⟩:=h;obtain ⟨g',t',cs,fuel,p,h1,h2,h3,h4⟩:=xy hl hm;obtain rfl:=aq (hg.symm.trans h1);obtain rfl:=aq (ht.symm.trans h2)
  have hc:=World.var?_cell hg h3 0
  rcases uf hT h4 with h5 | ⟨u,v,h5⟩
  · exact ⟨.nilIface,by rw [hc]; have:=congrArg (·[0]?) h5; simpa using this,.inl rfl⟩
  · exact ⟨.iface u v,by rw [hc]; have:=congrArg (·[0]?) h5; simpa using this,.inr ⟨u,v,rfl⟩⟩
theorem rel_var {w:World} {g:Nat} {v:Value} {c:AV} (h:w.cell? ⟨g,0,none⟩=some v) (hr:Rel (Info.start w) w c v):Rel (Info.start w) w (.cp [c]) (.pointer (some ⟨g,0,none⟩)):=by
  refine .cp [c] g 0 (fun _=>v) (sO (zD h).1) (fun j hj=>?_) (fun j hj=>?_)
  · have:j=0:=by simpa using hj
    subst this; exact h
  · have:j=0:=by simpa using hj
    subst this; exact hr
theorem rel_anyi {I:Info} {w:World} {v:Value} (h:v=.nilIface∨∃ u y,v=.iface u y):Rel I w .anyi v:=by
  rcases h with rfl | ⟨u,y,rfl⟩
  · exact .anyi0
  · exact .anyi1 u y
end Go.Av
namespace Go.Av
open Go.RowKit Go.Pv
def na {ρ:Type} (ok:ρ→AE→List Chunk→Prop) (ch:Int→List PanicEntry):Res ρ→AE→List Chunk→Prop
  | .ok r=>ok r
  | .pan e=>fun ae A'=>ae=.pan (ch e)∧A'=[]
def dR (v:Value):List PanicEntry:=[{ v:=v,recovered:=false }]
section
variable {P:Program} {ro:Option Nat} {N:Nat} {Q:gt} {ops:Array Oper}
def ALR (P:Program) (ro:Option Nat) (N:Nat) (c:Code) (Q:gt):Nat→St→Prop
  | 0,_=>False
  | m+1,s=>AW P ro N c (Then (ALR P ro N c Q m) Q) s
theorem ALR.sound {c:Code} {F:List Chunk} {I0:Info} {w0:World}:∀ (m:Nat) (s:St) (I:Info) (w:World) (a:Act),Ext I0 w0 I w→Inv I (s.A++F) w→RelS N I w s a→ALR P ro N c Q m s →
    Code.roundsIn (dX ro) 0 P c (CQ N F I0 w0 Q) m a w:=by
  intro m
  induction m with
  | zero=>intro s I w a _ _ _ h; exact h.elim
  | succ m ih =>
    intro s I w a E hI hS h
    refine wpIn_mono (h F I w a hI hS) fun e a' w' hq=>?_
    obtain ⟨I',s',E',hI',hS',hq⟩:=hq
    cases e with
    | normal=>exact ih s' I' w' a' (E.trans E') hI' hS' hq
    | _=>exact ⟨I',s',E.trans E',hI',hS',hq⟩
theorem rd (m:Nat) {c:Code} {s:St} (h:ALR P ro N c Q m s):AW P ro N (.loop c) Q s:=fun F I w a hI hS =>
  wpIn_loop_rounds m (ALR.sound m s I w a (cj _ _) hI hS h)
theorem AO.callPan {rest:List Nat} {d:Nat} {f:FuncId} {args:Array Operand} {argTypes:Array TypeId} {T:TypeId} {pos:String} {after:Array Edge} {g:Option (Nat×Bool)} {e:Env} {ds:List ADef} {A A1 B:List Chunk} {c:List PanicEntry} {avs:List AV} (is:List Nat)
    (hd:Nat.blt d N=true) (hf:∀ args w,(callFunc f args).run P w=.ok (.enter f args) w) (ha:args.toList.map (opv e)=avs)
    (h:ACalls P f avs A1 (fun ae A'=>ae=.pan c∧A'=[])) (p:nY A is=some (A1,B)) (k:Q (.panic c) ⟨e,ds,B⟩) :
    AO P ro N ops Q rest ⟨some d,.call ⟨.value (.func f),args,argTypes⟩,T,pos,after,g⟩ ⟨e,ds,A⟩ :=
  eM B hd hf ha h (gH is _ _ _ p) (fun av A' ⟨h1,_⟩=>by cases h1) (fun c' A' ⟨h1,h2⟩=>by cases h1; subst h2; exact k)
abbrev _root_.Go.Av.cg := @AO.callPan
theorem AO.panicT {rest:List Nat} {d:Option Nat} {x:Operand} {c:List PanicEntry} {t:TypeId} {v:Value} {T:TypeId} {pos:String} {after:Array Edge} {g:Option (Nat×Bool)} {e:Env} {ds:List ADef} {A:List Chunk}
    (hx:conc (opv e x)=some (.iface t v)) (hc:dR (.iface t v)=c) (k:Q (.panic c) ⟨e,ds,A⟩) :
    AO P ro N ops Q rest ⟨d,.panic x,T,pos,after,g⟩ ⟨e,ds,A⟩:=AO.panic hx (by subst hc; exact k)
mutual
theorem conc_mk {I:Info} {w:World}:∀ (a:AV) (x:Value),conc a=some x→Rel I w a x
  | .v y,x,h=>by cases h; exact .v _
  | .ifc t a,x,h=>by
    simp only [conc,Option.map_eq_some_iff] at h
    obtain ⟨y,hy,rfl⟩:=h;exact .ifc _ _ _ (conc_mk a y hy)
  | .agg l,x,h=>by
    simp only [conc,Option.map_eq_some_iff] at h
    obtain ⟨y,hy,rfl⟩:=h
    have:=concL_mk (I:=I) (w:=w) l y hy
    exact .agg _ _ this.1 this.2
  | .sl ..,_,h | .cp ..,_,h | .pt ..,_,h | .vw ..,_,h | .tup ..,_,h | .fn ..,_,h | .any,_,h | .anyk ..,_,h | .anyi,_,h | .mp ..,_,h | .rp ..,_,h | .mk ..,_,h | .yl ..,_,h=>by simp [conc] at h
theorem concL_mk {I:Info} {w:World}:∀ (l:List AV) (xs:List Value),concL l=some xs→RelL I w l xs
  | [],xs,h=>by simp only [concL,Option.some.injEq] at h; subst h; exact ge
  | a::l,xs,h=>by
    simp only [concL] at h
    split at h
    · rename_i x r hx hrr
      cases h
      exact fp (conc_mk a x hx) (concL_mk l r hrr)
    · cases h
end
variable {e:Env} {d:Option Nat} {T:TypeId} {pos:String} {after:Array Edge} {g:Option (Nat×Bool)} {x:Operand}
theorem nG {t t0:TypeId} {a:AV} {D:TypeDesc} (hT:P.underlying t=some D) (hD:(match D with | .interface _=>true | _=>false)=false) (hx:opv e x=.ifc t a) :
    OpS P ⟨d,.typeAssert x t0 t true,T,pos,after,g⟩ e (.tup [a,B true]):=fun I w ρ hρ=>by
  have h:=hx ▸ hρ x
  generalize e1:ρ x=v at h
  cases h with
  | ifc _ _ y hy =>
    refine ⟨.tuple #[y,.bool true],.tup _ [y,.bool true] rfl (fp hy (fp (.v _) ge)).2,fun w' _ _=>?_⟩
    simp only [execOp,e1,Instr.typeAssert,Sem.run_bind,run_underlying hT,Result.andThen_ok]
    cases D <;> first | (cases hD; done) | simp only [if_true,Sem.run_pure,Result.andThen_ok,Sem.run_bind]
def CellV (P:Program) (e:Env) (A:List Chunk) (a t:Nat) (av:AV):Prop:=∀ F I w v,Inv I (A++F) w→Rel I w (ev e a) v→∃ p x,(asAddr v).run P w=.ok p w∧(loadVar t p).run P w=.ok x w∧Rel I w av x
theorem CellV.one {e:Env} {A:List Chunk} {a t o off:Nat} (i:Nat) {cs:List AV} {c:AV} {D:TypeDesc} (hT:P.underlying t=some D) (hD:jg D=false) (hx:ev e a=.pt o off) (hA:A[i]?=some (.obj o cs)) (hc:cs[off]?=some c):CellV P e A a t c:=fun F I w v hI hv=>by
  rw [hx] at hv
  cases hv with
  | pt o off b ho =>
    obtain ⟨b',arr,ho',he,hca,hrl⟩:=hI.holds _ (jV hA F)
    rw [ho] at ho'; cases ho'
    have hlt:off < cs.length:=(List.getElem?_eq_some_iff.1 hc).1
    have hlt':off < arr.length:=by rw [hrl.1]; exact hlt
    have h0:w.cell? ⟨b,off,none⟩=some (arr.getD off undef):=by rw [hca.cell]; simp [List.getD,hlt']
    have hr:=hrl.2 off hlt
    rw [(List.getElem?_eq_some_iff.1 hc).2] at hr
    refine ⟨⟨b,off,none⟩,_,rfl,?_,hr⟩
    simp only [loadVar,Sem.run_bind,kg hT hD,Result.andThen_ok,Bool.false_eq_true,if_false,run_load,h0]
theorem CellV.agg {e:Env} {A:List Chunk} {a t o off n:Nat} (i:Nat) {cs:List AV} {D:TypeDesc} (hT:P.underlying t=some D) (hD:jg D=true) (hsz:bO P t=some n) (hx:ev e a=.pt o off) (hA:A[i]?=some (.obj o cs)) (hn:off+n≤cs.length):CellV P e A a t (.agg ((cs.drop off).take n)):=fun F I w v hI hv=>by
  rw [hx] at hv
  cases hv with
  | pt o off b ho =>
    obtain ⟨b',arr,ho',he,hca,hrl⟩:=hI.holds _ (jV hA F)
    rw [ho] at ho'; cases ho'
    have hl:(loadCells ⟨b,off,none⟩ n).run P w=.ok ((List.range n).map fun j=>arr.getD (off+j) undef).toArray w:=run_loadCells w _ n _ (fun j hj=>by
      rw [df,hca.cell,aV (by rw [hrl.1]; omega)]
      simp [List.getD,show off+j < arr.length by rw [hrl.1]; omega])
    refine ⟨⟨b,off,none⟩,_,rfl,?_,.agg _ ((List.range n).map fun j=>arr.getD (off+j) undef) (by simp; omega) (fun j hj=>?_)⟩
    · simp only [loadVar,kg hT hD,if_true,bS hsz,hl,Sem.run_bind,Sem.run_pure,Result.andThen_ok]
    · have hj':j < n:=by simp at hj; omega
      have h1:=hrl.2 (off+j) (by omega)
      simp only [List.getElem_take,List.getElem_drop,List.getD,List.getElem?_map,List.getElem?_range hj',Option.map_some,Option.getD_some]
      simpa [List.getD] using h1
theorem rc {fn:Func} {e:Env} {ds:List ADef} {A:List Chunk} {av:AV} (h:ResT P fn N e A av):ResV P fn N ⟨e,ds,A⟩ av:=fun F I w a hI hS=>h F I w a.tmps hI hS.size hS.env
theorem jD {fn:Func} {e:Env} {R:AE→List Chunk→Prop} {g:FuncId} {cap args:List AV} {ds:List ADef} {u u1:FrameMode} {A A1 B A2:List Chunk} {v:AV} (is:List Nat) (hu:u≠.run) (hf:∀ as_ w,(callFunc g as_).run P w=.ok (.enter g as_) w)
    (p:nY A is=some (A1,B)) (h:ADCalls P g (args++cap) A1 u fun ae u' A'=>ae=.ret v∧u'=u1∧A'=A2) (k:ALeaves P fn N e R ds (settle u1) (A2++B)) :
    ALeaves P fn N e R (.call (.func g) cap args::ds) u A:=by
  refine ⟨hu,g,A1,B,rfl,hf,gH is _ _ _ p,fun F I w vs hI hv=>?_⟩;intro c cs hc;obtain ⟨en,u',w',fr,hq,h1,h2,h3⟩:=h F I w vs hI hv c cs hc;refine ⟨en,u',w',fr,?_,h1,h2,h3⟩;obtain ⟨I',ae,A',E,hI',hre,rfl,rfl,rfl⟩:=hq;exact ⟨I',_,_,E,hI',hre,k⟩
theorem ADCalls.of_body {f:FuncId} {fn:Func} {c:Code} {args:List AV} {A:List Chunk} {u:FrameMode} {R:AE→FrameMode→List Chunk→Prop} (hf:P.funcs[f]?=some fn) (hb:fn.body=some c) (hl:Nat.ble args.length fn.ntmps=true)
    (h:AW P none fn.ntmps c (dn P fn fn.ntmps fun ae A'=>R ae u A') ⟨mi 0 args,[],A⟩):ADCalls P f args A u R:=fun F I w vs hI hv=>by
  refine callsD_of_wpS hf hb fun c₀ cs hu=>?_
  refine wpS_of_wp ((wpIn_wide (n:=0)).1 (wpIn_mono (h F I w _ hI (qV hv (af hl))) fun e a w' hq=>?_));obtain ⟨I',s',E,hI',hS',hq⟩:=hq
  have hc:c₀::cs={ c₀ with mode:=u }::cs:=by subst hu; rfl
  cases e with
  | normal =>
    obtain ⟨hds,av,A',hres,hsub,hR⟩:=hq;obtain ⟨v,hrun,hv⟩:=hres F I' w' a hI' hS';exact ⟨ei (hds ▸ hS'.ds),u,hc,v,hrun,I',.ret av,A',E,hsub.inv hI',hv,hR⟩
  | ret =>
    obtain ⟨hds,av,A',hres,hsub,hR⟩:=hq;obtain ⟨v,hrun,hv⟩:=hres F I' w' a hI' hS';exact ⟨ei (hds ▸ hS'.ds),u,hc,v,hrun,I',.ret av,A',E,hsub.inv hI',hv,hR⟩
  | panic c =>
    obtain ⟨hds,A',hsub,hR⟩:=hq;exact ⟨ei (hds ▸ hS'.ds),u,hc,I',.pan c,A',E,hsub.inv hI',rfl,hR⟩
  | exit id=>exact hq.elim
  | goto l=>exact hq.elim
  | outgrown=>exact hq.elim
def Recovers (u:FrameMode) (v:Value) (u':FrameMode):Prop:=(∃ older,u=.panicking ({ v:=v,recovered:=false }::older)∧u'=.panicking ({ v:=v,recovered:=true }::older))∨(u=.returning∧v=.nilIface∧u'=.returning)
theorem Recovers.pan {v:Value}:Recovers (.panicking (dR v)) v (.panicking [{ v:=v,recovered:=true }]):=.inl ⟨[],rfl,rfl⟩
theorem Recovers.ret:Recovers .returning .nilIface .returning:=.inr ⟨rfl,rfl,rfl⟩
theorem jJ {f:FuncId} {fn:Func} {id:Nat} {rest:Code} {args:List AV} {A:List Chunk} {u u':FrameMode} {R:AE→FrameMode→List Chunk→Prop} {v:Value} {av:AV} {t:Nat} {T:TypeId} {pos:String} {after:Array Edge} {l:List Nat}
    (hf:P.funcs[f]?=some fn) (hb:fn.body=some (.seq (.region id ops false) rest)) (hl:Nat.ble args.length fn.ntmps=true) (hr:List.range ops.size=0::l) (ho:ops[0]?=some ⟨some t,.call ⟨.builtin .recover,#[],#[]⟩,T,pos,after,none⟩)
    (ht:Nat.blt t fn.ntmps=true) (hu:Recovers u v u') (hv:conc av=some v)
    (h:∀ cs,ASR P fn.ntmps ops cs (Then (AW P none fn.ntmps rest (dn P fn fn.ntmps fun ae A'=>R ae u' A')) (dn P fn fn.ntmps fun ae A'=>R ae u' A')) l ⟨(t,av)::mi 0 args,[],A⟩):ADCalls P f args A u R:=fun F I w vs hI hvs=>by
  refine callsD_of_wpS hf hb fun c₀ cs hu0=>?_
  refine wpS_seq (wpS_region ?_)
  rw [hr]
  have hrel:=qV (A:=A) hvs (af hl)
  have hS:RelS fn.ntmps I w ⟨(t,av)::mi 0 args,[],A⟩ (({ tmps:=vs.toArray++Array.replicate (fn.ntmps - vs.toArray.size) undef,defers:=[] }:Act).put (some t) v) :=
    hrel.put (af ht) (conc_mk av v hv) A
  have key:=h ({ c₀ with mode:=u' }::cs) F I w _ hI hS
  have fin:∀ e a cs' w',cs'=({ c₀ with mode:=u' }:Frame)::cs∧CQ fn.ntmps F I w (dn P fn fn.ntmps fun ae A'=>R ae u' A') e a w' →
      bodyPostS P fn c₀ cs (fun e u' w'=>∃ I' ae A',Ext I w I' w'∧Inv I' (A'++F) w'∧RelE I' w' ae e∧R ae u' A') e a cs' w':=by
    rintro e a cs' w' ⟨rfl,I',s',E,hI',hS',hq⟩
    cases e with
    | normal =>
      obtain ⟨hds,av,A',hres,hsub,hR⟩:=hq;obtain ⟨v,hrun,hv⟩:=hres F I' w' a hI' hS';exact ⟨ei (hds ▸ hS'.ds),u',rfl,v,hrun,I',.ret av,A',E,hsub.inv hI',hv,hR⟩
    | ret =>
      obtain ⟨hds,av,A',hres,hsub,hR⟩:=hq;obtain ⟨v,hrun,hv⟩:=hres F I' w' a hI' hS';exact ⟨ei (hds ▸ hS'.ds),u',rfl,v,hrun,I',.ret av,A',E,hsub.inv hI',hv,hR⟩
    | panic c =>
      obtain ⟨hds,A',hsub,hR⟩:=hq;exact ⟨ei (hds ▸ hS'.ds),u',rfl,I',.pan c,A',E,hsub.inv hI',rfl,hR⟩
    | exit id=>exact hq.elim
    | goto l=>exact hq.elim
    | outgrown=>exact hq.elim
  have next:∀ e a cs' w',cs'=({ c₀ with mode:=u' }:Frame)::cs∧CQ fn.ntmps F I w (Then (AW P none fn.ntmps rest (dn P fn fn.ntmps fun ae A'=>R ae u' A')) (dn P fn fn.ntmps fun ae A'=>R ae u' A')) e a w' →
      Exit.thenS (rest.wpS P (bodyPostS P fn c₀ cs (fun e u' w'=>∃ I' ae A',Ext I w I' w'∧Inv I' (A'++F) w'∧RelE I' w' ae e∧R ae u' A'))) (bodyPostS P fn c₀ cs (fun e u' w'=>∃ I' ae A',Ext I w I' w'∧Inv I' (A'++F) w'∧RelE I' w' ae e∧R ae u' A')) e a cs' w':=by
    rintro e a cs' w' ⟨rfl,I',s',E,hI',hS',hq⟩
    cases e with
    | normal =>
      refine wpS_of_wp ((wpIn_wide (n:=0)).1 (wpIn_mono (hq F I' w' a hI' hS') fun e a w' hq=>?_));exact fin e a _ w' ⟨rfl,eL E (fun _ _ h=>h) hq⟩
    | ret=>exact fin .ret a _ w' ⟨rfl,I',s',E,hI',hS',hq⟩
    | panic c=>exact fin (.panic c) a _ w' ⟨rfl,I',s',E,hI',hS',hq⟩
    | exit id=>exact hq.elim
    | goto l=>exact hq.elim
    | outgrown=>exact hq.elim
  have key2:=re l next _ _ _ key
  simp only [wpOpsS,ho,Region.wanted,if_true]
  have hrun:∀ ρ:Operand→Value,(execOp ρ ⟨some t,.call ⟨.builtin .recover,#[],#[]⟩,T,pos,after,none⟩).run P w=.ok .recover w:=fun ρ=>rfl
  rw [hrun]
  rcases hu with ⟨older,rfl,rfl⟩ | ⟨rfl,rfl,rfl⟩
  · simp only [recoverD,hu0]
    exact key2
  · have hc:({ c₀ with mode:=.returning }:Frame)=c₀:=by rw [← hu0]
    rw [hc] at key2
    simp only [recoverD,hu0]
    exact key2
end
end Go.Av
namespace Go.Av
open Go.RowKit Go.Pv
section
variable {α:Type} {E:Enc α}
theorem fl_get (hk:E.k=1):∀ (l:List α) (m:Nat) (h:m < l.length),(E.fl l)[m]?=(E.f l[m])[0]?
  | [],m,h=>by simp at h
  | x::l,0,h=>by
    rw [eu]
    have:=E.len x
    rw [List.getElem?_append_left (by omega)]; rfl
  | x::l,m+1,h=>by
    rw [eu]
    have:=E.len x
    rw [List.getElem?_append_right (by omega),show m+1 - (E.f x).length=m by omega,fl_get hk l m (by simpa using h)]
    rfl
end
section
variable {P:Program} {e:Env} {d:Option Nat} {T T2:TypeId} {pos:String} {after:Array Edge} {g:Option (Nat×Bool)} {x y z:Operand} {av:AV} {A:List Chunk}
theorem wI {α:Type} {E:Enc α} {n:Int} {zv:α} {z0:Value} {El bytes:Nat} (hT:P.underlying T=some (.slice El)) (hE:cU P El=some (1,bytes)) (hz:zeroCells P El=some [z0]) (hk:E.k=1) (hb:Nat.ble bytes 1000=true) (hzv:E.f zv=[.v z0])
    (hx:opv e x=i64 n) (hy:opv e y=i64 n) (hg:co n 1000000000=true) :
    OpX P ⟨d,.makeSlice T x y,T2,pos,after,g⟩ e A (fun av A'=>∃ o,av=.vw o 0 n.toNat n.toNat∧A'=.obj o (E.fl (List.replicate n.toNat zv)++List.replicate 0 .any)::A):=fun F I w ρ hI hρ=>by
  obtain ⟨h1,h2⟩:=pd hg;obtain ⟨i,zz,hi,hzz,hs1,hs2,hs3⟩:=ep hE
  have hz':zz.cells.toList=[z0]:=by
    unfold zeroCells at hz
    rw [hi] at hz
    simp only [Option.bind_some,hzz,Option.map_some,Option.some.injEq] at hz
    exact hz
  have hza:zz.cells = #[z0]:=by rw [← Array.toList_inj,hz']
  have ex:=cf (hx ▸ hρ x)
  have ey:=cf (hy ▸ hρ y)
  have hbl:bytes≤1000:=af hb
  have hbb:(i.bytes:Int)*n≤281474976710656:=by
    rw [hs3]
    have h3:(bytes:Int)*n≤1000*n:=Int.mul_le_mul_of_nonneg_right (by omega) h1
    omega
  have hrun:=run_make (P:=P) w T El i zz hT hi hzz .i64 .i64 n n h1 (Int.le_refl _) hbb (by omega)
  obtain ⟨o,ho⟩:=hI.fresh_obj
  have hcells:madeCells zz.cells (n.toNat*i.size)=(List.replicate n.toNat z0).toArray:=by
    rw [hs2,Nat.mul_one,hza]
    unfold madeCells
    apply Array.ext'
    simp only [Array.toList_map,Array.toList_range]
    apply List.ext_getElem
    · simp
    · intro j h1 h2; simp [Nat.mod_one]
  rw [hcells] at hrun
  have hrl:RelL I w (E.fl (List.replicate n.toNat zv)++List.replicate 0 .any) (List.replicate n.toNat z0):=by
    have:E.fl (List.replicate n.toNat zv)=(List.replicate n.toNat z0).map AV.v:=by
      generalize n.toNat=m
      induction m with
      | zero=>rfl
      | succ m ih=>rw [List.replicate_succ,eu,hzv,ih,List.replicate_succ]; rfl
    rw [this,List.replicate_zero,List.append_nil]
    exact lP _
  refine ⟨_,.slice (some ⟨w.heap.size,0,none⟩) n.toNat n.toNat,_,_,_,_,?_,.inl rfl,hI.new_obj ho _,hI.alloc_obj ho El hrl,.vw o 0 _ _ _ (by simp [Info.putObj]),o,rfl,rfl⟩
  simp only [execOp,ex,ey,Sem.run_bind,hrun,Result.andThen_ok,Sem.run_pure]
theorem lI {f:Fn} {first captured:Array Operand} {as_ bs:List AV} (h1:first.toList.map (opv e)=as_) (h2:captured.toList.map (opv e)=bs):OpS P ⟨d,.makeFunc f first captured,T2,pos,after,g⟩ e (.fn f as_ bs):=fun I w ρ hρ=>by
  have r1:RelL I w as_ (first.toList.map ρ):=by rw [← h1]; exact gf _ _ _ fun x _=>hρ x
  have r2:RelL I w bs (captured.toList.map ρ):=by rw [← h2]; exact gf _ _ _ fun x _=>hρ x
  refine ⟨.func f (first.map ρ) (captured.map ρ),?_,fun w' _ _=>rfl⟩
  have:=Rel.fn (I:=I) (w:=w) f as_ bs _ _ r1.1 r1.2 r2.1 r2.2
  rwa [show (first.toList.map ρ).toArray=first.map ρ by apply Array.ext'; simp,show (captured.toList.map ρ).toArray=captured.map ρ by apply Array.ext'; simp] at this
end
end Go.Av
namespace Go.Av
open Go.RowKit Go.Pv
section
variable {P:Program} {e:Env} {d:Option Nat} {T T2:TypeId} {pos:String} {after:Array Edge} {g:Option (Nat×Bool)} {x y z:Operand} {av:AV} {A:List Chunk}
theorem qS {a:AV} (hx:opv e x=a) (hc:cE a=true∨∃ cs,a=.agg cs):OpR P ⟨d,.box T x,T2,pos,after,g⟩ e A (.cp (cellsOf a)) A:=fun F I w ρ hI hρ=>by
  have hv:=hx ▸ hρ x
  have hrl:=oU hv hc
  have X:=hI.new_still (.cells (ρ x).cells.toList.toArray T)
  refine ⟨_,.pointer (some ⟨w.heap.size,0,none⟩),_,_,?_,.inl rfl,X,hI.alloc_still _,?_⟩
  · simp only [execOp,Instr.box,newVar,newRow,Sem.run_bind,Sem.run_pure,run_newObj_alloc,Result.andThen_ok]
  · refine .cp _ w.heap.size 0 (fun j=>(ρ x).cells.toList.getD j undef) (fun m hm=>by simp [Info.still] at hm) (fun j hj=>?_) (fun j hj=>(hrl.2 j hj).mono X)
    have hj':j < (ρ x).cells.toList.length:=by rw [hrl.1]; exact hj
    have hh:=cT w (.cells (ρ x).cells.toList.toArray T)
    simp only [World.cell?,hh,Nat.zero_add]
    have hj2:j < (ρ x).cells.size:=by simpa using hj'
    simp [List.getD,hj2]
theorem Inv.freezeCp {I:Info} {A:List Chunk} {w:World} {o:Nat} {cs:List AV} (h:Inv I (.obj o cs::A) w):∃ I',Ext I w I' w∧Inv I' A w∧∀ v,Rel I w (.pt o 0) v→Rel I' w (.cp cs) v:=by
  obtain ⟨b,arr,ho,he,hca,hrl⟩:=h.holds _ (List.mem_cons_self ..)
  have hbl:(Chunk.obj o cs).blk I=some b:=ho
  have E:Ext I w (I.stillN b cs.length) w:=by
    refine ⟨rfl,rfl,rfl,Nat.le_refl _,fun b' hb'=>⟨rfl,?_⟩,fun _ _ _=>rfl,fun b' m hs=>?_,fun _ _ x=>x,fun _ _ x=>x,fun _ _ x=>x⟩
    · simp only [Info.stillN]
      rw [if_neg]
      · exact hb'
      · rintro rfl; rw [he] at hb'; cases hb'
    · intro q hq
      simp only [Info.stillN] at hq
      by_cases e:b'=b
      · subst e
        have:=hs 0 he
        omega
      · rw [if_neg e] at hq; exact hs q hq
  refine ⟨I.stillN b cs.length,E,?_,?_⟩
  · have hA:Inv I A w:=h.sub (List.sublist_cons_self ..)
    refine hA.keep E (fun c hc b' hb'=>⟨rfl,?_⟩) (fun b' hb'=>?_) h.ids
    · simp only [Info.stillN]; rw [if_neg (h.other hbl c hc b' hb')]
    · have hlt:=hca.lt
      simp only [Info.stillN]; rw [if_neg (by omega)]; exact h.fresh b' hb'
  · intro v hv
    cases hv with
    | pt o off b' ho' =>
      rw [ho] at ho'; cases ho'
      have hlen:arr.length=cs.length:=hrl.1
      refine .cp _ b 0 (fun j=>arr.getD j undef) ?_ ?_ ?_
      · intro q hq
        simp only [Info.stillN,if_true,Option.some.injEq] at hq
        omega
      · intro j hj
        rw [Nat.zero_add,hca.cell,List.getD,aV (by omega)]; rfl
      · intro j hj
        exact (hrl.2 j hj).mono E
end
section
variable {P:Program} {ro:Option Nat} {N:Nat} {Q:gt} {ops:Array Oper} {rest:List Nat} {e:Env} {ds:List ADef} {A:List Chunk}
theorem AR.freezeCp {o:Nat} {cs:List AV} (t i:Nat) (ht:ev e t=.pt o 0) (hA:A[i]?=some (.obj o cs)) (h:AR P ro N ops Q rest ⟨(t,.cp cs)::e,ds,A.eraseIdx i⟩):AR P ro N ops Q rest ⟨e,ds,A⟩:=fun F I w a hI hS=>by
  have hp:=ph A i _ hA
  have hI2:Inv I (.obj o cs::(A.eraseIdx i++F)) w:=hI.perm (hp.append_right F)
  obtain ⟨I',X,hI',hrel⟩:=hI2.freezeCp
  have hS':=hS.mono X
  refine cZ rest (fun _ _ _=>eL X fun _ _ h=>h) _ _ (h F I' w a hI' ⟨hS.size,fun j=>?_,hS'.ds⟩)
  have hj:=hS'.env j
  simp only [ev]
  cases hb:Nat.beq t j with
  | false=>exact hj
  | true =>
    have:=Nat.eq_of_beq_eq_true hb
    subst this
    have hj0:=hS.env t
    simp only [ht] at hj0
    exact hrel _ hj0
end
section
variable {P:Program} {e:Env} {d:Option Nat} {T T2:TypeId} {pos:String} {after:Array Edge} {g:Option (Nat×Bool)} {x y z:Operand} {av:AV} {A:List Chunk}
inductive WvL:List AV→List AV→Prop where
  | nil:WvL [] []
  | cons {a b:AV} {l m:List AV} (h:Wv a b) (g:WvL l m):WvL (a::l) (b::m)
theorem WvL.refl:∀ l,WvL l l
  | []=>.nil
  | a::l=>.cons (.refl a) (WvL.refl l)
theorem WvL.rel {I:Info} {w:World}:∀ {l m:List AV} {xs:List Value},WvL l m→RelL I w l xs→RelL I w m xs
  | _,_,_,.nil,h=>h
  | _,_,_,.cons h g,hr=>by
    obtain ⟨x,xs,rfl,h1,h2⟩:=hr.out_cons;exact fp (h.rel h1) (g.rel h2)
theorem CellV.oneW {a t:Nat} {c v:AV} (h:CellV P e A a t c) (hw:Wv c v):CellV P e A a t v:=fun F I w u hI hv=>by
  obtain ⟨p,x,h1,h2,h3⟩:=h F I w u hI hv;exact ⟨p,x,h1,h2,hw.rel h3⟩
end
section
variable {P:Program}
def yQ:AV→AV→Option Bool
  | .v (.bool a),.v (.bool b)=>some (a==b)
  | .v (.int k a),.v (.int k' b)=>if k=k' then some (a==b) else none
  | .v (.string a),.v (.string b)=>some (a==b)
  | _,_=>none
def pe:TypeDesc→AV→Bool
  | .bool,.v (.bool _)=>true
  | .int _,.v (.int _ _)=>true
  | .string,.v (.string _)=>true
  | _,_=>false
def tC (P:Program):List TypeId→List AV→List AV→Option (List Bool)
  | [],[],[]=>some []
  | t::ts,a::as_,b::bs=>match P.underlying t,yQ a b,tC P ts as_ bs with
    | some D,some r,some rs=>if pe D a&&pe D b then some (r::rs) else none
    | _,_,_=>none
  | _,_,_=>none
theorem sC {t:TypeId} {D:TypeDesc} {a b:AV} {x y:Value} {r:Bool} {I:Info} {w:World} {n:Nat} (ht:P.underlying t=some D) (h1:pe D a=true) (h2:pe D b=true) (hr:yQ a b=some r) (ha:Rel I w a x) (hb:Rel I w b y) (w':World) :
    (Op.equalIn (n+1) t x y).run P w'=.ok r w':=by
  cases D <;> cases a <;> (try (simp [pe] at h1; done)) <;> rename_i u <;> cases u <;> (try (simp [pe] at h1; done)) <;> cases b <;> (try (simp [pe] at h2; done)) <;> rename_i v <;> cases v <;> (try (simp [pe] at h2; done)) <;>
    cases ha <;> cases hb <;> simp only [Op.equalIn,Sem.run_bind,run_underlying ht,Result.andThen_ok] <;> simp only [yQ] at hr
  · cases hr; rfl
  · split at hr
    · rename_i h; subst h; cases hr; simp
    · cases hr
  · cases hr; rfl
def uB (P:Program) (t:TypeId):Bool:=match P.underlying t with
  | some D => !jg D
  | none=>false
theorem qc {t:TypeId} {D:TypeDesc} {xs:List Value} {i:Nat} (hT:P.underlying t=some D) (hD:jg D=false) (hi:i < xs.length) (w:World):(part t xs.toArray i).run P w=.ok (xs.getD i undef) w:=by
  simp [part,kg hT hD,hi,List.getD]
theorem rC {I:Info} {w:World}:∀ (ts:List TypeId) (as_ bs:List AV) (rs:List Bool) (xs ys:List Value),tC P ts as_ bs=some rs→RelL I w as_ xs→RelL I w bs ys →
    rs.length=ts.length∧as_.length=ts.length∧bs.length=ts.length∧∀ (n:Nat) (w':World) (i:Nat) (hi:i < ts.length),(Op.equalIn (n+1) ts[i] (xs.getD i undef) (ys.getD i undef)).run P w'=.ok (rs.getD i true) w'
  | [],[],[],rs,xs,ys,h,_,_=>by cases h; exact ⟨rfl,rfl,rfl,fun _ _ i hi=>absurd hi (Nat.not_lt_zero _)⟩
  | t::ts,a::as_,b::bs,rs,xs,ys,h,hx,hy=>by
    obtain ⟨x,xs',rfl,hx1,hx2⟩:=hx.out_cons;obtain ⟨y,ys',rfl,hy1,hy2⟩:=hy.out_cons
    simp only [tC] at h
    split at h
    · rename_i D r rs' hD hr hrs
      split at h
      · rename_i hd
        cases h
        simp only [Bool.and_eq_true] at hd
        obtain ⟨h1,h2,h3,h4⟩:=rC ts as_ bs rs' xs' ys' hrs hx2 hy2;refine ⟨by simp [h1],by simp [h2],by simp [h3],fun n w' i hi=>?_⟩
        cases i with
        | zero=>exact sC hD hd.1 hd.2 hr hx1 hy1 w'
        | succ i=>exact h4 n w' i (by simpa using hi)
      · cases h
    · cases h
  | [],_::_,_,_,_,_,h,_,_ | [],[],_::_,_,_,_,h,_,_ | _::_,[],_,_,_,_,h,_,_ | _::_,_::_,[],_,_,_,h,_,_=>by simp [tC] at h
end
section
variable {P:Program} {e:Env} {d:Option Nat} {T T2 T':TypeId} {pos:String} {after:Array Edge} {g:Option (Nat×Bool)} {x y z:Operand}
theorem rD {op:BinOp} {xs ys:Array Value} (hg:P.eqGuardType P.depth T=false) (w:World):(eqGuard op T x y (.agg xs) (.agg ys)).run P w=.ok () w:=by
  unfold eqGuard
  cases op <;> simp [program,Sem.run,hg]
theorem zf (s r:List UInt8):((⟨s.toArray⟩:ByteArray)==⟨r.toArray⟩)=decide (s=r):=by
  show (s.toArray==r.toArray)=decide (s=r)
  rw [Bool.eq_iff_iff]; simp
theorem rz {op:BinOp} {t:TypeId} {a:AV} {ms:List Method} {D:TypeDesc} (hop:op=.eql∨op=.neq) (hT:P.underlying T=some D) (hD:(match D with | .interface _=>true | _=>false)=true) (hx:opv e x=.ifc t a):OpS P ⟨d,.binOp op T x (.const .nilIface) T',T2,pos,after,g⟩ e (B (if op=.eql then false else true)):=fun I w ρ hρ=>by
  have h1:=hx ▸ hρ x
  have h2:=cf (hρ (.const .nilIface))
  generalize e1:ρ x=u at h1
  cases h1 with
  | ifc _ _ y hy =>
    refine ⟨.bool (if op=.eql then false else true),.v _,fun w' _ _=>?_⟩
    have hg:(eqGuard op T x (.const .nilIface) (.iface t y) .nilIface).run P w'=.ok () w':=uM (.inr ⟨_,_,rfl⟩) w'
    have hq:(Op.equal T (.iface t y) .nilIface).run P w'=.ok false w':=by
      cases D <;> first
        | (simp at hD; done)
        | (unfold Op.equal; rw [show Op.maxDepth=9999+1 from rfl,Op.equalIn]; simp only [Sem.run_bind,run_underlying hT,Result.andThen_ok]; rfl)
    rcases hop with rfl | rfl
    · simp only [execOp,e1,h2,Sem.run_bind,hg,Result.andThen_ok,binOp,hq,Sem.run_pure,if_true]
    · simp only [execOp,e1,h2,Sem.run_bind,hg,Result.andThen_ok,binOp,hq,Sem.run_pure]; rfl
theorem dU {α:Type} [Inhabited α] {E:Enc α} {post:List AV} {l:List α} {len El:Nat} {q:IntKind} {i:Int} {v:α} {c:AV} (hk:E.k=1) (hT:P.underlying T=some (.array len El)) (hsz:bO P El=some 1) (hx:opv e x=.cp (E.fl l++post)) (hy:opv e y=.v (.int q i)) (hll:Nat.beq l.length len=true)
    (hg:co i len=true) (he:at_ l i=v) (hc:E.f v=[c]):OpS P ⟨d,.indexAddr T x y,T2,pos,after,g⟩ e (.cp [c]):=fun I w ρ hρ=>by
  obtain ⟨h1,h2⟩:=pd hg
  have hll':=Nat.eq_of_beq_eq_true hll
  have hlt:i.toNat < l.length:=by omega
  have hfl:(E.fl l).length=l.length:=by rw [E.fl_length,hk,Nat.mul_one]
  have:=nX (P:=P) (d:=d) (pos:=pos) (after:=after) (g:=g) (T2:=T2) (m:=i.toNat) hT hsz hx hy (Int.toNat_of_nonneg h1).symm (by omega) (by simp [hfl]; omega)
  obtain ⟨u,hu,hw⟩:=this I w ρ hρ;refine ⟨u,?_,hw⟩
  have e1:v=l[i.toNat]:=by
    have:=cF (l:=l) hlt
    rw [Int.toNat_of_nonneg h1] at this
    rw [← he,this]
  have e2:(E.fl l++post)[i.toNat]?=some c:=by
    rw [List.getElem?_append_left (by omega),fl_get hk l _ hlt,← e1,hc]; rfl
  obtain ⟨hlt2,e3⟩:=List.getElem?_eq_some_iff.1 e2
  cases hu with
  | cp _ b off xs hst hcx hr =>
    have hd:0 < ((E.fl l++post).drop (i.toNat*1)).length:=by simp [hfl]; omega
    refine .cp [c] b off xs (hst.le (by simp [hfl]; omega)) (fun j hj=>hcx j (by simp at hj; omega)) (fun j hj=>?_)
    have hj0:j=0:=by simp at hj; exact hj
    subst hj0
    have:=hr 0 hd
    simpa [e3] using this
end
section
variable {P:Program} {N:Nat} {fn:Func} {e:Env} {A:List Chunk} {av bv cv:AV}
def PlaceV (P:Program) (e:Env) (A:List Chunk):ResultVar→AV→Prop
  | .tmp t,av=>Wv (ev e t) av
  | .cell a t,av=>CellV P e A a t av
def tt (tmps:Array Value):ResultVar→Sem Value
  | .tmp t=>pure (tmps.getD t undef)
  | .cell a t=>do loadVar t (← asAddr (tmps.getD a undef))
theorem PlaceV.run {r:ResultVar} (h:PlaceV P e A r av) {F:List Chunk} {I:Info} {w:World} {tmps:Array Value} (hI:Inv I (A++F) w) (ht:∀ t,Rel I w (ev e t) (tmps.getD t undef)):∃ x,(tt tmps r).run P w=.ok x w∧Rel I w av x:=by
  cases r with
  | tmp t=>exact ⟨_,rfl,Wv.rel h (ht t)⟩
  | cell a t =>
    obtain ⟨p,x,h1,h2,h3⟩:=h F I w _ hI (ht a);exact ⟨x,by simp only [tt,Sem.run_bind,h1,Result.andThen_ok,h2],h3⟩
theorem pw (tmps:Array Value):results fn tmps=(do let vs ← fn.results.mapM (tt tmps); pure (if h:vs.size=1 then vs[0] else .tuple vs)):=by
  unfold results
  congr 1
theorem oC {r:ResultVar} (hr:fn.results = #[r]) (h:PlaceV P e A r av):ResT P fn N e A av:=fun F I w tmps hI hs ht=>by
  obtain ⟨x,h1,h2⟩:=h.run hI ht;refine ⟨x,?_,h2⟩
  rw [pw,hr]
  simp [h1]
theorem mF {r q:ResultVar} (hr:fn.results = #[r,q]) (h:PlaceV P e A r av) (g:PlaceV P e A q bv):ResT P fn N e A (.tup [av,bv]):=fun F I w tmps hI hs ht=>by
  obtain ⟨x,h1,h2⟩:=h.run hI ht;obtain ⟨y,g1,g2⟩:=g.run hI ht;refine ⟨.tuple #[x,y],?_,.tup _ [x,y] rfl (fp h2 (fp g2 ge)).2⟩
  rw [pw,hr]
  simp [h1,g1]
end
end Go.Av
namespace Go.Av
open Go.RowKit
section
variable {P:Program} {ro:Option Nat} {N:Nat} {Q:gt} {ops:Array Oper}
def AYields (P:Program) (o:Nat) (args:List AV) (A:List Chunk) (R:AE→List Chunk→Prop):Prop :=
  ∀ F I w vs l,Inv I (A++F) w→I.obj o=some l→RelL I w args vs→∃ fn tmps asg bd,(Instr.yield l vs.toArray).run P w=.ok (.round l fn tmps asg bd) w ∧
    RoundIn (dX none) 0 P l fn tmps asg bd w fun e w'=>∃ I' ae A',Ext I w I' w'∧Inv I' (A'++F) w'∧RelE I' w' ae e∧R ae A'
theorem rel_yl {I:Info} {w:World} {o:Nat} {v:Value} (h:Rel I w (.yl o) v):∃ l,v=.func (.yield l) #[] #[]∧I.obj o=some l:=by
  cases h with
  | yl o l h=>exact ⟨l,rfl,h⟩
theorem AO.yield {rest:List Nat} {d:Nat} {x:Operand} {o:Nat} {args:Array Operand} {argTypes:Array TypeId} {Ty:TypeId} {pos:String} {after:Array Edge} {g:Option (Nat×Bool)} {e:Env} {ds:List ADef} {A:List Chunk} (B T:List Chunk)
    {R:AE→List Chunk→Prop} {avs:List AV} (hd:Nat.blt d N=true) (hx:opv e x=.yl o) (ha:args.toList.map (opv e)=avs) (p:A=B++T)
    (h:AYields P o avs T R) (k:∀ av T',R (.ret av) T'→AR P none N ops Q rest ⟨(d,av)::e,ds,B++T'⟩)
    (kp:∀ c T',R (.pan c) T'→Q (.panic c) ⟨e,ds,B++T'⟩) :
    AO P none N ops Q rest ⟨some d,.call ⟨.value x,args,argTypes⟩,Ty,pos,after,g⟩ ⟨e,ds,A⟩:=fun F I w a hI hS=>by
  subst p
  have hS':=hS
  obtain ⟨l,hv,ho⟩:=rel_yl (hx ▸ hS'.op x)
  have hrl:RelL I w avs (args.toList.map a.eval):=by
    rw [← ha]; exact gf _ _ _ fun x _=>hS'.op x
  have hI2:Inv I (T++(B++F)) w:=by
    refine hI.perm ?_
    rw [← List.append_assoc]
    exact (List.perm_append_comm).append_right F
  obtain ⟨fn,tmps,asg,bd,hy,hR⟩:=h (B++F) I w _ l hI2 ho hrl;refine ⟨fun _ _=>dQ _,?_⟩
  have he:(#[]:Array Value)++args.map a.eval=(args.toList.map a.eval).toArray:=by apply Array.ext'; simp
  have hex:(Oper.semAt (dX none).round a.eval ⟨some d,.call ⟨.value x,args,argTypes⟩,Ty,pos,after,g⟩).run P w=.ok (.round l fn tmps asg bd) w:=by
    rw [Oper.semAt_eq _ _ _ (fun c h=>by cases h)]
    simp only [execOp,resolve,hv,Deferred.ofValue,Sem.run_bind,Sem.run_pure,Result.andThen_ok,invoke,he,Array.append_empty]
    exact hy
  rw [hex]
  refine ⟨qA,hR.mono fun en w' ⟨I',ae,A',E,hI',hre,hR⟩=>?_⟩
  have hI3:Inv I' ((B++A')++F) w':=by
    refine hI'.perm ?_
    rw [← List.append_assoc]
    exact (List.perm_append_comm).append_right F
  cases en with
  | returned v =>
    cases ae with
    | ret av =>
      have hk:=k av A' hR F I' w' (a.put (some d) v) hI3 ((hS.mono E).put (af hd) hre _)
      exact cZ rest (fun _ _ _=>eL E fun _ _ h=>h) _ _ hk
    | pan c=>exact hre.elim
  | panicked c =>
    cases ae with
    | ret av=>exact hre.elim
    | pan c' =>
      cases hre
      exact ⟨I',⟨e,ds,B++A'⟩,E,hI3,⟨hS.size,(hS.mono E).env,(hS.mono E).ds⟩,kp _ A' hR⟩
  | outgrown=>cases ae <;> exact hre.elim
inductive Unmark:List ADef→List Chunk→List Chunk→Prop where
  | nil (A:List Chunk):Unmark [] A A
  | cons {o:Nat} {ds:List ADef} {A A1 B:List Chunk} (p:A.Perm (.db o::A1)) (h:Unmark ds A1 B):Unmark (.mark o::ds) A B
end
end Go.Av
namespace Go.Av
open Go.RowKit Go.Pv
section
variable {P:Program} {I:Info} {w:World} {e:Env} {d:Option Nat} {T:TypeId} {pos:String} {after:Array Edge} {g:Option (Nat×Bool)} {x y z z2:Operand} {A:List Chunk}
def nB (P:Program):List Field→Nat→Bool
  | [],_=>true
  | f::fs,i=>decide (f.name ≠ "_")&&Nat.beq f.offset i&&uB P f.type&&nB P fs (i+1)
theorem qi {n:Nat} {xs ys:List Value} (w:World):∀ (fs:List Field) (off:Nat) (rs:List Bool),nB P fs off=true→off+fs.length=xs.length→off+fs.length=ys.length→rs.length=fs.length →
    (∀ (i:Nat) (hi:i < fs.length),(Op.equalIn (n+1) fs[i].type (xs.getD (off+i) undef) (ys.getD (off+i) undef)).run P w=.ok (rs.getD i true) w) →
    (Op.eqFields (n+1) xs.toArray ys.toArray fs).run P w=.ok (rs.all id) w
  | [],off,rs,_,_,_,hr,_=>by
    have:rs=[]:=List.eq_nil_of_length_eq_zero (by simpa using hr)
    subst this; rfl
  | f::fs,off,rs,hf,hx,hy,hr,h=>by
    simp only [nB,Bool.and_eq_true,decide_eq_true_eq] at hf
    obtain ⟨⟨⟨h1,h2⟩,h3⟩,h4⟩:=hf
    have h2':=Nat.eq_of_beq_eq_true h2
    cases rs with
    | nil=>simp at hr
    | cons r rs =>
      unfold uB at h3
      split at h3
      · rename_i D hD
        have hD':jg D=false:=by simpa using h3
        have h0:=h 0 (by simp)
        simp only [List.getElem_cons_zero,Nat.add_zero,List.getD_cons_zero] at h0
        simp only [List.length_cons] at hx hy
        simp only [Op.eqFields,if_pos h1,Sem.run_bind,h2',qc hD hD' (show off < xs.length by omega) w,qc hD hD' (show off < ys.length by omega) w,Result.andThen_ok,h0]
        have ih:=qi (n:=n) (xs:=xs) (ys:=ys) w fs (off+1) rs h4 (by omega) (by omega) (by simpa using hr) (fun i hi=>by
          have:=h (i+1) (by simpa using hi)
          simpa [Nat.add_assoc,Nat.add_comm 1 i] using this)
        cases r with
        | true=>simp only [Bool.not_true,Bool.false_eq_true,if_false,ih,List.all_cons,id,Bool.true_and]
        | false=>simp only [Bool.not_false,if_true,Sem.run_pure,List.all_cons,id,Bool.false_and]
      · cases h3
theorem pz {op:BinOp} {as_ bs:List AV} {rs:List Bool} {r:Bool} {fs:Array Field} {T' T2:TypeId} (hop:op=.eql∨op=.neq) (hT:P.underlying T=some (.struct fs)) (hp:P.stoodInHeld T=false) (hf:nB P fs.toList 0=true) (hg:P.eqGuardType P.depth T=false)
    (hx:opv e x=.agg as_) (hy:opv e y=.agg bs) (hl:tC P (fs.toList.map (·.type)) as_ bs=some rs) (hr:rs.all id=r):OpS P ⟨d,.binOp op T x y T',T2,pos,after,g⟩ e (B (if op=.eql then r else !r)):=fun I w ρ hρ=>by
  have h1:=hx ▸ hρ x
  have h2:=hy ▸ hρ y
  generalize e1:ρ x=u at h1
  generalize e2:ρ y=v at h2
  have hfo:P.fieldsOf T=fs:=by simp [Program.fieldsOf,hT]
  cases h1 with
  | agg _ xs hlx hrx =>
    cases h2 with
    | agg _ ys hly hry =>
      obtain ⟨k1,k2,k3,k4⟩:=rC _ _ _ _ _ _ hl ⟨hlx,hrx⟩ ⟨hly,hry⟩
      simp only [List.length_map] at k1 k2 k3
      refine ⟨.bool (if op=.eql then r else !r),.v _,fun w' _ _=>?_⟩
      have hq:(Op.equal T (.agg xs.toArray) (.agg ys.toArray)).run P w'=.ok r w':=by
        rw [← hr]
        unfold Op.equal
        rw [show Op.maxDepth=(Op.maxDepth - 1)+1 from rfl,run_equalIn_struct w' _ _ _ _ (by rw [hfo]; exact hT) hp,hfo]
        refine qi (n:=Op.maxDepth - 2) w' fs.toList 0 rs hf (by omega) (by omega) (by omega) (fun i hi=>?_)
        have:=k4 (Op.maxDepth - 2) w' i (by simpa using hi)
        simpa using this
      rcases hop with rfl | rfl
      · simp only [execOp,e1,e2,Sem.run_bind,rD hg,Result.andThen_ok,binOp,hq,Sem.run_pure,if_true]
      · simp only [execOp,e1,e2,Sem.run_bind,rD hg,Result.andThen_ok,binOp,hq,Sem.run_pure]; rfl
end
end Go.Av
namespace Go.Av
open Go.RowKit Go.Pv
section
variable {P:Program} {I:Info} {w:World} {e:Env} {d:Option Nat} {T:TypeId} {pos:String} {after:Array Edge} {g:Option (Nat×Bool)} {x y:Operand} {A:List Chunk}
theorem rB {p q:Nat→Option (Nat×Nat)}:∀ (parts:List (Nat×Value)) (cs:Array Value),(∀ r∈parts,p r.1=q r.1)→Instr.fill p cs parts=Instr.fill q cs parts
  | [],_,_=>rfl
  | (i,v)::rest,cs,h=>by
    have h0:=h (i,v) (List.mem_cons_self ..)
    simp only at h0
    have ih:=fun cs=>rB (p:=p) (q:=q) rest cs (fun r hr=>h r (List.mem_cons_of_mem _ hr))
    simp only [Instr.fill,h0]
    cases q i with
    | none=>rfl
    | some r=>simp only [ih]
theorem vN {El bytes k n:Nat} {parts:Array (Nat×Operand)} {zs:List Value} {cs:List AV} {T2:TypeId} {ρ:Operand→Value} (hT:P.underlying T=some (.slice El)) (hE:cU P El=some (k,bytes)) (hz:zeroCells P El=some zs) (hn:Nat.ble (n*k) 16777216=true)
    (hok:vX e parts.toList=true) (hi:(parts.toList.all fun p=>Nat.blt p.1 n)=true) (hf:tI ((List.range n).map fun i=>(i*k,k)) ((gr zs (n*k)).map AV.v) (parts.toList.map fun p=>(p.1,opv e p.2))=some cs) (hρ:∀ x,Rel I w (opv e x) (ρ x)) :
    ∃ ys:List Value,(execOp ρ ⟨d,.buildSlice T n parts,T2,pos,after,g⟩).run P w=.ok (.value (.slice (some ⟨w.heap.size,0,none⟩) n n)) (w.alloc (.cells ys.toArray El))∧RelL I w cs ys:=by
  obtain ⟨i,z,hin,hzi,hzs,hsz,hby⟩:=ep hE
  have hcz:bO P El=some k:=by simp only [bO,hin,Option.map_some,hsz]
  have hzz:zs=z.cells.toList:=by
    simp only [zeroCells,hin,Option.bind_some,hzi,Option.map_some,Option.some.injEq] at hz
    exact hz.symm
  have hti:(typeInfo El).run P w=.ok i w:=by simp [typeInfo,program,hin,Sem.run]
  have hzv:(zeroValue El).run P w=.ok z w:=by simp only [zeroValue,Sem.run_bind,hti,Result.andThen_ok,hzi,Sem.run_pure]
  obtain ⟨ys,hy,hyr⟩:=tu (I:=I) (w:=w) ((List.range n).map fun i=>(i*k,k)) (parts.toList.map fun p=>(p.1,opv e p.2)) (parts.toList.map fun p=>(p.1,ρ p.2)) _ _ cs (by simp) (fun j hj=>by
    have hj':j < parts.toList.length:=by simpa using hj
    simp only [List.getElem_map,List.map_map,List.getD,List.getElem?_map,aV hj',Option.map_some,Option.getD_some,Function.comp]
    refine oU (hρ _) ?_
    have h:=List.all_eq_true.1 hok _ (List.getElem_mem hj')
    cases hc:cE (opv e parts.toList[j].2) with
    | true=>exact .inl rfl
    | false=>rw [hc,Bool.false_or] at h; exact .inr (zw h)) (lP (gr zs (n*k))) hf
  refine ⟨ys,?_,hyr⟩
  have hpm:(parts.map fun (i,x)=>(i,ρ x)).toList=parts.toList.map fun p=>(p.1,ρ p.2):=by simp
  have hfill:Instr.fill (fun i=>some (i*k,k)) (gr zs (n*k)).toArray (parts.map fun (i,x)=>(i,ρ x)).toList=some ys.toArray:=by
    rw [hpm,← hy]
    refine rB _ _ fun r hr=>?_
    obtain ⟨p,hp,rfl⟩:=List.mem_map.1 hr
    have hlt:p.1 < n:=by
      have:=List.all_eq_true.1 hi p hp
      exact af this
    simp [hlt]
  have hle:=af hn
  have hz0:(if n*k=0 then (pure #[]:Sem (Array Value)) else do pure (← zeroValue El).cells).run P w=.ok (if n*k=0 then #[] else z.cells) w:=by
    split
    · rfl
    · simp only [Sem.run_bind,hzv,Result.andThen_ok,Sem.run_pure]
  have hrow:(Array.range (n*k)).map ((if n*k=0 then #[] else z.cells)[· % (if n*k=0 then #[] else z.cells).size]!)=(gr zs (n*k)).toArray:=by
    by_cases h0:n*k=0
    · simp [h0,gr]
    · simp only [if_neg h0]
      have hk0:0 < z.cells.size:=by
        rw [hzs]
        rcases Nat.eq_zero_or_pos k with h | h
        · rw [h,Nat.mul_zero] at h0; exact absurd rfl h0
        · exact h
      apply Array.ext'
      simp only [Array.toList_map,Array.toList_range,gr,List.toList_toArray,hzz,Array.length_toList]
      refine List.map_congr_left fun j _=>?_
      have hj:j % z.cells.size < z.cells.size:=Nat.mod_lt _ hk0
      simp [List.getD,hj]
  simp only [execOp,Instr.buildSlice,Sem.run_bind,run_underlying hT,Result.andThen_ok,bS hcz,Sem.run_pure]
  rw [if_neg (by omega)]
  have hfill2:Instr.fill (fun i=>some (i*k,k)) (gr zs (n*k)).toArray (parts.map fun x=>(x.1,ρ x.2)).toList=some ys.toArray:=hfill
  by_cases h0:n*k=0
  · rw [if_pos h0] at hrow
    rw [if_pos h0]
    simp only [Sem.run_bind,Sem.run_pure,Result.andThen_ok]
    rw [hrow]
    simp only [hfill2,newRow,Sem.run_bind,run_newObj_alloc,Result.andThen_ok,Sem.run_pure]
  · rw [if_neg h0] at hrow
    rw [if_neg h0]
    simp only [Sem.run_bind,hzv,Sem.run_pure,Result.andThen_ok]
    rw [hrow]
    simp only [hfill2,newRow,Sem.run_bind,run_newObj_alloc,Result.andThen_ok,Sem.run_pure]
theorem cW {α:Type} {E:Enc α} {l:List α} {El bytes n:Nat} {parts:Array (Nat×Operand)} {zs:List Value} {T2:TypeId} (hT:P.underlying T=some (.slice El)) (hE:cU P El=some (E.k,bytes)) (hz:zeroCells P El=some zs) (hn:Nat.ble (n*E.k) 16777216=true)
    (hok:vX e parts.toList=true) (hi:(parts.toList.all fun p=>Nat.blt p.1 n)=true) (hl:l.length=n) (hf:tI ((List.range n).map fun i=>(i*E.k,E.k)) ((gr zs (n*E.k)).map AV.v) (parts.toList.map fun p=>(p.1,opv e p.2))=some (E.fl l)) :
    OpR P ⟨d,.buildSlice T n parts,T2,pos,after,g⟩ e A (slE E l none) A:=fun F I w ρ hI hρ=>by
  obtain ⟨ys,hrun,hrl⟩:=vN (d:=d) (T2:=T2) (pos:=pos) (after:=after) (g:=g) hT hE hz hn hok hi hf hρ
  have X:=hI.new_still (.cells ys.toArray El)
  refine ⟨_,.slice (some ⟨w.heap.size,0,none⟩) n n,_,_,hrun,.inl rfl,X,hI.alloc_still _,?_⟩
  unfold slE
  refine .sl E.k (E.fl l) none _ 0 _ _ (fun j=>ys.getD j undef) E.pos (by rw [E.fl_length,hl]) (Nat.le_refl _) ?_ ?_ (hrl.mono X).2 (fun t h=>by cases h)
  · intro m hm; simp [Info.still] at hm
  · intro j hj
    have hj':j < ys.length:=by rw [hrl.1]; exact hj
    rw [Nat.zero_add]
    simp only [World.cell?,cT]
    simp only [Option.isSome_none,Bool.false_eq_true,if_false,List.getElem?_toArray,List.getD,aV hj',Option.getD_some]
end
end Go.Av
namespace Go.Av
def mS:Enc Nat:=⟨1,fun n=>[.v (.func (.func n) #[] #[])],by decide,fun _=>rfl,fun _ c h=>by simp at h; subst h; rfl⟩
theorem agg_rel {I:Info} {w:World} {cs ds:List AV} {x:Value} (h:WvL cs ds) (hr:Rel I w (.agg cs) x):Rel I w (.agg ds) x:=by
  cases hr with
  | agg _ xs hl hr =>
    have:=h.rel ⟨hl,hr⟩
    exact .agg _ xs this.1 this.2
theorem dL {P:Program} {o:Oper} {e:Env} {A A':List Chunk} {av:AV} {cs ds:List AV} (t:Nat) (hw:WvL cs ds) (h:OpR P o ((t,.agg ds)::e) A av A') (hc:ev e t=.agg cs:=by rfl):OpR P o e A av A':=fun F I w ρ hI hρ=>h F I w ρ hI (fun x=>by
  cases x with
  | tmp u =>
    show Rel I w (match Nat.beq t u with | true=>.agg ds | false=>ev e u) _
    cases hb:Nat.beq t u with
    | true =>
      have:t=u:=Nat.eq_of_beq_eq_true hb
      subst this
      have:=hρ (.tmp t)
      rw [show opv e (.tmp t)=.agg cs from hc] at this
      exact agg_rel hw this
    | false=>exact hρ (.tmp u)
  | const c=>exact hρ (.const c)
  | global g=>exact hρ (.global g)
  | func f=>exact hρ (.func f))
section
variable {P:Program} {ro:Option Nat} {N:Nat} {Q:gt} {ops:Array Oper}
theorem AO.callFPan {rest:List Nat} {d:Nat} {x:Operand} {f:FuncId} {fs cs:List AV} {args:Array Operand} {argTypes:Array TypeId} {T:TypeId} {pos:String} {after:Array Edge} {g:Option (Nat×Bool)} {e:Env} {ds:List ADef} {A A1 B:List Chunk} {c:List PanicEntry} {avs:List AV} (is:List Nat)
    (hd:Nat.blt d N=true) (hx:FnV (opv e x) (.func f) fs cs) (hf:∀ args w,(callFunc f args).run P w=.ok (.enter f args) w) (ha:fs++args.toList.map (opv e)++cs=avs)
    (h:ACalls P f avs A1 (fun ae A'=>ae=.pan c∧A'=[])) (p:nY A is=some (A1,B)) (k:Q (.panic c) ⟨e,ds,B⟩) :
    AO P ro N ops Q rest ⟨some d,.call ⟨.value x,args,argTypes⟩,T,pos,after,g⟩ ⟨e,ds,A⟩ :=
  AO.callF B hd hx hf ha h (gH is _ _ _ p) (fun av A' ⟨h1,_⟩=>by cases h1) (fun c' A' ⟨h1,h2⟩=>by cases h1; subst h2; exact k)
def okG (ops:Array Oper) (N:Nat) (e:Env) (o:Oper):Prop :=
  o.guard=none∨∃ j want t b,o.guard=some (j,want)∧(ops[j]?).bind (·.dst)=some t∧ev e t=.v (.bool b)∧Nat.blt t N=true∧b=want
theorem zP {s:St} {fuel:Nat} {listed:Array Bool} {rs:List Nat} (hr:Region.ready .any ops listed=rs) (hne:rs.isEmpty=false)
    (h:∀ i∈rs,∃ o,ops[i]?=some o∧okG ops N s.env o∧AIO P ro N ops Q fuel (listed.setIfInBounds i true) o s):AI P ro N ops Q (fuel+1) listed s:=fun hp F I0 w0 I w a E hI hS=>by
  refine ⟨fun h0=>?_,fun i hi=>?_⟩
  · rw [hr] at h0; subst h0; cases hne
  · rw [hr] at hi
    obtain ⟨o,ho,hg,h⟩:=h i hi
    have hwant:Region.wanted o (yielded ops a.tmps)=true:=by
      rcases hg with hg | ⟨j,want,t,b,hg,hj,hb,ht,hw⟩
      · simp only [Region.wanted,hg]
      · obtain ⟨e,ds,A⟩:=s
        have hy:=oM (ops:=ops) hS hj hb ht
        simp only [Region.wanted,hg,hy,hw]; cases want <;> rfl
    unfold Go.wpOpIn
    simp only [ho,hwant,if_true]
    exact h hp (hp _ o ho) F I0 w0 I w a E hI hS
theorem lN {s:St} {fuel:Nat} {listed:Array Bool} {i j:Nat} {o o':Oper} (hr:Region.ready .any ops listed=[i,j]) (ho:ops[i]?=some o) (hg:okG ops N s.env o) (ho':ops[j]?=some o') (hg':okG ops N s.env o')
    (h:AIO P ro N ops Q fuel (listed.setIfInBounds i true) o s) (h':AIO P ro N ops Q fuel (listed.setIfInBounds j true) o' s):AI P ro N ops Q (fuel+1) listed s:=zP hr rfl fun k hk=>by
  simp at hk
  rcases hk with rfl | rfl
  · exact ⟨o,ho,hg,h⟩
  · exact ⟨o',ho',hg',h'⟩
theorem vm {s:St} {fuel:Nat} {listed:Array Bool} {i j l:Nat} {o o' o'':Oper} (hr:Region.ready .any ops listed=[i,j,l]) (ho:ops[i]?=some o) (hg:okG ops N s.env o) (ho':ops[j]?=some o') (hg':okG ops N s.env o') (ho'':ops[l]?=some o'') (hg'':okG ops N s.env o'')
    (h:AIO P ro N ops Q fuel (listed.setIfInBounds i true) o s) (h':AIO P ro N ops Q fuel (listed.setIfInBounds j true) o' s) (h'':AIO P ro N ops Q fuel (listed.setIfInBounds l true) o'' s):AI P ro N ops Q (fuel+1) listed s:=zP hr rfl fun k hk=>by
  simp at hk
  rcases hk with rfl | rfl | rfl
  · exact ⟨o,ho,hg,h⟩
  · exact ⟨o',ho',hg',h'⟩
  · exact ⟨o'',ho'',hg'',h''⟩
end
end Go.Av
namespace Go.Av
open Go.RowKit
section
variable {I:Info} {A:List Chunk} {w:World}
theorem wi {t n:Nat} {v:Value} (h:Rel I w (.sk t n) v):(∃ b c,I.tok t=some (some b,0,c)∧n≤c∧v=.slice (some ⟨b,0,none⟩) n c)∨(I.tok t=some (none,0,0)∧n=0∧v=.slice none 0 0):=by
  cases h with
  | sk t n b c h hn=>exact .inl ⟨b,c,h,hn,rfl⟩
  | sknil t h=>exact .inr ⟨h,rfl,rfl⟩
theorem Inv.nil_stk (h:Inv I A w) {t:Nat} (ht:I.tok t=none):Ext I w (I.nilTok t) w∧Inv (I.nilTok t) (.stk t []::A) w:=by
  obtain ⟨X,h1⟩:=h.nil_tok ht 0;refine ⟨X,Inv.cons (h1.sub (List.sublist_cons_self ..)) ⟨none,0,by simp [Info.nilTok],fun _=>⟨rfl,rfl⟩,fun b e=>by cases e⟩ ?_⟩
  intro b hb; simp [Chunk.blk,Info.nilTok] at hb
theorem Inv.stk_of_tok {t b c:Nat} {E0:TypeId} {cs:List AV} {arr:List Value} (hI:Inv I (.tok t E0::A) w) (ht:I.tok t=some (some b,0,c)) (hca:CellsAt w b arr) (hal:arr.length=c) (hn:cs.length≤c)
    (hr:RelL I w cs (arr.take cs.length)):Inv I (.stk t cs::A) w:=by
  obtain ⟨ob,n',c',ht2,_,hh⟩:=hI.holds _ (List.mem_cons_self ..)
  rw [ht] at ht2; cases ht2
  obtain ⟨he,_,_⟩:=hh b rfl;exact Inv.cons (hI.sub (List.sublist_cons_self ..)) ⟨some b,c,ht,fun e=>(by cases e),fun b' e=>by cases e; exact ⟨he,hn,arr,hca,hal,hr⟩⟩ (fun b' hb' d hd e=>hI.apart (c:=.tok t E0) (b:=b') hb' d hd e)
theorem RelL.take {cs:List AV} {xs:List Value} (h:RelL I w cs xs) (m:Nat):RelL I w (cs.take m) (xs.take m):=by
  refine ⟨by simp [h.1],fun j hj=>?_⟩
  have h1:j < cs.length:=by simp at hj; omega
  have h2:j < m:=by simp at hj; omega
  rw [List.getElem_take]
  have:=h.2 j h1
  rw [show (xs.take m).getD j undef=xs.getD j undef from by simp [List.getD,List.getElem?_take,h2]]
  exact this
theorem Inv.stk_take {t:Nat} {cs:List AV} (hI:Inv I (.stk t cs::A) w) (m:Nat):Inv I (.stk t (cs.take m)::A) w:=by
  obtain ⟨ob,c,ht,h0,hh⟩:=hI.holds _ (List.mem_cons_self ..);refine Inv.cons (hI.sub (List.sublist_cons_self ..)) ⟨ob,c,ht,fun e=>?_,fun b e=>?_⟩ (fun b' hb' d hd e=>hI.apart (c:=.stk t cs) (b:=b') hb' d hd e)
  · obtain ⟨h1,h2⟩:=h0 e
    exact ⟨h1,by rw [h2]; simp⟩
  · obtain ⟨he,hn,arr,hca,hal,hr⟩:=hh b e
    refine ⟨he,by rw [List.length_take]; omega,arr,hca,hal,?_⟩
    rw [List.length_take,← List.take_take]
    exact hr.take m
theorem Inv.push_stk {t b c n:Nat} {cs:List AV} (h:Inv I (.stk t cs::A) w) (ht:I.tok t=some (some b,0,c)) (hn:n≤cs.length) (hc:n < c) {a:AV} {u:Value} (hr:Rel I w a u) :
    Ext I w I (w.setCell ⟨b,n,none⟩ u)∧Inv I (.stk t (cs.take n++[a])::A) (w.setCell ⟨b,n,none⟩ u):=by
  obtain ⟨ob,c',ht2,_,hh⟩:=h.holds _ (List.mem_cons_self ..)
  rw [ht] at ht2; cases ht2
  obtain ⟨he,hcs,arr,hca,hal,hrl⟩:=hh b rfl
  have X:Ext I w I (w.setCell ⟨b,n,none⟩ u):=by
    refine ⟨rfl,rfl,rfl,by simp,fun b' hb'=>⟨gV _ _ _ _ (fun e=>by simp only at e; rw [e,he] at hb'; cases hb'),hb'⟩,fun b' j' hj'=>?_,fun _ _ h=>h,fun _ _ h=>h,fun _ _ h=>h,fun _ _ h=>h.setCell _ _⟩;refine World.cell?_setCell_other _ _ _ _ (fun e=>?_)
    cases e
    have:=hj' 0 he; omega
  refine ⟨X,Inv.cons ((h.sub (List.sublist_cons_self ..)).keep X (fun d hd b' hb'=>⟨gV _ _ _ _ (fun e=>?_),rfl⟩) (fun b' hb'=>h.fresh b' (by simpa using hb')) h.ids) ?_ (fun b' hb' d hd e=>h.apart (c:=.stk t cs) (b:=b') hb' d hd e)⟩
  · exact h.apart (c:=.stk t cs) (b:=b) (by simp [Chunk.blk,ht]) d hd (by simp only at e; rw [← e]; exact hb')
  · have hl:(cs.take n++[a]).length=n+1:=by simp; omega
    refine ⟨some b,c,ht,fun e=>(by cases e),fun b' e=>?_⟩
    cases e
    refine ⟨he,by omega,arr.set n u,lz hca n u,by simp [hal],?_⟩
    rw [hl]
    refine ⟨by simp; omega,fun i hi=>?_⟩
    rw [hl] at hi
    rw [show ((arr.set n u).take (n+1)).getD i undef=(arr.set n u).getD i undef from by simp [List.getD,List.getElem?_take,hi]]
    by_cases hin:i=n
    · subst hin
      rw [List.getElem_append_right (by simp; omega)]
      have:(arr.set i u).getD i undef=u:=by simp only [List.getD,List.getElem?_set_self (show i < arr.length by omega),Option.getD_some]
      rw [this]
      simpa [Nat.min_eq_left hn] using hr.mono X
    · have hlt:i < n:=by omega
      rw [List.getElem_append_left (by simp; omega),List.getElem_take]
      have h1:=hrl.2 i (by omega)
      have:(arr.set n u).getD i undef=(arr.take cs.length).getD i undef:=by
        simp only [List.getD,List.getElem?_set_ne (show n≠i by omega),List.getElem?_take,if_pos (show i < cs.length by omega)]
      rw [this]
      exact h1.mono X
end
section
variable {P:Program} {I:Info} {w:World}
theorem pv {A:List Chunk} {T T2 El:TypeId} {D2:TypeDesc} {bytes n:Nat} {cs:List AV} {a:AV} {u:Value} {ty:TypeId}
    (hT:P.underlying T=some (.slice El)) (hT2:P.underlying T2=some D2) (hD2:jf D2=false) (hE:cU P El=some (1,bytes))
    (hI:Inv I A w) (hn:cs.length=n) (hu:Src P I w 1 u [a] 1) (hcell:cE a=true) (hb:(n+1)*bytes≤140737488355328) (hs:n+1≤140737488355328)
    (base:Option Addr) (cap:Nat) (old:List Value) (hol:old.length=n) (hro:RelL I w cs old) (hcap:cap < n+1)
    (hold:(Builtin.firstCells 1 n (.slice base n cap)).run P w.drew=.ok old.toArray w.drew) :
    ∃ v' w' I' t',(Builtin.append_ #[T,T2] ty #[.slice base n cap,u]).run P w=.ok v' w'∧Ext I w I' w'∧Inv I' (.stk t' (cs++[a])::A) w'∧Rel I' w' (.sk t' (n+1)) v':=by
  obtain ⟨i,z,hi,hz,hzs,hsz,hby⟩:=ep hE;obtain ⟨xs,hml,hrl,hlen,hfirst⟩:=hu
  have hxl:xs.length=1:=hrl.1
  have hcz:bO P El=some 1:=by simp only [bO,hi,Option.map_some,hsz]
  obtain ⟨t',ht'⟩:=hI.fresh_tok
  have hge:=grownCap_ge w (n+1) cap El
  generalize hg:grownCap w (n+1) cap El=c at hge
  have hch:(choose (.appendCap (n+1) cap El)).run P w=.ok c w.drew:=by
    rw [run_choose_drew,← hg]
    rfl
  have hfit:¬ (Builtin.nextslicecap (n+1) cap*i.bytes > 2 ^ 48):=by
    have:=growslice_fits (need:=n+1) (old:=cap) (bytes:=i.bytes) (by omega) (by rw [hby]; exact hb)
    omega
  have hdrop:Inv I A w.drew:=hI.drew
  have hzl:(Builtin.zeroCells z.cells (c - (n+1))).size=c - (n+1):=by rw [size_zeroCells,hzs,Nat.mul_one]
  have harr:(old++xs++(Builtin.zeroCells z.cells (c - (n+1))).toList).length=c:=by
    simp only [List.length_append,hol,hxl,Array.length_toList,hzl]
    omega
  have X:=hdrop.new_row ht' 0 c (.cells (old++xs++(Builtin.zeroCells z.cells (c - (n+1))).toList).toArray El (0,0))
  have hI':=hdrop.alloc_row ht' 0 (old++xs++(Builtin.zeroCells z.cells (c - (n+1))).toList) El (0,0) (Nat.zero_le _) (.inl rfl)
  rw [harr] at hI'
  have XX:=(Ext.drew I w).trans X
  have htk:(I.putTok t' w.drew.heap.size 0 c).tok t'=some (some w.drew.heap.size,0,c):=by simp [Info.putTok]
  have hS:Inv (I.putTok t' w.drew.heap.size 0 c) (.stk t' (cs++[a])::A) (w.drew.alloc (.cells (old++xs++(Builtin.zeroCells z.cells (c - (n+1))).toList).toArray El (0,0))):=by
    refine hI'.stk_of_tok htk (arr:=old++xs++(Builtin.zeroCells z.cells (c - (n+1))).toList) ⟨El,(0,0),cT _ _,.inl rfl⟩ harr (by simp [hn]; omega) ?_
    have hl:(old++xs).length=(cs++[a]).length:=by simp [hol,hn,hxl]
    rw [← hl,List.take_left' rfl]
    exact (RelL.append hro hrl).mono XX
  refine ⟨.slice (some ⟨w.drew.heap.size,0,none⟩) (n+1) c,_,_,t',?_,XX,hS,.sk t' (n+1) _ c htk hge⟩
  have hti:(typeInfo El).run P w=.ok i w:=by simp [typeInfo,program,hi,Sem.run]
  have hti2:(typeInfo El).run P w.drew=.ok i w.drew:=by simp [typeInfo,program,hi,Sem.run]
  have hzv:(zeroValue El).run P w.drew=.ok z w.drew:=by simp only [zeroValue,Sem.run_bind,hti2,Result.andThen_ok,hz,Sem.run_pure]
  have hroom:(askRoom (c*i.bytes)).run P w.drew=.ok () w.drew:=by unfold askRoom; split <;> rfl
  have hcf:(choose (.appendCap (n+1) cap El)).run P w=.ok c w.drew:=hch
  have hm:IntKind.i64.max=9223372036854775807:=by decide
  have heq:old.toArray++xs.toArray++Builtin.zeroCells z.cells (c - (n+1))=(old++xs++(Builtin.zeroCells z.cells (c - (n+1))).toList).toArray:=by apply Array.ext'; simp
  cases D2 <;> cases hD2
  all_goals
    simp only [Builtin.append_,List.getElem?_toArray,List.getElem?_cons_zero,List.getElem?_cons_succ,run_underlying hT,run_underlying hT2,Sem.run_bind,Sem.run_pure,Result.andThen_ok,bS hcz,hlen,Bool.false_eq_true,if_false]
    rw [if_neg (show ¬ n+1≤cap by omega)]
    simp only [false_or,Sem.run_bind,hti,Result.andThen_ok]
    rw [if_neg (show ¬ (((n+1:Nat):Int) > IntKind.i64.max∧i.bytes=0) by omega)]
    simp only [Sem.run_bind,hti,Result.andThen_ok,Sem.run_pure]
    rw [if_neg hfit]
    simp only [Sem.run_bind,hti2,hcf,Result.andThen_ok,Sem.run_pure,hroom,hold,hfirst w.drew (fun _ _ _=>rfl),Bool.not_false,if_true,hzv,newRow,run_newObj_alloc]
    rw [heq]
theorem sD {A:List Chunk} {T T2 El:TypeId} {D2:TypeDesc} {bytes n t:Nat} {cs:List AV} {a:AV} {v u:Value} {ty:TypeId}
    (hT:P.underlying T=some (.slice El)) (hT2:P.underlying T2=some D2) (hD2:jf D2=false) (hE:cU P El=some (1,bytes))
    (hI:Inv I (.stk t cs::A) w) (hv:Rel I w (.sk t n) v) (hn:n≤cs.length) (hu:Src P I w 1 u [a] 1) (hcell:cE a=true) (hb:(n+1)*bytes≤140737488355328) (hs:n+1≤140737488355328) :
    ∃ v' w' I' t',(Builtin.append_ #[T,T2] ty #[v,u]).run P w=.ok v' w'∧Ext I w I' w'∧Inv I' (.stk t' (cs.take n++[a])::A) w'∧Rel I' w' (.sk t' (n+1)) v':=by
  have hu0:=hu
  obtain ⟨i,z,hi,hz,hzs,hsz,hby⟩:=ep hE
  have hcz:bO P El=some 1:=by simp only [bO,hi,Option.map_some,hsz]
  obtain ⟨ob,c0,ht0,h0,hh⟩:=hI.holds _ (List.mem_cons_self ..)
  have hsub:=hI.sub (List.sublist_cons_self ..)
  rcases wi hv with ⟨b,c,h,hnc,rfl⟩ | ⟨h,rfl,rfl⟩
  rotate_left
  · exact pv (ty:=ty) (cs:=[]) hT hT2 hD2 hE hsub rfl hu0 hcell hb hs none 0 [] rfl ge (by omega) (run_firstCells_none ..)
  · have e0:=h.symm.trans ht0
    obtain ⟨rfl,rfl⟩:some b=ob∧c=c0:=by
      simp only [Option.some.injEq,Prod.mk.injEq] at e0
      exact ⟨e0.1,e0.2.2⟩
    obtain ⟨he,hcl,arr,hca,hal,hrl⟩:=hh b rfl
    by_cases hfit:n+1≤c
    · obtain ⟨xs,hml,hr1,hlen,hfirst⟩:=hu
      have hxl:xs.length=1:=hr1.1
      obtain ⟨x,rfl⟩:∃ x,xs=[x]:=by
        cases xs with
        | nil=>cases hxl
        | cons x r=>cases r with
          | nil=>exact ⟨x,rfl⟩
          | cons y r=>simp at hxl
      have hx:Rel I w a x:=hr1.2 0 (by simp)
      obtain ⟨X,hI'⟩:=hI.push_stk h hn (by omega) hx
      have h1c:=iH hx hcell
      have h0:w.cell? ⟨b,n,none⟩=some (arr.getD n undef):=by rw [hca.cell]; simp [List.getD,aV (show n < arr.length by omega)]
      have hst:(storeCells ⟨b,n,none⟩ [x]).run P w=.ok () (w.setCell ⟨b,n,none⟩ x):=by
        simp only [storeCells,Sem.run_bind,df,Nat.add_zero,run_store P w _ _ _ h1c,h0,hca.free (show n < arr.length by omega),Bool.false_eq_true,if_false,Result.andThen_ok,Sem.run_pure]
      refine ⟨.slice (some ⟨b,0,none⟩) (n+1) c,_,I,t,?_,X,hI',.sk t (n+1) b c h hfit⟩
      cases D2 <;> cases hD2
      all_goals
        simp only [Builtin.append_,List.getElem?_toArray,List.getElem?_cons_zero,List.getElem?_cons_succ,run_underlying hT,run_underlying hT2,Sem.run_bind,Sem.run_pure,Result.andThen_ok,bS hcz,hlen,Bool.false_eq_true,if_false]
        rw [if_pos hfit]
        simp only [Sem.run_bind,hfirst w (fun _ _ _=>rfl),Bool.not_false,if_true,Result.andThen_ok,Sem.run_pure,df,Nat.zero_add,Nat.mul_one,hst]
    · have hnc':n=c:=by omega
      have hl:(cs.take n).length=n:=by rw [List.length_take]; omega
      have hro:RelL I w (cs.take n) (arr.take n):=by
        have:=hrl.take n
        rw [List.take_take,Nat.min_eq_left hn] at this
        exact this
      exact pv (ty:=ty) hT hT2 hD2 hE hsub hl hu0 hcell hb hs (some ⟨b,0,none⟩) c (arr.take n) (by rw [List.length_take]; omega) hro (by omega) (by
        refine run_firstCells_some _ 1 n _ _ _ _ (by rw [List.length_take]; omega) (fun j v hj=>?_)
        have hjn:j < n:=by have:=(List.getElem?_eq_some_iff.1 hj).1; rw [List.length_take] at this; omega
        rw [df,Nat.zero_add]
        show w.cell? ⟨b,j,none⟩=some v
        rw [hca.cell]
        rw [List.getElem?_take,if_pos hjn] at hj
        exact hj)
end
section
variable {P:Program} {e:Env} {d:Option Nat} {T:TypeId} {pos:String} {after:Array Edge} {g:Option (Nat×Bool)} {x y:Operand} {av:AV} {A:List Chunk}
theorem sF {α:Type} {E:Enc α} {l:List α} {m:α} {a:AV} {t n:Nat} {t2:Option Nat} {El T2 T3 bytes:Nat} {D2:TypeDesc} (i:Nat) (hT:P.underlying T=some (.slice El)) (hT2:P.underlying T2=some D2) (hD2:jf D2=false) (hE:cU P El=some (1,bytes)) (hk:E.k=1)
    (hx:opv e x=.sk t n) (hy:opv e y=slE E [m] t2) (hm:E.f m=[a]) (hA:A[i]?=some (.stk t (E.fl l))) (hn:n=l.length) (hb:(n+1)*bytes≤140737488355328) (hs:n+1≤140737488355328) :
    OpX P ⟨d,.call ⟨.builtin .append,#[x,y],#[T,T2]⟩,T3,pos,after,g⟩ e A (fun av A'=>∃ t',av=.sk t' (n+1)∧A'=A.set i (.stk t' (E.fl (l++[m])))):=fun F I w ρ hI hρ=>by
  have hfl:(E.fl l).length=n:=by rw [E.fl_length,hk,Nat.mul_one,hn]
  have hu:Src P I w 1 (ρ y) [a] 1:=by
    have:=wh (P:=P) (hy ▸ hρ y)
    rw [hk] at this
    simpa [Enc.fl,hm] using this
  have hc:cE a=true:=E.cell m a (by rw [hm]; simp)
  obtain ⟨v',w',I',t',h1,h2,h3,h4⟩:=sD (ty:=T3) hT hT2 hD2 hE (hI.take_at hA) (hx ▸ hρ x) (by omega) hu hc hb hs
  have e1:(E.fl l).take n++[a]=E.fl (l++[m]):=by
    rw [List.take_of_length_le (by omega)]
    simp [Enc.fl,hm]
  rw [e1] at h3
  exact ⟨_,v',w',I',_,_,mD h1,.inl rfl,h2,eG hA h3,h4,t',rfl,rfl⟩
theorem iQ {t n:Nat} {El T2:TypeId} (hT:P.underlying T=some (.slice El)) (hx:opv e x=.sk t n):OpS P ⟨d,.call ⟨.builtin .len,#[x],#[T]⟩,T2,pos,after,g⟩ e (i64 n):=fun I w ρ hρ=>by
  have h:=hx ▸ hρ x
  generalize e1:ρ x=v at h
  rcases wi h with ⟨b,c,hk,hn,rfl⟩ | ⟨hk,rfl,rfl⟩
  · refine ⟨_,.v _,fun w' _ _=>?_⟩
    simp only [execOp,resolve,List.map_toArray,List.map_cons,List.map_nil,e1,Sem.run_bind,Sem.run_pure,Result.andThen_ok,invoke,builtin,Builtin.len_,List.getElem?_toArray,List.getElem?_cons_zero,run_underlying hT]
    rfl
  · refine ⟨_,.v _,fun w' _ _=>?_⟩
    simp only [execOp,resolve,List.map_toArray,List.map_cons,List.map_nil,e1,Sem.run_bind,Sem.run_pure,Result.andThen_ok,invoke,builtin,Builtin.len_,List.getElem?_toArray,List.getElem?_cons_zero,run_underlying hT]
    rfl
theorem qJ {t n:Nat} {q:IntKind} {k:Int} {m:Nat} {El T2:TypeId} (hT:P.underlying T=some (.slice El)) (hsz:bO P El=some 1) (hx:opv e x=.sk t n) (hy:opv e y=.v (.int q k)) (hm:k=m) (ha:m < n) :
    OpS P ⟨d,.indexAddr T x y,T2,pos,after,g⟩ e (.skp t m):=fun I w ρ hρ=>by
  have h:=hx ▸ hρ x
  have e2:=cf (hy ▸ hρ y)
  generalize e1:ρ x=v at h
  rcases wi h with ⟨b,c,hk,hn,rfl⟩ | ⟨hk,rfl,rfl⟩
  rotate_left
  · omega
  · refine ⟨.pointer (some ⟨b,m,none⟩),.skp _ _ b c hk,fun w' _ _=>?_⟩
    subst hm
    simp only [execOp,e1,e2,Instr.indexAt,asIntOf,Sem.run_bind,Sem.run_pure,Result.andThen_ok,run_underlying hT]
    rw [if_pos ⟨Int.natCast_nonneg _,by omega⟩]
    simp only [Sem.run_bind,bS hsz,Result.andThen_ok,Sem.run_pure,Int.toNat_natCast,df,Nat.mul_one,Nat.zero_add]
theorem vG {t m i:Nat} {cs:List AV} {c:AV} {D:TypeDesc} {T2:TypeId} (hT:P.underlying T=some D) (hD:jg D=false) (hx:opv e x=.skp t m) (hA:A[i]?=some (.stk t cs)) (hc:cs[m]?=some c) :
    OpR P ⟨d,.load T x,T2,pos,after,g⟩ e A c A:=fun F I w ρ hI hρ=>by
  have h:=hx ▸ hρ x
  generalize e1:ρ x=v at h
  cases h with
  | skp t m b cp ho =>
    obtain ⟨ob,c',ht',_,hh⟩:=hI.holds _ (jV hA F)
    rw [ho] at ht'; cases ht'
    obtain ⟨he,hcl,arr,hca,hal,hrl⟩:=hh b rfl
    have hlt:m < cs.length:=(List.getElem?_eq_some_iff.1 hc).1
    have h0:w.cell? ⟨b,m,none⟩=some (arr.getD m undef):=by rw [hca.cell]; simp [List.getD,show m < arr.length by omega]
    have hr:=hrl.2 m hlt
    rw [(List.getElem?_eq_some_iff.1 hc).2] at hr
    rw [show (arr.take cs.length).getD m undef=arr.getD m undef from by simp [List.getD,List.getElem?_take,hlt]] at hr
    refine ⟨_,_,w,I,?_,.inl rfl,cj _ _,hI,hr⟩
    simp only [execOp,e1,Instr.loadAt,Instr.sureAddr,Sem.run_bind,Sem.run_pure,Result.andThen_ok,loadVar,kg hT hD,Bool.false_eq_true,if_false,run_load,h0]
theorem vF {t n hi i:Nat} {q':IntKind} {n':Int} {z:Operand} {cs:List AV} {El T2:TypeId} (hT:P.underlying T=some (.slice El)) (hsz:bO P El=some 1) (hx:opv e x=.sk t n)
    (hz:opv e z=.v (.int q' n')) (hn':n'=hi) (h2:hi≤n) (hA:A[i]?=some (.stk t cs)) :
    OpR P ⟨d,.slice T x none (some z) none,T2,pos,after,g⟩ e A (.sk t hi) (A.set i (.stk t (cs.take hi))):=fun F I w ρ hI hρ=>by
  have h:=hx ▸ hρ x
  have e3:=cf (hz ▸ hρ z)
  generalize e1:ρ x=v at h
  have hI2:=eG hA ((hI.take_at hA).stk_take hi)
  rcases wi h with ⟨b,c,hk,hn,rfl⟩ | ⟨hk,rfl,rfl⟩
  · refine ⟨_,.slice (some ⟨b,0,none⟩) hi c,w,I,?_,.inl rfl,cj _ _,hI2,.sk _ _ b c hk (by omega)⟩
    simp only [execOp,e1,e3,Option.map_some,Option.map_none,Instr.sliceAt,Instr.slice,Instr.sliceBounds,run_underlying hT,Sem.run_bind,Sem.run_pure,Result.andThen_ok,ia hn' (show hi≤c by omega),bS hsz]
    by_cases hc:c=0 <;> simp [hc,df]
  · have h0:hi=0:=by omega
    subst h0;refine ⟨_,.slice none 0 0,w,I,?_,.inl rfl,cj _ _,hI2,.sknil _ hk⟩
    simp only [execOp,e1,e3,Option.map_some,Option.map_none,Instr.sliceAt,Instr.slice,Instr.sliceBounds,run_underlying hT,Sem.run_bind,Sem.run_pure,Result.andThen_ok,ia hn' (Nat.le_refl 0),bS hsz]
    simp
end
end Go.Av
namespace Go.Av
open Go.RowKit Go.Pv
section
variable {P:Program} {ro:Option Nat} {N:Nat} {Q:gt} {ops:Array Oper} {l:List Nat} {e:Env} {ds:List ADef} {A:List Chunk}
theorem Inv.nil_stkAt {I:Info} {w:World} {F:List Chunk} {o:Nat} {cs:List AV} (hI:Inv I (A++F) w) (i j:Nat) (hA:A[i]?=some (.obj o cs)) (hj:cs[j]?=some (.v (.slice none 0 0))) :
    ∃ t I',Ext I w I' w∧Inv I' ((.stk t []::A.set i (.obj o (cs.set j (.sk t 0))))++F) w:=by
  obtain ⟨t,ht⟩:=hI.fresh_tok;obtain ⟨E,hI'⟩:=hI.nil_stk ht
  have hp:Inv (I.nilTok t) (.obj o cs::.stk t []::(A.eraseIdx i++F)) w:=hI'.perm ((((ph A i _ hA).append_right F).cons _).trans (List.Perm.swap _ _ _))
  have hK:Inv (I.nilTok t) (.obj o (cs.set j (.sk t 0))::.stk t []::(A.eraseIdx i++F)) w:=by
    refine Inv.cons (hp.sub (List.sublist_cons_self ..)) ?_ (fun b hb d hd e=>?_)
    · obtain ⟨b,arr,ho,he,hc,hr⟩:=hp.holds _ (List.mem_cons_self ..)
      refine ⟨b,arr,ho,he,hc,by simp [hr.1],fun i hi=>?_⟩
      have hi':i < cs.length:=by simpa using hi
      by_cases hij:j=i
      · subst hij
        simp only [List.getElem_set_self]
        have:=hr.2 j hi'
        have hcj:cs[j]=.v (.slice none 0 0):=(List.getElem?_eq_some_iff.1 hj).2
        rw [hcj] at this
        generalize arr.getD j undef=x at this
        cases this
        exact .sknil t (by simp [Info.nilTok])
      · rw [List.getElem_set_ne hij]; exact hr.2 i hi'
    · exact hp.apart (c:=.obj o cs) (b:=b) hb d hd e
  exact ⟨t,_,E,hK.perm ((List.Perm.swap _ _ _).trans (((qr A i _ _ hA).append_right F).cons _))⟩
theorem AW.nil_stkAt {c:Code} {o:Nat} {cs:List AV} (i j:Nat) (hA:A[i]?=some (.obj o cs)) (hj:cs[j]?=some (.v (.slice none 0 0)))
    (h:∀ t,AW P ro N c Q ⟨e,ds,.stk t []::A.set i (.obj o (cs.set j (.sk t 0)))⟩):AW P ro N c Q ⟨e,ds,A⟩:=fun F I w a hI hS=>by
  obtain ⟨t,I',E,hI'⟩:=Inv.nil_stkAt hI i j hA hj
  have hS':=hS.mono E
  exact wpIn_mono (h t F I' w a hI' ⟨hS'.size,hS'.env,hS'.ds⟩) fun _ _ _=>eL E fun _ _ h=>h
end
section
variable {P:Program} {e:Env} {d:Option Nat} {T:TypeId} {pos:String} {after:Array Edge} {g:Option (Nat×Bool)} {x y z:Operand} {av:AV} {T2 El:TypeId} {A:List Chunk}
theorem oq {t n:Nat} {q:IntKind} {k:Int} (hT:P.underlying T=some (.slice El)) (hsz:bO P El=some 1) (hx:opv e x=.sk t n) (hy:opv e y=.v (.int q k)) (hg:co k n=true) :
    OpS P ⟨d,.indexAddr T x y,T2,pos,after,g⟩ e (.skp t (Int.toNat k)):=by
  obtain ⟨h1,h2⟩:=pd hg;exact qJ hT hsz hx hy (Int.toNat_of_nonneg h1).symm (by omega)
theorem ta {α:Type} [Inhabited α] {E:Enc α} {l:List α} {v:α} {a:AV} {t:Nat} {k:Int} {D:TypeDesc} (i:Nat) (hT:P.underlying T=some D) (hD:jg D=false) (hx:opv e x=.skp t (Int.toNat k)) (hA:A[i]?=some (.stk t (E.fl l))) (hk:E.k=1)
    (hg:co k l.length=true) (he:at_ l k=v) (ha:E.f v=[a]):OpR P ⟨d,.load T x,T2,pos,after,g⟩ e A a A:=by
  obtain ⟨h1,h2⟩:=pd hg;refine vG (i:=i) (cs:=E.fl l) hT hD hx hA ?_;obtain ⟨m,rfl⟩:=Int.eq_ofNat_of_zero_le h1
  have hm:m < l.length:=by omega
  have h3:at_ l ((m:Nat):Int)=l[m]:=cF hm
  rw [Int.toNat_natCast]
  have hfl:∀ (l:List α) (m:Nat) (hm:m < l.length),(E.fl l)[m]?=(E.f l[m])[0]?:=fun l=>by
    induction l with
    | nil=>intro m hm; cases hm
    | cons b r ih =>
      intro m hm
      have hb:(E.f b).length=1:=(E.len b).trans hk
      rw [eu]
      cases m with
      | zero=>rw [List.getElem?_append_left (by omega)]; rfl
      | succ m =>
        rw [List.getElem?_append_right (by omega),hb,Nat.add_sub_cancel]
        exact ih m (by simpa using hm)
  rw [hfl l m hm,← h3,he,ha]; rfl
theorem ym {α:Type} {E:Enc α} {l r:List α} {t:Nat} {q:IntKind} {b:Int} (i:Nat) (hT:P.underlying T=some (.slice El)) (hsz:bO P El=some 1) (hx:opv e x=.sk t l.length) (hz:opv e z=.v (.int q b)) (hA:A[i]?=some (.stk t (E.fl l))) (hk:E.k=1)
    (hg:mb b l.length=true) (he:to_ l b=r):OpR P ⟨d,.slice T x none (some z) none,T2,pos,after,g⟩ e A (.sk t r.length) (A.set i (.stk t (E.fl r))):=by
  obtain ⟨h1,h2⟩:=wj hg;subst he
  have hl:(to_ l b).length=Int.toNat b:=by unfold to_; rw [List.length_take]; omega
  have hf:∀ (l:List α) (m:Nat),(E.fl l).take m=E.fl (l.take m):=fun l=>by
    induction l with
    | nil=>intro m; simp [Enc.fl]
    | cons c r ih =>
      intro m
      have hc:(E.f c).length=1:=(E.len c).trans hk
      rw [eu]
      cases m with
      | zero=>simp [Enc.fl]
      | succ m=>rw [List.take_append,hc,List.take_of_length_le (by omega),Nat.add_sub_cancel,ih m,List.take_succ_cons,eu]
  have:=vF (P:=P) (d:=d) (T:=T) (pos:=pos) (after:=after) (g:=g) (T2:=T2) (hi:=Int.toNat b) hT hsz hx hz (Int.toNat_of_nonneg h1).symm (by omega) hA
  rw [hl]
  rw [hf] at this
  exact this
theorem ny {α:Type} {E:Enc α} {l m u:List α} {v:α} {a:AV} {t:Nat} {t2:Option Nat} {T3 bytes:Nat} {D2:TypeDesc} (i:Nat) (hT:P.underlying T=some (.slice El)) (hT2:P.underlying T2=some D2) (hD2:jf D2=false) (hE:cU P El=some (1,bytes)) (hb:Nat.ble bytes 1000=true) (hk:E.k=1)
    (hx:opv e x=.sk t l.length) (hy:opv e y=slE E m t2) (hm:m=[v]) (ha:E.f v=[a]) (hA:A[i]?=some (.stk t (E.fl l))) (hg:cI (l.length+m.length)=true) (he:l++m=u) :
    OpX P ⟨d,.call ⟨.builtin .append,#[x,y],#[T,T2]⟩,T3,pos,after,g⟩ e A (fun av A'=>∃ t',av=.sk t' u.length∧A'=A.set i (.stk t' (E.fl u))):=by
  subst hm;subst he
  have h1:=pj hg
  have h2:=af hb
  have h3:(l.length+1)*bytes≤100000000000*1000:=Nat.mul_le_mul (by simpa using h1) h2
  have:=sF (P:=P) (d:=d) (pos:=pos) (after:=after) (g:=g) (T3:=T3) i hT hT2 hD2 hE hk hx hy ha hA rfl (by omega) (by simp at h1; omega)
  rw [show l.length+1=(l++[v]).length by simp] at this
  exact this
end
end Go.Av
namespace Go.Proofs.YteokdkimegepoaaGreatDoor
open Go.RowKit Go.Av Go.Pv
theorem mK (s p:List UInt8):ACalls Tryz.prog 93 [S s,S p] [] (Ret (.tup [S (Go.Lib.trimPrefix s p),B (Go.Lib.hasPrefix s p)]) []):=by
 refine lC (rs:=[.string ⟨(Go.Lib.trimPrefix s p).toArray⟩,.bool (Go.Lib.hasPrefix s p)]) rfl fun I A w vs hI hv=>?_
 obtain ⟨v1,r1,rfl,h1,hv⟩:=hv.out_cons;obtain ⟨v2,r2,rfl,h2,hv⟩:=hv.out_cons
 rw [hv.out_nil,kD h1,kD h2]
 refine (Tryz.strings_CutPrefix ⟨s.toArray⟩ ⟨p.toArray⟩ w).mono fun e w' ⟨he,hw⟩=>⟨by simpa using he,hw ▸ Below.refl _ _⟩
theorem lib_Trim (s c:List UInt8) (hs:s.length < 4294967281) (hc:c.length < 4294967281) (ha:km c=true):ACalls Tryz.prog 34 [S s,S c] [] (Ret (S (Go.Lib.trimS s c)) []):=by
 refine fF fun I A w vs hI hv=>?_
 obtain ⟨v1,r1,rfl,h1,hv⟩:=hv.out_cons;obtain ⟨v2,r2,rfl,h2,hv⟩:=hv.out_cons
 rw [hv.out_nil,kD h1,kD h2]
 refine (Tryz.strings_Trim_ascii ⟨s.toArray⟩ ⟨c.toArray⟩ w (by simp [ByteArray.size]; omega) (by simpa [ByteArray.size] using hc) (fun j b hj=>tw ha j b (by simpa using hj))).mono fun e w' ⟨he,hb⟩=>⟨by simpa using he,hb⟩
theorem pF (fn s:List UInt8) (base bits:Int) (hs:s.length < 4294967281):ACalls Tryz.prog 162 [S fn,S s,i64 base,i64 bits,.ifc 188 (i64 2)] [] (Ret (.ifc 192 .any) []):=by
 refine mV fun I A w vs hI hv=>?_
 obtain ⟨v1,r1,rfl,h1,hv⟩:=hv.out_cons;obtain ⟨v2,r2,rfl,h2,hv⟩:=hv.out_cons;obtain ⟨v3,r3,rfl,h3,hv⟩:=hv.out_cons;obtain ⟨v4,r4,rfl,h4,hv⟩:=hv.out_cons;obtain ⟨v5,r5,rfl,h5,hv⟩:=hv.out_cons
 rw [hv.out_nil,kD h1,kD h2,cf h3,cf h4,ov h5]
 obtain ⟨ev,hc,hev⟩:=uH hI (g:=3) (r:=[]) rfl
 refine (Tryz.strconv_toError_syntax ⟨fn.toArray⟩ ⟨s.toArray⟩ base bits ev w (by simp [ByteArray.size]; omega) hc hev).mono fun e w' ⟨N,he,_,_,hb⟩=>⟨_,he,fun _ _=>.ifc _ _ _ (.any _),hb⟩
theorem pV (fn s:List UInt8) (base bits:Int) (hs:s.length < 4294967281):ACalls Tryz.prog 162 [S fn,S s,i64 base,i64 bits,.ifc 188 (i64 1)] [] (Ret (.ifc 192 .any) []):=by
 refine mV fun I A w vs hI hv=>?_
 obtain ⟨v1,r1,rfl,h1,hv⟩:=hv.out_cons;obtain ⟨v2,r2,rfl,h2,hv⟩:=hv.out_cons;obtain ⟨v3,r3,rfl,h3,hv⟩:=hv.out_cons;obtain ⟨v4,r4,rfl,h4,hv⟩:=hv.out_cons;obtain ⟨v5,r5,rfl,h5,hv⟩:=hv.out_cons
 rw [hv.out_nil,kD h1,kD h2,cf h3,cf h4,ov h5]
 obtain ⟨ev,hc,hev⟩:=uH hI (g:=4) (r:=[]) rfl
 refine (Tryz.strconv_toError_range ⟨fn.toArray⟩ ⟨s.toArray⟩ base bits ev w (by simp [ByteArray.size]; omega) hc hev).mono fun e w' ⟨N,he,_,_,hb⟩=>⟨_,he,fun _ _=>.ifc _ _ _ (.any _),hb⟩
theorem wO (fn s:List UInt8) (base bits n:Int) (hs:s.length < 4294967281) (hn:n=1∨n=2):ACalls Tryz.prog 162 [S fn,S s,i64 base,i64 bits,lD 188 .i64 n] [] (Ret (.ifc 192 .any) []):=by
 rcases hn with rfl | rfl
 ·exact pV fn s base bits hs
 ·exact pF fn s base bits hs
theorem nx (s sub:List UInt8) (hs:s.length < 4294967281):ACalls Tryz.prog 33 [S s,S sub] [] (Ret (B (Go.Lib.contains s sub)) []):=by
 refine fF fun I A w vs hI hv=>?_
 obtain ⟨v1,r1,rfl,h1,hv⟩:=hv.out_cons;obtain ⟨v2,r2,rfl,h2,hv⟩:=hv.out_cons
 rw [hv.out_nil,kD h1,kD h2]
 obtain ⟨m,hm⟩:=uG hI (g:=0) (k:=.i64) (r:=[]) rfl
 refine (Tryz.strings_Contains ⟨s.toArray⟩ ⟨sub.toArray⟩ m w (by simpa [ByteArray.size] using hs) hm).mono fun e w' ⟨he,hw⟩=>⟨by simpa using he,hw ▸ Below.refl _ _⟩
theorem vI (s c:List UInt8) (hc:c.length < 4294967281) (ha:km c=true):ACalls Tryz.prog 95 [S s,S c] [] (Ret (S (Go.Lib.trimLeftS s c)) []):=by
 refine fF fun I A w vs hI hv=>?_
 obtain ⟨v1,r1,rfl,h1,hv⟩:=hv.out_cons;obtain ⟨v2,r2,rfl,h2,hv⟩:=hv.out_cons
 rw [hv.out_nil,kD h1,kD h2]
 refine (Tryz.strings_TrimLeft_ascii ⟨s.toArray⟩ ⟨c.toArray⟩ w (by simpa [ByteArray.size] using hc) (by simpa using tw ha)).mono fun e w' ⟨he,hb⟩=>⟨by simpa using he,hb⟩
end Go.Proofs.YteokdkimegepoaaGreatDoor
namespace Go.Pv
def nc (F:Nat) (a1:UInt8):Option Bool :=
lt (Go.Lib.indexByte ([9,10,13,32]:List UInt8) a1) fun x3 =>
some (decide (0≤x3))
def lu (y33:List (List UInt8)):Option ((List UInt8)) :=
grd (wk y33 ([32]:List UInt8)) <|
lt (Go.Av.Str.join ([32]:List UInt8) y33) fun x37 =>
some x37
def iK (y7:Int) (rec8:((List (List UInt8))×Int×Int)→Option ((List UInt8))) (y28:List (List UInt8)) (y30:Int):Option ((List UInt8)) :=
grd (okI (y7+1)) <|
rec8 (y28,y30,y7+1)
def iL (F:Nat) (a1:List UInt8) (rec8:((List (List UInt8))×Int×Int)→Option ((List UInt8))) (y4:List (List UInt8)) (y6:Int) (y7:Int):Option ((List UInt8)) :=
bif decide (y7≤(a1.length:Int)) then
  fq (!(decide (y7=(a1.length:Int)))) (co y7 a1.length) <|
  lt (at_ a1 y7) fun x13 =>
  lL (!(decide (y7=(a1.length:Int)))) (nc F x13) fun x15 =>
  bif (!((decide (y7=(a1.length:Int)))||x15))&&(decide (y6 < 0)) then
    iK y7 rec8 y4 y7
  else
    bif ((decide (y7=(a1.length:Int)))||x15)&&(decide (0≤y6)) then
      grd (mG y6 y7 a1.length) <|
      lt (sub a1 y6 y7) fun x22 =>
      grd (cI (y4.length+([x22]:List (List UInt8)).length)) <|
      lt (y4++([x22]:List (List UInt8))) fun x26 =>
      iK y7 rec8 x26 (-1)
    else
      iK y7 rec8 y4 y6
else
  lu y4
def eR (F:Nat) (a1:List UInt8) (n:Nat):((List (List UInt8))×Int×Int)→Option ((List UInt8)) :=
  loop (fun rec x=>iL F a1 rec x.1 x.2.1 x.2.2) n
def oJ (F:Nat) (a1:List UInt8):Option ((List UInt8)) :=
eR F a1 F ([],(-1),0)
def mY (F:Nat) (a1:Int) (a2:Int) (a3:Int):Option Bool :=
some ((decide (a2≤a1))&&(decide (a1≤a3)))
end Go.Pv
namespace Go.Proofs.YteokdkimegepoaaGreatDoor
open Go.RowKit Go.Av Go.Pv
theorem AK:∀ (args:Array Value) (w:World),(callFunc 62 args).run Tryz.prog w=.ok (.enter 62 args) w:=fun _ _=>by kernel_rfl
theorem AC:∀ (args:Array Value) (w:World),(callFunc 91 args).run Tryz.prog w=.ok (.enter 91 args) w:=fun _ _=>by kernel_rfl
theorem AB:∀ (args:Array Value) (w:World),(callFunc 92 args).run Tryz.prog w=.ok (.enter 92 args) w:=fun _ _=>by kernel_rfl
set_option maxRecDepth 100000 in
set_option maxHeartbeats 1000000 in
theorem wy (F:Nat) (a1:UInt8) (r2:Bool) (H:nc F a1=some r2):ACalls Tryz.prog 91 [u8 a1] [] (Ret (B r2) []):=by
 unfold nc at H
 refine az Tryz.func91 rfl rfl ?_;show AW _ _ 6 _ _ _;refine ac<|aa ?_;show AR _ _ _ _ _ [0] _;refine za rfl<|ag<|ac ?_;obtain ⟨x3,e4,H⟩:=bz H;refine aa ?_;show AR _ _ _ _ _ [0,1,2,3] _;refine zm rfl<|ar rfl rfl (aX rfl AK rfl (show ACalls _ _ _ [] (Ret (i64 x3) []) from by subst e4; exact fY ([9,10,13,32]:List UInt8) a1) ?_);refine zS rfl (cX rfl rfl)<|za rfl<|ag<|aQ ?_;obtain rfl:=aq H;exact And.intro rfl (Exists.intro _ (Exists.intro _ ⟨aO rfl (.refl _),aK [] rfl,rfl,rfl⟩))
abbrev _root_.Go.Av.ap := @Bool.eq_false_or_eq_true
set_option maxRecDepth 100000 in
set_option maxHeartbeats 1000000 in
theorem sN (F:Nat) (a1:List UInt8) (r2:List UInt8) (H:oJ F a1=some r2):ACalls Tryz.prog 65 [S a1] [] (Ret (S r2) []):=by
 unfold oJ at H
 refine az Tryz.func65 rfl rfl ?_;show AW _ _ 46 _ _ _;refine ac<|aa ?_;show AR _ _ _ _ _ [0] _;refine za rfl<|ag<|ac<|aa ?_;show AR _ _ _ _ _ [0] _;refine za rfl<|ag ?_
 refine lK 3 1 9 rfl fun t3=>?_
 show AW _ _ _ _ _ ⟨(3,slE Enc.str [] (some t3))::_,_,_⟩;refine ac<|aa ?_;show AR _ _ _ _ _ [0] _;refine za rfl<|ag<|bq (X:=(List (List UInt8))×Nat) (fun (y33,t34)=>⟨[(3,slE Enc.str y33 (some t34))],[],[.tok t34 9]⟩) (fun (y33,t34)=>lu y33=some r2) ?_ ?_
 ·refine ac<|aa ?_;show AR _ _ _ _ _ [0] _;refine za rfl<|ag<|aR<|cl (X:=Nat×(List (List UInt8))×Nat×Int×Int) (fun (n9,y4,t5,y6,y7)=>⟨[(0,S a1),(3,slE Enc.str y4 (some t5)),(4,i64 y6),(5,i64 y7)],[],[.tok t5 9]⟩) (fun (n9,y4,t5,y6,y7)=>eR F a1 n9 (y4,y6,y7)=some r2) (fun (n9,y4,t5,y6,y7)=>n9) (F,[],t3,(-1),0) H (aP [0] (.cons (.refl _) (.cons (.refl _) (.cons (.refl _) (.cons (.refl _) (.nil _))))) rfl) ?_;rintro ⟨n9,y4,t5,y6,y7⟩ H;obtain ⟨n9,rfl,H⟩:=cO H;replace H:iL F a1 (eR F a1 n9) y4 y6 y7=some r2:=H
  unfold iL at H
  refine ac<|ac<|aa ?_;show AR _ _ _ _ _ [0,1,2,3] _;refine zm rfl<|zm rfl<|zS rfl (aW ab rfl)<|zS rfl (dW rfl rfl)<|ag<|ax rfl (fun c10=>?_) (fun c10=>?_)
  ·replace H:=be c10 H;refine aC<|bq (X:=(List (List UInt8))×Nat×Int) (fun (y28,t29,y30)=>⟨[(0,S a1),(3,slE Enc.str y28 (some t29)),(4,i64 y30),(5,i64 y7)],[],[.tok t29 9]⟩) (fun (y28,t29,y30)=>iK y7 (eR F a1 n9) y28 y30=some r2) ?_ ?_
   ·refine aR<|ac ?_;obtain ⟨g12,H⟩:=cP H;obtain ⟨x13,e14,H⟩:=bz H;obtain ⟨x15,e16,H⟩:=fZ H;refine aa ?_;show AR _ _ _ _ _ [0,1,2,3,4,5,6,7,8,9,10] _;refine zm rfl<|zm rfl<|zS rfl (aW ab rfl)<|zS rfl (bI rfl rfl)<|zm rfl<|bk (l:=[10]) 22 (B ((decide (y7=(a1.length:Int)))||x15)) (fun K=>?_) ?_
    ·rcases ap (decide (y7=(a1.length:Int))) with h11 | h11
     ·refine zF h11 rfl<|zF h11 rfl<|zF h11 rfl<|zF h11 rfl<|zS rfl (aD (av:=.v _) rfl h11 rfl) ?_;exact K _ 4 _ (aw (ii h11)) rfl rfl
     ·refine zM h11 rfl<|zM h11 rfl<|zU h11 rfl (bg ab rfl rfl (g12 (nf h11)) e14)<|zT h11 rfl (aX rfl AC rfl (wy F x13 x15 (e16 (nf h11))) ?_);refine zS rfl (aF (av:=.v _) rfl h11 rfl) ?_;exact K _ 4 _ (aw (ie h11)) rfl rfl
    refine za rfl<|ag<|aR<|ac<|aa ?_;show AR _ _ _ _ _ [0,1,2,3,4,5,6] _;refine zm rfl<|zS rfl (ca rfl)<|zm rfl<|bk (l:=[6]) 29 (B ((!((decide (y7=(a1.length:Int)))||x15))&&(decide (y6 < 0)))) (fun K=>?_) ?_
    ·rcases ap (!((decide (y7=(a1.length:Int)))||x15)) with h17 | h17
     ·refine zM h17 rfl<|zU h17 rfl (bN rfl rfl)<|zS rfl (aD (av:=.v _) rfl h17 rfl) ?_;exact K _ 2 _ (aw (cd h17)) rfl rfl
     ·refine zF h17 rfl<|zF h17 rfl<|zS rfl (aF (av:=.v _) rfl h17 rfl) ?_;exact K _ 2 _ (aw (cq h17)) rfl rfl
    refine za rfl<|ag<|ax rfl (fun c18=>?_) (fun c18=>?_)
    ·replace H:=be c18 H;refine aa ?_;show AR _ _ _ _ _ [0,1] _;refine zm rfl<|za rfl<|ag ?_;exact Exists.intro (y4,t5,y7) ⟨H,aP [0] (.cons (.refl _) (.cons (.refl _) (.cons (.refl _) (.cons (.refl _) (.nil _))))) rfl⟩
    ·replace H:=bf c18 H;refine ac<|aa ?_;show AR _ _ _ _ _ [0,1,2,3,4,5] _;refine zm rfl<|zm rfl<|bk (l:=[5]) 36 (B (((decide (y7=(a1.length:Int)))||x15)&&(decide (0≤y6)))) (fun K=>?_) ?_
     ·rcases ap ((decide (y7=(a1.length:Int)))||x15) with h19 | h19
      ·refine zM h19 rfl<|zU h19 rfl (cX rfl rfl)<|zS rfl (aD (av:=.v _) rfl h19 rfl) ?_;exact K _ 2 _ (aw (cd h19)) rfl rfl
      ·refine zF h19 rfl<|zF h19 rfl<|zS rfl (aF (av:=.v _) rfl h19 rfl) ?_;exact K _ 2 _ (aw (cq h19)) rfl rfl
     refine za rfl<|ag<|ax rfl (fun c20=>?_) (fun c20=>?_)
     ·replace H:=be c20 H;obtain ⟨g21,H⟩:=aI H;obtain ⟨x22,e23,H⟩:=bz H;obtain ⟨g25,H⟩:=aI H;obtain ⟨x26,e27,H⟩:=bz H;refine aa ?_;show AR _ _ _ _ _ [0,1,2,3,4,5,6,7,8] _;refine zS rfl (ah (av:=slE _ _ _) rfl)<|zm rfl<|zm rfl<|zm rfl<|zS rfl (bQ ab rfl rfl rfl g21 e23)<|zR rfl (ce (E:=Enc.str) (bytes:=16) (xs:=[.tmp 41]) (l:=([x22]:List (List UInt8))) ao (by kernel_rfl) rfl rfl (by decide) rfl rfl)<|zX rfl (cM (E:=Enc.str) (bytes:=16) 0 ao ao rfl (by kernel_rfl) rfl rfl rfl rfl g25 e27) ?_;rintro _ _ ⟨t24,rfl,rfl⟩;refine zS rfl (aZ (av:=slE _ _ _) rfl)<|za rfl<|ag ?_;exact Exists.intro (x26,t24,(-1)) ⟨H,aP [0] (.cons (.refl _) (.cons (.refl _) (.cons (.refl _) (.cons (.refl _) (.nil _))))) rfl⟩
     ·replace H:=bf c20 H;refine aC ?_;exact Exists.intro (y4,t5,y6) ⟨H,aP [0] (.cons (.refl _) (.cons (.refl _) (.cons (.refl _) (.cons (.refl _) (.nil _))))) rfl⟩
   rintro ⟨y28,t29,y30⟩ H;replace H:iK y7 (eR F a1 n9) y28 y30=some r2:=H
   unfold iK at H
   obtain ⟨g32,H⟩:=aI H;refine aa ?_;show AR _ _ _ _ _ [0,1,2] _;refine zm rfl<|zS rfl (bB rfl rfl g32)<|za rfl<|ag ?_;exact Exists.intro (n9,y28,t29,y30,y7+1) ⟨H,Nat.lt_succ_self _,aP [0] (.cons (.refl _) (.cons (.refl _) (.cons (.refl _) (.cons (.refl _) (.nil _))))) rfl⟩
  ·replace H:=bf c10 H;refine bU ?_;exact Exists.intro (y4,t5) ⟨H,aP [0] (.cons (.refl _) (.nil _)) rfl⟩
 rintro ⟨y33,t34⟩ H;replace H:lu y33=some r2:=H
 unfold lu at H
 refine ac ?_;obtain ⟨g36,H⟩:=aI H;obtain ⟨x37,e38,H⟩:=bz H;refine aa ?_;show AR _ _ _ _ _ [0,1,2] _;refine zS rfl (ah (av:=slE _ _ _) rfl)<|ar rfl rfl (aX rfl AB rfl (show ACalls _ _ _ [] (Ret (S x37) []) from by subst e38; exact vD y33 ([32]:List UInt8) (some t34) (xu g36).1 (xu g36).2) ?_);refine za rfl<|ag<|aQ ?_;obtain rfl:=aq H;exact And.intro rfl (Exists.intro _ (Exists.intro _ ⟨aO rfl (.refl _),aK [] rfl,rfl,rfl⟩))
set_option maxRecDepth 100000 in
set_option maxHeartbeats 1000000 in
theorem qp (F:Nat) (a1:Int) (a2:Int) (a3:Int) (r4:Bool) (H:mY F a1 a2 a3=some r4):ACalls Tryz.prog 134 [i64 a1,i64 a2,i64 a3] [] (Ret (B r4) []):=by
 unfold mY at H
 refine az Tryz.func134 rfl rfl ?_;show AW _ _ 15 _ _ _;refine ac<|aa ?_;show AR _ _ _ _ _ [0] _;refine za rfl<|ag<|ac<|aa ?_;show AR _ _ _ _ _ [0,1,2,3,4,5,6,7,8] _;refine zm rfl<|zm rfl<|zS rfl (cX rfl rfl)<|zm rfl<|bk (l:=[8]) 14 (B ((decide (a2≤a1))&&(decide (a1≤a3)))) (fun K=>?_) ?_
 ·rcases ap (decide (a2≤a1)) with h5 | h5
  ·refine zM h5 rfl<|zM h5 rfl<|zU h5 rfl (dW rfl rfl)<|zS rfl (aD (av:=.v _) rfl h5 rfl) ?_;exact K _ 3 _ (aw (cd h5)) rfl rfl
  ·refine zF h5 rfl<|zF h5 rfl<|zF h5 rfl<|zS rfl (aF (av:=.v _) rfl h5 rfl) ?_;exact K _ 3 _ (aw (cq h5)) rfl rfl
 refine za rfl<|ag<|aQ ?_;obtain rfl:=aq H;exact And.intro rfl (Exists.intro _ (Exists.intro _ ⟨aO rfl (.refl _),aK [] rfl,rfl,rfl⟩))
end Go.Proofs.YteokdkimegepoaaGreatDoor
namespace Go.Pv
def gu (F:Nat) (a1:UInt8):Option UInt8 :=
some (a1 ||| 32)
def gy (y84:Int):Option Bool :=
some (!decide (y84=95))
def dZ (y50:Int) (rec51:(Int×Int)→Option Bool) (y81:Int):Option Bool :=
grd (okI (y50+1)) <|
rec51 (y81,y50+1)
def jH (F:Nat) (y15:List UInt8) (y47:Bool) (rec51:(Int×Int)→Option Bool) (y49:Int) (y50:Int):Option Bool :=
bif decide (y50 < (y15.length:Int)) then
  grd (co y50 y15.length) <|
  lt (at_ y15 y50) fun x55 =>
  fq (decide (48≤(x55.toNat:Int))) (co y50 y15.length) <|
  lt (at_ y15 y50) fun x59 =>
  fq ((!((decide (48≤(x55.toNat:Int)))&&(decide ((x59.toNat:Int)≤57))))&&y47) (co y50 y15.length) <|
  lt (at_ y15 y50) fun x64 =>
  lL ((!((decide (48≤(x55.toNat:Int)))&&(decide ((x59.toNat:Int)≤57))))&&y47) (gu F x64) fun x66 =>
  fq ((!((decide (48≤(x55.toNat:Int)))&&(decide ((x59.toNat:Int)≤57))))&&(y47&&(decide (97≤(x66.toNat:Int))))) (co y50 y15.length) <|
  lt (at_ y15 y50) fun x70 =>
  lL ((!((decide (48≤(x55.toNat:Int)))&&(decide ((x59.toNat:Int)≤57))))&&(y47&&(decide (97≤(x66.toNat:Int))))) (gu F x70) fun x72 =>
  bif ((decide (48≤(x55.toNat:Int)))&&(decide ((x59.toNat:Int)≤57)))||((y47&&(decide (97≤(x66.toNat:Int))))&&(decide ((x72.toNat:Int)≤102))) then
    dZ y50 rec51 48
  else
    grd (co y50 y15.length) <|
    lt (at_ y15 y50) fun x76 =>
    bif decide (x76=95) then
      bif !decide (y49=48) then
        some false
      else
        dZ y50 rec51 95
    else
      bif decide (y49=95) then
        some false
      else
        dZ y50 rec51 33
else
  gy y49
def eV (F:Nat) (y15:List UInt8) (y47:Bool) (n:Nat):(Int×Int)→Option Bool :=
  loop (fun rec x=>jH F y15 y47 rec x.1 x.2) n
def eU (F:Nat) (y15:List UInt8) (y45:Int) (y46:Int) (y47:Bool):Option Bool :=
eV F y15 y47 F (y45,y46)
def eT (F:Nat) (y15:List UInt8):Option Bool :=
fq (decide (2≤(y15.length:Int))) (co 0 y15.length) <|
lt (at_ y15 0) fun x19 =>
fq ((decide (2≤(y15.length:Int)))&&(decide (x19=48))) (co 1 y15.length) <|
lt (at_ y15 1) fun x23 =>
lL ((decide (2≤(y15.length:Int)))&&(decide (x19=48))) (gu F x23) fun x25 =>
fq (((decide (2≤(y15.length:Int)))&&(decide (x19=48)))&&(!(decide (x25=98)))) (co 1 y15.length) <|
lt (at_ y15 1) fun x29 =>
lL (((decide (2≤(y15.length:Int)))&&(decide (x19=48)))&&(!(decide (x25=98)))) (gu F x29) fun x31 =>
fq (((decide (2≤(y15.length:Int)))&&(decide (x19=48)))&&(!((decide (x25=98))||(decide (x31=111))))) (co 1 y15.length) <|
lt (at_ y15 1) fun x35 =>
lL (((decide (2≤(y15.length:Int)))&&(decide (x19=48)))&&(!((decide (x25=98))||(decide (x31=111))))) (gu F x35) fun x37 =>
bif ((decide (2≤(y15.length:Int)))&&(decide (x19=48)))&&(((decide (x25=98))||(decide (x31=111)))||(decide (x37=120))) then
  grd (co 1 y15.length) <|
  lt (at_ y15 1) fun x41 =>
  bnd (gu F x41) fun x43 =>
  eU F y15 48 2 (decide (x43=120))
else
  eU F y15 94 0 false
def ly (F:Nat) (a1:List UInt8):Option Bool :=
fq (decide (1≤(a1.length:Int))) (co 0 a1.length) <|
lt (at_ a1 0) fun x5 =>
fq ((decide (1≤(a1.length:Int)))&&(!(decide (x5=45)))) (co 0 a1.length) <|
lt (at_ a1 0) fun x9 =>
bif (decide (1≤(a1.length:Int)))&&((decide (x5=45))||(decide (x9=43))) then
  grd (mb 1 a1.length) <|
  lt (gW a1 1) fun x13 =>
  eT F x13
else
  eT F a1
def fx (F:Nat) (a1:List UInt8) (y53:Bool) (y54:Int):Option (Int×Int) :=
lL y53 (ly F a1) fun x57 =>
bif y53&&(!x57) then
  some (0,2)
else
  some (y54,0)
def ez (y24:Int) (rec25:(Bool×Int×Int)→Option (Int×Int)) (y49:Bool) (y50:Int):Option (Int×Int) :=
grd (okI (y24+1)) <|
rec25 (y49,y50,y24+1)
def dx (a2:Int) (y17:Int) (y22:Bool) (y23:Int) (y24:Int) (rec25:(Bool×Int×Int)→Option (Int×Int)) (y43:UInt8):Option (Int×Int) :=
bif decide (((Go.Av.toB a2).toNat:Int)≤(y43.toNat:Int)) then
  some (0,2)
else
  bif decide (y17≤y23) then
    some (IntKind.u64.wrap ((IntKind.u64.wrap (1*2 ^ min (Int.toNat (IntKind.u64.wrap 64)) IntKind.u64.bits)) - 1),1)
  else
    bif (decide (IntKind.u64.wrap ((IntKind.u64.wrap (y23*(IntKind.u64.wrap a2)))+(IntKind.u64.wrap (y43.toNat:Int))) < IntKind.u64.wrap (y23*(IntKind.u64.wrap a2))))||(decide (IntKind.u64.wrap ((IntKind.u64.wrap (1*2 ^ min (Int.toNat (IntKind.u64.wrap 64)) IntKind.u64.bits)) - 1) < IntKind.u64.wrap ((IntKind.u64.wrap (y23*(IntKind.u64.wrap a2)))+(IntKind.u64.wrap (y43.toNat:Int))))) then
      some (IntKind.u64.wrap ((IntKind.u64.wrap (1*2 ^ min (Int.toNat (IntKind.u64.wrap 64)) IntKind.u64.bits)) - 1),1)
    else
      ez y24 rec25 y22 (IntKind.u64.wrap ((IntKind.u64.wrap (y23*(IntKind.u64.wrap a2)))+(IntKind.u64.wrap (y43.toNat:Int))))
def eA (F:Nat) (a1:List UInt8) (a2:Int) (y17:Int) (rec25:(Bool×Int×Int)→Option (Int×Int)) (y22:Bool) (y23:Int) (y24:Int):Option (Int×Int) :=
bif decide (y24 < (a1.length:Int)) then
  grd (co y24 a1.length) <|
  lt (at_ a1 y24) fun x29 =>
  bif (decide (x29=95))&&(decide (a2=0)) then
    ez y24 rec25 true y23
  else
    bif (decide (48≤(x29.toNat:Int)))&&(decide ((x29.toNat:Int)≤57)) then
      dx a2 y17 y22 y23 y24 rec25 (x29 - 48)
    else
      bnd (gu F x29) fun x35 =>
      lL (decide (97≤(x35.toNat:Int))) (gu F x29) fun x38 =>
      bif (decide (97≤(x35.toNat:Int)))&&(decide ((x38.toNat:Int)≤122)) then
        bnd (gu F x29) fun x41 =>
        dx a2 y17 y22 y23 y24 rec25 ((x41 - 97)+10)
      else
        some (0,2)
else
  fx F a1 y22 y23
def cw (F:Nat) (a1:List UInt8) (a2:Int) (y17:Int) (n:Nat):(Bool×Int×Int)→Option (Int×Int) :=
  loop (fun rec x=>eA F a1 a2 y17 rec x.1 x.2.1 x.2.2) n
def dN (F:Nat) (a1:List UInt8) (a2:Int) (y17:Int):Option (Int×Int) :=
grd (decide (0≤IntKind.u64.wrap 64)) <|
grd (cI a1.length) <|
cw F a1 a2 y17 F (false,0,0)
def fw (F:Nat) (a1:List UInt8) (a2:Int):Option (Int×Int) :=
bif decide (a2=10) then
  dN F a1 a2 1844674407370955162
else
  bif decide (a2=16) then
    dN F a1 a2 1152921504606846976
  else
    grd (decide (IntKind.u64.wrap a2≠0)) <|
    dN F a1 a2 (IntKind.u64.wrap ((IntKind.u64.wrap (Int.tdiv 18446744073709551615 (IntKind.u64.wrap a2)))+1))
def fv (F:Nat) (a1:List UInt8) (a2:Int) (a3:Int):Option (Int×Int) :=
grd (decide (a3=0)) <|
fw F a1 a2
def gC (F:Nat) (a1:List UInt8) (a2:Int) (a3:Int):Option (Int×Int) :=
bif decide (a1=([]:List UInt8)) then
  some (0,2)
else
  grd ((decide (2≤a2))&&(decide (a2≤36))) <|
  fv F a1 a2 a3
def fb (y40:Int):Option (Int×Int) :=
some (y40,0)
def gk (y19:Bool) (x21:Int):Option (Int×Int) :=
grd (decide (0≤IntKind.u64.wrap 63)) <|
bif (!y19)&&(decide (IntKind.u64.wrap (1*2 ^ min (Int.toNat (IntKind.u64.wrap 63)) IntKind.u64.bits)≤x21)) then
  grd (okI (IntKind.u64.wrap ((IntKind.u64.wrap (1*2 ^ min (Int.toNat (IntKind.u64.wrap 63)) IntKind.u64.bits)) - 1))) <|
  some (IntKind.u64.wrap ((IntKind.u64.wrap (1*2 ^ min (Int.toNat (IntKind.u64.wrap 63)) IntKind.u64.bits)) - 1),1)
else
  bif y19&&(decide (IntKind.u64.wrap (1*2 ^ min (Int.toNat (IntKind.u64.wrap 63)) IntKind.u64.bits) < x21)) then
    grd (okI (IntKind.u64.wrap (1*2 ^ min (Int.toNat (IntKind.u64.wrap 63)) IntKind.u64.bits))) <|
    grd (okI (0 - (IntKind.u64.wrap (1*2 ^ min (Int.toNat (IntKind.u64.wrap 63)) IntKind.u64.bits)))) <|
    some (0 - (IntKind.u64.wrap (1*2 ^ min (Int.toNat (IntKind.u64.wrap 63)) IntKind.u64.bits)),1)
  else
    grd (okI x21) <|
    bif y19 then
      grd (okI (0 - x21)) <|
      fb (0 - x21)
    else
      fb x21
def eo (F:Nat) (a2:Int) (a3:Int) (y18:List UInt8) (y19:Bool):Option (Int×Int) :=
iE (gC F y18 a2 a3) fun x21 x22 =>
bif (!decide (x22=0))&&(!decide (x22=1)) then
  some (0,x22)
else
  grd (decide (a3=0)) <|
  gk y19 x21
def iG (F:Nat) (a1:List UInt8) (a2:Int) (a3:Int):Option (Int×Int) :=
bif decide (a1=([]:List UInt8)) then
  some (0,2)
else
  grd (co 0 a1.length) <|
  lt (at_ a1 0) fun x8 =>
  bif decide (x8=43) then
    grd (mb 1 a1.length) <|
    lt (gW a1 1) fun x12 =>
    eo F a2 a3 x12 false
  else
    bif decide (x8=45) then
      grd (mb 1 a1.length) <|
      lt (gW a1 1) fun x16 =>
      eo F a2 a3 x16 true
    else
      eo F a2 a3 a1 false
def eb (F:Nat) (a1:List UInt8) (a2:Int) (a3:Int):Option (Int×Int) :=
iE (iG F a1 a2 a3) fun x6 x7 =>
bif !decide (x7=0) then
  grd (okS a1.length) <|
  grd (decide (x7=1∨x7=2)) <|
  some (x6,1)
else
  some (x6,0)
end Go.Pv
namespace Go.Proofs.YteokdkimegepoaaGreatDoor
open Go.RowKit Go.Av Go.Pv
theorem Bl:∀ (args:Array Value) (w:World),(callFunc 161 args).run Tryz.prog w=.ok (.enter 161 args) w:=fun _ _=>by kernel_rfl
theorem Bk:∀ (args:Array Value) (w:World),(callFunc 162 args).run Tryz.prog w=.ok (.enter 162 args) w:=fun _ _=>by kernel_rfl
theorem Bj:∀ (args:Array Value) (w:World),(callFunc 163 args).run Tryz.prog w=.ok (.enter 163 args) w:=fun _ _=>by kernel_rfl
theorem jb:∀ (args:Array Value) (w:World),(callFunc 168 args).run Tryz.prog w=.ok (.enter 168 args) w:=fun _ _=>by kernel_rfl
theorem Bi:∀ (args:Array Value) (w:World),(callFunc 169 args).run Tryz.prog w=.ok (.enter 169 args) w:=fun _ _=>by kernel_rfl
set_option maxRecDepth 100000 in
set_option maxHeartbeats 1000000 in
theorem gG (F:Nat) (a1:UInt8) (r2:UInt8) (H:gu F a1=some r2):ACalls Tryz.prog 168 [u8 a1] [] (Ret (u8 r2) []):=by
 unfold gu at H
 refine az Tryz.func168 rfl rfl ?_;show AW _ _ 5 _ _ _;refine ac<|aa ?_;show AR _ _ _ _ _ [0] _;refine za rfl<|ag<|ac<|aa ?_;show AR _ _ _ _ _ [0,1,2] _;refine zm rfl<|zS rfl (g_or8 (a:=a1) (b:=32) rfl rfl)<|za rfl<|ag<|aQ ?_;obtain rfl:=aq H;exact And.intro rfl (Exists.intro _ (Exists.intro _ ⟨aO rfl (.refl _),aK [] rfl,rfl,rfl⟩))
set_option maxRecDepth 100000 in
set_option maxHeartbeats 1000000 in
theorem pR (F:Nat) (a1:List UInt8) (r2:Bool) (H:ly F a1=some r2):ACalls Tryz.prog 169 [S a1] [] (Ret (B r2) []):=by
 unfold ly at H
 refine az Tryz.func169 rfl rfl ?_;show AW _ _ 94 _ _ _;refine ac<|aa ?_;show AR _ _ _ _ _ [0] _;refine za rfl<|ag<|ac<|aa ?_;show AR _ _ _ _ _ [0] _;refine za rfl<|ag<|ac<|aa ?_;show AR _ _ _ _ _ [0] _;refine za rfl<|ag<|bq (X:=(List UInt8)) (fun y15=>⟨[(0,S y15),(3,.v (.int .i32 94)),(4,i64 0)],[],[]⟩) (fun y15=>eT F y15=some r2) ?_ ?_
 ·refine ac ?_;obtain ⟨g4,H⟩:=cP H;obtain ⟨x5,e6,H⟩:=bz H;obtain ⟨g8,H⟩:=cP H;obtain ⟨x9,e10,H⟩:=bz H;refine aa ?_;show AR _ _ _ _ _ [0,1,2,3,4,5,6,7,8,9,10,11,12] _;refine zm rfl<|zS rfl (aW ab rfl)<|zS rfl (cX rfl rfl)<|zm rfl<|bk (l:=[]) 18 (B ((decide (1≤(a1.length:Int)))&&((decide (x5=45))||(decide (x9=43))))) (fun K=>?_) ?_
  ·rcases ap (decide (1≤(a1.length:Int))) with h3 | h3
   ·refine zM h3 rfl<|zU h3 rfl (bg ab rfl rfl (g4 h3) e6)<|zU h3 rfl (eS (a:=x5) (b:=45) rfl rfl)<|zM h3 rfl<|bk (l:=[12]) 17 (B ((decide (x5=45))||(decide (x9=43)))) (fun K=>?_) ?_
    ·rcases ap (decide (x5=45)) with h7 | h7
     ·refine zF h7 rfl<|zF h7 rfl<|zF h7 rfl<|zU h3 rfl (aD (av:=.v _) rfl h7 rfl) ?_;exact K _ 3 _ (aw (ii h7)) rfl rfl
     ·refine zM h7 rfl<|zU h7 rfl (bg ab rfl rfl (g8 (nW h3 (nf h7))) e10)<|zU h7 rfl (eS (a:=x9) (b:=43) rfl rfl)<|zU h3 rfl (aF (av:=.v _) rfl h7 rfl) ?_;exact K _ 3 _ (aw (ie h7)) rfl rfl
    refine zS rfl (aD (av:=.v _) rfl h3 rfl) ?_;exact K _ 5 _ (aw (cd h3)) rfl rfl
   ·refine zF h3 rfl<|zF h3 rfl<|zF h3 rfl<|zF h3 rfl<|gU rfl rfl rfl rfl rfl<|gU rfl rfl rfl rfl rfl<|gU rfl rfl rfl rfl rfl<|zF h3 rfl<|zS rfl (aF (av:=.v _) rfl h3 rfl) ?_;exact K _ 8 _ (aw (cq h3)) rfl rfl
  refine ag<|ax rfl (fun c11=>?_) (fun c11=>?_)
  ·replace H:=be c11 H;obtain ⟨g12,H⟩:=aI H;obtain ⟨x13,e14,H⟩:=bz H;refine aa ?_;show AR _ _ _ _ _ [0,1,2] _;refine zm rfl<|zS rfl (ee ab rfl rfl g12 e14)<|za rfl<|ag ?_;exact Exists.intro x13 ⟨H,aP [] (.cons (.refl _) (.cons (.refl _) (.cons (.refl _) (.nil _)))) rfl⟩
  ·replace H:=bf c11 H;refine aC ?_;exact Exists.intro a1 ⟨H,aP [] (.cons (.refl _) (.cons (.refl _) (.cons (.refl _) (.nil _)))) rfl⟩
 rintro y15 H;replace H:eT F y15=some r2:=H
 unfold eT at H
 refine ac<|aa ?_;show AR _ _ _ _ _ [0] _;refine za rfl<|ag<|bq (X:=Int×Int×Bool) (fun (y45,y46,y47)=>⟨[(0,S y15),(3,.v (.int .i32 y45)),(4,i64 y46),(5,B y47)],[],[]⟩) (fun (y45,y46,y47)=>eU F y15 y45 y46 y47=some r2) ?_ ?_
 ·refine ac ?_;obtain ⟨g18,H⟩:=cP H;obtain ⟨x19,e20,H⟩:=bz H;obtain ⟨g22,H⟩:=cP H;obtain ⟨x23,e24,H⟩:=bz H;obtain ⟨x25,e26,H⟩:=fZ H;obtain ⟨g28,H⟩:=cP H;obtain ⟨x29,e30,H⟩:=bz H;obtain ⟨x31,e32,H⟩:=fZ H;obtain ⟨g34,H⟩:=cP H;obtain ⟨x35,e36,H⟩:=bz H;obtain ⟨x37,e38,H⟩:=fZ H;refine aa ?_;show AR _ _ _ _ _ [0,1,2,3,4,5,6,7,8,9,10,11,12,13,14,15,16,17,18,19,20,21,22,23,24,25] _;refine zm rfl<|zS rfl (aW ab rfl)<|zS rfl (cX rfl rfl)<|zm rfl<|bk (l:=[8,9,10,11,12,13,14,15,16,17,18,19,20,21,22,23,24,25]) 28 (B ((decide (2≤(y15.length:Int)))&&(decide (x19=48)))) (fun K=>?_) ?_
  ·rcases ap (decide (2≤(y15.length:Int))) with h17 | h17
   ·refine zM h17 rfl<|zU h17 rfl (bg ab rfl rfl (g18 h17) e20)<|zU h17 rfl (eS (a:=x19) (b:=48) rfl rfl)<|zS rfl (aD (av:=.v _) rfl h17 rfl) ?_;exact K _ 3 _ (aw (cd h17)) rfl rfl
   ·refine zF h17 rfl<|zF h17 rfl<|zF h17 rfl<|zS rfl (aF (av:=.v _) rfl h17 rfl) ?_;exact K _ 3 _ (aw (cq h17)) rfl rfl
  refine zm rfl<|bk (l:=[]) 46 (B (((decide (2≤(y15.length:Int)))&&(decide (x19=48)))&&(((decide (x25=98))||(decide (x31=111)))||(decide (x37=120))))) (fun K=>?_) ?_
  ·rcases ap ((decide (2≤(y15.length:Int)))&&(decide (x19=48))) with h21 | h21
   ·refine zM h21 rfl<|zU h21 rfl (bg ab rfl rfl (g22 h21) e24)<|zT h21 rfl (aX rfl jb rfl (gG F x23 x25 (e26 h21)) ?_);refine zU h21 rfl (eS (a:=x25) (b:=98) rfl rfl)<|zM h21 rfl<|bk (l:=[19,20,21,22,23,24,25]) 39 (B ((decide (x25=98))||(decide (x31=111)))) (fun K=>?_) ?_
    ·rcases ap (decide (x25=98)) with h27 | h27
     ·refine zF h27 rfl<|zF h27 rfl<|zF h27 rfl<|zF h27 rfl<|zU h21 rfl (aD (av:=.v _) rfl h27 rfl) ?_;exact K _ 4 _ (aw (ii h27)) rfl rfl
     ·refine zM h27 rfl<|zU h27 rfl (bg ab rfl rfl (g28 (nW h21 (nf h27))) e30)<|zT h27 rfl (aX rfl jb rfl (gG F x29 x31 (e32 (nW h21 (nf h27)))) ?_);refine zU h27 rfl (eS (a:=x31) (b:=111) rfl rfl)<|zU h21 rfl (aF (av:=.v _) rfl h27 rfl) ?_;exact K _ 4 _ (aw (ie h27)) rfl rfl
    refine zM h21 rfl<|bk (l:=[25]) 45 (B (((decide (x25=98))||(decide (x31=111)))||(decide (x37=120)))) (fun K=>?_) ?_
    ·rcases ap ((decide (x25=98))||(decide (x31=111))) with h33 | h33
     ·refine zF h33 rfl<|zF h33 rfl<|zF h33 rfl<|zF h33 rfl<|zU h21 rfl (aD (av:=.v _) rfl h33 rfl) ?_;exact K _ 4 _ (aw (ii h33)) rfl rfl
     ·refine zM h33 rfl<|zU h33 rfl (bg ab rfl rfl (g34 (nW h21 (nf h33))) e36)<|zT h33 rfl (aX rfl jb rfl (gG F x35 x37 (e38 (nW h21 (nf h33)))) ?_);refine zU h33 rfl (eS (a:=x37) (b:=120) rfl rfl)<|zU h21 rfl (aF (av:=.v _) rfl h33 rfl) ?_;exact K _ 4 _ (aw (ie h33)) rfl rfl
    refine zS rfl (aD (av:=.v _) rfl h21 rfl) ?_;exact K _ 8 _ (aw (cd h21)) rfl rfl
   ·refine zF h21 rfl<|zF h21 rfl<|zF h21 rfl<|zF h21 rfl<|zF h21 rfl<|gU rfl rfl rfl rfl rfl<|gU rfl rfl rfl rfl rfl<|gU rfl rfl rfl rfl rfl<|gU rfl rfl rfl rfl rfl<|zF h21 rfl<|zF h21 rfl<|gU rfl rfl rfl rfl rfl<|gU rfl rfl rfl rfl rfl<|gU rfl rfl rfl rfl rfl<|gU rfl rfl rfl rfl rfl<|zF h21 rfl<|zS rfl (aF (av:=.v _) rfl h21 rfl) ?_;exact K _ 16 _ (aw (cq h21)) rfl rfl
  refine ag<|ax rfl (fun c39=>?_) (fun c39=>?_)
  ·replace H:=be c39 H;refine ac<|aa ?_;show AR _ _ _ _ _ [0] _;refine za rfl<|ag<|ac<|aa ?_;show AR _ _ _ _ _ [0] _;refine za rfl<|ag ?_;obtain ⟨g40,H⟩:=aI H;obtain ⟨x41,e42,H⟩:=bz H;obtain ⟨x43,e44,H⟩:=cm H;refine aa ?_;show AR _ _ _ _ _ [0,1,2,3,4] _;refine zm rfl<|zS rfl (bg ab rfl rfl g40 e42)<|ar rfl rfl (aX rfl jb rfl (gG F x41 x43 e44) ?_);refine zS rfl (eS (a:=x43) (b:=120) rfl rfl)<|za rfl<|ag ?_;exact Exists.intro (48,2,decide (x43=120)) ⟨H,aP [] (.cons (.refl _) (.cons (.refl _) (.cons (.refl _) (.cons (.refl _) (.nil _))))) rfl⟩
  ·replace H:=bf c39 H;refine aC ?_;exact Exists.intro (94,0,false) ⟨H,aP [] (.cons (.refl _) (.cons (.refl _) (.cons (.refl _) (.cons (.refl _) (.nil _))))) rfl⟩
 rintro ⟨y45,y46,y47⟩ H;replace H:eU F y15 y45 y46 y47=some r2:=H
 unfold eU at H
 refine bq (X:=Int) (fun y84=>⟨[(3,.v (.int .i32 y84))],[],[]⟩) (fun y84=>gy y84=some r2) ?_ ?_
 ·refine aR<|cl (X:=Nat×Int×Int) (fun (n52,y49,y50)=>⟨[(0,S y15),(3,.v (.int .i32 y49)),(4,i64 y50),(5,B y47)],[],[]⟩) (fun (n52,y49,y50)=>eV F y15 y47 n52 (y49,y50)=some r2) (fun (n52,y49,y50)=>n52) (F,y45,y46) H (aP [] (.cons (.refl _) (.cons (.refl _) (.cons (.refl _) (.cons (.refl _) (.nil _))))) rfl) ?_;rintro ⟨n52,y49,y50⟩ H;obtain ⟨n52,rfl,H⟩:=cO H;replace H:jH F y15 y47 (eV F y15 y47 n52) y49 y50=some r2:=H
  unfold jH at H
  refine ac<|ac<|aa ?_;show AR _ _ _ _ _ [0,1,2,3] _;refine zm rfl<|zm rfl<|zS rfl (aW ab rfl)<|zS rfl (bN rfl rfl)<|ag<|ax rfl (fun c53=>?_) (fun c53=>?_)
  ·replace H:=be c53 H;refine aC<|bq (X:=Int) (fun y81=>⟨[(0,S y15),(3,.v (.int .i32 y81)),(4,i64 y50),(5,B y47)],[],[]⟩) (fun y81=>dZ y50 (eV F y15 y47 n52) y81=some r2) ?_ ?_
   ·refine aR<|ac<|ac ?_;obtain ⟨g54,H⟩:=aI H;obtain ⟨x55,e56,H⟩:=bz H;obtain ⟨g58,H⟩:=cP H;obtain ⟨x59,e60,H⟩:=bz H;obtain ⟨g63,H⟩:=cP H;obtain ⟨x64,e65,H⟩:=bz H;obtain ⟨x66,e67,H⟩:=fZ H;obtain ⟨g69,H⟩:=cP H;obtain ⟨x70,e71,H⟩:=bz H;obtain ⟨x72,e73,H⟩:=fZ H;refine aa ?_;show AR _ _ _ _ _ [0,1,2,3,4,5,6,7,8,9,10,11,12,13,14,15,16,17,18,19,20,21,22,23,24,25,26] _;refine zm rfl<|zm rfl<|zS rfl (bg ab rfl rfl g54 e56)<|zS rfl (dW rfl rfl)<|zm rfl<|bk (l:=[10,11,12,13,14,15,16,17,18,19,20,21,22,23,24,25,26]) 66 (B ((decide (48≤(x55.toNat:Int)))&&(decide ((x59.toNat:Int)≤57)))) (fun K=>?_) ?_
    ·rcases ap (decide (48≤(x55.toNat:Int))) with h57 | h57
     ·refine zM h57 rfl<|zM h57 rfl<|zU h57 rfl (bg ab rfl rfl (g58 h57) e60)<|zU h57 rfl (dW rfl rfl)<|zS rfl (aD (av:=.v _) rfl h57 rfl) ?_;exact K _ 4 _ (aw (cd h57)) rfl rfl
     ·refine zF h57 rfl<|zF h57 rfl<|zF h57 rfl<|zF h57 rfl<|zS rfl (aF (av:=.v _) rfl h57 rfl) ?_;exact K _ 4 _ (aw (cq h57)) rfl rfl
    refine zm rfl<|bk (l:=[]) 83 (B (((decide (48≤(x55.toNat:Int)))&&(decide ((x59.toNat:Int)≤57)))||((y47&&(decide (97≤(x66.toNat:Int))))&&(decide ((x72.toNat:Int)≤102))))) (fun K=>?_) ?_
    ·rcases ap ((decide (48≤(x55.toNat:Int)))&&(decide ((x59.toNat:Int)≤57))) with h61 | h61
     ·refine zF h61 rfl<|zF h61 rfl<|gU rfl rfl rfl rfl rfl<|gU rfl rfl rfl rfl rfl<|gU rfl rfl rfl rfl rfl<|gU rfl rfl rfl rfl rfl<|gU rfl rfl rfl rfl rfl<|zF h61 rfl<|zF h61 rfl<|gU rfl rfl rfl rfl rfl<|gU rfl rfl rfl rfl rfl<|gU rfl rfl rfl rfl rfl<|gU rfl rfl rfl rfl rfl<|gU rfl rfl rfl rfl rfl<|zF h61 rfl<|zS rfl (aD (av:=.v _) rfl h61 rfl) ?_;exact K _ 15 _ (aw (ii h61)) rfl rfl
     ·refine zM h61 rfl<|zM h61 rfl<|bk (l:=[19,20,21,22,23,24,25,26]) 75 (B (y47&&(decide (97≤(x66.toNat:Int))))) (fun K=>?_) ?_
      ·rcases ap y47 with h62 | h62
       ·refine zM h62 rfl<|zM h62 rfl<|zU h62 rfl (bg ab rfl rfl (g63 (nW (nf h61) h62)) e65)<|zT h62 rfl (aX rfl jb rfl (gG F x64 x66 (e67 (nW (nf h61) h62))) ?_);refine zU h62 rfl (dW rfl rfl)<|zU h61 rfl (aD (av:=.v _) rfl h62 rfl) ?_;exact K _ 5 _ (aw (cd h62)) rfl rfl
       ·refine zF h62 rfl<|zF h62 rfl<|zF h62 rfl<|zF h62 rfl<|zF h62 rfl<|zU h61 rfl (aF (av:=.v _) rfl h62 rfl) ?_;exact K _ 5 _ (aw (cq h62)) rfl rfl
      refine zM h61 rfl<|bk (l:=[26]) 82 (B ((y47&&(decide (97≤(x66.toNat:Int))))&&(decide ((x72.toNat:Int)≤102)))) (fun K=>?_) ?_
      ·rcases ap (y47&&(decide (97≤(x66.toNat:Int)))) with h68 | h68
       ·refine zM h68 rfl<|zM h68 rfl<|zU h68 rfl (bg ab rfl rfl (g69 (nW (nf h61) h68)) e71)<|zT h68 rfl (aX rfl jb rfl (gG F x70 x72 (e73 (nW (nf h61) h68))) ?_);refine zU h68 rfl (dW rfl rfl)<|zU h61 rfl (aD (av:=.v _) rfl h68 rfl) ?_;exact K _ 5 _ (aw (cd h68)) rfl rfl
       ·refine zF h68 rfl<|zF h68 rfl<|zF h68 rfl<|zF h68 rfl<|zF h68 rfl<|zU h61 rfl (aF (av:=.v _) rfl h68 rfl) ?_;exact K _ 5 _ (aw (cq h68)) rfl rfl
      refine zS rfl (aF (av:=.v _) rfl h61 rfl) ?_;exact K _ 5 _ (aw (ie h61)) rfl rfl
    refine ag<|ax rfl (fun c74=>?_) (fun c74=>?_)
    ·replace H:=be c74 H;refine ac<|aa ?_;show AR _ _ _ _ _ [0] _;refine za rfl<|ag<|bU ?_;exact Exists.intro 48 ⟨H,aP [] (.cons (.refl _) (.cons (.refl _) (.cons (.refl _) (.cons (.refl _) (.nil _))))) rfl⟩
    ·replace H:=bf c74 H;refine aC<|ac<|ac ?_;obtain ⟨g75,H⟩:=aI H;obtain ⟨x76,e77,H⟩:=bz H;refine aa ?_;show AR _ _ _ _ _ [0,1,2,3] _;refine zm rfl<|zm rfl<|zS rfl (bg ab rfl rfl g75 e77)<|zS rfl (eS (a:=x76) (b:=95) rfl rfl)<|ag<|ax rfl (fun c78=>?_) (fun c78=>?_)
     ·replace H:=be c78 H;refine ac<|ac<|aa ?_;show AR _ _ _ _ _ [0,1] _;refine zm rfl<|zS rfl (dD rfl rfl)<|ag<|ax rfl (fun c79=>?_) (fun c79=>?_)
      ·replace H:=be c79 H;refine ac<|aa ?_;show AR _ _ _ _ _ [0] _;refine za rfl<|ag<|aQ ?_;obtain rfl:=aq H;exact And.intro rfl (Exists.intro _ (Exists.intro _ ⟨aO rfl (.refl _),aK [] rfl,rfl,rfl⟩))
      ·replace H:=bf c79 H;refine aC<|ac<|aa ?_;show AR _ _ _ _ _ [0] _;refine za rfl<|ag<|bU ?_;exact Exists.intro 95 ⟨H,aP [] (.cons (.refl _) (.cons (.refl _) (.cons (.refl _) (.cons (.refl _) (.nil _))))) rfl⟩
     ·replace H:=bf c78 H;refine aC<|ac<|ac<|aa ?_;show AR _ _ _ _ _ [0,1] _;refine zm rfl<|zS rfl (bI rfl rfl)<|ag<|ax rfl (fun c80=>?_) (fun c80=>?_)
      ·replace H:=be c80 H;refine ac<|aa ?_;show AR _ _ _ _ _ [0] _;refine za rfl<|ag<|aQ ?_;obtain rfl:=aq H;exact And.intro rfl (Exists.intro _ (Exists.intro _ ⟨aO rfl (.refl _),aK [] rfl,rfl,rfl⟩))
      ·replace H:=bf c80 H;refine aC<|aa ?_;show AR _ _ _ _ _ [0] _;refine za rfl<|ag ?_;exact Exists.intro 33 ⟨H,aP [] (.cons (.refl _) (.cons (.refl _) (.cons (.refl _) (.cons (.refl _) (.nil _))))) rfl⟩
   rintro y81 H;replace H:dZ y50 (eV F y15 y47 n52) y81=some r2:=H
   unfold dZ at H
   obtain ⟨g83,H⟩:=aI H;refine aa ?_;show AR _ _ _ _ _ [0,1,2] _;refine zm rfl<|zS rfl (bB rfl rfl g83)<|za rfl<|ag ?_;exact Exists.intro (n52,y81,y50+1) ⟨H,Nat.lt_succ_self _,aP [] (.cons (.refl _) (.cons (.refl _) (.cons (.refl _) (.cons (.refl _) (.nil _))))) rfl⟩
  ·replace H:=bf c53 H;refine bU ?_;exact Exists.intro y49 ⟨H,aP [] (.cons (.refl _) (.nil _)) rfl⟩
 rintro y84 H;replace H:gy y84=some r2:=H
 unfold gy at H
 refine ac<|aa ?_;show AR _ _ _ _ _ [0,1,2] _;refine zm rfl<|zS rfl (dD rfl rfl)<|za rfl<|ag<|aQ ?_;obtain rfl:=aq H;exact And.intro rfl (Exists.intro _ (Exists.intro _ ⟨aO rfl (.refl _),aK [] rfl,rfl,rfl⟩))
abbrev _root_.Go.Av.cB := @Tryz.underlying188
abbrev _root_.Go.Av.bi := @Tryz.underlying5
set_option maxRecDepth 100000 in
set_option maxHeartbeats 1000000 in
theorem sz (F:Nat) (a1:List UInt8) (a2:Int) (a3:Int) (r4:Int) (r5:Int) (H:gC F a1 a2 a3=some (r4,r5)):ACalls Tryz.prog 163 [S a1,i64 a2,i64 a3] [] (Ret (.tup [.v (.int .u64 r4),lD 188 .i64 r5]) []):=by
 unfold gC at H
 refine az Tryz.func163 rfl rfl ?_;show AW _ _ 172 _ _ _;refine ac<|aa ?_;show AR _ _ _ _ _ [0,1] _;refine za rfl<|za rfl<|ag<|ac<|ac<|aa ?_;show AR _ _ _ _ _ [0,1] _;refine zm rfl<|zS rfl (cD rfl rfl)<|ag<|ax rfl (fun c6=>?_) (fun c6=>?_)
 ·replace H:=be c6 H;refine ac<|aa ?_;show AR _ _ _ _ _ [0,1,2] _;refine zS rfl (bW (a:=.v _) cB rfl rfl)<|za rfl<|zS rfl (aZ (av:=.ifc _ _) rfl)<|ag<|aQ ?_;obtain ⟨rfl,rfl⟩:=ek H;exact And.intro rfl (Exists.intro _ (Exists.intro _ ⟨bt rfl (.refl _) (.refl _),aK [] rfl,rfl,rfl⟩))
 ·replace H:=bf c6 H;refine aC<|ac<|aa ?_;show AR _ _ _ _ _ [0,1,2] _;refine zm rfl<|zS rfl (bI rfl rfl)<|za rfl<|ag<|ac<|aa ?_;show AR _ _ _ _ _ [0,1] _;refine zm rfl<|za rfl<|ag<|bq (X:=Unit) (fun _=>⟨[(0,S a1),(1,i64 a2),(2,i64 a3),(8,B (decide (a2=0))),(9,S a1)],[],[]⟩) (fun _=>fv F a1 a2 a3=some (r4,r5)) ?_ ?_
  ·refine aR<|ac<|aa ?_;show AR _ _ _ _ _ [0,1,2,3,4,5,6] _;refine zm rfl<|zS rfl (dW rfl rfl)<|zm rfl<|bk (l:=[6]) 31 (B ((decide (2≤a2))&&(decide (a2≤36)))) (fun K=>?_) ?_
   ·rcases ap (decide (2≤a2)) with h7 | h7
    ·refine zM h7 rfl<|zU h7 rfl (dW rfl rfl)<|zS rfl (aD (av:=.v _) rfl h7 rfl) ?_;exact K _ 2 _ (aw (cd h7)) rfl rfl
    ·refine zF h7 rfl<|zF h7 rfl<|zS rfl (aF (av:=.v _) rfl h7 rfl) ?_;exact K _ 2 _ (aw (cq h7)) rfl rfl
   refine za rfl<|ag ?_;obtain ⟨g9,H⟩:=aI H;refine ax rfl (fun _=>?_) (fun hx=>bP g9 hx);refine aC ?_;exact Exists.intro () ⟨H,aP [] (.cons (.refl _) (.cons (.refl _) (.cons (.refl _) (.cons (.refl _) (.cons (.refl _) (.nil _)))))) rfl⟩
  rintro _ H;replace H:fv F a1 a2 a3=some (r4,r5):=H
  unfold fv at H
  refine bq (X:=Unit) (fun _=>⟨[(0,S a1),(1,i64 a2),(2,i64 64),(8,B (decide (a2=0))),(9,S a1)],[],[]⟩) (fun _=>fw F a1 a2=some (r4,r5)) ?_ ?_
  ·refine ac<|aa ?_;show AR _ _ _ _ _ [0,1] _;refine zm rfl<|zS rfl (bI rfl rfl)<|ag ?_;obtain ⟨g12,H⟩:=aI H;refine ax rfl (fun _=>?_) (fun hx=>bP g12 hx);refine aa ?_;show AR _ _ _ _ _ [0] _;refine za rfl<|ag ?_;exact Exists.intro () ⟨H,aP [] (.cons (.refl _) (.cons (.refl _) (.cons (.refl _) (.cons (.refl _) (.cons (.refl _) (.nil _)))))) rfl⟩
  rintro _ H;replace H:fw F a1 a2=some (r4,r5):=H
  unfold fw at H
  refine ac<|aa ?_;show AR _ _ _ _ _ [0] _;refine za rfl<|ag<|bq (X:=Int) (fun y17=>⟨[(0,S a1),(1,i64 a2),(2,i64 64),(8,B (decide (a2=0))),(9,S a1),(10,.v (.int .u64 y17))],[],[]⟩) (fun y17=>dN F a1 a2 y17=some (r4,r5)) ?_ ?_
  ·refine ac<|aa ?_;show AR _ _ _ _ _ [0] _;refine zm rfl<|ag<|aR<|ac<|aa ?_;show AR _ _ _ _ _ [0,1] _;refine zS rfl (bI rfl rfl)<|za rfl<|ag<|ax rfl (fun c14=>?_) (fun c14=>?_)
   ·replace H:=be c14 H;refine aa ?_;show AR _ _ _ _ _ [0] _;refine za rfl<|ag ?_;exact Exists.intro 1844674407370955162 ⟨H,aP [] (.cons (.refl _) (.cons (.refl _) (.cons (.refl _) (.cons (.refl _) (.cons (.refl _) (.cons (.refl _) (.nil _))))))) rfl⟩
   ·replace H:=bf c14 H;refine ac<|aa ?_;show AR _ _ _ _ _ [0,1] _;refine zS rfl (bI rfl rfl)<|za rfl<|ag<|ax rfl (fun c15=>?_) (fun c15=>?_)
    ·replace H:=be c15 H;refine aa ?_;show AR _ _ _ _ _ [0] _;refine za rfl<|ag ?_;exact Exists.intro 1152921504606846976 ⟨H,aP [] (.cons (.refl _) (.cons (.refl _) (.cons (.refl _) (.cons (.refl _) (.cons (.refl _) (.cons (.refl _) (.nil _))))))) rfl⟩
    ·replace H:=bf c15 H;obtain ⟨g16,H⟩:=aI H;refine aa ?_;show AR _ _ _ _ _ [0,1,2,3,4] _;refine zm rfl<|zS rfl (eJ (by kernel_rfl) Tryz.underlying189 rfl)<|zS rfl (xr rfl rfl (of_decide_eq_true g16))<|zS rfl (qt rfl rfl)<|za rfl<|ag ?_;exact Exists.intro (IntKind.u64.wrap ((IntKind.u64.wrap (Int.tdiv 18446744073709551615 (IntKind.u64.wrap a2)))+1)) ⟨H,aP [] (.cons (.refl _) (.cons (.refl _) (.cons (.refl _) (.cons (.refl _) (.cons (.refl _) (.cons (.refl _) (.nil _))))))) rfl⟩
  rintro y17 H;replace H:dN F a1 a2 y17=some (r4,r5):=H
  unfold dN at H
  refine ac ?_;obtain ⟨g19,H⟩:=aI H;refine aa ?_;show AR _ _ _ _ _ [0,1,2,3,4] _;refine zm rfl<|zS rfl (eJ (by kernel_rfl) Tryz.underlying124 rfl)<|zS rfl (zp rfl rfl (of_decide_eq_true g19))<|zS rfl (qs rfl rfl)<|za rfl<|ag<|ac<|aa ?_;show AR _ _ _ _ _ [0] _;refine za rfl<|ag<|ac<|aa ?_;show AR _ _ _ _ _ [0] _;refine za rfl<|ag<|bq (X:=Bool×Int) (fun (y53,y54)=>⟨[(9,S a1),(12,B y53),(13,.v (.int .u64 y54))],[],[]⟩) (fun (y53,y54)=>fx F a1 y53 y54=some (r4,r5)) ?_ ?_
  ·refine ac ?_;obtain ⟨g20,H⟩:=aI H;refine aa ?_;show AR _ _ _ _ _ [0,1,2,3] _;refine zm rfl<|zX rfl (eP (bytes:=1) ab ak bi rfl g20) ?_;rintro _ _ ⟨t21,rfl,rfl⟩;refine zS rfl (bh ak rfl)<|zm rfl<|ag<|aR<|cl (X:=Nat×Bool×Int×Int) (fun (n26,y22,y23,y24)=>⟨[(1,i64 a2),(8,B (decide (a2=0))),(9,S a1),(10,.v (.int .u64 y17)),(11,.v (.int .u64 (IntKind.u64.wrap ((IntKind.u64.wrap (1*2 ^ min (Int.toNat (IntKind.u64.wrap 64)) IntKind.u64.bits)) - 1)))),(12,B y22),(13,.v (.int .u64 y23)),(99,slE Enc.byte a1 (some t21)),(100,i64 (a1.length:Int)),(101,i64 y24)],[],[.tok t21 5]⟩) (fun (n26,y22,y23,y24)=>cw F a1 a2 y17 n26 (y22,y23,y24)=some (r4,r5)) (fun (n26,y22,y23,y24)=>n26) (F,false,0,0) H (aP [0] (.cons (.refl _) (.cons (.refl _) (.cons (.refl _) (.cons (.refl _) (.cons (.refl _) (.cons (.refl _) (.cons (.refl _) (.cons (.refl _) (.cons (.refl _) (.cons (.refl _) (.nil _))))))))))) rfl) ?_;rintro ⟨n26,y22,y23,y24⟩ H;obtain ⟨n26,rfl,H⟩:=cO H;replace H:eA F a1 a2 y17 (cw F a1 a2 y17 n26) y22 y23 y24=some (r4,r5):=H
   unfold eA at H
   refine ac<|aa ?_;show AR _ _ _ _ _ [0] _;refine zS rfl (bN rfl rfl)<|ag<|ac<|ax rfl (fun c27=>?_) (fun c27=>?_)
   ·replace H:=be c27 H;refine aC<|bq (X:=Bool×Int) (fun (y49,y50)=>⟨[(1,i64 a2),(8,B (decide (a2=0))),(9,S a1),(10,.v (.int .u64 y17)),(11,.v (.int .u64 (IntKind.u64.wrap ((IntKind.u64.wrap (1*2 ^ min (Int.toNat (IntKind.u64.wrap 64)) IntKind.u64.bits)) - 1)))),(12,B y49),(13,.v (.int .u64 y50)),(99,slE Enc.byte a1 (some t21)),(100,i64 (a1.length:Int)),(101,i64 y24)],[],[.tok t21 5]⟩) (fun (y49,y50)=>ez y24 (cw F a1 a2 y17 n26) y49 y50=some (r4,r5)) ?_ ?_
    ·refine aR<|ac ?_;obtain ⟨g28,H⟩:=aI H;obtain ⟨x29,e30,H⟩:=bz H;refine aa ?_;show AR _ _ _ _ _ [0,1,2] _;refine zS rfl (bA (E:=Enc.byte) ak (by kernel_rfl) rfl rfl g28 e30)<|zS rfl (aG bi rfl rfl)<|za rfl<|ag<|ac<|aa ?_;show AR _ _ _ _ _ [0] _;refine za rfl<|ag<|bq (X:=UInt8) (fun y43=>⟨[(1,i64 a2),(8,B (decide (a2=0))),(9,S a1),(10,.v (.int .u64 y17)),(11,.v (.int .u64 (IntKind.u64.wrap ((IntKind.u64.wrap (1*2 ^ min (Int.toNat (IntKind.u64.wrap 64)) IntKind.u64.bits)) - 1)))),(12,B y22),(13,.v (.int .u64 y23)),(16,u8 y43),(99,slE Enc.byte a1 (some t21)),(100,i64 (a1.length:Int)),(101,i64 y24)],[],[.tok t21 5]⟩) (fun y43=>dx a2 y17 y22 y23 y24 (cw F a1 a2 y17 n26) y43=some (r4,r5)) ?_ ?_
     ·refine aR<|ac<|aa ?_;show AR _ _ _ _ _ [0,1,2,3,4,5] _;refine zm rfl<|zS rfl (eS (a:=x29) (b:=95) rfl rfl)<|zm rfl<|bk (l:=[5]) 111 (B ((decide (x29=95))&&(decide (a2=0)))) (fun K=>?_) ?_
      ·rcases ap (decide (x29=95)) with h31 | h31
       ·refine zM h31 rfl<|zS rfl (aD (av:=.v _) rfl h31 rfl) ?_;exact K _ 1 _ (aw (cd h31)) rfl rfl
       ·refine zF h31 rfl<|zS rfl (aF (av:=.v _) rfl h31 rfl) ?_;exact K _ 1 _ (aw (cq h31)) rfl rfl
      refine za rfl<|ag<|ax rfl (fun c32=>?_) (fun c32=>?_)
      ·replace H:=be c32 H;refine ac<|aa ?_;show AR _ _ _ _ _ [0] _;refine za rfl<|ag<|bU ?_;exact Exists.intro (true,y23) ⟨H,aP [0] (.cons (.refl _) (.cons (.refl _) (.cons (.refl _) (.cons (.refl _) (.cons (.refl _) (.cons (.refl _) (.cons (.refl _) (.cons (.refl _) (.cons (.refl _) (.cons (.refl _) (.nil _))))))))))) rfl⟩
      ·replace H:=bf c32 H;refine ac<|aa ?_;show AR _ _ _ _ _ [0,1,2,3,4,5,6] _;refine zm rfl<|zS rfl (dW rfl rfl)<|zm rfl<|bk (l:=[6]) 118 (B ((decide (48≤(x29.toNat:Int)))&&(decide ((x29.toNat:Int)≤57)))) (fun K=>?_) ?_
       ·rcases ap (decide (48≤(x29.toNat:Int))) with h33 | h33
        ·refine zM h33 rfl<|zU h33 rfl (dW rfl rfl)<|zS rfl (aD (av:=.v _) rfl h33 rfl) ?_;exact K _ 2 _ (aw (cd h33)) rfl rfl
        ·refine zF h33 rfl<|zF h33 rfl<|zS rfl (aF (av:=.v _) rfl h33 rfl) ?_;exact K _ 2 _ (aw (cq h33)) rfl rfl
       refine za rfl<|ag<|ax rfl (fun c34=>?_) (fun c34=>?_)
       ·replace H:=be c34 H;refine aa ?_;show AR _ _ _ _ _ [0,1,2] _;refine zm rfl<|zS rfl (tB (a:=x29) (b:=48) rfl rfl)<|za rfl<|ag ?_;exact Exists.intro (x29 - 48) ⟨H,aP [0] (.cons (.refl _) (.cons (.refl _) (.cons (.refl _) (.cons (.refl _) (.cons (.refl _) (.cons (.refl _) (.cons (.refl _) (.cons (.refl _) (.cons (.refl _) (.cons (.refl _) (.cons (.refl _) (.nil _)))))))))))) rfl⟩
       ·replace H:=bf c34 H;refine ac ?_;obtain ⟨x35,e36,H⟩:=cm H;obtain ⟨x38,e39,H⟩:=fZ H;refine aa ?_;show AR _ _ _ _ _ [0,1,2,3,4,5,6,7,8] _;refine zm rfl<|ar rfl rfl (aX rfl jb rfl (gG F x29 x35 e36) ?_);refine zS rfl (dW rfl rfl)<|zm rfl<|bk (l:=[8]) 129 (B ((decide (97≤(x35.toNat:Int)))&&(decide ((x38.toNat:Int)≤122)))) (fun K=>?_) ?_
        ·rcases ap (decide (97≤(x35.toNat:Int))) with h37 | h37
         ·refine zM h37 rfl<|zT h37 rfl (aX rfl jb rfl (gG F x29 x38 (e39 h37)) ?_);refine zU h37 rfl (dW rfl rfl)<|zS rfl (aD (av:=.v _) rfl h37 rfl) ?_;exact K _ 3 _ (aw (cd h37)) rfl rfl
         ·refine zF h37 rfl<|zF h37 rfl<|zF h37 rfl<|zS rfl (aF (av:=.v _) rfl h37 rfl) ?_;exact K _ 3 _ (aw (cq h37)) rfl rfl
        refine za rfl<|ag<|ax rfl (fun c40=>?_) (fun c40=>?_)
        ·replace H:=be c40 H;obtain ⟨x41,e42,H⟩:=cm H;refine aa ?_;show AR _ _ _ _ _ [0,1,2,3,4] _;refine zm rfl<|ar rfl rfl (aX rfl jb rfl (gG F x29 x41 e42) ?_);refine zS rfl (tB (a:=x41) (b:=97) rfl rfl)<|zS rfl (g_add8 (a:=x41 - 97) (b:=10) rfl rfl)<|za rfl<|ag ?_;exact Exists.intro ((x41 - 97)+10) ⟨H,aP [0] (.cons (.refl _) (.cons (.refl _) (.cons (.refl _) (.cons (.refl _) (.cons (.refl _) (.cons (.refl _) (.cons (.refl _) (.cons (.refl _) (.cons (.refl _) (.cons (.refl _) (.cons (.refl _) (.nil _)))))))))))) rfl⟩
        ·replace H:=bf c40 H;refine ac<|aa ?_;show AR _ _ _ _ _ [0,1,2] _;refine zS rfl (bW (a:=.v _) cB rfl rfl)<|za rfl<|zS rfl (aZ (av:=.ifc _ _) rfl)<|ag<|aQ ?_;obtain ⟨rfl,rfl⟩:=ek H;exact And.intro rfl (Exists.intro _ (Exists.intro _ ⟨bt rfl (.refl _) (.refl _),aK [] rfl,rfl,rfl⟩))
     rintro y43 H;replace H:dx a2 y17 y22 y23 y24 (cw F a1 a2 y17 n26) y43=some (r4,r5):=H
     unfold dx at H
     refine ac<|ac<|aa ?_;show AR _ _ _ _ _ [0,1,2,3] _;refine zm rfl<|zm rfl<|zS rfl (eE (by kernel_rfl) bi rfl)<|zS rfl (cX rfl rfl)<|ag<|ax rfl (fun c45=>?_) (fun c45=>?_)
     ·replace H:=be c45 H;refine ac<|aa ?_;show AR _ _ _ _ _ [0,1,2] _;refine zS rfl (bW (a:=.v _) cB rfl rfl)<|za rfl<|zS rfl (aZ (av:=.ifc _ _) rfl)<|ag<|aQ ?_;obtain ⟨rfl,rfl⟩:=ek H;exact And.intro rfl (Exists.intro _ (Exists.intro _ ⟨bt rfl (.refl _) (.refl _),aK [] rfl,rfl,rfl⟩))
     ·replace H:=bf c45 H;refine aC<|ac<|ac<|aa ?_;show AR _ _ _ _ _ [0,1,2] _;refine zm rfl<|zm rfl<|zS rfl (cX rfl rfl)<|ag<|ax rfl (fun c46=>?_) (fun c46=>?_)
      ·replace H:=be c46 H;refine ac<|aa ?_;show AR _ _ _ _ _ [0,1,2,3] _;refine zm rfl<|zS rfl (bW (a:=.v _) cB rfl rfl)<|za rfl<|zS rfl (aZ (av:=.ifc _ _) rfl)<|ag<|aQ ?_;obtain ⟨rfl,rfl⟩:=ek H;exact And.intro rfl (Exists.intro _ (Exists.intro _ ⟨bt rfl (.refl _) (.refl _),aK [] rfl,rfl,rfl⟩))
      ·replace H:=bf c46 H;refine aC<|ac<|aa ?_;show AR _ _ _ _ _ [0,1,2,3,4] _;refine zm rfl<|zm rfl<|zS rfl (eJ (by kernel_rfl) Tryz.underlying189 rfl)<|zS rfl (xt rfl rfl)<|za rfl<|ag<|ac<|aa ?_;show AR _ _ _ _ _ [0,1,2,3,4] _;refine zm rfl<|zm rfl<|zS rfl (eJ (k':=.u8) (n:=(y43.toNat:Int)) (by kernel_rfl) Tryz.underlying189 rfl)<|zS rfl (qt rfl rfl)<|za rfl<|ag<|ac<|ac<|aa ?_;show AR _ _ _ _ _ [0,1,2,3,4,5,6,7] _;refine zm rfl<|zm rfl<|zS rfl (bN rfl rfl)<|zm rfl<|bk (l:=[]) 159 (B ((decide (IntKind.u64.wrap ((IntKind.u64.wrap (y23*(IntKind.u64.wrap a2)))+(IntKind.u64.wrap (y43.toNat:Int))) < IntKind.u64.wrap (y23*(IntKind.u64.wrap a2))))||(decide (IntKind.u64.wrap ((IntKind.u64.wrap (1*2 ^ min (Int.toNat (IntKind.u64.wrap 64)) IntKind.u64.bits)) - 1) < IntKind.u64.wrap ((IntKind.u64.wrap (y23*(IntKind.u64.wrap a2)))+(IntKind.u64.wrap (y43.toNat:Int))))))) (fun K=>?_) ?_
       ·rcases ap (decide (IntKind.u64.wrap ((IntKind.u64.wrap (y23*(IntKind.u64.wrap a2)))+(IntKind.u64.wrap (y43.toNat:Int))) < IntKind.u64.wrap (y23*(IntKind.u64.wrap a2)))) with h47 | h47
        ·refine zF h47 rfl<|zF h47 rfl<|zF h47 rfl<|zS rfl (aD (av:=.v _) rfl h47 rfl) ?_;exact K _ 3 _ (aw (ii h47)) rfl rfl
        ·refine zM h47 rfl<|zM h47 rfl<|zU h47 rfl (eN rfl rfl)<|zS rfl (aF (av:=.v _) rfl h47 rfl) ?_;exact K _ 3 _ (aw (ie h47)) rfl rfl
       refine ag<|ax rfl (fun c48=>?_) (fun c48=>?_)
       ·replace H:=be c48 H;refine ac<|aa ?_;show AR _ _ _ _ _ [0,1,2,3] _;refine zm rfl<|zS rfl (bW (a:=.v _) cB rfl rfl)<|za rfl<|zS rfl (aZ (av:=.ifc _ _) rfl)<|ag<|aQ ?_;obtain ⟨rfl,rfl⟩:=ek H;exact And.intro rfl (Exists.intro _ (Exists.intro _ ⟨bt rfl (.refl _) (.refl _),aK [] rfl,rfl,rfl⟩))
       ·replace H:=bf c48 H;refine aC<|aa ?_;show AR _ _ _ _ _ [0,1] _;refine zm rfl<|za rfl<|ag ?_;exact Exists.intro (y22,IntKind.u64.wrap ((IntKind.u64.wrap (y23*(IntKind.u64.wrap a2)))+(IntKind.u64.wrap (y43.toNat:Int)))) ⟨H,aP [0] (.cons (.refl _) (.cons (.refl _) (.cons (.refl _) (.cons (.refl _) (.cons (.refl _) (.cons (.refl _) (.cons (.refl _) (.cons (.refl _) (.cons (.refl _) (.cons (.refl _) (.nil _))))))))))) rfl⟩
    rintro ⟨y49,y50⟩ H;replace H:ez y24 (cw F a1 a2 y17 n26) y49 y50=some (r4,r5):=H
    unfold ez at H
    obtain ⟨g52,H⟩:=aI H;refine aa ?_;show AR _ _ _ _ _ [0,1] _;refine zS rfl (bB rfl rfl g52)<|zm rfl<|ag ?_;exact Exists.intro (n26,y49,y50,y24+1) ⟨H,Nat.lt_succ_self _,aP [0] (.cons (.refl _) (.cons (.refl _) (.cons (.refl _) (.cons (.refl _) (.cons (.refl _) (.cons (.refl _) (.cons (.refl _) (.cons (.refl _) (.cons (.refl _) (.cons (.refl _) (.nil _))))))))))) rfl⟩
   ·replace H:=bf c27 H;refine bU ?_;exact Exists.intro (y22,y23) ⟨H,aP [] (.cons (.refl _) (.cons (.refl _) (.cons (.refl _) (.nil _)))) rfl⟩
  rintro ⟨y53,y54⟩ H;replace H:fx F a1 y53 y54=some (r4,r5):=H
  unfold fx at H
  refine ac<|ac ?_;obtain ⟨x57,e58,H⟩:=fZ H;refine aa ?_;show AR _ _ _ _ _ [0,1,2,3,4,5] _;refine zm rfl<|zm rfl<|bk (l:=[]) 169 (B (y53&&(!x57))) (fun K=>?_) ?_
  ·rcases ap y53 with h56 | h56
   ·refine zM h56 rfl<|zT h56 rfl (aX rfl Bi rfl (pR F a1 x57 (e58 h56)) ?_);refine zU h56 rfl (ca rfl)<|zS rfl (aD (av:=.v _) rfl h56 rfl) ?_;exact K _ 3 _ (aw (cd h56)) rfl rfl
   ·refine zF h56 rfl<|zF h56 rfl<|zF h56 rfl<|zS rfl (aF (av:=.v _) rfl h56 rfl) ?_;exact K _ 3 _ (aw (cq h56)) rfl rfl
  refine ag<|ax rfl (fun c59=>?_) (fun c59=>?_)
  ·replace H:=be c59 H;refine ac<|aa ?_;show AR _ _ _ _ _ [0,1,2] _;refine zS rfl (bW (a:=.v _) cB rfl rfl)<|za rfl<|zS rfl (aZ (av:=.ifc _ _) rfl)<|ag<|aQ ?_;obtain ⟨rfl,rfl⟩:=ek H;exact And.intro rfl (Exists.intro _ (Exists.intro _ ⟨bt rfl (.refl _) (.refl _),aK [] rfl,rfl,rfl⟩))
  ·replace H:=bf c59 H;refine aC<|ac<|aa ?_;show AR _ _ _ _ _ [0,1,2] _;refine zm rfl<|za rfl<|za rfl<|ag<|aQ ?_;obtain ⟨rfl,rfl⟩:=ek H;exact And.intro rfl (Exists.intro _ (Exists.intro _ ⟨bt rfl (.refl _) (.refl _),aK [] rfl,rfl,rfl⟩))
abbrev _root_.Go.Av.fK := @Tryz.underlying62
set_option maxRecDepth 100000 in
set_option maxHeartbeats 1000000 in
theorem tP (F:Nat) (a1:List UInt8) (a2:Int) (a3:Int) (r4:Int) (r5:Int) (H:iG F a1 a2 a3=some (r4,r5)):ACalls Tryz.prog 161 [S a1,i64 a2,i64 a3] [] (Ret (.tup [i64 r4,lD 188 .i64 r5]) []):=by
 unfold iG at H
 refine az Tryz.func161 rfl rfl ?_;show AW _ _ 73 _ _ _;refine ac<|aa ?_;show AR _ _ _ _ _ [0,1] _;refine za rfl<|za rfl<|ag<|ac<|ac<|aa ?_;show AR _ _ _ _ _ [0,1] _;refine zm rfl<|zS rfl (cD rfl rfl)<|ag<|ax rfl (fun c6=>?_) (fun c6=>?_)
 ·replace H:=be c6 H;refine ac<|aa ?_;show AR _ _ _ _ _ [0,1,2] _;refine zS rfl (bW (a:=.v _) cB rfl rfl)<|za rfl<|zS rfl (aZ (av:=.ifc _ _) rfl)<|ag<|aQ ?_;obtain ⟨rfl,rfl⟩:=ek H;exact And.intro rfl (Exists.intro _ (Exists.intro _ ⟨bt rfl (.refl _) (.refl _),aK [] rfl,rfl,rfl⟩))
 ·replace H:=bf c6 H;refine aC<|ac<|aa ?_;show AR _ _ _ _ _ [0] _;refine za rfl<|ag<|bq (X:=(List UInt8)×Bool) (fun (y18,y19)=>⟨[(0,S y18),(1,i64 a2),(2,i64 a3),(8,B y19)],[],[]⟩) (fun (y18,y19)=>eo F a2 a3 y18 y19=some (r4,r5)) ?_ ?_
  ·refine ac ?_;obtain ⟨g7,H⟩:=aI H;obtain ⟨x8,e9,H⟩:=bz H;refine aa ?_;show AR _ _ _ _ _ [0,1] _;refine zm rfl<|zS rfl (bg ab rfl rfl g7 e9)<|ag<|aR<|ac<|aa ?_;show AR _ _ _ _ _ [0,1] _;refine zS rfl (eS (a:=x8) (b:=43) rfl rfl)<|za rfl<|ag<|ax rfl (fun c10=>?_) (fun c10=>?_)
   ·replace H:=be c10 H;obtain ⟨g11,H⟩:=aI H;obtain ⟨x12,e13,H⟩:=bz H;refine aa ?_;show AR _ _ _ _ _ [0,1,2] _;refine zm rfl<|zS rfl (ee ab rfl rfl g11 e13)<|za rfl<|ag ?_;exact Exists.intro (x12,false) ⟨H,aP [] (.cons (.refl _) (.cons (.refl _) (.cons (.refl _) (.cons (.refl _) (.nil _))))) rfl⟩
   ·replace H:=bf c10 H;refine ac<|aa ?_;show AR _ _ _ _ _ [0,1] _;refine zS rfl (eS (a:=x8) (b:=45) rfl rfl)<|za rfl<|ag<|ax rfl (fun c14=>?_) (fun c14=>?_)
    ·replace H:=be c14 H;refine ac ?_;obtain ⟨g15,H⟩:=aI H;obtain ⟨x16,e17,H⟩:=bz H;refine aa ?_;show AR _ _ _ _ _ [0,1,2] _;refine zm rfl<|zS rfl (ee ab rfl rfl g15 e17)<|za rfl<|ag<|aa ?_;show AR _ _ _ _ _ [0] _;refine za rfl<|ag ?_;exact Exists.intro (x16,true) ⟨H,aP [] (.cons (.refl _) (.cons (.refl _) (.cons (.refl _) (.cons (.refl _) (.nil _))))) rfl⟩
    ·replace H:=bf c14 H;refine aC ?_;exact Exists.intro (a1,false) ⟨H,aP [] (.cons (.refl _) (.cons (.refl _) (.cons (.refl _) (.cons (.refl _) (.nil _))))) rfl⟩
  rintro ⟨y18,y19⟩ H;replace H:eo F a2 a3 y18 y19=some (r4,r5):=H
  unfold eo at H
  refine ac<|aa ?_;show AR _ _ _ _ _ [0] _;refine za rfl<|ag<|ac ?_;obtain ⟨x21,x22,e23,H⟩:=dd H;refine aa ?_;show AR _ _ _ _ _ [0,1,2,3,4,5,6,7,8] _;refine zm rfl<|zm rfl<|zm rfl<|ar rfl rfl (aX rfl Bj rfl (sz F y18 a2 a3 x21 x22 e23) ?_);refine zS rfl (ah (av:=.tup _) rfl)<|zS rfl (ba (av:=.v _) rfl rfl)<|zS rfl (ba (av:=lD _ _ _) rfl rfl)<|za rfl<|zS rfl (aZ (av:=lD _ _ _) rfl)<|ag<|ac<|ac<|aa ?_;show AR _ _ _ _ _ [0,1,2,3,4,5,6] _;refine zS rfl (ah (av:=lD _ _ _) rfl)<|zS rfl (pN fK rfl rfl)<|zm rfl<|bk (l:=[]) 38 (B ((!decide (x22=0))&&(!decide (x22=1)))) (fun K=>?_) ?_
  ·rcases ap (!decide (x22=0)) with h24 | h24
   ·refine zU h24 rfl (ah (av:=lD _ _ _) rfl)<|zU h24 rfl (bW (a:=.v _) cB rfl rfl)<|zU h24 rfl (An (m:=1) fK rfl cB (by kernel_rfl) (by decide) rfl rfl)<|zS rfl (aD (av:=.v _) rfl h24 rfl) ?_;exact K _ 3 _ (aw (cd h24)) rfl rfl
   ·refine zF h24 rfl<|zF h24 rfl<|zF h24 rfl<|zS rfl (aF (av:=.v _) rfl h24 rfl) ?_;exact K _ 3 _ (aw (cq h24)) rfl rfl
  refine ag<|ax rfl (fun c25=>?_) (fun c25=>?_)
  ·replace H:=be c25 H;refine ac<|aa ?_;show AR _ _ _ _ _ [0,1,2] _;refine zS rfl (ah (av:=lD _ _ _) rfl)<|za rfl<|zS rfl (aZ (av:=lD _ _ _) rfl)<|ag<|aQ ?_;obtain ⟨rfl,rfl⟩:=ek H;exact And.intro rfl (Exists.intro _ (Exists.intro _ ⟨bt rfl (.refl _) (.refl _),aK [] rfl,rfl,rfl⟩))
  ·replace H:=bf c25 H;refine aC<|bq (X:=Unit) (fun _=>⟨[(2,i64 64),(8,B y19),(9,.v (.int .u64 x21))],[],[]⟩) (fun _=>gk y19 x21=some (r4,r5)) ?_ ?_
   ·refine ac<|aa ?_;show AR _ _ _ _ _ [0,1] _;refine zm rfl<|zS rfl (bI rfl rfl)<|ag ?_;obtain ⟨g27,H⟩:=aI H;refine ax rfl (fun _=>?_) (fun hx=>bP g27 hx);refine aa ?_;show AR _ _ _ _ _ [0] _;refine za rfl<|ag ?_;exact Exists.intro () ⟨H,aP [] (.cons (.refl _) (.cons (.refl _) (.cons (.refl _) (.nil _)))) rfl⟩
   rintro _ H;replace H:gk y19 x21=some (r4,r5):=H
   unfold gk at H
   refine ac ?_;obtain ⟨g29,H⟩:=aI H;refine aa ?_;show AR _ _ _ _ _ [0,1,2,3,4] _;refine zm rfl<|zS rfl (bo (av':=i64 63) (mc rfl rfl (by decide)) rfl)<|zS rfl (eJ (by kernel_rfl) Tryz.underlying124 rfl)<|zS rfl (zp rfl rfl (of_decide_eq_true g29))<|za rfl<|ag<|ac<|ac<|aa ?_;show AR _ _ _ _ _ [0,1,2,3,4,5,6] _;refine zm rfl<|zS rfl (ca rfl)<|zm rfl<|bk (l:=[]) 52 (B ((!y19)&&(decide (IntKind.u64.wrap (1*2 ^ min (Int.toNat (IntKind.u64.wrap 63)) IntKind.u64.bits)≤x21)))) (fun K=>?_) ?_
   ·rcases ap (!y19) with h30 | h30
    ·refine zM h30 rfl<|zM h30 rfl<|zU h30 rfl (cX rfl rfl)<|zS rfl (aD (av:=.v _) rfl h30 rfl) ?_;exact K _ 3 _ (aw (cd h30)) rfl rfl
    ·refine zF h30 rfl<|zF h30 rfl<|zF h30 rfl<|zS rfl (aF (av:=.v _) rfl h30 rfl) ?_;exact K _ 3 _ (aw (cq h30)) rfl rfl
   refine ag<|ax rfl (fun c31=>?_) (fun c31=>?_)
   ·replace H:=be c31 H;refine ac ?_;obtain ⟨g32,H⟩:=aI H;refine aa ?_;show AR _ _ _ _ _ [0,1,2,3,4,5] _;refine zm rfl<|zS rfl (qs rfl rfl)<|zS rfl (qU (by kernel_rfl) Tryz.underlying2 rfl g32)<|zS rfl (bW (a:=.v _) cB rfl rfl)<|za rfl<|zS rfl (aZ (av:=.ifc _ _) rfl)<|ag<|aQ ?_;obtain ⟨rfl,rfl⟩:=ek H;exact And.intro rfl (Exists.intro _ (Exists.intro _ ⟨bt rfl (.refl _) (.refl _),aK [] rfl,rfl,rfl⟩))
   ·replace H:=bf c31 H;refine aC<|ac<|ac<|aa ?_;show AR _ _ _ _ _ [0,1,2,3,4,5] _;refine zm rfl<|zm rfl<|bk (l:=[]) 62 (B (y19&&(decide (IntKind.u64.wrap (1*2 ^ min (Int.toNat (IntKind.u64.wrap 63)) IntKind.u64.bits) < x21)))) (fun K=>?_) ?_
    ·rcases ap y19 with h33 | h33
     ·refine zM h33 rfl<|zM h33 rfl<|zU h33 rfl (eN rfl rfl)<|zS rfl (aD (av:=.v _) rfl h33 rfl) ?_;exact K _ 3 _ (aw (cd h33)) rfl rfl
     ·refine zF h33 rfl<|zF h33 rfl<|zF h33 rfl<|zS rfl (aF (av:=.v _) rfl h33 rfl) ?_;exact K _ 3 _ (aw (cq h33)) rfl rfl
    refine ag<|ax rfl (fun c34=>?_) (fun c34=>?_)
    ·replace H:=be c34 H;refine ac ?_;obtain ⟨g35,H⟩:=aI H;obtain ⟨g36,H⟩:=aI H;refine aa ?_;show AR _ _ _ _ _ [0,1,2,3,4,5] _;refine zm rfl<|zS rfl (qU (by kernel_rfl) Tryz.underlying2 rfl g35)<|zS rfl (g_neg rfl g36)<|zS rfl (bW (a:=.v _) cB rfl rfl)<|za rfl<|zS rfl (aZ (av:=.ifc _ _) rfl)<|ag<|aQ ?_;obtain ⟨rfl,rfl⟩:=ek H;exact And.intro rfl (Exists.intro _ (Exists.intro _ ⟨bt rfl (.refl _) (.refl _),aK [] rfl,rfl,rfl⟩))
    ·replace H:=bf c34 H;refine aC<|ac ?_;obtain ⟨g37,H⟩:=aI H;refine aa ?_;show AR _ _ _ _ _ [0,1,2] _;refine zm rfl<|zS rfl (qU (by kernel_rfl) Tryz.underlying2 rfl g37)<|za rfl<|ag<|bq (X:=Int) (fun y40=>⟨[(11,i64 y40)],[],[]⟩) (fun y40=>fb y40=some (r4,r5)) ?_ ?_
     ·refine ac<|aa ?_;show AR _ _ _ _ _ [0] _;refine zm rfl<|ag<|ax rfl (fun c38=>?_) (fun c38=>?_)
      ·replace H:=be c38 H;obtain ⟨g39,H⟩:=aI H;refine aa ?_;show AR _ _ _ _ _ [0,1,2] _;refine zm rfl<|zS rfl (g_neg rfl g39)<|za rfl<|ag ?_;exact Exists.intro (0 - x21) ⟨H,aP [] (.cons (.refl _) (.nil _)) rfl⟩
      ·replace H:=bf c38 H;refine aC ?_;exact Exists.intro x21 ⟨H,aP [] (.cons (.refl _) (.nil _)) rfl⟩
     rintro y40 H;replace H:fb y40=some (r4,r5):=H
     unfold fb at H
     refine ac<|aa ?_;show AR _ _ _ _ _ [0,1,2] _;refine zm rfl<|za rfl<|za rfl<|ag<|aQ ?_;obtain ⟨rfl,rfl⟩:=ek H;exact And.intro rfl (Exists.intro _ (Exists.intro _ ⟨bt rfl (.refl _) (.refl _),aK [] rfl,rfl,rfl⟩))
set_option maxRecDepth 100000 in
set_option maxHeartbeats 1000000 in
theorem pC (F:Nat) (a1:List UInt8) (a2:Int) (a3:Int) (r4:Int) (r5:Int) (H:eb F a1 a2 a3=some (r4,r5)):ACalls Tryz.prog 159 [S a1,i64 a2,i64 a3] [] (Ret (.tup [i64 r4,eAny 192 r5]) []):=by
 unfold eb at H
 refine az Tryz.func159 rfl rfl ?_;show AW _ _ 25 _ _ _;refine ac<|aa ?_;show AR _ _ _ _ _ [0,1] _;refine za rfl<|za rfl<|ag<|ac ?_;obtain ⟨x6,x7,e8,H⟩:=dd H;refine aa ?_;show AR _ _ _ _ _ [0,1,2,3,4,5,6,7,8] _;refine zm rfl<|zm rfl<|zm rfl<|ar rfl rfl (aX rfl Bl rfl (tP F a1 a2 a3 x6 x7 e8) ?_);refine zS rfl (ah (av:=.tup _) rfl)<|zS rfl (ba (av:=.v _) rfl rfl)<|zS rfl (ba (av:=lD _ _ _) rfl rfl)<|za rfl<|zS rfl (aZ (av:=lD _ _ _) rfl)<|ag<|ac<|ac<|aa ?_;show AR _ _ _ _ _ [0,1] _;refine zS rfl (ah (av:=lD _ _ _) rfl)<|zS rfl (pN fK rfl rfl)<|ag<|ax rfl (fun c9=>?_) (fun c9=>?_)
 ·replace H:=be c9 H;refine ac ?_;obtain ⟨g10,H⟩:=aI H;obtain ⟨g11,H⟩:=aI H;refine aa ?_;show AR _ _ _ _ _ [0,1,2,3,4,5,6,7] _;refine zm rfl<|zm rfl<|zm rfl<|zm rfl<|zS rfl (ah (av:=lD _ _ _) rfl)<|ar rfl rfl (aX rfl Bk rfl (wO _ _ _ _ x7 (pP g10) (of_decide_eq_true g11)) ?_);refine za rfl<|zS rfl (aZ (av:=.ifc _ _) rfl)<|ag<|aQ ?_;obtain ⟨rfl,rfl⟩:=ek H;exact And.intro rfl (Exists.intro _ (Exists.intro _ ⟨bt rfl (.refl _) (.ifc _ _),aK [] rfl,rfl,rfl⟩))
 ·replace H:=bf c9 H;refine aC<|ac<|aa ?_;show AR _ _ _ _ _ [0,1,2] _;refine zm rfl<|za rfl<|za rfl<|ag<|aQ ?_;obtain ⟨rfl,rfl⟩:=ek H;exact And.intro rfl (Exists.intro _ (Exists.intro _ ⟨bt rfl (.refl _) (.refl _),aK [] rfl,rfl,rfl⟩))
end Go.Proofs.YteokdkimegepoaaGreatDoor
namespace Go.Pv
def kR (F:Nat) (a1:Int):Option Bool :=
bif (decide (0≤a1))&&(decide (a1 < 55296)) then
  some true
else
  bif (decide (57343 < a1))&&(decide (a1≤1114111)) then
    some true
  else
    some false
def nA:Option Int :=
some (-1)
def fo (a1:List UInt8) (rec11:Nat→Option Int) (y10:Nat):Option Int :=
bif decide (y10 < a1.length) then
  grd (!(decide (((nV a1 y10).1:Int)=65533))) <|
  rec11 (y10+(nV a1 y10).2)
else
  nA
def jP (a1:List UInt8) (n:Nat):Nat→Option Int :=
  loop (fun rec x=>fo a1 rec x) n
def kK:Option Int :=
some (-1)
def jQ (a1:List UInt8) (x20:List UInt8) (rec23:Unit→Option Int):Option Int :=
bif decide ((x20.length:Int) - 1 < (a1.length:Int)) then
  grd (co ((x20.length:Int) - 1) a1.length) <|
  lt (at_ a1 ((x20.length:Int) - 1)) fun x27 =>
  grd (co ((x20.length:Int) - 1) x20.length) <|
  lt (at_ x20 ((x20.length:Int) - 1)) fun x30 =>
  grd (!decide (x27=x30)) <|
  grd (okI (((x20.length:Int) - 1)+1)) <|
  grd (mb (((x20.length:Int) - 1)+1) a1.length) <|
  lt (gW a1 (((x20.length:Int) - 1)+1)) fun x35 =>
  grd (co ((x20.length:Int) - 1) x20.length) <|
  lt (at_ x20 ((x20.length:Int) - 1)) fun x38 =>
  lt (Go.Lib.indexByte x35 x38) fun x40 =>
  grd (decide (x40 < 0)) <|
  some (-1)
else
  kK
def lZ (a1:List UInt8) (x20:List UInt8) (n:Nat):Unit→Option Int :=
  loop (fun rec x=>jQ a1 x20 rec) n
def jW (F:Nat) (a1:List UInt8) (a2:Int):Option Int :=
bif (decide (0≤a2))&&(decide (a2 < 128)) then
  lt (Go.Lib.indexByte a1 (Go.Av.toB a2)) fun x6 =>
  some x6
else
  bif decide (a2=65533) then
    jP a1 F 0
  else
    bnd (kR F a2) fun x17 =>
    bif !x17 then
      some (-1)
    else
      lt (dh a2) fun x20 =>
      grd (okI ((x20.length:Int) - 1)) <|
      lZ a1 x20 F ()
def tA (F:Nat) (a1:Int):Option Bool :=
some (decide (8 < a1))
def jR (F:Nat) (a1:List UInt8) (y11:Int):Option Int :=
bnd (jW F a1 y11) fun x13 =>
some x13
def kM:Option Int :=
some (-1)
def jT (F:Nat) (a1:List UInt8) (a2:List UInt8) (rec22:Nat→Option Int) (y21:Nat):Option Int :=
bif decide (y21 < a1.length) then
  bnd (jW F a2 ((nV a1 y21).1:Int)) fun x25 =>
  bif decide (0≤x25) then
    some (y21:Int)
  else
    rec22 (y21+(nV a1 y21).2)
else
  kM
def jS (F:Nat) (a1:List UInt8) (a2:List UInt8) (n:Nat):Nat→Option Int :=
  loop (fun rec x=>jT F a1 a2 rec x) n
def kL (F:Nat) (a1:List UInt8) (a2:List UInt8):Option Int :=
jS F a1 a2 F 0
def nU (F:Nat) (a1:List UInt8) (a2:List UInt8):Option Int :=
bif decide (a2=([]:List UInt8)) then
  some (-1)
else
  bif decide ((a2.length:Int)=1) then
    grd (co 0 a2.length) <|
    lt (at_ a2 0) fun x7 =>
    grd (okJ (x7.toNat:Int)) <|
    bif decide (128≤(x7.toNat:Int)) then
      jR F a1 65533
    else
      jR F a1 (x7.toNat:Int)
  else
    bnd (tA F (a1.length:Int)) fun x15 =>
    grd (!x15) <|
    kL F a1 a2
def mX (F:Nat) (s chars:List UInt8):Option Int:=bif decide (8 < s.length)&&decide (2≤chars.length) then some (Go.Lib.indexAny s chars) else nU F s chars
def iM (F:Nat) (a1:List UInt8) (a2:List UInt8):Option Bool :=
grd (km a2) <|
grd (okS a1.length) <|
grd (okS a2.length) <|
bnd (mX F a1 a2) fun x7 =>
some (decide (0≤x7))
end Go.Pv
namespace Go.Proofs.YteokdkimegepoaaGreatDoor
open Go.RowKit Go.Av Go.Pv
theorem xF:∀ (args:Array Value) (w:World),(callFunc 62 args).run Tryz.prog w=.ok (.enter 62 args) w:=fun _ _=>by kernel_rfl
theorem vh:∀ (args:Array Value) (w:World),(callFunc 105 args).run Tryz.prog w=.ok (.enter 105 args) w:=fun _ _=>by kernel_rfl
theorem Bw:∀ (args:Array Value) (w:World),(callFunc 121 args).run Tryz.prog w=.ok (.enter 121 args) w:=fun _ _=>by kernel_rfl
theorem Bp:∀ (args:Array Value) (w:World),(callFunc 133 args).run Tryz.prog w=.ok (.enter 133 args) w:=fun _ _=>by kernel_rfl
theorem Bm:∀ (args:Array Value) (w:World),(callFunc 148 args).run Tryz.prog w=.ok (.enter 148 args) w:=fun _ _=>by kernel_rfl
set_option maxRecDepth 100000 in
set_option maxHeartbeats 1000000 in
theorem wA (F:Nat) (a1:Int) (r2:Bool) (H:kR F a1=some r2):ACalls Tryz.prog 121 [.v (.int .i32 a1)] [] (Ret (B r2) []):=by
 unfold kR at H
 refine az Tryz.func121 rfl rfl ?_;show AW _ _ 17 _ _ _;refine ac<|aa ?_;show AR _ _ _ _ _ [0] _;refine za rfl<|ag<|ac<|aR<|ac<|aa ?_;show AR _ _ _ _ _ [0,1,2,3,4,5,6] _;refine zm rfl<|zS rfl (dW rfl rfl)<|zm rfl<|bk (l:=[6]) 9 (B ((decide (0≤a1))&&(decide (a1 < 55296)))) (fun K=>?_) ?_
 ·rcases ap (decide (0≤a1)) with h3 | h3
  ·refine zM h3 rfl<|zU h3 rfl (bN rfl rfl)<|zS rfl (aD (av:=.v _) rfl h3 rfl) ?_;exact K _ 2 _ (aw (cd h3)) rfl rfl
  ·refine zF h3 rfl<|zF h3 rfl<|zS rfl (aF (av:=.v _) rfl h3 rfl) ?_;exact K _ 2 _ (aw (cq h3)) rfl rfl
 refine za rfl<|ag<|ax rfl (fun c4=>?_) (fun c4=>?_)
 ·replace H:=be c4 H;refine ac<|aa ?_;show AR _ _ _ _ _ [0] _;refine za rfl<|ag<|aQ ?_;obtain rfl:=aq H;exact And.intro rfl (Exists.intro _ (Exists.intro _ ⟨aO rfl (.refl _),aK [] rfl,rfl,rfl⟩))
 ·replace H:=bf c4 H;refine ac<|aa ?_;show AR _ _ _ _ _ [0,1,2,3,4,5,6] _;refine zm rfl<|zS rfl (bN rfl rfl)<|zm rfl<|bk (l:=[6]) 16 (B ((decide (57343 < a1))&&(decide (a1≤1114111)))) (fun K=>?_) ?_
  ·rcases ap (decide (57343 < a1)) with h5 | h5
   ·refine zM h5 rfl<|zU h5 rfl (dW rfl rfl)<|zS rfl (aD (av:=.v _) rfl h5 rfl) ?_;exact K _ 2 _ (aw (cd h5)) rfl rfl
   ·refine zF h5 rfl<|zF h5 rfl<|zS rfl (aF (av:=.v _) rfl h5 rfl) ?_;exact K _ 2 _ (aw (cq h5)) rfl rfl
  refine za rfl<|ag<|ax rfl (fun c6=>?_) (fun c6=>?_)
  ·replace H:=be c6 H;refine ac<|aa ?_;show AR _ _ _ _ _ [0] _;refine za rfl<|ag<|aQ ?_;obtain rfl:=aq H;exact And.intro rfl (Exists.intro _ (Exists.intro _ ⟨aO rfl (.refl _),aK [] rfl,rfl,rfl⟩))
  ·replace H:=bf c6 H;refine aC<|ac<|aa ?_;show AR _ _ _ _ _ [0] _;refine za rfl<|ag<|aQ ?_;obtain rfl:=aq H;exact And.intro rfl (Exists.intro _ (Exists.intro _ ⟨aO rfl (.refl _),aK [] rfl,rfl,rfl⟩))
abbrev _root_.Go.Av.fL := @Tryz.underlying21
set_option maxRecDepth 100000 in
set_option maxHeartbeats 1000000 in
theorem ur (F:Nat) (a1:List UInt8) (a2:Int) (r3:Int) (H:jW F a1 a2=some r3):ACalls Tryz.prog 105 [S a1,.v (.int .i32 a2)] [] (Ret (i64 r3) []):=by
 unfold jW at H
 refine az Tryz.func105 rfl rfl ?_;show AW _ _ 187 _ _ _;refine ac<|aa ?_;show AR _ _ _ _ _ [0] _;refine za rfl<|ag<|aR<|ac<|aa ?_;show AR _ _ _ _ _ [0,1,2,3,4,5,6] _;refine zm rfl<|zS rfl (dW rfl rfl)<|zm rfl<|bk (l:=[6]) 166 (B ((decide (0≤a2))&&(decide (a2 < 128)))) (fun K=>?_) ?_
 ·rcases ap (decide (0≤a2)) with h4 | h4
  ·refine zM h4 rfl<|zU h4 rfl (bN rfl rfl)<|zS rfl (aD (av:=.v _) rfl h4 rfl) ?_;exact K _ 2 _ (aw (cd h4)) rfl rfl
  ·refine zF h4 rfl<|zF h4 rfl<|zS rfl (aF (av:=.v _) rfl h4 rfl) ?_;exact K _ 2 _ (aw (cq h4)) rfl rfl
 refine za rfl<|ag<|ax rfl (fun c5=>?_) (fun c5=>?_)
 ·replace H:=be c5 H;refine ac ?_;obtain ⟨x6,e7,H⟩:=bz H;refine aa ?_;show AR _ _ _ _ _ [0,1,2,3,4] _;refine zm rfl<|zm rfl<|zS rfl (eE (by kernel_rfl) bi rfl)<|ar rfl rfl (aX rfl xF rfl (show ACalls _ _ _ [] (Ret (i64 x6) []) from by subst e7; exact fY a1 (Go.Av.toB a2)) ?_);refine za rfl<|ag<|aQ ?_;obtain rfl:=aq H;exact And.intro rfl (Exists.intro _ (Exists.intro _ ⟨aO rfl (.refl _),aK [] rfl,rfl,rfl⟩))
 ·replace H:=bf c5 H;refine ac<|aa ?_;show AR _ _ _ _ _ [0,1,2] _;refine zm rfl<|zS rfl (bI rfl rfl)<|za rfl<|ag<|ax rfl (fun c8=>?_) (fun c8=>?_)
  ·replace H:=be c8 H;refine bq (X:=Unit) (fun _=>⟨[],[],[]⟩) (fun _=>nA=some r3) ?_ ?_
   ·refine ac<|aa ?_;show AR _ _ _ _ _ [0,1] _;refine zm rfl<|zX rfl (px ab rfl) ?_;rintro _ _ ⟨o9,rfl,rfl⟩;refine ag<|aR<|cl (X:=Nat×Nat) (fun (n12,y10)=>⟨[(175,.pt o9 0)],[],[.iter o9 a1 y10]⟩) (fun (n12,y10)=>jP a1 n12 y10=some r3) (fun (n12,y10)=>n12) (F,0) H (aP [0] (.cons (.refl _) (.nil _)) rfl) ?_;rintro ⟨n12,y10⟩ H;obtain ⟨n12,rfl,H⟩:=cO H;replace H:fo a1 (jP a1 n12) y10=some r3:=H
    unfold fo at H
    refine ac ?_
    rcases ap (decide (y10 < a1.length)) with c13 | c13
    ·replace H:=be c13 H;refine aa ?_;show AR _ _ _ _ _ [0,1] _;refine zR rfl (xA (i:=0) rfl rfl c13)<|zS rfl (ba (av:=.v _) rfl rfl)<|ag<|ac<|ax rfl (fun _=>?_) (fun hx=>bP rfl hx);refine aC<|aR<|ac<|aa ?_;show AR _ _ _ _ _ [0,1,2,3] _;refine zS rfl (ba (av:=.v _) rfl rfl)<|zS rfl (ba (av:=.v _) rfl rfl)<|za rfl<|za rfl<|ag<|ac<|aa ?_;show AR _ _ _ _ _ [0,1] _;refine zm rfl<|zS rfl (bI rfl rfl)<|ag ?_;obtain ⟨g15,H⟩:=aI H;replace g15:=fn g15;refine ax rfl (fun hx=>bP hx g15) (fun _=>?_);refine aC ?_;exact Exists.intro (n12,y10+(nV a1 y10).2) ⟨H,Nat.lt_succ_self _,aP [0] (.cons (.refl _) (.nil _)) rfl⟩
    ·replace H:=bf c13 H;refine aa ?_;show AR _ _ _ _ _ [0,1] _;refine zR rfl (xB (i:=0) rfl rfl c13)<|zS rfl (ba (av:=.v _) rfl rfl)<|ag<|ac<|ax rfl (fun hx=>bP hx rfl) (fun _=>?_);refine bU ?_;exact Exists.intro () ⟨H,aP [] (.nil _) rfl⟩
   rintro _ H;replace H:nA=some r3:=H
   unfold nA at H
   refine ac<|aa ?_;show AR _ _ _ _ _ [0] _;refine za rfl<|ag<|aQ ?_;obtain rfl:=aq H;exact And.intro rfl (Exists.intro _ (Exists.intro _ ⟨aO rfl (.refl _),aK [] rfl,rfl,rfl⟩))
  ·replace H:=bf c8 H;refine ac ?_;obtain ⟨x17,e18,H⟩:=cm H;refine aa ?_;show AR _ _ _ _ _ [0,1,2,3] _;refine zm rfl<|ar rfl rfl (aX rfl Bw rfl (wA F a2 x17 e18) ?_);refine zS rfl (ca rfl)<|za rfl<|ag<|ax rfl (fun c19=>?_) (fun c19=>?_)
   ·replace H:=be c19 H;refine ac<|aa ?_;show AR _ _ _ _ _ [0] _;refine za rfl<|ag<|aQ ?_;obtain rfl:=aq H;exact And.intro rfl (Exists.intro _ (Exists.intro _ ⟨aO rfl (.refl _),aK [] rfl,rfl,rfl⟩))
   ·replace H:=bf c19 H;refine AW.scope<|ac ?_;obtain ⟨x20,e21,H⟩:=bz H;refine aa ?_;show AR _ _ _ _ _ [0,1,2] _;refine zm rfl<|zS rfl (pM fL ab rfl e21)<|za rfl<|ag<|ac ?_;obtain ⟨g22,H⟩:=aI H;refine aa ?_;show AR _ _ _ _ _ [0,1,2,3] _;refine zm rfl<|zS rfl (aW ab rfl)<|zS rfl (mc rfl rfl g22)<|za rfl<|ag<|ac<|aa ?_;show AR _ _ _ _ _ [0,1] _;refine zm rfl<|za rfl<|ag<|ac<|aa ?_;show AR _ _ _ _ _ [0] _;refine za rfl<|ag<|bq (X:=Unit) (fun _=>⟨[],[],[]⟩) (fun _=>kK=some r3) ?_ ?_
    ·refine aR<|cl (X:=Nat) (fun n24=>⟨[(0,S a1),(7,S x20),(8,i64 ((x20.length:Int) - 1)),(9,i64 ((x20.length:Int) - 1)),(10,i64 0)],[],[]⟩) (fun n24=>lZ a1 x20 n24 ()=some r3) (fun n24=>n24) F H (aP [] (.cons (.refl _) (.cons (.refl _) (.cons (.refl _) (.cons (.refl _) (.cons (.refl _) (.nil _)))))) rfl) ?_;rintro n24 H;obtain ⟨n24,rfl,H⟩:=cO H;replace H:jQ a1 x20 (lZ a1 x20 n24)=some r3:=H
     unfold jQ at H
     refine ac<|ac<|aa ?_;show AR _ _ _ _ _ [0,1,2,3] _;refine zm rfl<|zm rfl<|zS rfl (aW ab rfl)<|zS rfl (bN rfl rfl)<|ag<|ax rfl (fun c25=>?_) (fun c25=>?_)
     ·replace H:=be c25 H;refine aC<|aR<|AW.scope<|ac<|ac ?_;obtain ⟨g26,H⟩:=aI H;obtain ⟨x27,e28,H⟩:=bz H;obtain ⟨g29,H⟩:=aI H;obtain ⟨x30,e31,H⟩:=bz H;refine bn (by kernel_rfl) ?_;show AI _ _ _ _ _ 7 (Array.replicate 7 false) _;refine zk 0 rfl (mv rfl) ?_;show zI 7 1;refine zk 1 rfl (mv rfl) ?_;show zI 7 3;refine zk 2 rfl (bg ab rfl rfl g26 e28) ?_;show zI 7 7;refine zk 3 rfl (mv rfl) ?_;show zI 7 15;refine zk 4 rfl (mv rfl) ?_;show zI 7 31;refine zk 5 rfl (bg ab rfl rfl g29 e31) ?_;show zI 7 63;refine zk 6 rfl (sg (a:=x27) (b:=x30) rfl rfl) ?_;show zI 7 127;refine bw rfl ?_;obtain ⟨g44,H⟩:=aI H;refine ax rfl (fun _=>?_) (fun hx=>bP g44 hx);refine ac ?_;obtain ⟨g33,H⟩:=aI H;obtain ⟨g34,H⟩:=aI H;obtain ⟨x35,e36,H⟩:=bz H;obtain ⟨g37,H⟩:=aI H;obtain ⟨x38,e39,H⟩:=bz H;obtain ⟨x40,e41,H⟩:=bz H;refine bn (by kernel_rfl) ?_;show AI _ _ _ _ _ 9 (Array.replicate 9 false) _;refine zk 0 rfl (mv rfl) ?_;show zI 9 1;refine zk 1 rfl (mv rfl) ?_;show zI 9 3;refine zk 2 rfl (bB rfl rfl g33) ?_;show zI 9 7;refine zk 3 rfl (ee ab rfl rfl g34 e36) ?_;show zI 9 15;refine zk 4 rfl (mv rfl) ?_;show zI 9 31;refine zk 5 rfl (mv rfl) ?_;show zI 9 63;refine zk 6 rfl (bg ab rfl rfl g37 e39) ?_;show zI 9 127
      refine bj (i:=7) (by kernel_rfl) rfl rfl<|dV rfl xF rfl (show ACalls _ _ _ [] (Ret (i64 x40) []) from by subst e41; exact fY x35 x38) ?_;show zI 9 255;refine zk 8 rfl (asg rfl) ?_;show zI 9 511;refine bw rfl<|ac<|ac<|aa ?_;show AR _ _ _ _ _ [0,1] _;refine zm rfl<|zS rfl (bN rfl rfl)<|ag ?_;obtain ⟨g43,H⟩:=aI H;refine ax rfl (fun _=>?_) (fun hx=>bP g43 hx);refine ac<|aa ?_;show AR _ _ _ _ _ [0] _;refine za rfl<|ag<|aQ ?_;obtain rfl:=aq H;exact And.intro rfl (Exists.intro _ (Exists.intro _ ⟨aO rfl (.refl _),aK [] rfl,rfl,rfl⟩))
     ·replace H:=bf c25 H;refine bU ?_;exact Exists.intro () ⟨H,aP [] (.nil _) rfl⟩
    rintro _ H;replace H:kK=some r3:=H
    unfold kK at H
    refine ac<|ac<|aa ?_;show AR _ _ _ _ _ [0] _;refine za rfl<|ag<|aQ ?_;obtain rfl:=aq H;exact And.intro rfl (Exists.intro _ (Exists.intro _ ⟨aO rfl (.refl _),aK [] rfl,rfl,rfl⟩))
set_option maxRecDepth 100000 in
set_option maxHeartbeats 1000000 in
theorem w_useSet (F:Nat) (a1:Int) (r2:Bool) (H:tA F a1=some r2):ACalls Tryz.prog 148 [i64 a1] [] (Ret (B r2) []):=by
 unfold tA at H
 refine az Tryz.func148 rfl rfl ?_;show AW _ _ 5 _ _ _;refine ac<|aa ?_;show AR _ _ _ _ _ [0] _;refine za rfl<|ag<|ac<|aa ?_;show AR _ _ _ _ _ [0,1,2] _;refine zm rfl<|zS rfl (eN rfl rfl)<|za rfl<|ag<|aQ ?_;obtain rfl:=aq H;exact And.intro rfl (Exists.intro _ (Exists.intro _ ⟨aO rfl (.refl _),aK [] rfl,rfl,rfl⟩))
set_option maxRecDepth 100000 in
set_option maxHeartbeats 1000000 in
theorem zY (F:Nat) (a1:List UInt8) (a2:List UInt8) (r3:Int) (H:nU F a1 a2=some r3):ACalls Tryz.prog 133 [S a1,S a2] [] (Ret (i64 r3) []):=by
 unfold nU at H
 refine az Tryz.func133 rfl rfl ?_;show AW _ _ 55 _ _ _;refine ac<|aa ?_;show AR _ _ _ _ _ [0] _;refine za rfl<|ag<|ac<|ac<|aa ?_;show AR _ _ _ _ _ [0,1] _;refine zm rfl<|zS rfl (cD rfl rfl)<|ag<|ax rfl (fun c4=>?_) (fun c4=>?_)
 ·replace H:=be c4 H;refine ac<|aa ?_;show AR _ _ _ _ _ [0] _;refine za rfl<|ag<|aQ ?_;obtain rfl:=aq H;exact And.intro rfl (Exists.intro _ (Exists.intro _ ⟨aO rfl (.refl _),aK [] rfl,rfl,rfl⟩))
 ·replace H:=bf c4 H;refine aC<|ac<|ac<|aa ?_;show AR _ _ _ _ _ [0,1,2] _;refine zm rfl<|zS rfl (aW ab rfl)<|zS rfl (bI rfl rfl)<|ag<|ax rfl (fun c5=>?_) (fun c5=>?_)
  ·replace H:=be c5 H;refine ac ?_;obtain ⟨g6,H⟩:=aI H;obtain ⟨x7,e8,H⟩:=bz H;obtain ⟨g9,H⟩:=aI H;refine aa ?_;show AR _ _ _ _ _ [0,1,2,3] _;refine zm rfl<|zS rfl (bg ab rfl rfl g6 e8)<|zS rfl (uI (by kernel_rfl) fL rfl g9)<|za rfl<|ag<|bq (X:=Int) (fun y11=>⟨[(0,S a1),(5,.v (.int .i32 y11))],[],[]⟩) (fun y11=>jR F a1 y11=some r3) ?_ ?_
   ·refine ac<|aa ?_;show AR _ _ _ _ _ [0,1] _;refine zm rfl<|zS rfl (cX rfl rfl)<|ag<|ax rfl (fun c10=>?_) (fun c10=>?_)
    ·replace H:=be c10 H;refine aa ?_;show AR _ _ _ _ _ [0] _;refine za rfl<|ag ?_;exact Exists.intro 65533 ⟨H,aP [] (.cons (.refl _) (.cons (.refl _) (.nil _))) rfl⟩
    ·replace H:=bf c10 H;refine aC ?_;exact Exists.intro (x7.toNat:Int) ⟨H,aP [] (.cons (.refl _) (.cons (.refl _) (.nil _))) rfl⟩
   rintro y11 H;replace H:jR F a1 y11=some r3:=H
   unfold jR at H
   refine ac ?_;obtain ⟨x13,e14,H⟩:=cm H;refine aa ?_;show AR _ _ _ _ _ [0,1,2,3] _;refine zm rfl<|zm rfl<|ar rfl rfl (aX rfl vh rfl (ur F a1 y11 x13 e14) ?_);refine za rfl<|ag<|aQ ?_;obtain rfl:=aq H;exact And.intro rfl (Exists.intro _ (Exists.intro _ ⟨aO rfl (.refl _),aK [] rfl,rfl,rfl⟩))
  ·replace H:=bf c5 H;refine aC<|bq (X:=Unit) (fun _=>⟨[(0,S a1),(1,S a2)],[],[]⟩) (fun _=>kL F a1 a2=some r3) ?_ ?_
   ·refine ac ?_;obtain ⟨x15,e16,H⟩:=cm H;refine aa ?_;show AR _ _ _ _ _ [0,1,2] _;refine zm rfl<|zS rfl (aW ab rfl)<|ar rfl rfl (aX rfl Bm rfl (w_useSet F (a1.length:Int) x15 e16) ?_);refine ag ?_;obtain ⟨g18,H⟩:=aI H;replace g18:=fn g18;refine ax rfl (fun hx=>bP hx g18) (fun _=>?_);refine aC ?_;exact Exists.intro () ⟨H,aP [] (.cons (.refl _) (.cons (.refl _) (.nil _))) rfl⟩
   rintro _ H;replace H:kL F a1 a2=some r3:=H
   unfold kL at H
   refine bq (X:=Unit) (fun _=>⟨[],[],[]⟩) (fun _=>kM=some r3) ?_ ?_
   ·refine ac<|aa ?_;show AR _ _ _ _ _ [0,1] _;refine zm rfl<|zX rfl (px ab rfl) ?_;rintro _ _ ⟨o20,rfl,rfl⟩;refine ag<|aR<|cl (X:=Nat×Nat) (fun (n23,y21)=>⟨[(1,S a2),(45,.pt o20 0)],[],[.iter o20 a1 y21]⟩) (fun (n23,y21)=>jS F a1 a2 n23 y21=some r3) (fun (n23,y21)=>n23) (F,0) H (aP [0] (.cons (.refl _) (.cons (.refl _) (.nil _))) rfl) ?_;rintro ⟨n23,y21⟩ H;obtain ⟨n23,rfl,H⟩:=cO H;replace H:jT F a1 a2 (jS F a1 a2 n23) y21=some r3:=H
    unfold jT at H
    refine ac ?_
    rcases ap (decide (y21 < a1.length)) with c24 | c24
    ·replace H:=be c24 H;refine aa ?_;show AR _ _ _ _ _ [0,1] _;refine zR rfl (xA (i:=0) rfl rfl c24)<|zS rfl (ba (av:=.v _) rfl rfl)<|ag<|ac<|ax rfl (fun _=>?_) (fun hx=>bP rfl hx);refine aC<|aR<|ac<|aa ?_;show AR _ _ _ _ _ [0,1,2,3] _;refine zS rfl (ba (av:=.v _) rfl rfl)<|zS rfl (ba (av:=.v _) rfl rfl)<|za rfl<|za rfl<|ag<|ac ?_;obtain ⟨x25,e26,H⟩:=cm H;refine aa ?_;show AR _ _ _ _ _ [0,1,2,3] _;refine zm rfl<|zm rfl<|ar rfl rfl (aX rfl vh rfl (ur F a2 ((nV a1 y21).1:Int) x25 e26) ?_);refine zS rfl (cX rfl rfl)<|ag<|ax rfl (fun c27=>?_) (fun c27=>?_)
     ·replace H:=be c27 H;refine ac<|aa ?_;show AR _ _ _ _ _ [0,1] _;refine zm rfl<|za rfl<|ag<|aQ ?_;obtain rfl:=aq H;exact And.intro rfl (Exists.intro _ (Exists.intro _ ⟨aO rfl (.refl _),aK [] rfl,rfl,rfl⟩))
     ·replace H:=bf c27 H;refine aC ?_;exact Exists.intro (n23,y21+(nV a1 y21).2) ⟨H,Nat.lt_succ_self _,aP [0] (.cons (.refl _) (.cons (.refl _) (.nil _))) rfl⟩
    ·replace H:=bf c24 H;refine aa ?_;show AR _ _ _ _ _ [0,1] _;refine zR rfl (xB (i:=0) rfl rfl c24)<|zS rfl (ba (av:=.v _) rfl rfl)<|ag<|ac<|ax rfl (fun hx=>bP hx rfl) (fun _=>?_);refine bU ?_;exact Exists.intro () ⟨H,aP [] (.nil _) rfl⟩
   rintro _ H;replace H:kM=some r3:=H
   unfold kM at H
   refine ac<|aa ?_;show AR _ _ _ _ _ [0] _;refine za rfl<|ag<|aQ ?_;obtain rfl:=aq H;exact And.intro rfl (Exists.intro _ (Exists.intro _ ⟨aO rfl (.refl _),aK [] rfl,rfl,rfl⟩))
theorem qf (F:Nat) (s chars:List UInt8) (x:Int) (h1:km chars=true) (h2:okS s.length=true) (h3:okS chars.length=true) (H:mX F s chars=some x):ACalls Tryz.prog 133 [S s,S chars] [] (Ret (i64 x) []):=by
 unfold mX at H
 cases hb:(decide (8 < s.length)&&decide (2≤chars.length)) with
 | true =>
  rw [hb] at H
  obtain rfl:=aq H
  simp only [Bool.and_eq_true,decide_eq_true_eq] at hb
  refine fF fun I A w vs hI hv=>?_
  obtain ⟨v1,r1,rfl,e1,hv⟩:=hv.out_cons;obtain ⟨v2,r2,rfl,e2,hv⟩:=hv.out_cons
  rw [hv.out_nil,kD e1,kD e2]
  refine (Tryz.strings_IndexAny_long (fun _=>by kernel_rfl) ⟨s.toArray⟩ ⟨chars.toArray⟩ w (by simpa [ByteArray.size] using hb.2) (by simpa [ByteArray.size] using hb.1) (by simpa [ByteArray.size] using pP h2) (by simpa [ByteArray.size] using pP h3) (fun j b hj=>tw h1 j b (by simpa using hj))).mono fun e w' ⟨he,hw⟩=>⟨by simpa using he,?_⟩
  subst hw;exact ((Below.refl _ _).alloc (Nat.le_refl _) _).alloc (by simp) _
 | false=>rw [hb] at H; exact zY F s chars x H
set_option maxRecDepth 100000 in
set_option maxHeartbeats 1000000 in
theorem tW (F:Nat) (a1:List UInt8) (a2:List UInt8) (r3:Bool) (H:iM F a1 a2=some r3):ACalls Tryz.prog 158 [S a1,S a2] [] (Ret (B r3) []):=by
 unfold iM at H
 refine az Tryz.func158 rfl rfl ?_;show AW _ _ 9 _ _ _;refine ac<|aa ?_;show AR _ _ _ _ _ [0] _;refine za rfl<|ag<|ac ?_;obtain ⟨g4,H⟩:=aI H;obtain ⟨g5,H⟩:=aI H;obtain ⟨g6,H⟩:=aI H;obtain ⟨x7,e8,H⟩:=cm H;refine aa ?_;show AR _ _ _ _ _ [0,1,2,3,4] _;refine zm rfl<|zm rfl<|ar rfl rfl (aX rfl Bp rfl (qf F a1 a2 x7 g4 g5 g6 e8) ?_);refine zS rfl (cX rfl rfl)<|za rfl<|ag<|aQ ?_;obtain rfl:=aq H;exact And.intro rfl (Exists.intro _ (Exists.intro _ ⟨aO rfl (.refl _),aK [] rfl,rfl,rfl⟩))
end Go.Proofs.YteokdkimegepoaaGreatDoor
namespace Go.Pv
def kA (F:Nat) (a1:Int):Option ((List UInt8)×Bool) :=
lL (!(((decide (a1=9))||(decide (a1=10)))||(decide (a1=13)))) (mY F a1 32 55295) fun x7 =>
lL ((!(((decide (a1=9))||(decide (a1=10)))||(decide (a1=13))))&&(!x7)) (mY F a1 57344 65533) fun x10 =>
lL (((!(((decide (a1=9))||(decide (a1=10)))||(decide (a1=13))))&&(!x7))&&(!x10)) (mY F a1 65536 1114111) fun x13 =>
bif (((!(((decide (a1=9))||(decide (a1=10)))||(decide (a1=13))))&&(!x7))&&(!x10))&&(!x13) then
  some (([]:List UInt8),false)
else
  grd (okJ a1) <|
  lt (dh a1) fun x17 =>
  some (x17,true)
def lR (F:Nat):Option ((List (List UInt8×Int))) :=
some ([(([97,109,112]:List UInt8),38),(([108,116]:List UInt8),60),(([103,116]:List UInt8),62),(([113,117,111,116]:List UInt8),34),(([97,112,111,115]:List UInt8),39)]:List (List UInt8×Int))
def eF (F:Nat) (a1:List UInt8) (a2:Int):Option ((List UInt8)×Bool) :=
fq (!(decide (a1=([]:List UInt8)))) (co 0 a1.length) <|
lt (at_ a1 0) fun x7 =>
fq (!((decide (a1=([]:List UInt8)))||(decide (x7=43)))) (co 0 a1.length) <|
lt (at_ a1 0) fun x11 =>
fq (!(((decide (a1=([]:List UInt8)))||(decide (x7=43)))||(decide (x11=45)))) (co 0 a1.length) <|
lt (at_ a1 0) fun x15 =>
lL (!((((decide (a1=([]:List UInt8)))||(decide (x7=43)))||(decide (x11=45)))||(decide (x15=95)))) (iM F a1 ([95]:List UInt8)) fun x18 =>
bif ((((decide (a1=([]:List UInt8)))||(decide (x7=43)))||(decide (x11=45)))||(decide (x15=95)))||x18 then
  some (([]:List UInt8),false)
else
  iE (eb F a1 a2 0) fun x21 x22 =>
  bif !decide (x22=0) then
    some (([]:List UInt8),false)
  else
    iE (kA F x21) fun x25 x26 =>
    some (x25,x26)
def jK (F:Nat) (a1:List UInt8):Option ((List UInt8)×Bool) :=
bnd (lR F) fun x4 =>
bif Go.Av.mhas x4 a1 then
  lt (dh (Go.Av.mget x4 a1)) fun x7 =>
  some (x7,true)
else
  lt (Go.Lib.trimPrefix a1 ([35,120]:List UInt8),Go.Lib.hasPrefix a1 ([35,120]:List UInt8)) fun x9 =>
  bif x9.2 then
    iE (eF F x9.1 16) fun x12 x13 =>
    some (x12,x13)
  else
    lt (Go.Lib.trimPrefix a1 ([35]:List UInt8),Go.Lib.hasPrefix a1 ([35]:List UInt8)) fun x15 =>
    bif x15.2 then
      iE (eF F x15.1 10) fun x18 x19 =>
      some (x18,x19)
    else
      some (([]:List UInt8),false)
def kP (F:Nat) (a1:List UInt8):Option ((List UInt8)×Int) :=
grd (mb 1 a1.length) <|
lt (gW a1 1) fun x5 =>
grd (km ([38,59]:List UInt8)) <|
grd (okS x5.length) <|
grd (okS ([38,59]:List UInt8).length) <|
bnd (mX F x5 ([38,59]:List UInt8)) fun x10 =>
bnd (mY F x10 1 10) fun x12 =>
fq (!(!x12)) (okI (x10+1)) <|
fq (!(!x12)) (co (x10+1) a1.length) <|
lt (at_ a1 (x10+1)) fun x17 =>
bif (!x12)||(decide (x17=38)) then
  some (([]:List UInt8),0)
else
  grd (okI (x10+1)) <|
  grd (mG 1 (x10+1) a1.length) <|
  lt (sub a1 1 (x10+1)) fun x22 =>
  iE (jK F x22) fun x24 x25 =>
  bif !x25 then
    some (([]:List UInt8),0)
  else
    grd (okI (x10+2)) <|
    some (x24,x10+2)
def kc (rec11:((List UInt8)×Bool×(List UInt8))→Option ((List UInt8)×Bool)) (x25:List UInt8) (x29:List UInt8) (y35:Bool) (y36:List UInt8) (y37:Int):Option ((List UInt8)×Bool) :=
grd (okW x25 y36) <|
lt (x25++y36) fun x40 =>
grd (mb y37 x29.length) <|
lt (gW x29 y37) fun x44 =>
rec11 (x44,y35,x40)
def ls (F:Nat) (rec11:((List UInt8)×Bool×(List UInt8))→Option ((List UInt8)×Bool)) (y6:List UInt8) (y7:Bool) (y9:List UInt8):Option ((List UInt8)×Bool) :=
lt (Go.Lib.indexByte y6 38) fun x13 =>
bif decide (x13 < 0) then
  grd (okW y9 y6) <|
  lt (y9++y6) fun x17 =>
  grd (okW x17 []) <|
  some (x17,y7)
else
  grd (mb x13 y6.length) <|
  lt (to_ y6 x13) fun x22 =>
  grd (okW y9 x22) <|
  lt (y9++x22) fun x25 =>
  grd (mb x13 y6.length) <|
  lt (gW y6 x13) fun x29 =>
  iE (kP F x29) fun x31 x32 =>
  bif decide (x32=0) then
    kc rec11 x25 x29 false ([38]:List UInt8) 1
  else
    kc rec11 x25 x29 y7 x31 x32
def iJ (F:Nat) (n:Nat):((List UInt8)×Bool×(List UInt8))→Option ((List UInt8)×Bool) :=
  loop (fun rec x=>ls F rec x.1 x.2.1 x.2.2) n
def np (F:Nat) (a1:List UInt8):Option ((List UInt8)×Bool) :=
iJ F F (a1,true,[])
def ma (F:Nat) (a1:List UInt8):Option ((List UInt8)×Int) :=
iE (np F a1) fun x4 x5 =>
bif !x5 then
  some (([]:List UInt8),2)
else
  some (x4,0)
end Go.Pv
