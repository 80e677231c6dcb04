/-
  Texts in one (only what XmlWrites needs): AvCore, AvWp, AvOps, AvMem, AvRow, AvDraw, AvMore, AvMost, AvObj, AvUns, AvMisc, AvLift, AvIter, Pv, AvG, AvZ, AvH, AvMap, AvE.
-/
import Derived.WalkKit
import Derived.WalkSpells
import Derived.WalkLawsBesides
import Derived.OrdersIn
import Derived.OrdersHeld
import Derived.RangeFuncIn
import Derived.DefersIn
import Derived.Laws.IdiomCopy
import Derived.Lib.UnsafeStr
import Derived.Lib.MakeNoZero
import Derived.Below
import Derived.Lib.AtoiErrMem
import Derived.Laws.RangeAny
import Derived.ScopeJumps
import Derived.MapKept
set_option linter.unusedVariables false
set_option linter.unusedSimpArgs false
set_option linter.unusedSectionVars false
namespace Go.Av
inductive AV where
  | v (x:Value)
  | sl (k:Nat) (cs:List AV) (t:Option Nat)
  | cp (cs:List AV)
  | pt (o off:Nat)
  | vw (o off len cap:Nat)
  | agg (cs:List AV)
  | tup (vs:List AV)
  | ifc (t:TypeId) (x:AV)
  | fn (f:Fn) (first captured:List AV)
  | yl (o:Nat)
  | tb (vs:List Value)
  | any
  | anyk (k:IntKind)
  | anyi
  | mp (es:List (List UInt8×Value))
  | rp (x:AV)
  | mk (t len:Nat)
  /-- A stack's header: it has n; its block is one's own. -/
  | sk (t n:Nat)
  /-- A pointer to a stack's cell. -/
  | skp (t i:Nat)
  deriving Inhabited
structure Info where
  ext:Nat→Option Nat
  obj:Nat→Option Nat
  tok:Nat→Option (Option Nat×Nat×Nat)
def Stab (I:Info) (b n:Nat):Prop:=∀ m,I.ext b=some m→n≤m
theorem Stab.le {I:Info} {b n m:Nat} (h:Stab I b n) (hm:m≤n):Stab I b m:=fun k hk=>Nat.le_trans hm (h k hk)
inductive Rel (I:Info) (w:World):AV→Value→Prop where
  | v (x:Value):Rel I w (.v x) x
  | any (x:Value):Rel I w .any x
  | anyk (k:IntKind) (n:Int):Rel I w (.anyk k) (.int k n)
  | anyi0:Rel I w .anyi .nilIface
  | anyi1 (t:TypeId) (v:Value):Rel I w .anyi (.iface t v)
  | mp (es:List (List UInt8×Value)) (r:Nat) (ents:Array MapEntry) (c:Nat) (h:w.heap[r]?=some (.map ents c)) (hst:I.ext r=none)
      (he:ents.toList.map (fun e=>(e.key,e.val))=es.map fun p=>(.string ⟨p.1.toArray⟩,p.2)):Rel I w (.mp es) (.map (some r))
  | rp (x:AV) (a:Option Addr) (len cap:Nat) (p:Option Addr) (h:Rel I w x (.slice a len cap)) (hp:p=a∨cap=0):Rel I w (.rp x) (.pointer p)
  | mk (t len b c:Nat) (h:I.tok t=some (some b,0,c)):Rel I w (.mk t len) (.slice (some ⟨b,0,none⟩) len c)
  | sk (t n b c:Nat) (h:I.tok t=some (some b,0,c)) (hn:n≤c):Rel I w (.sk t n) (.slice (some ⟨b,0,none⟩) n c)
  | sknil (t:Nat) (h:I.tok t=some (none,0,0)):Rel I w (.sk t 0) (.slice none 0 0)
  | skp (t i b c:Nat) (h:I.tok t=some (some b,0,c)):Rel I w (.skp t i) (.pointer (some ⟨b,i,none⟩))
  | slz (k:Nat) (a:Option Addr) (cap:Nat):Rel I w (.sl k [] none) (.slice a 0 cap)
  | slnil (k t:Nat) (ht:I.tok t=some (none,0,0)):Rel I w (.sl k [] (some t)) (.slice none 0 0)
  | sl (k:Nat) (cs:List AV) (t:Option Nat) (b off len cap:Nat) (xs:Nat→Value) (hk:0 < k) (hlen:len*k=cs.length) (hcap:len≤cap)
      (hst:Stab I b (off+cs.length)) (hx:∀ j,j < cs.length→w.cell? ⟨b,off+j,none⟩=some (xs j))
      (hr:∀ j (h:j < cs.length),Rel I w cs[j] (xs j))
      (ht:∀ t',t=some t'→I.tok t'=some (some b,cs.length,cap*k)∧off=0):Rel I w (.sl k cs t) (.slice (some ⟨b,off,none⟩) len cap)
  | cp (cs:List AV) (b off:Nat) (xs:Nat→Value) (hst:Stab I b (off+cs.length)) (hx:∀ j,j < cs.length→w.cell? ⟨b,off+j,none⟩=some (xs j))
      (hr:∀ j (h:j < cs.length),Rel I w cs[j] (xs j)):Rel I w (.cp cs) (.pointer (some ⟨b,off,none⟩))
  | pt (o off b:Nat) (h:I.obj o=some b):Rel I w (.pt o off) (.pointer (some ⟨b,off,none⟩))
  | vw (o off len cap b:Nat) (h:I.obj o=some b):Rel I w (.vw o off len cap) (.slice (some ⟨b,off,none⟩) len cap)
  | agg (cs:List AV) (xs:List Value) (hl:xs.length=cs.length) (hr:∀ j (h:j < cs.length),Rel I w cs[j] (xs.getD j undef)):Rel I w (.agg cs) (.agg xs.toArray)
  | tup (cs:List AV) (xs:List Value) (hl:xs.length=cs.length) (hr:∀ j (h:j < cs.length),Rel I w cs[j] (xs.getD j undef)):Rel I w (.tup cs) (.tuple xs.toArray)
  | ifc (t:TypeId) (x:AV) (y:Value) (h:Rel I w x y):Rel I w (.ifc t x) (.iface t y)
  | fn (f:Fn) (as_ bs:List AV) (xs ys:List Value) (hl:xs.length=as_.length) (hr:∀ j (h:j < as_.length),Rel I w as_[j] (xs.getD j undef))
      (hl':ys.length=bs.length) (hr':∀ j (h:j < bs.length),Rel I w bs[j] (ys.getD j undef)):Rel I w (.fn f as_ bs) (.func f xs.toArray ys.toArray)
  | yl (o l:Nat) (h:I.obj o=some l):Rel I w (.yl o) (.func (.yield l) #[] #[])
  | tb (vs:List Value) (b:Nat) (E:TypeId) (fz:Nat×Nat) (h:w.heap[b]?=some (.cells vs.toArray E fz)) (hst:I.ext b=none):Rel I w (.tb vs) (.pointer (some ⟨b,0,none⟩))
def ElemAt (w:World) (b:Nat) (E:TypeId):Prop:=∃ c fz,w.heap[b]?=some (.cells c E fz)
theorem ElemAt.freeze {w:World} {b:Nat} {E:TypeId} (h:ElemAt w b E) (a:Addr) (n:Nat):ElemAt (w.freeze a n) b E:=by
  obtain ⟨c,fz,h⟩:=h
  unfold World.freeze
  split
  · exact ⟨c,fz,h⟩
  · by_cases e:a.block=b
    · exact ⟨c,_,by simp only [Array.getElem?_modify,e,if_true,h,Option.map_some]; rfl⟩
    · exact ⟨c,fz,by simp only [Array.getElem?_modify]; rw [if_neg e]; exact h⟩
theorem ElemAt.setCell {w:World} {b:Nat} {E:TypeId} (h:ElemAt w b E) (a:Addr) (u:Value):ElemAt (w.setCell a u) b E:=by
  obtain ⟨c,fz,h⟩:=h
  by_cases e:a.block=b
  · exact ⟨_,fz,by simp only [World.setCell,Array.getElem?_modify,e,if_true,h,Option.map_some]; rfl⟩
  · exact ⟨c,fz,by simp only [World.setCell,Array.getElem?_modify]; rw [if_neg e]; exact h⟩
theorem ElemAt.alloc {w:World} {b:Nat} {E:TypeId} (h:ElemAt w b E) (o:Obj):ElemAt (w.alloc o) b E:=by
  obtain ⟨c,fz,h⟩:=h;refine ⟨c,fz,?_⟩
  have hlt:=(Array.getElem?_eq_some_iff.1 h).1
  show (w.heap.push o)[b]?=_
  rw [Array.getElem?_push,if_neg (by omega)]
  exact h
structure Ext (I:Info) (w:World) (I':Info) (w':World):Prop where
  os:w'.os=w.os
  tape:w'.tape=w.tape
  out:w'.output=w.output
  size:w.heap.size≤w'.heap.size
  blk:∀ b,I.ext b=none→w'.heap[b]?=w.heap[b]?∧I'.ext b=none
  cell:∀ b j,Stab I b (j+1)→w'.cell? ⟨b,j,none⟩=w.cell? ⟨b,j,none⟩
  ext:∀ b n,Stab I b n→Stab I' b n
  obj:∀ o b,I.obj o=some b→I'.obj o=some b
  tok:∀ t x,I.tok t=some x→I'.tok t=some x
  elem:∀ b E,ElemAt w b E→ElemAt w' b E
theorem Ext.refl (I:Info) (w:World):Ext I w I w :=
  ⟨rfl,rfl,rfl,Nat.le_refl _,fun _ h=>⟨rfl,h⟩,fun _ _ _=>rfl,fun _ _ h=>h,fun _ _ h=>h,fun _ _ h=>h,fun _ _ h=>h⟩
abbrev _root_.Go.Av.cj := @Ext.refl
theorem Ext.trans {I I' I'':Info} {w w' w'':World} (h:Ext I w I' w') (g:Ext I' w' I'' w''):Ext I w I'' w'' :=
  ⟨g.os.trans h.os,g.tape.trans h.tape,g.out.trans h.out,Nat.le_trans h.size g.size,
    fun b hb=>⟨((g.blk b (h.blk b hb).2).1).trans (h.blk b hb).1,(g.blk b (h.blk b hb).2).2⟩,
    fun b j hj=>(g.cell b j (h.ext b _ hj)).trans (h.cell b j hj),fun b n hn=>g.ext b n (h.ext b n hn),
    fun o b hb=>g.obj o b (h.obj o b hb),fun t x hx=>g.tok t x (h.tok t x hx),fun b E hE=>g.elem b E (h.elem b E hE)⟩
theorem Rel.mono {I I':Info} {w w':World} (E:Ext I w I' w') {a:AV} {x:Value} (h:Rel I w a x):Rel I' w' a x:=by
  induction h with
  | v x=>exact .v x
  | any x=>exact .any x
  | anyk k n=>exact .anyk k n
  | anyi0=>exact .anyi0
  | anyi1 t v=>exact .anyi1 t v
  | mp es r ents c h hst he=>exact .mp es r ents c (((E.blk _ hst).1).trans h) (E.blk _ hst).2 he
  | rp x a len cap p h hp ih=>exact .rp x a len cap p ih hp
  | mk t len b c h=>exact .mk t len b c (E.tok _ _ h)
  | sk t n b c h hn=>exact .sk t n b c (E.tok _ _ h) hn
  | sknil t h=>exact .sknil t (E.tok _ _ h)
  | skp t i b c h=>exact .skp t i b c (E.tok _ _ h)
  | slz k a cap=>exact .slz k a cap
  | slnil k t ht=>exact .slnil k t (E.tok _ _ ht)
  | sl k cs t b off len cap xs hk hlen hcap hst hx hr ht ih =>
    exact .sl k cs t b off len cap xs hk hlen hcap (E.ext _ _ hst) (fun j hj=>(E.cell _ _ (hst.le (by omega))).trans (hx j hj)) ih
      (fun t' e=>⟨E.tok _ _ (ht t' e).1,(ht t' e).2⟩)
  | cp cs b off xs hst hx hr ih=>exact .cp cs b off xs (E.ext _ _ hst) (fun j hj=>(E.cell _ _ (hst.le (by omega))).trans (hx j hj)) ih
  | pt o off b h=>exact .pt o off b (E.obj _ _ h)
  | vw o off len cap b h=>exact .vw o off len cap b (E.obj _ _ h)
  | agg cs xs hl hr ih=>exact .agg cs xs hl ih
  | tup cs xs hl hr ih=>exact .tup cs xs hl ih
  | ifc t x y h ih=>exact .ifc t x y ih
  | fn f as_ bs xs ys hl hr hl' hr' ih ih'=>exact .fn f as_ bs xs ys hl ih hl' ih'
  | yl o l h=>exact .yl o l (E.obj _ _ h)
  | tb vs b T fz h hst=>exact .tb vs b T fz (((E.blk _ hst).1).trans h) (E.blk _ hst).2
def RelL (I:Info) (w:World) (cs:List AV) (xs:List Value):Prop:=xs.length=cs.length∧∀ j (h:j < cs.length),Rel I w cs[j] (xs.getD j undef)
theorem RelL.mono {I I':Info} {w w':World} (E:Ext I w I' w') {cs:List AV} {xs:List Value} (h:RelL I w cs xs):RelL I' w' cs xs:=⟨h.1,fun j hj=>(h.2 j hj).mono E⟩
theorem RelL.nil {I:Info} {w:World}:RelL I w [] []:=⟨rfl,fun j h=>absurd h (Nat.not_lt_zero _)⟩
abbrev _root_.Go.Av.ge := @RelL.nil
theorem RelL.cons {I:Info} {w:World} {c:AV} {x:Value} {cs:List AV} {xs:List Value} (h:Rel I w c x) (g:RelL I w cs xs):RelL I w (c::cs) (x::xs) :=
  ⟨by simp [g.1],fun j hj=>by
    cases j with
    | zero=>exact h
    | succ j=>exact g.2 j (by simpa using hj)⟩
abbrev _root_.Go.Av.fp := @RelL.cons
theorem RelL.head {I:Info} {w:World} {c:AV} {x:Value} {cs:List AV} {xs:List Value} (h:RelL I w (c::cs) (x::xs)):Rel I w c x:=h.2 0 (by simp)
theorem RelL.tail {I:Info} {w:World} {c:AV} {x:Value} {cs:List AV} {xs:List Value} (h:RelL I w (c::cs) (x::xs)):RelL I w cs xs :=
  ⟨by simpa using h.1,fun j hj=>h.2 (j+1) (by simpa using hj)⟩
theorem RelL.out_nil {I:Info} {w:World} {xs:List Value} (h:RelL I w [] xs):xs=[]:=List.eq_nil_of_length_eq_zero (by simpa using h.1)
theorem RelL.out_cons {I:Info} {w:World} {c:AV} {cs:List AV} {xs:List Value} (h:RelL I w (c::cs) xs):∃ x xs',xs=x::xs'∧Rel I w c x∧RelL I w cs xs':=by
  cases xs with
  | nil=>have:=h.1; simp at this
  | cons x xs'=>exact ⟨x,xs',rfl,h.head,h.tail⟩
theorem RelL.append {I:Info} {w:World} {cs ds:List AV} {xs ys:List Value} (h:RelL I w cs xs) (g:RelL I w ds ys):RelL I w (cs++ds) (xs++ys):=by
  refine ⟨by simp [h.1,g.1],fun j hj=>?_⟩
  by_cases hc:j < cs.length
  · rw [List.getElem_append_left hc]
    have hx:j < xs.length:=by rw [h.1]; exact hc
    have:=h.2 j hc
    rw [show (xs++ys).getD j undef=xs.getD j undef from by simp [List.getD,List.getElem?_append_left hx]]
    exact this
  · have hj':j < cs.length+ds.length:=by simpa using hj
    rw [List.getElem_append_right (by omega)]
    rw [show (xs++ys).getD j undef=ys.getD (j - cs.length) undef from by rw [← h.1]; simp [List.getD,List.getElem?_append_right (show xs.length≤j by rw [h.1]; omega)]]
    exact g.2 _ (by omega)
abbrev _root_.Go.Av.aV := @List.getElem?_eq_getElem
theorem RelL.map {I:Info} {w:World} {α:Type} (f:α→AV) (g:α→Value) (l:List α) (h:∀ x∈l,Rel I w (f x) (g x)):RelL I w (l.map f) (l.map g) :=
  ⟨by simp,fun j hj=>by
    have hj':j < l.length:=by simpa using hj
    simp only [List.getElem_map,List.getD,List.getElem?_map,aV hj',Option.map_some,Option.getD_some]
    exact h _ (List.getElem_mem _)⟩
abbrev _root_.Go.Av.gf := @RelL.map
def G:Nat→Option (List AV):=fun | 0=>some [.anyk .i64] | 3=>some [.anyi] | 4=>some [.anyi] | _=>none
inductive Chunk where
  | obj (o:Nat) (cs:List AV)
  | tok (t:Nat) (E:TypeId)
  | ty (o:Nat) (E:TypeId)
  | iter (o:Nat) (s:List UInt8) (pos:Nat)
  /-- A loop's record: its state,the pending jump,the caller's temporaries by content,its code; the block d of its deferred calls. -/
  | lp (o:Nat) (st:LoopState) (pend:Option Code) (fn:FuncId) (N:Nat) (env:Nat→AV) (ps:Array Tmp) (asg bd:Code) (d:Nat)
  /-- A block of deferred calls,of which there are none. -/
  | db (o:Nat)
  /-- A row that may grow,of whose block nothing is known beyond its room. -/
  | tokw (t:Nat)
  /-- A stack: a row all of whose cells are one's own; cs are its first ones. -/
  | stk (t:Nat) (cs:List AV)
def Chunk.blk (I:Info):Chunk→Option Nat
  | .obj o _=>I.obj o
  | .tok t _=>(I.tok t).bind (·.1)
  | .ty _ _=>none
  | .iter o _ _=>I.obj o
  | .lp o _ _ _ _ _ _ _ _ _=>I.obj o
  | .db o=>I.obj o
  | .tokw t=>(I.tok t).bind (·.1)
  | .stk t _=>(I.tok t).bind (·.1)
def CellsAt (w:World) (b:Nat) (arr:List Value):Prop :=
  ∃ E fz,w.heap[b]?=some (.cells arr.toArray E fz)∧(fz.1=fz.2∨arr.length≤fz.1)
def Chunk.Holds (I:Info) (w:World):Chunk→Prop
  | .obj o cs=>∃ b arr,I.obj o=some b∧I.ext b=some 0∧CellsAt w b arr∧RelL I w cs arr
  | .tok t E=>∃ ob n c,I.tok t=some (ob,n,c)∧(ob=none→n=0∧c=0)∧∀ b,ob=some b→I.ext b=some n∧n≤c∧∃ arr,CellsAt w b arr∧arr.length=c∧ElemAt w b E
  | .ty o E=>∃ b,I.obj o=some b∧ElemAt w b E
  | .iter o s pos=>∃ b,I.obj o=some b∧I.ext b=some 0∧w.heap[b]?=some (.stringIter ⟨s.toArray⟩ pos)
  | .lp o st pend fn N env ps asg bd d=>∃ b r,I.obj o=some b∧I.ext b=some 0∧w.heap[b]?=some (.loop r)∧r.state=st∧r.pending=pend∧r.fn=fn∧r.tmps.size=N∧(∀ t,Rel I w (env t) (r.tmps.getD t undef)) ∧
      r.params=ps∧r.assign=asg∧r.body=bd∧I.obj d=some r.defers
  | .db o=>∃ b,I.obj o=some b∧I.ext b=some 0∧w.heap[b]?=some (.deferred (some []))
  | .tokw t=>∃ b n c arr E fz,I.tok t=some (some b,n,c)∧I.ext b=some n∧n≤c∧w.heap[b]?=some (.cells arr E fz)∧c≤arr.size∧∀ j,j < c→w.frozen? ⟨b,j,none⟩=false
  | .stk t cs=>∃ ob c,I.tok t=some (ob,0,c)∧(ob=none→c=0∧cs=[])∧∀ b,ob=some b→I.ext b=some 0∧cs.length≤c∧∃ arr,CellsAt w b arr∧arr.length=c∧RelL I w cs (arr.take cs.length)
def gv:List AV→AV
  | [.tb vs]=>.tb vs
  | cs=>.cp cs
structure Inv (I:Info) (A:List Chunk) (w:World):Prop where
  holds:∀ c∈A,c.Holds I w
  nodup:(A.filterMap (Chunk.blk I)).Nodup
  fresh:∀ b,w.heap.size≤b→I.ext b=some 0
  ids:∃ n,∀ o,n≤o→I.obj o=none∧I.tok o=none
  glob:∀ g cs,G g=some cs→Rel I w (gv cs) (.pointer (some ⟨g,0,none⟩))
theorem CellsAt.lt {w:World} {b:Nat} {arr:List Value} (h:CellsAt w b arr):b < w.heap.size:=by
  obtain ⟨E,fz,h,_⟩:=h;exact (Array.getElem?_eq_some_iff.1 h).1
theorem CellsAt.cell {w:World} {b:Nat} {arr:List Value} (h:CellsAt w b arr) (j:Nat):w.cell? ⟨b,j,none⟩=arr[j]?:=by
  obtain ⟨E,fz,h,_⟩:=h
  simp [World.cell?,h]
theorem CellsAt.free {w:World} {b:Nat} {arr:List Value} (h:CellsAt w b arr) {j:Nat} (hj:j < arr.length):w.frozen? ⟨b,j,none⟩=false:=by
  obtain ⟨E,fz,h,hf⟩:=h
  simp only [World.frozen?,h]
  simp only [Bool.and_eq_false_iff,decide_eq_false_iff_not]
  omega
theorem Chunk.Holds.blk_lt {I:Info} {w:World} {c:Chunk} (h:c.Holds I w) {b:Nat} (hb:c.blk I=some b):b < w.heap.size:=by
  cases c with
  | obj o cs =>
    obtain ⟨b',arr,ho,_,hc,_⟩:=h
    simp only [Chunk.blk] at hb
    rw [ho] at hb; cases hb; exact hc.lt
  | tok t E0 =>
    obtain ⟨ob,n,c,ht,_,h⟩:=h
    simp only [Chunk.blk,ht,Option.bind_some] at hb
    obtain ⟨_,_,arr,hc,_⟩:=h b hb;exact hc.lt
  | ty o E=>cases hb
  | iter o s pos =>
    obtain ⟨b',ho,_,hh⟩:=h
    simp only [Chunk.blk] at hb
    rw [ho] at hb; cases hb; exact (Array.getElem?_eq_some_iff.1 hh).1
  | lp o st pend fn N env ps asg bd d =>
    obtain ⟨b',r,ho,_,hh,_⟩:=h
    simp only [Chunk.blk] at hb
    rw [ho] at hb; cases hb; exact (Array.getElem?_eq_some_iff.1 hh).1
  | db o =>
    obtain ⟨b',ho,_,hh⟩:=h
    simp only [Chunk.blk] at hb
    rw [ho] at hb; cases hb; exact (Array.getElem?_eq_some_iff.1 hh).1
  | tokw t =>
    obtain ⟨b',n,c,arr,E,fz,ht,he,hn,hh,_⟩:=h
    simp only [Chunk.blk,ht,Option.bind_some,Option.some.injEq] at hb
    subst hb; exact (Array.getElem?_eq_some_iff.1 hh).1
  | stk t cs =>
    obtain ⟨ob,c,ht,_,h⟩:=h
    simp only [Chunk.blk,ht,Option.bind_some] at hb
    obtain ⟨_,_,arr,hc,_⟩:=h b hb;exact hc.lt
theorem Chunk.Holds.keep {I I':Info} {w w':World} (E:Ext I w I' w') {c:Chunk} (h:c.Holds I w)
    (hb:∀ b,c.blk I=some b→w'.heap[b]?=w.heap[b]?∧I'.ext b=I.ext b):c.Holds I' w'∧c.blk I'=c.blk I:=by
  cases c with
  | obj o cs =>
    obtain ⟨b,arr,ho,he,⟨E',fz,hh,hf⟩,hr⟩:=h;obtain ⟨h1,h2⟩:=hb b ho;exact ⟨⟨b,arr,E.obj _ _ ho,h2.trans he,⟨E',fz,h1.trans hh,hf⟩,hr.mono E⟩,(E.obj _ _ ho).trans ho.symm⟩
  | tok t E0 =>
    obtain ⟨ob,n,c,ht,h0,h⟩:=h
    have ht':=E.tok _ _ ht
    refine ⟨⟨ob,n,c,ht',h0,fun b e=>?_⟩,by simp only [Chunk.blk,ht,ht']⟩;obtain ⟨he,hn,arr,⟨E',fz,hh,hf⟩,hl,c',fz',het⟩:=h b e;obtain ⟨h1,h2⟩:=hb b (by simp only [Chunk.blk,ht,Option.bind_some]; exact e);exact ⟨h2.trans he,hn,arr,⟨E',fz,h1.trans hh,hf⟩,hl,c',fz',h1.trans het⟩
  | ty o E1 =>
    obtain ⟨b,ho,he⟩:=h;exact ⟨⟨b,E.obj _ _ ho,E.elem _ _ he⟩,rfl⟩
  | iter o s pos =>
    obtain ⟨b,ho,he,hh⟩:=h;obtain ⟨h1,h2⟩:=hb b ho;exact ⟨⟨b,E.obj _ _ ho,h2.trans he,h1.trans hh⟩,(E.obj _ _ ho).trans ho.symm⟩
  | lp o st pend fn N env ps asg bd d =>
    obtain ⟨b,r,ho,he,hh,a1,a2,a3,a4,a5,a6,a7,a8,a9⟩:=h;obtain ⟨h1,h2⟩:=hb b ho;exact ⟨⟨b,r,E.obj _ _ ho,h2.trans he,h1.trans hh,a1,a2,a3,a4,fun t=>(a5 t).mono E,a6,a7,a8,E.obj _ _ a9⟩,(E.obj _ _ ho).trans ho.symm⟩
  | db o =>
    obtain ⟨b,ho,he,hh⟩:=h;obtain ⟨h1,h2⟩:=hb b ho;exact ⟨⟨b,E.obj _ _ ho,h2.trans he,h1.trans hh⟩,(E.obj _ _ ho).trans ho.symm⟩
  | tokw t =>
    obtain ⟨b,n,c,arr,E',fz,ht,he,hn,hh,hc,hf⟩:=h
    have ht':=E.tok _ _ ht
    obtain ⟨h1,h2⟩:=hb b (by simp only [Chunk.blk,ht,Option.bind_some]);refine ⟨⟨b,n,c,arr,E',fz,ht',h2.trans he,hn,h1.trans hh,hc,fun j hj=>?_⟩,by simp only [Chunk.blk,ht,ht']⟩
    have:=hf j hj
    simp only [World.frozen?,h1] at this ⊢
    exact this
  | stk t cs =>
    obtain ⟨ob,c,ht,h0,h⟩:=h
    have ht':=E.tok _ _ ht
    refine ⟨⟨ob,c,ht',h0,fun b e=>?_⟩,by simp only [Chunk.blk,ht,ht']⟩;obtain ⟨he,hn,arr,⟨E',fz,hh,hf⟩,hl,hr⟩:=h b e;obtain ⟨h1,h2⟩:=hb b (by simp only [Chunk.blk,ht,Option.bind_some]; exact e);exact ⟨h2.trans he,hn,arr,⟨E',fz,h1.trans hh,hf⟩,hl,hr.mono E⟩
theorem ot {α β:Type} {f g:α→Option β}:∀ (l:List α),(∀ x∈l,f x=g x)→l.filterMap f=l.filterMap g
  | [],_=>rfl
  | x::l,h=>by
    rw [List.filterMap_cons,List.filterMap_cons,h x (List.mem_cons_self ..),ot l fun y hy=>h y (List.mem_cons_of_mem _ hy)]
theorem Inv.keep {I I':Info} {A:List Chunk} {w w':World} (h:Inv I A w) (E:Ext I w I' w')
    (hb:∀ c∈A,∀ b,c.blk I=some b→w'.heap[b]?=w.heap[b]?∧I'.ext b=I.ext b)
    (hf:∀ b,w'.heap.size≤b→I'.ext b=some 0) (hi:∃ n,∀ o,n≤o→I'.obj o=none∧I'.tok o=none):Inv I' A w':=by
  refine ⟨fun c hc=>((h.holds c hc).keep E (hb c hc)).1,?_,hf,hi,fun g cs hg=>(h.glob g cs hg).mono E⟩
  have:A.filterMap (Chunk.blk I')=A.filterMap (Chunk.blk I):=ot A fun c hc=>((h.holds c hc).keep E (hb c hc)).2
  rw [this]; exact h.nodup
theorem Inv.perm {I:Info} {A B:List Chunk} {w:World} (h:Inv I A w) (p:A.Perm B):Inv I B w :=
  ⟨fun c hc=>h.holds c (p.mem_iff.2 hc),(p.filterMap _).nodup_iff.1 h.nodup,h.fresh,h.ids,h.glob⟩
theorem Inv.sub {I:Info} {A B:List Chunk} {w:World} (h:Inv I A w) (s:B.Sublist A):Inv I B w :=
  ⟨fun c hc=>h.holds c (s.subset hc),(s.filterMap _).nodup h.nodup,h.fresh,h.ids,h.glob⟩
theorem Inv.cons {I:Info} {A:List Chunk} {w:World} {c:Chunk} (h:Inv I A w) (hc:c.Holds I w) (hn:∀ b,c.blk I=some b→∀ d∈A,d.blk I≠some b):Inv I (c::A) w:=by
  refine ⟨fun d hd=>(List.mem_cons.1 hd).elim (fun e=>e ▸ hc) (h.holds d),?_,h.fresh,h.ids,h.glob⟩
  rw [List.filterMap_cons]
  cases hb:c.blk I with
  | none=>exact h.nodup
  | some b =>
    refine List.nodup_cons.2 ⟨fun hm=>?_,h.nodup⟩;obtain ⟨d,hd,hdb⟩:=List.mem_filterMap.1 hm;exact hn b hb d hd hdb
theorem Inv.apart {I:Info} {A:List Chunk} {w:World} {c:Chunk} (h:Inv I (c::A) w) {b:Nat} (hb:c.blk I=some b):∀ d∈A,d.blk I≠some b:=by
  intro d hd e
  have:=h.nodup
  rw [List.filterMap_cons,hb] at this
  exact (List.nodup_cons.1 this).1 (List.mem_filterMap.2 ⟨d,hd,e⟩)
theorem Ext.drew (I:Info) (w:World):Ext I w I w.drew :=
  ⟨rfl,rfl,rfl,Nat.le_refl _,fun _ h=>⟨rfl,h⟩,fun _ _ _=>rfl,fun _ _ h=>h,fun _ _ h=>h,fun _ _ h=>h,fun _ _ h=>h⟩
theorem Inv.drew {I:Info} {A:List Chunk} {w:World} (h:Inv I A w):Inv I A w.drew :=
  h.keep (Ext.drew I w) (fun _ _ _ _=>⟨rfl,rfl⟩) h.fresh h.ids
def Info.putObj (I:Info) (o b:Nat):Info:={ I with ext:=fun x=>if x=b then some 0 else I.ext x,obj:=fun x=>if x=o then some b else I.obj x }
def Info.putTok (I:Info) (t b n c:Nat):Info:={ I with ext:=fun x=>if x=b then some n else I.ext x,tok:=fun x=>if x=t then some (some b,n,c) else I.tok x }
def Info.nilTok (I:Info) (t:Nat):Info:={ I with tok:=fun x=>if x=t then some (none,0,0) else I.tok x }
def Info.still (I:Info) (b:Nat):Info:={ I with ext:=fun x=>if x=b then none else I.ext x }
theorem cS (w:World) (o:Obj) (b:Nat) (h:b≠w.heap.size):(w.alloc o).heap[b]?=w.heap[b]?:=by
  show (w.heap.push o)[b]?=_
  rw [Array.getElem?_push,if_neg h]
theorem cT (w:World) (o:Obj):(w.alloc o).heap[w.heap.size]?=some o:=by
  show (w.heap.push o)[w.heap.size]?=_
  rw [Array.getElem?_push,if_pos rfl]
theorem kY (w:World) (o:Obj) (b j:Nat) (h:b≠w.heap.size):(w.alloc o).cell? ⟨b,j,none⟩=w.cell? ⟨b,j,none⟩:=by
  simp only [World.cell?,cS w o b h]
section
variable {I:Info} {A:List Chunk} {w:World}
theorem Inv.new_obj (h:Inv I A w) {o:Nat} (ho:I.obj o=none) (x:Obj):Ext I w (I.putObj o w.heap.size) (w.alloc x):=by
  refine ⟨rfl,rfl,rfl,by simp,fun b hb=>?_,fun b j hj=>?_,fun b n hn=>?_,fun o' b hb=>?_,fun t x hx=>hx,fun _ _ h=>h.alloc _⟩
  · have hne:b≠w.heap.size:=fun e=>by rw [e,h.fresh _ (Nat.le_refl _)] at hb; cases hb
    exact ⟨cS _ _ _ hne,by simp only [Info.putObj]; rw [if_neg hne]; exact hb⟩
  · refine kY _ _ _ _ fun e=>?_
    have:=hj 0 (by rw [e]; exact h.fresh _ (Nat.le_refl _))
    omega
  · intro m hm
    simp only [Info.putObj] at hm
    split at hm
    · rename_i e; subst e; exact Nat.le_trans (hn 0 (h.fresh _ (Nat.le_refl _))) (Nat.zero_le _)
    · exact hn m hm
  · simp only [Info.putObj]
    rw [if_neg (fun e=>by rw [e,ho] at hb; cases hb)]; exact hb
theorem Inv.alloc_obj (h:Inv I A w) {o:Nat} (ho:I.obj o=none) {cs:List AV} {xs:List Value} (E:TypeId) (hr:RelL I w cs xs) :
    Inv (I.putObj o w.heap.size) (.obj o cs::A) (w.alloc (.cells xs.toArray E)):=by
  have X:=h.new_obj ho (.cells xs.toArray E)
  have hlt:∀ c∈A,∀ b,c.blk I=some b→b≠w.heap.size:=fun c hc b hb e=>by
    have:=(h.holds c hc).blk_lt hb; omega
  have K:Inv (I.putObj o w.heap.size) A (w.alloc (.cells xs.toArray E)):=by
    refine h.keep X (fun c hc b hb=>⟨cS _ _ _ (hlt c hc b hb),by simp only [Info.putObj]; rw [if_neg (hlt c hc b hb)]⟩) (fun b hb=>?_) ?_
    · simp only [World.size_alloc] at hb
      simp only [Info.putObj]; rw [if_neg (by omega)]; exact h.fresh b (by omega)
    · obtain ⟨n,hn⟩:=h.ids
      refine ⟨max n (o+1),fun x hx=>?_⟩
      have:=hn x (by omega)
      refine ⟨?_,this.2⟩
      simp only [Info.putObj]; rw [if_neg (by omega)]; exact this.1
  refine K.cons ⟨w.heap.size,xs,by simp [Info.putObj],by simp [Info.putObj],⟨E,(0,0),cT _ _,.inl rfl⟩,hr.mono X⟩ ?_;intro b hb d hd e
  simp only [Chunk.blk,Info.putObj,if_true,Option.some.injEq] at hb
  have:=((h.holds d hd).keep X (fun b' hb'=>⟨cS _ _ _ (hlt d hd b' hb'),by simp only [Info.putObj]; rw [if_neg (hlt d hd b' hb')]⟩)).2
  rw [this] at e
  exact hlt d hd b e hb.symm
theorem Inv.new_row (h:Inv I A w) {t:Nat} (ht:I.tok t=none) (n c:Nat) (x:Obj):Ext I w (I.putTok t w.heap.size n c) (w.alloc x):=by
  refine ⟨rfl,rfl,rfl,by simp,fun b hb=>?_,fun b j hj=>?_,fun b m hm=>?_,fun o' b hb=>hb,fun t' y hy=>?_,fun _ _ h=>h.alloc _⟩
  · have hne:b≠w.heap.size:=fun e=>by rw [e,h.fresh _ (Nat.le_refl _)] at hb; cases hb
    exact ⟨cS _ _ _ hne,by simp only [Info.putTok]; rw [if_neg hne]; exact hb⟩
  · refine kY _ _ _ _ fun e=>?_
    have:=hj 0 (by rw [e]; exact h.fresh _ (Nat.le_refl _))
    omega
  · intro m' hm'
    simp only [Info.putTok] at hm'
    split at hm'
    · rename_i e; subst e; have:=hm 0 (h.fresh _ (Nat.le_refl _)); omega
    · exact hm m' hm'
  · simp only [Info.putTok]
    rw [if_neg (fun e=>by rw [e,ht] at hy; cases hy)]; exact hy
theorem Inv.alloc_row (h:Inv I A w) {t:Nat} (ht:I.tok t=none) (n:Nat) (arr:List Value) (E:TypeId) (fz:Nat×Nat) (hn:n≤arr.length)
    (hf:fz.1=fz.2∨arr.length≤fz.1) :
    Inv (I.putTok t w.heap.size n arr.length) (.tok t E::A) (w.alloc (.cells arr.toArray E fz)):=by
  have X:=h.new_row ht n arr.length (.cells arr.toArray E fz)
  have hlt:∀ c∈A,∀ b,c.blk I=some b→b≠w.heap.size:=fun c hc b hb e=>by
    have:=(h.holds c hc).blk_lt hb; omega
  have K:Inv (I.putTok t w.heap.size n arr.length) A (w.alloc (.cells arr.toArray E fz)):=by
    refine h.keep X (fun c hc b hb=>⟨cS _ _ _ (hlt c hc b hb),by simp only [Info.putTok]; rw [if_neg (hlt c hc b hb)]⟩) (fun b hb=>?_) ?_
    · simp only [World.size_alloc] at hb
      simp only [Info.putTok]; rw [if_neg (by omega)]; exact h.fresh b (by omega)
    · obtain ⟨m,hm⟩:=h.ids
      refine ⟨max m (t+1),fun x hx=>?_⟩
      have:=hm x (by omega)
      refine ⟨this.1,?_⟩
      simp only [Info.putTok]; rw [if_neg (by omega)]; exact this.2
  refine K.cons ⟨some w.heap.size,n,arr.length,by simp [Info.putTok],fun e=>(by cases e),fun b e=>?_⟩ ?_
  · cases e
    exact ⟨by simp [Info.putTok],hn,arr,⟨E,fz,cT _ _,hf⟩,rfl,_,fz,cT _ _⟩
  intro b hb d hd e
  simp only [Chunk.blk,Info.putTok,if_true,Option.bind_some,Option.some.injEq] at hb
  have:=((h.holds d hd).keep X (fun b' hb'=>⟨cS _ _ _ (hlt d hd b' hb'),by simp only [Info.putTok]; rw [if_neg (hlt d hd b' hb')]⟩)).2
  rw [this] at e
  exact hlt d hd b e hb.symm
theorem Inv.nil_tok (h:Inv I A w) {t:Nat} (ht:I.tok t=none) (E:TypeId):Ext I w (I.nilTok t) w∧Inv (I.nilTok t) (.tok t E::A) w:=by
  have X:Ext I w (I.nilTok t) w:=by
    refine ⟨rfl,rfl,rfl,Nat.le_refl _,fun _ h=>⟨rfl,h⟩,fun _ _ _=>rfl,fun _ _ h=>h,fun _ _ h=>h,fun t' y hy=>?_,fun _ _ h=>h⟩
    simp only [Info.nilTok]; rw [if_neg (fun e=>by rw [e,ht] at hy; cases hy)]; exact hy
  refine ⟨X,Inv.cons (h.keep X (fun _ _ _ _=>⟨rfl,rfl⟩) h.fresh ?_) ⟨none,0,0,by simp [Info.nilTok],fun _=>⟨rfl,rfl⟩,fun b e=>by cases e⟩ ?_⟩
  · obtain ⟨m,hm⟩:=h.ids
    refine ⟨max m (t+1),fun x hx=>?_⟩
    have:=hm x (by omega)
    refine ⟨this.1,?_⟩
    simp only [Info.nilTok]; rw [if_neg (by omega)]; exact this.2
  · intro b hb; simp [Chunk.blk,Info.nilTok] at hb
theorem Inv.fresh_obj (h:Inv I A w):∃ o,I.obj o=none:=let ⟨n,hn⟩:=h.ids; ⟨n,(hn n (Nat.le_refl _)).1⟩
theorem Inv.fresh_tok (h:Inv I A w):∃ t,I.tok t=none:=let ⟨n,hn⟩:=h.ids; ⟨n,(hn n (Nat.le_refl _)).2⟩
theorem Inv.new_still (h:Inv I A w) (x:Obj):Ext I w (I.still w.heap.size) (w.alloc x):=by
  refine ⟨rfl,rfl,rfl,by simp,fun b hb=>?_,fun b j hj=>?_,fun b n hn=>?_,fun o' b hb=>hb,fun t x hx=>hx,fun _ _ h=>h.alloc _⟩
  · have hne:b≠w.heap.size:=fun e=>by rw [e,h.fresh _ (Nat.le_refl _)] at hb; cases hb
    exact ⟨cS _ _ _ hne,by simp only [Info.still]; rw [if_neg hne]; exact hb⟩
  · refine kY _ _ _ _ fun e=>?_
    have:=hj 0 (by rw [e]; exact h.fresh _ (Nat.le_refl _))
    omega
  · intro m hm
    simp only [Info.still] at hm
    split at hm
    · cases hm
    · exact hn m hm
theorem Inv.alloc_still (h:Inv I A w) (x:Obj):Inv (I.still w.heap.size) A (w.alloc x):=by
  have hlt:∀ c∈A,∀ b,c.blk I=some b→b≠w.heap.size:=fun c hc b hb e=>by
    have:=(h.holds c hc).blk_lt hb; omega
  refine h.keep (h.new_still x) (fun c hc b hb=>⟨cS _ _ _ (hlt c hc b hb),by simp only [Info.still]; rw [if_neg (hlt c hc b hb)]⟩) (fun b hb=>?_) h.ids
  simp only [World.size_alloc] at hb
  simp only [Info.still]; rw [if_neg (by omega)]; exact h.fresh b (by omega)
theorem gV (w:World) (a:Addr) (u:Value) (b:Nat) (h:b≠a.block):(w.setCell a u).heap[b]?=w.heap[b]?:=by
  simp only [World.setCell,Array.getElem?_modify]
  rw [if_neg (fun e=>h e.symm)]
theorem lz {w:World} {b:Nat} {arr:List Value} (h:CellsAt w b arr) (j:Nat) (u:Value):CellsAt (w.setCell ⟨b,j,none⟩ u) b (arr.set j u):=by
  obtain ⟨E,fz,hh,hf⟩:=h;refine ⟨E,fz,?_,by simpa using hf⟩
  simp only [World.setCell,Array.getElem?_modify,if_true,hh,Option.map_some]
  simp
theorem Inv.set_obj {o:Nat} {cs:List AV} (h:Inv I (.obj o cs::A) w) {b:Nat} (ho:I.obj o=some b) (j:Nat) {c:AV} {u:Value} (hr:Rel I w c u) :
    Ext I w I (w.setCell ⟨b,j,none⟩ u)∧Inv I (.obj o (cs.set j c)::A) (w.setCell ⟨b,j,none⟩ u):=by
  obtain ⟨b',arr,ho',he,hc,hrl⟩:=h.holds _ (List.mem_cons_self ..)
  rw [ho] at ho'; cases ho'
  have X:Ext I w I (w.setCell ⟨b,j,none⟩ u):=by
    refine ⟨rfl,rfl,rfl,by simp,fun b' hb'=>⟨gV _ _ _ _ (fun e=>by simp only at e; rw [e,he] at hb'; cases hb'),hb'⟩,fun b' j' hj'=>?_,fun _ _ h=>h,fun _ _ h=>h,fun _ _ h=>h,fun _ _ h=>h.setCell _ _⟩;refine World.cell?_setCell_other _ _ _ _ (fun e=>?_)
    cases e
    have:=hj' 0 he; omega
  refine ⟨X,Inv.cons ((h.sub (List.sublist_cons_self ..)).keep X (fun d hd b' hb'=>⟨gV _ _ _ _ (fun e=>?_),rfl⟩) (fun b' hb'=>h.fresh b' (by simpa using hb')) h.ids) ?_ (fun b' hb' d hd e=>?_)⟩
  · exact h.apart (c:=.obj o cs) (b:=b) ho d hd (by simp only at e; rw [← e]; exact hb')
  · refine ⟨b,arr.set j u,ho,he,lz hc j u,?_⟩
    refine ⟨by simp [hrl.1],fun i hi=>?_⟩
    have hi':i < cs.length:=by simpa using hi
    by_cases hij:j=i
    · subst hij
      have hl:j < arr.length:=by rw [hrl.1]; exact hi'
      simp only [List.getElem_set_self,List.getD,List.getElem?_set_self hl,Option.getD_some]
      exact hr.mono X
    · rw [List.getElem_set_ne hij]
      simp only [List.getD,List.getElem?_set_ne hij]
      exact (hrl.2 i hi').mono X
  · exact h.apart (c:=.obj o cs) (b:=b') (by simpa [Chunk.blk] using hb') d hd e
theorem CellsAt.mark {w:World} {b:Nat} {arr:List Value} (h:CellsAt w b arr):CellsAt (w.freeze ⟨b,arr.length,none⟩ 1) b arr:=by
  obtain ⟨E,fz,hh,hf⟩:=h;obtain ⟨lo,hi⟩:=fz;refine ⟨E,if lo==hi then (arr.length,arr.length+1) else (min lo arr.length,max hi (arr.length+1)),?_,?_⟩
  · simp [World.freeze,Array.getElem?_modify,hh]
  · simp only at hf
    by_cases e:lo=hi
    · simp [e]
    · have:arr.length≤lo:=by omega
      right
      rw [if_neg (by simpa using e)]
      simp; omega
theorem ko (w:World) (a:Addr) (n b:Nat) (h:b≠a.block):(w.freeze a n).heap[b]?=w.heap[b]?:=by
  unfold World.freeze
  split
  · rfl
  · simp only [Array.getElem?_modify]; rw [if_neg (fun e=>h e.symm)]
theorem rF (w:World) (a:Addr) (n:Nat) (x:Addr):(w.freeze a n).cell? x=w.cell? x:=by
  unfold World.freeze
  split
  · rfl
  · simp only [World.cell?,Array.getElem?_modify]
    by_cases e:a.block=x.block
    · simp only [e,if_true]
      cases hh:w.heap[x.block]? with
      | none=>simp
      | some o=>cases o <;> simp
    · simp [e]
theorem Inv.mark {t b n c:Nat} {E0:TypeId} (h:Inv I (.tok t E0::A) w) (ht:I.tok t=some (some b,n,c)):Ext I w I (w.freeze ⟨b,c,none⟩ 1)∧Inv I (.tok t E0::A) (w.freeze ⟨b,c,none⟩ 1):=by
  obtain ⟨ob,n',c',ht2,_,hh⟩:=h.holds _ (List.mem_cons_self ..)
  rw [ht] at ht2; cases ht2
  obtain ⟨he,hnc,arr,hca,hl⟩:=hh b rfl
  have hsz:(w.freeze ⟨b,c,none⟩ 1).heap.size=w.heap.size:=by simp [World.freeze]
  have hrest:(w.freeze ⟨b,c,none⟩ 1).os=w.os∧(w.freeze ⟨b,c,none⟩ 1).tape=w.tape∧(w.freeze ⟨b,c,none⟩ 1).output=w.output:=by simp [World.freeze]
  have X:Ext I w I (w.freeze ⟨b,c,none⟩ 1):=by
    refine ⟨hrest.1,hrest.2.1,hrest.2.2,by omega,fun b' hb'=>⟨ko _ _ _ _ (fun e=>by simp only at e; rw [e,he] at hb'; cases hb'),hb'⟩,fun b' j' _=>rF _ _ _ _,fun _ _ h=>h,fun _ _ h=>h,fun _ _ h=>h,fun _ _ h=>h.freeze _ _⟩
  refine ⟨X,Inv.cons ((h.sub (List.sublist_cons_self ..)).keep X (fun d hd b' hb'=>⟨ko _ _ _ _ (fun e=>?_),rfl⟩) (fun b' hb'=>h.fresh b' (by omega)) h.ids) ⟨some b,n,c,ht,fun e=>(by cases e),fun b' e=>?_⟩ (fun b' hb' d hd e=>?_)⟩
  · exact h.apart (c:=.tok t E0) (b:=b) (by simp [Chunk.blk,ht]) d hd (by simp only at e; rw [← e]; exact hb')
  · cases e
    refine ⟨he,hnc,arr,?_,hl.1,hl.2.freeze _ _⟩
    rw [← hl.1]; exact hca.mark
  · exact h.apart (c:=.tok t E0) (b:=b') hb' d hd e
theorem Inv.grow {t t' b n c:Nat} {E0:TypeId} (h:Inv I (.tok t E0::A) w) (ht:I.tok t=some (some b,n,c)) (ht':I.tok t'=none) {w':World} (m:Nat) (hm:n+m≤c)
    (hos:w'.os=w.os) (htape:w'.tape=w.tape) (hout:w'.output=w.output) (hsz:w'.heap.size=w.heap.size)
    (hne:∀ b',b'≠b→w'.heap[b']?=w.heap[b']?) (hin:∀ j,j < n→w'.cell? ⟨b,j,none⟩=w.cell? ⟨b,j,none⟩)
    (hat:∃ arr,CellsAt w' b arr∧arr.length=c) (hel:∀ E,ElemAt w b E→ElemAt w' b E) :
    Ext I w (I.putTok t' b (n+m) c) w'∧Inv (I.putTok t' b (n+m) c) (.tok t' E0::A) w':=by
  obtain ⟨ob,n',c',ht2,_,hh⟩:=h.holds _ (List.mem_cons_self ..)
  rw [ht] at ht2; cases ht2
  obtain ⟨he,hnc,arr,hca,hl⟩:=hh b rfl
  have hblt:b < w.heap.size:=hca.lt
  have X:Ext I w (I.putTok t' b (n+m) c) w':=by
    refine ⟨hos,htape,hout,by omega,fun b' hb'=>?_,fun b' j hj=>?_,fun b' k hk=>?_,fun o' b' hb'=>hb',fun s y hy=>?_,fun b' E hE=>?_⟩
    · have hb2:b'≠b:=fun e=>by rw [e,he] at hb'; cases hb'
      exact ⟨hne b' hb2,by simp only [Info.putTok]; rw [if_neg hb2]; exact hb'⟩
    · by_cases hb2:b'=b
      · subst hb2; exact hin j (by have:=hj n he; omega)
      · simp only [World.cell?,hne b' hb2]
    · intro k' hk'
      simp only [Info.putTok] at hk'
      split at hk'
      · rename_i e; subst e; cases hk'; have:=hk n he; omega
      · exact hk k' hk'
    · simp only [Info.putTok]; rw [if_neg (fun e=>by rw [e,ht'] at hy; cases hy)]; exact hy
    · by_cases hb2:b'=b
      · subst hb2; exact hel E hE
      · obtain ⟨c1,fz1,h1⟩:=hE; exact ⟨c1,fz1,(hne b' hb2).trans h1⟩
  have hap:=h.apart (c:=.tok t E0) (b:=b) (by simp [Chunk.blk,ht])
  have K:Inv (I.putTok t' b (n+m) c) A w':=by
    refine (h.sub (List.sublist_cons_self ..)).keep X (fun d hd b' hb'=>?_) (fun b' hb'=>?_) ?_
    · have hb2:b'≠b:=fun e=>hap d hd (by rw [← e]; exact hb')
      exact ⟨hne b' hb2,by simp only [Info.putTok]; rw [if_neg hb2]⟩
    · simp only [Info.putTok]; rw [if_neg (by omega)]; exact h.fresh b' (by omega)
    · obtain ⟨k,hk⟩:=h.ids
      refine ⟨max k (t'+1),fun x hx=>?_⟩
      have:=hk x (by omega)
      refine ⟨this.1,?_⟩
      simp only [Info.putTok]; rw [if_neg (by omega)]; exact this.2
  refine ⟨X,K.cons ⟨some b,n+m,c,by simp [Info.putTok],fun e=>(by cases e),fun b' e=>?_⟩ ?_⟩
  · cases e
    obtain ⟨arr2,h1,h2⟩:=hat;exact ⟨by simp [Info.putTok],hm,arr2,h1,h2,hel _ hl.2⟩
  · intro b' hb' d hd e
    simp only [Chunk.blk,Info.putTok,if_true,Option.bind_some,Option.some.injEq] at hb'
    subst hb'
    have hd2:d.blk I≠some b:=hap d hd
    have:=((h.holds d (List.mem_cons_of_mem _ hd)).keep X (fun b' hb'=>by
      have hb2:b'≠b:=fun e=>hd2 (by rw [← e]; exact hb')
      exact ⟨hne b' hb2,by simp only [Info.putTok]; rw [if_neg hb2]⟩)).2
    rw [this] at e
    exact hd2 e
theorem Inv.alloc_iter (h:Inv I A w) {o:Nat} (ho:I.obj o=none) (s:List UInt8) (pos:Nat) :
    Inv (I.putObj o w.heap.size) (.iter o s pos::A) (w.alloc (.stringIter ⟨s.toArray⟩ pos)):=by
  have X:=h.new_obj ho (.stringIter ⟨s.toArray⟩ pos)
  have hlt:∀ c∈A,∀ b,c.blk I=some b→b≠w.heap.size:=fun c hc b hb e=>by
    have:=(h.holds c hc).blk_lt hb; omega
  have K:Inv (I.putObj o w.heap.size) A (w.alloc (.stringIter ⟨s.toArray⟩ pos)):=by
    refine h.keep X (fun c hc b hb=>⟨cS _ _ _ (hlt c hc b hb),by simp only [Info.putObj]; rw [if_neg (hlt c hc b hb)]⟩) (fun b hb=>?_) ?_
    · simp only [World.size_alloc] at hb
      simp only [Info.putObj]; rw [if_neg (by omega)]; exact h.fresh b (by omega)
    · obtain ⟨n,hn⟩:=h.ids
      refine ⟨max n (o+1),fun x hx=>?_⟩
      have:=hn x (by omega)
      refine ⟨?_,this.2⟩
      simp only [Info.putObj]; rw [if_neg (by omega)]; exact this.1
  refine K.cons ⟨w.heap.size,by simp [Info.putObj],by simp [Info.putObj],cT _ _⟩ ?_;intro b hb d hd e
  simp only [Chunk.blk,Info.putObj,if_true,Option.some.injEq] at hb
  have:=((h.holds d hd).keep X (fun b' hb'=>⟨cS _ _ _ (hlt d hd b' hb'),by simp only [Info.putObj]; rw [if_neg (hlt d hd b' hb')]⟩)).2
  rw [this] at e
  exact hlt d hd b e hb.symm
theorem Inv.set_iter {o b pos pos':Nat} {s:List UInt8} (h:Inv I (.iter o s pos::A) w) (ho:I.obj o=some b) {w':World} (hos:w'.os=w.os) (htape:w'.tape=w.tape) (hout:w'.output=w.output) (hsz:w'.heap.size=w.heap.size)
    (hne:∀ b',b'≠b→w'.heap[b']?=w.heap[b']?) (hat:w'.heap[b]?=some (.stringIter ⟨s.toArray⟩ pos')):Ext I w I w'∧Inv I (.iter o s pos'::A) w':=by
  obtain ⟨b',ho',he,hh⟩:=h.holds _ (List.mem_cons_self ..)
  rw [ho] at ho'; cases ho'
  have X:Ext I w I w':=by
    refine ⟨hos,htape,hout,by omega,fun c hc=>?_,fun c j hj=>?_,fun _ _ h=>h,fun _ _ h=>h,fun _ _ h=>h,fun c E hE=>?_⟩
    · have:c≠b:=fun e=>by rw [e,he] at hc; cases hc
      exact ⟨hne c this,hc⟩
    · have:c≠b:=fun e=>by have:=hj 0 (by rw [e]; exact he); omega
      simp only [World.cell?,hne c this]
    · by_cases e:c=b
      · subst e; obtain ⟨d,fz,hd⟩:=hE; rw [hh] at hd; cases hd
      · obtain ⟨d,fz,hd⟩:=hE; exact ⟨d,fz,(hne c e).trans hd⟩
  have hap:=h.apart (c:=.iter o s pos) (b:=b) ho
  refine ⟨X,Inv.cons ((h.sub (List.sublist_cons_self ..)).keep X (fun d hd b' hb'=>?_) (fun b' hb'=>h.fresh b' (by omega)) h.ids) ⟨b,ho,he,hat⟩ (fun b' hb' d hd e=>?_)⟩
  · have:b'≠b:=fun e=>hap d hd (by rw [← e]; exact hb')
    exact ⟨hne b' this,rfl⟩
  · exact hap d hd (by simp only [Chunk.blk] at hb'; rw [ho] at hb'; cases hb'; exact e)
end
end Go.Av
namespace Go.Av
abbrev Env:=List (Nat×AV)
def ev:Env→Nat→AV
  | [],_=>.any
  | (j,a)::r,i=>match Nat.beq j i with
    | true=>a
    | false=>ev r i
def opv (e:Env):Operand→AV
  | .tmp t=>ev e t
  | .const v=>.v v
  | .global g=>.v (.pointer (some ⟨g,0,none⟩))
  | .func f=>.v (.func (.func f) #[] #[])
inductive ADef where
  | call (f:Fn) (cap args:List AV)
  | mark (o:Nat)
inductive RelD (I:Info) (w:World):ADef→Deferred→Prop where
  | call (f:Fn) (cap args:List AV) (xs ys:List Value) (h:RelL I w cap xs) (g:RelL I w args ys):RelD I w (.call f cap args) { target:=.fn f xs.toArray,args:=ys.toArray }
  | mark (o b:Nat) (h:I.obj o=some b):RelD I w (.mark o) { target:=.collected b,args := #[] }
inductive RelDs (I:Info) (w:World):List ADef→List Deferred→Prop where
  | nil:RelDs I w [] []
  | cons {a:ADef} {d:Deferred} {as_:List ADef} {ds:List Deferred} (h:RelD I w a d) (g:RelDs I w as_ ds):RelDs I w (a::as_) (d::ds)
theorem RelD.mono {I I':Info} {w w':World} (E:Ext I w I' w') {a:ADef} {d:Deferred} (h:RelD I w a d):RelD I' w' a d:=by
  cases h with
  | call f cap args xs ys h g=>exact .call f cap args xs ys (h.mono E) (g.mono E)
  | mark o b h=>exact .mark o b (E.obj _ _ h)
theorem RelDs.mono {I I':Info} {w w':World} (E:Ext I w I' w') {a:List ADef} {d:List Deferred} (h:RelDs I w a d):RelDs I' w' a d:=by
  induction h with
  | nil=>exact .nil
  | cons h _ ih=>exact .cons (h.mono E) ih
structure St where
  env:Env
  ds:List ADef
  A:List Chunk
structure RelS (N:Nat) (I:Info) (w:World) (s:St) (a:Act):Prop where
  size:a.tmps.size=N
  env:∀ t,Rel I w (ev s.env t) (a.tmps.getD t undef)
  ds:RelDs I w s.ds a.defers
theorem RelS.mono {N:Nat} {I I':Info} {w w':World} (E:Ext I w I' w') {s:St} {a:Act} (h:RelS N I w s a):RelS N I' w' s a:=⟨h.size,fun t=>(h.env t).mono E,h.ds.mono E⟩
theorem RelS.op {N:Nat} {I:Info} {w:World} {s:St} {a:Act} (h:RelS N I w s a) (x:Operand):Rel I w (opv s.env x) (a.eval x):=by
  cases x with
  | tmp t=>exact h.env t
  | const v=>exact .v v
  | global g=>exact .v _
  | func f=>exact .v _
theorem RelS.put {N:Nat} {I:Info} {w:World} {s:St} {a:Act} (h:RelS N I w s a) {d:Nat} (hd:d < N) {av:AV} {v:Value} (hv:Rel I w av v) (A:List Chunk) :
    RelS N I w { s with env:=(d,av)::s.env,A:=A } (a.put (some d) v):=by
  refine ⟨by simp [Act.put,h.size],fun t=>?_,h.ds⟩
  simp only [ev,Act.put]
  have hs:=h.size
  by_cases e:d=t
  · subst e
    have:Nat.beq d d=true:=Nat.beq_refl d
    simp only [this,Array.getD_eq_getD_getElem?,Array.getElem?_setIfInBounds_self_of_lt (show d < a.tmps.size by omega),Option.getD_some]
    exact hv
  · have hb:Nat.beq d t=false:=by
      cases hb:Nat.beq d t with
      | false=>rfl
      | true=>exact absurd (Nat.eq_of_beq_eq_true hb) e
    simp only [hb,Array.getD_eq_getD_getElem?,Array.getElem?_setIfInBounds_ne e]
    have:=h.env t
    simpa [Array.getD_eq_getD_getElem?] using this
abbrev gt:=Exit→St→Prop
def Then (K:St→Prop) (Q:gt):gt
  | .normal,s=>K s
  | e,s=>Q e s
def CQ (N:Nat) (F:List Chunk) (I:Info) (w:World) (Q:gt):Exit→Act→World→Prop:=fun e a' w' =>
  ∃ I' s',Ext I w I' w'∧Inv I' (s'.A++F) w'∧RelS N I' w' s' a'∧Q e s'
theorem CQ.mono {N:Nat} {F:List Chunk} {I I1:Info} {w w1:World} {Q Q':gt} (E:Ext I w I1 w1) (h:∀ e s,Q e s→Q' e s) {e:Exit} {a:Act} {w':World}
    (hc:CQ N F I1 w1 Q e a w'):CQ N F I w Q' e a w':=let ⟨I',s',h1,h2,h3,h4⟩:=hc; ⟨I',s',E.trans h1,h2,h3,h _ _ h4⟩
abbrev _root_.Go.Av.eL := @CQ.mono
def dX (ro:Option Nat):Fence:={ Fence.wide with round:=ro }
def AW (P:Program) (ro:Option Nat) (N:Nat) (c:Code) (Q:gt) (s:St):Prop :=
  ∀ F I w a,Inv I (s.A++F) w→RelS N I w s a→c.wpIn (dX ro) 0 P (CQ N F I w Q) a w
def AR (P:Program) (ro:Option Nat) (N:Nat) (ops:Array Oper) (Q:gt) (l:List Nat) (s:St):Prop :=
  ∀ F I w a,Inv I (s.A++F) w→RelS N I w s a→wpOpsIn (dX ro) 0 P ops (CQ N F I w Q) l a w
def WK (N:Nat) (s s':St):Prop :=
  ∀ F I w a,Inv I (s.A++F) w→RelS N I w s a→∃ I',Ext I w I' w∧Inv I' (s'.A++F) w∧RelS N I' w s' a
section
variable {P:Program} {ro:Option Nat} {N:Nat} {Q Q':gt} {s:St}
theorem AW.mono {c:Code} (h:AW P ro N c Q s) (hq:∀ e s,Q e s→Q' e s):AW P ro N c Q' s:=fun F I w a hI hS=>wpIn_mono (h F I w a hI hS) fun _ _ _=>eL (cj _ _) hq
theorem AW.skip (h:Q .normal s):AW P ro N .skip Q s:=fun F I w a hI hS=>wpIn_skip ⟨I,s,cj _ _,hI,hS,h⟩
abbrev _root_.Go.Av.aC := @AW.skip
theorem AW.exit {id:Nat} (h:Q (.exit id) s):AW P ro N (.exit id) Q s:=fun F I w a hI hS=>wpIn_exit ⟨I,s,cj _ _,hI,hS,h⟩
abbrev _root_.Go.Av.bU := @AW.exit
theorem AW.goto {l:Nat} (h:Q (.goto l) s):AW P ro N (.goto l) Q s:=fun F I w a hI hS=>wpIn_goto ⟨I,s,cj _ _,hI,hS,h⟩
theorem AW.ret (h:Q .ret s):AW P ro N .ret Q s:=fun F I w a hI hS=>wpIn_ret ⟨I,s,cj _ _,hI,hS,h⟩
abbrev _root_.Go.Av.aQ := @AW.ret
theorem AW.weaken {c:Code} {s':St} (k:WK N s s') (h:AW P ro N c Q s'):AW P ro N c Q s:=fun F I w a hI hS =>
  let ⟨I',E,hI',hS'⟩:=k F I w a hI hS
  wpIn_mono (h F I' w a hI' hS') fun _ _ _=>eL E fun _ _ h=>h
theorem AW.seq {x y:Code} (h:AW P ro N x (Then (AW P ro N y Q) Q) s):AW P ro N (.seq x y) Q s:=fun F I w a hI hS=>by
  refine wpIn_seq (wpIn_mono (h F I w a hI hS) fun e a' w' hq=>?_);obtain ⟨I',s',E,hI',hS',hq⟩:=hq
  cases e with
  | normal=>exact wpIn_mono (hq F I' w' a' hI' hS') fun _ _ _=>eL E fun _ _ h=>h
  | _=>exact ⟨I',s',E,hI',hS',hq⟩
abbrev _root_.Go.Av.ac := @AW.seq
theorem AW.cond {c:Operand} {x y:Code} {b:Bool} (hc:opv s.env c=.v (.bool b)) (ht:b=true→AW P ro N x Q s) (hf:b=false→AW P ro N y Q s) :
    AW P ro N (.cond c x y) Q s:=fun F I w a hI hS=>by
  have h:=hS.op c
  rw [hc] at h
  have he:a.eval c=.bool b:=by generalize a.eval c=x at h; cases h; rfl
  exact wpIn_cond_split he (fun e=>ht e F I w a hI hS) (fun e=>hf e F I w a hI hS)
abbrev _root_.Go.Av.ax := @AW.cond
def zN (id:Nat) (Q:gt):gt
  | .exit id',s=>if id'=id then Q .normal s else Q (.exit id') s
  | e,s=>Q e s
theorem AW.block {id:Nat} {c:Code} (h:AW P ro N c (zN id Q) s):AW P ro N (.block id c) Q s:=fun F I w a hI hS=>by
  refine wpIn_block (wpIn_mono (h F I w a hI hS) fun e a' w' hq=>?_);obtain ⟨I',s',E,hI',hS',hq⟩:=hq
  cases e with
  | exit id' =>
    simp only [Exit.inBlock]
    simp only [zN] at hq
    split
    · rename_i e; rw [if_pos e] at hq; exact ⟨I',s',E,hI',hS',hq⟩
    · rename_i e; rw [if_neg e] at hq; exact ⟨I',s',E,hI',hS',hq⟩
  | _=>exact ⟨I',s',E,hI',hS',hq⟩
abbrev _root_.Go.Av.aR := @AW.block
def NoGoto (Q:gt):gt
  | .goto _,_=>False
  | e,s=>Q e s
theorem AW.scope {c:Code} (h:AW P none N c (NoGoto Q) s):AW P none N (.scope c) Q s:=fun F I w a hI hS=>by
  refine (wpIn_wide (n:=0)).2 (wp_scope_straight (wp_mono ((wpIn_wide (n:=0)).1 (h F I w a hI hS)) fun e a' w' hq=>?_));obtain ⟨I',s',E,hI',hS',hq⟩:=hq
  cases e with
  | goto l=>exact hq.elim
  | _=>exact ⟨I',s',E,hI',hS',hq⟩
theorem AW.loop {X:Type} (st:X→St) (ok:X→Prop) (μ:X→Nat) {c:Code} (x₀:X) (h₀:ok x₀) (k₀:WK N s (st x₀))
    (round:∀ x,ok x→AW P ro N c (Then (fun s'=>∃ x',ok x'∧μ x' < μ x∧WK N s' (st x')) Q) (st x)):AW P ro N (.loop c) Q s:=by
  intro F I w a hI hS;obtain ⟨I0,E0,hI0,hS0⟩:=k₀ F I w a hI hS;intro b k cs hro hb hr
  have key:∀ j x I1 a w1,μ x=j→ok x→Ext I w I1 w1→Inv I1 ((st x).A++F) w1→RelS N I1 w1 (st x) a →
      ∃ e a' w',CQ N F I w Q e a' w'∧ArrivesIn (Machine.fenced P (dX ro)) P (lone (b.atR a (.code c::.inLoop c::k)) cs w1) b k cs e a' w':=by
    intro j
    induction j using Nat.strongRecOn with
    | _ j ih =>
      intro x I1 a w1 hj hx E hI1 hS1;obtain ⟨e,a₁,w₁,hq,harr⟩:=round x hx F I1 w1 a hI1 hS1 b (.inLoop c::k) cs hro hb hr;obtain ⟨I2,s2,E2,hI2,hS2,hq⟩:=hq
      cases e with
      | normal =>
        obtain ⟨x',hx',hlt,hk⟩:=hq;obtain ⟨I3,E3,hI3,hS3⟩:=hk F I2 w₁ a₁ hI2 hS2;obtain ⟨e₂,a₂,w₂,hq₂,harr₂⟩:=ih (μ x') (hj ▸ hlt) x' I3 a₁ w₁ rfl hx' ((E.trans E2).trans E3) hI3 hS3;exact ⟨e₂,a₂,w₂,hq₂,.of_steps (StepsIn.trans harr (.one (fenced_calm hb hr rfl) stepR_inLoop)) harr₂⟩
      | exit id=>exact ⟨_,a₁,w₁,⟨I2,s2,E.trans E2,hI2,hS2,hq⟩,.pass (x:=.inLoop c) rfl (fun _ _=>.inl (by simp)) harr⟩
      | goto l=>exact ⟨_,a₁,w₁,⟨I2,s2,E.trans E2,hI2,hS2,hq⟩,.pass (x:=.inLoop c) rfl (fun _ _=>.inl (by simp)) harr⟩
      | ret=>exact ⟨_,a₁,w₁,⟨I2,s2,E.trans E2,hI2,hS2,hq⟩,.pass (x:=.inLoop c) rfl (fun _ _=>.inl (by simp)) harr⟩
      | panic ch=>exact ⟨_,a₁,w₁,⟨I2,s2,E.trans E2,hI2,hS2,hq⟩,.pass (x:=.inLoop c) rfl (fun _ _=>.inl (by simp)) harr⟩
      | outgrown=>exact ⟨_,a₁,w₁,⟨I2,s2,E.trans E2,hI2,hS2,hq⟩,.pass (x:=.inLoop c) rfl (fun _ _=>.inl (by simp)) harr⟩
  obtain ⟨e,a',w',hq,harr⟩:=key _ x₀ I0 a w rfl h₀ E0 hI0 hS0;exact ⟨e,a',w',hq,.of_steps (.one (fenced_calm hb hr rfl) stepR_loop) harr⟩
abbrev _root_.Go.Av.cl := @AW.loop
theorem AW.cut {X:Type} (st:X→St) (ok:X→Prop) {x y:Code} (h:AW P ro N x (Then (fun s'=>∃ i,ok i∧WK N s' (st i)) Q) s) (k:∀ i,ok i→AW P ro N y Q (st i)):AW P ro N (.seq x y) Q s :=
  ac (h.mono fun e s' hq=>by
    cases e with
    | normal=>obtain ⟨i,hi,hk⟩:=hq; exact AW.weaken hk (k i hi)
    | _=>exact hq)
abbrev _root_.Go.Av.bq := @AW.cut
def Sub (B A:List Chunk):Prop:=∃ C:List Chunk,C.Perm B∧C.Sublist A
abbrev _root_.Go.Av.bG := @List.Perm.refl
theorem Sub.refl (A:List Chunk):Sub A A:=⟨A,bG _,List.Sublist.refl _⟩
abbrev _root_.Go.Av.bX := @Sub.refl
theorem Sub.nil (A:List Chunk):Sub [] A:=⟨[],bG _,List.nil_sublist _⟩
abbrev _root_.Go.Av.bC := @Sub.nil
theorem Sub.cons (c:Chunk) {A B:List Chunk} (h:Sub B A):Sub (c::B) (c::A):=let ⟨C,p,s⟩:=h; ⟨c::C,p.cons c,s.cons_cons c⟩
abbrev _root_.Go.Av.gd := @Sub.cons
theorem Sub.skip (c:Chunk) {A B:List Chunk} (h:Sub B A):Sub B (c::A):=let ⟨C,p,s⟩:=h; ⟨C,p,s.cons c⟩
abbrev _root_.Go.Av.gc := @Sub.skip
theorem Sub.inv {A B F:List Chunk} {I:Info} {w:World} (h:Sub B A) (hI:Inv I (A++F) w):Inv I (B++F) w:=let ⟨C,p,s⟩:=h; (hI.sub (s.append (List.Sublist.refl F))).perm (p.append_right F)
theorem WK.refl (s:St):WK N s s:=fun F I w a hI hS=>⟨I,cj _ _,hI,hS⟩
theorem WK.trans {s s' s'':St} (h:WK N s s') (g:WK N s' s''):WK N s s'':=fun F I w a hI hS =>
  let ⟨I',E,hI',hS'⟩:=h F I w a hI hS
  let ⟨I'',E',hI'',hS''⟩:=g F I' w a hI' hS'
  ⟨I'',E.trans E',hI'',hS''⟩
inductive Wv:AV→AV→Prop where
  | refl (a:AV):Wv a a
  | any (a:AV):Wv a .any
  | tok (k:Nat) (cs:List AV) (t:Option Nat):Wv (.sl k cs t) (.sl k cs none)
  | nil (k:Nat):Wv (.v (.slice none 0 0)) (.sl k [] none)
  | ifc (t:TypeId) (x:AV):Wv (.ifc t x) (.ifc t .any)
theorem Wv.rel {I:Info} {w:World} {a b:AV} {x:Value} (h:Wv a b) (hr:Rel I w a x):Rel I w b x:=by
  cases h with
  | refl=>exact hr
  | any=>exact .any x
  | tok k cs t =>
    cases hr with
    | slz=>exact .slz _ _ _
    | slnil k t ht=>exact .slz _ _ _
    | sl k cs t b off len cap xs hk hlen hcap hst hx hr ht=>exact .sl k cs none b off len cap xs hk hlen hcap hst hx hr (fun t' e=>by cases e)
  | nil k=>cases hr; exact .slz _ _ _
  | ifc t x=>cases hr; exact .ifc t .any _ (.any _)
def Env.le (e:Env) (l:Env):Prop:=∀ p∈l,Wv (ev e p.1) p.2
theorem Env.le.nil (e:Env):Env.le e []:=fun _ h=>by cases h
theorem Env.le.cons {e:Env} {i:Nat} {a:AV} {l:Env} (h:Wv (ev e i) a) (g:Env.le e l):Env.le e ((i,a)::l):=fun p hp=>by
  rcases List.mem_cons.1 hp with rfl | hp
  · exact h
  · exact g p hp
abbrev _root_.Go.Av.bK := @Env.le.cons
theorem Env.le.ev {e l:Env} (h:Env.le e l) (t:Nat):Wv (ev e t) (ev l t):=by
  induction l with
  | nil=>exact .any _
  | cons p l ih =>
    obtain ⟨j,a⟩:=p
    simp only [Av.ev]
    cases hb:Nat.beq j t with
    | false=>exact ih fun q hq=>h q (List.mem_cons_of_mem _ hq)
    | true =>
      have:=Nat.eq_of_beq_eq_true hb
      subst this;exact h _ (List.mem_cons_self ..)
theorem WK.env {e l:Env} {ds:List ADef} {A B:List Chunk} (h:Env.le e l) (p:Sub B A):WK N ⟨e,ds,A⟩ ⟨l,ds,B⟩:=fun F I w a hI hS =>
  ⟨I,cj _ _,p.inv hI,⟨hS.size,fun t=>(h.ev t).rel (hS.env t),hS.ds⟩⟩
theorem lK {c:Code} {e:Env} {ds:List ADef} {A:List Chunk} (i k:Nat) (Ty:TypeId) (hi:ev e i=.v (.slice none 0 0))
    (h:∀ t,AW P ro N c Q ⟨(i,.sl k [] (some t))::e,ds,.tok t Ty::A⟩):AW P ro N c Q ⟨e,ds,A⟩:=fun F I w a hI hS=>by
  obtain ⟨t,ht⟩:=hI.fresh_tok;obtain ⟨E,hI'⟩:=hI.nil_tok ht Ty
  have hS':=hS.mono E
  refine wpIn_mono (h t F (I.nilTok t) w a hI' ⟨hS.size,fun j=>?_,hS'.ds⟩) fun _ _ _=>eL E fun _ _ h=>h
  have hj:=hS'.env j
  simp only [ev]
  cases hb:Nat.beq i j with
  | false=>exact hj
  | true =>
    have:=Nat.eq_of_beq_eq_true hb
    subst this
    simp only [hi] at hj
    simp only
    generalize a.tmps.getD i undef=x at hj
    cases hj
    exact .slnil k t (by simp [Info.nilTok])
theorem yI {c:Code} {e:Env} {ds:List ADef} {A:List Chunk} {o:Nat} {cs:List AV} (j k:Nat) (Ty:TypeId) (hj:cs[j]?=some (.v (.slice none 0 0)))
    (h:∀ t,AW P ro N c Q ⟨e,ds,.obj o (cs.set j (.sl k [] (some t)))::.tok t Ty::A⟩):AW P ro N c Q ⟨e,ds,.obj o cs::A⟩:=fun F I w a hI hS=>by
  obtain ⟨t,ht⟩:=hI.fresh_tok;obtain ⟨E,hI'⟩:=hI.nil_tok ht Ty
  have hS':=hS.mono E
  have hp:Inv (I.nilTok t) (.obj o cs::.tok t Ty::(A++F)) w:=hI'.perm (List.Perm.swap _ _ _)
  have hK:Inv (I.nilTok t) (.obj o (cs.set j (.sl k [] (some t)))::.tok t Ty::(A++F)) w:=by
    refine Inv.cons (hp.sub (List.sublist_cons_self ..)) ?_ (fun b hb d hd e=>?_)
    · obtain ⟨b,arr,ho,he,hc,hr⟩:=hp.holds _ (List.mem_cons_self ..)
      refine ⟨b,arr,ho,he,hc,by simp [hr.1],fun i hi=>?_⟩
      have hi':i < cs.length:=by simpa using hi
      by_cases hij:j=i
      · subst hij
        simp only [List.getElem_set_self]
        have:=hr.2 j hi'
        have hcj:cs[j]=.v (.slice none 0 0):=(List.getElem?_eq_some_iff.1 hj).2
        rw [hcj] at this
        generalize arr.getD j undef=x at this
        cases this
        exact .slnil k t (by simp [Info.nilTok])
      · rw [List.getElem_set_ne hij]; exact hr.2 i hi'
    · exact hp.apart (c:=.obj o cs) (b:=b) hb d hd e
  exact wpIn_mono (h t F (I.nilTok t) w a hK ⟨hS'.size,hS'.env,hS'.ds⟩) fun _ _ _=>eL E fun _ _ h=>h
theorem AW.region {id:Nat} {ops:Array Oper} (h:AR P ro N ops Q (List.range ops.size) s):AW P ro N (.region id ops false) Q s:=fun F I w a hI hS=>wpIn_region (h F I w a hI hS)
abbrev _root_.Go.Av.aa := @AW.region
theorem AR.nil {ops:Array Oper} (h:Q .normal s):AR P ro N ops Q [] s:=fun F I w a hI hS=>⟨I,s,cj _ _,hI,hS,h⟩
abbrev _root_.Go.Av.ag := @AR.nil
def OpR (P:Program) (o:Oper) (e:Env) (A:List Chunk) (av:AV) (A':List Chunk):Prop :=
  ∀ F I w ρ,Inv I (A++F) w→(∀ x,Rel I w (opv e x) (ρ x))→∃ n v w' I',(execOp ρ o).run P w=.ok n w'∧(n=.value v∨n=.skip∧v=undef) ∧
    Ext I w I' w'∧Inv I' (A'++F) w'∧Rel I' w' av v
def OpS (P:Program) (o:Oper) (e:Env) (av:AV):Prop :=
  ∀ I w ρ,(∀ x,Rel I w (opv e x) (ρ x))→∃ v,Rel I w av v∧∀ w',(∀ b j,Stab I b (j+1)→w'.cell? ⟨b,j,none⟩=w.cell? ⟨b,j,none⟩) →
    (∀ b,I.ext b=none→w'.heap[b]?=w.heap[b]?)→(execOp ρ o).run P w'=.ok (.value v) w'
theorem OpS.opR {o:Oper} {e:Env} {av:AV} (h:OpS P o e av) (A:List Chunk):OpR P o e A av A:=fun F I w ρ hI hρ =>
  let ⟨v,hv,hw⟩:=h I w ρ hρ
  ⟨.value v,v,w,I,hw w (fun _ _ _=>rfl) (fun _ _=>rfl),.inl rfl,cj _ _,hI,hv⟩
theorem dQ (f:FuncId):(dX ro).fn f:=trivial
theorem qA {n:Nat}:(dX ro).depth.isSome=true→1≤n:=fun h=>by simp [dX,Fence.wide] at h
def je:Op→Bool
  | .defer _=>true
  | _=>false
theorem qT {op:Op} (h:je op=false) (c:Call):op≠.defer c:=fun e=>by subst e; cases h
theorem cZ {ops:Array Oper} {R R':Exit→Act→World→Prop} (l:List Nat) (h:∀ e a w,R e a w→R' e a w) :
    ∀ a w,wpOpsIn (dX ro) 0 P ops R l a w→wpOpsIn (dX ro) 0 P ops R' l a w:=by
  induction l with
  | nil=>exact fun a w hh=>h _ _ _ hh
  | cons i rest ih =>
    intro a w hh
    simp only [wpOpsIn] at hh ⊢
    cases ho:ops[i]? with
    | none=>simp only [ho] at hh ⊢; exact ih a w hh
    | some o =>
      simp only [ho] at hh ⊢
      by_cases hw:Region.wanted o (yielded ops a.tmps)=true
      · simp only [hw,if_true] at hh ⊢
        refine ⟨hh.1,?_⟩
        have h2:=hh.2
        generalize (o.semAt (dX ro).round a.eval).run P w=r at h2 ⊢
        cases r with
        | ok n w' =>
          cases n <;> simp only [Oper.uponIn] at h2 ⊢ <;> first
            | exact ih _ _ h2
            | exact ⟨h2.1,h2.2.mono fun e w'' he=>by cases e <;> first | exact ih _ _ he | exact h _ _ _ he | exact he.imp fun _ ⟨w,hq⟩=>⟨w,h _ _ _ hq⟩⟩
            | exact ⟨h2.1,h2.2.mono fun v w'' he=>ih _ _ he⟩
            | exact h2
        | halt x w'=>cases x <;> simp only [Oper.uponIn] at h2 ⊢ <;> first | exact h _ _ _ h2 | exact h2
      · simp only [hw,if_false,Bool.false_eq_true] at hh ⊢
        exact ⟨hh.1,ih _ _ hh.2⟩
def AO (P:Program) (ro:Option Nat) (N:Nat) (ops:Array Oper) (Q:gt) (rest:List Nat) (o:Oper) (s:St):Prop :=
  ∀ F I w a,Inv I (s.A++F) w→RelS N I w s a→o.wpIn (dX ro) 0 P a w (wpOpsIn (dX ro) 0 P ops (CQ N F I w Q) rest) (CQ N F I w Q)
theorem AR.run {ops:Array Oper} {i:Nat} {rest:List Nat} {o:Oper} (ho:ops[i]?=some o) (hg:o.guard=none) (h:AO P ro N ops Q rest o s):AR P ro N ops Q (i::rest) s:=fun F I w a hI hS=>by
  simp only [wpOpsIn,ho,Region.wanted,hg,if_true]
  exact h F I w a hI hS
abbrev _root_.Go.Av.ar := @AR.run
abbrev _root_.Go.Av.af := @Nat.le_of_ble_eq_true
theorem AR.guard {ops:Array Oper} {i:Nat} {rest:List Nat} {o:Oper} {j t:Nat} {want b:Bool} {e:Env} {ds:List ADef} {A:List Chunk}
    (ho:ops[i]?=some o) (hg:o.guard=some (j,want)) (hj:(ops[j]?).bind (·.dst)=some t) (hb:ev e t=.v (.bool b)) (ht:Nat.blt t N=true)
    (h1:b=want→AO P ro N ops Q rest o ⟨e,ds,A⟩)
    (h2:b = !want→∀ d,o.dst=some d→Nat.blt d N=true∧AR P ro N ops Q rest ⟨(d,.v undef)::e,ds,A⟩) (hd:o.dst≠none):AR P ro N ops Q (i::rest) ⟨e,ds,A⟩:=fun F I w a hI hS=>by
  have htlt:t < N:=af ht
  have hv:a.tmps[t]?=some (.bool b):=by
    have h:=hS.env t
    simp only [hb] at h
    have hs:=hS.size
    have hlt:t < a.tmps.size:=by omega
    rw [Array.getD_eq_getD_getElem?,Array.getElem?_eq_getElem hlt,Option.getD_some] at h
    rw [Array.getElem?_eq_getElem hlt]
    generalize a.tmps[t]=x at h
    cases h; rfl
  have hy:yielded ops a.tmps j=some b:=by simp only [yielded,hj,Option.bind_some,hv]
  simp only [wpOpsIn,ho,Region.wanted,hg,hy]
  by_cases hw:b=want
  · subst hw
    simp only [beq_self_eq_true,if_true]
    exact h1 rfl F I w a hI hS
  · have hb':(some b==some want)=false:=by cases b <;> cases want <;> simp_all
    simp only [hb',Bool.false_eq_true,if_false]
    refine ⟨fun _ _=>trivial,?_⟩;obtain ⟨d,hd⟩:=Option.ne_none_iff_exists'.1 hd;obtain ⟨hdN,hk⟩:=h2 (by cases b <;> cases want <;> simp_all) d hd
    rw [hd]
    exact hk F I w _ hI (hS.put (af hdN) (.v _) A)
theorem yJ {ops:Array Oper} {i:Nat} {rest:List Nat} {o:Oper} {j t:Nat} {want:Bool} {e:Env} {ds:List ADef} {A:List Chunk}
    (ho:ops[i]?=some o) (hg:o.guard=some (j,want)) (hj:(ops[j]?).bind (·.dst)=some t) (hb:ev e t=.v undef) (ht:Nat.blt t N=true)
    (h2:∀ d,o.dst=some d→Nat.blt d N=true∧AR P ro N ops Q rest ⟨(d,.v undef)::e,ds,A⟩) (hd:o.dst≠none):AR P ro N ops Q (i::rest) ⟨e,ds,A⟩:=fun F I w a hI hS=>by
  have htlt:t < N:=af ht
  have hv:a.tmps[t]?=some undef:=by
    have h:=hS.env t
    simp only [hb] at h
    have hs:=hS.size
    have hlt:t < a.tmps.size:=by omega
    rw [Array.getD_eq_getD_getElem?,Array.getElem?_eq_getElem hlt,Option.getD_some] at h
    rw [Array.getElem?_eq_getElem hlt]
    generalize a.tmps[t]=x at h
    cases h; rfl
  have hy:yielded ops a.tmps j=none:=by simp only [yielded,hj,Option.bind_some,hv]; rfl
  simp only [wpOpsIn,ho,Region.wanted,hg,hy]
  have hb':((none:Option Bool)==some want)=false:=by cases want <;> rfl
  simp only [hb',Bool.false_eq_true,if_false]
  refine ⟨fun _ _=>trivial,?_⟩;obtain ⟨d,hd⟩:=Option.ne_none_iff_exists'.1 hd;obtain ⟨hdN,hk⟩:=h2 d hd
  rw [hd]
  exact hk F I w _ hI (hS.put (af hdN) (.v _) A)
theorem AO.op {ops:Array Oper} {rest:List Nat} {d:Nat} {op:Op} {T:TypeId} {pos:String} {after:Array Edge} {g:Option (Nat×Bool)} {e:Env} {ds:List ADef} {A A':List Chunk} {av:AV}
    (hd:Nat.blt d N=true) (hn:je op=false) (h:OpR P ⟨some d,op,T,pos,after,g⟩ e A av A')
    (k:AR P ro N ops Q rest ⟨(d,av)::e,ds,A'⟩):AO P ro N ops Q rest ⟨some d,op,T,pos,after,g⟩ ⟨e,ds,A⟩:=fun F I w a hI hS=>by
  obtain ⟨n,v,w',I',hrun,hnv,E,hI',hv⟩:=h F I w a.eval hI hS.op
  have hk:=k F I' w' (a.put (some d) v) hI' ((hS.mono E).put (af hd) hv A')
  refine ⟨fun _ _=>dQ _,?_⟩
  rw [Oper.semAt_eq _ _ _ (qT hn),hrun]
  have hk':wpOpsIn (dX ro) 0 P ops (CQ N F I w Q) rest (a.put (some d) v) w':=cZ rest (fun _ _ _=>eL E fun _ _ h=>h) _ _ hk
  rcases hnv with rfl | ⟨rfl,rfl⟩ <;> exact hk'
abbrev _root_.Go.Av.cG := @AO.op
theorem AO.ops {ops:Array Oper} {rest:List Nat} {d:Nat} {op:Op} {T:TypeId} {pos:String} {after:Array Edge} {g:Option (Nat×Bool)} {e:Env} {ds:List ADef} {A:List Chunk} {av:AV}
    (hd:Nat.blt d N=true) (hn:je op=false) (h:OpS P ⟨some d,op,T,pos,after,g⟩ e av)
    (k:AR P ro N ops Q rest ⟨(d,av)::e,ds,A⟩):AO P ro N ops Q rest ⟨some d,op,T,pos,after,g⟩ ⟨e,ds,A⟩:=cG hd hn (h.opR A) k
abbrev _root_.Go.Av.aE := @AO.ops
def OpX (P:Program) (o:Oper) (e:Env) (A:List Chunk) (R:AV→List Chunk→Prop):Prop :=
  ∀ F I w ρ,Inv I (A++F) w→(∀ x,Rel I w (opv e x) (ρ x))→∃ n v w' I' av A',(execOp ρ o).run P w=.ok n w'∧(n=.value v∨n=.skip∧v=undef) ∧
    Ext I w I' w'∧Inv I' (A'++F) w'∧Rel I' w' av v∧R av A'
theorem AO.opx {ops:Array Oper} {rest:List Nat} {d:Nat} {op:Op} {T:TypeId} {pos:String} {after:Array Edge} {g:Option (Nat×Bool)} {e:Env} {ds:List ADef} {A:List Chunk}
    {R:AV→List Chunk→Prop} (hd:Nat.blt d N=true) (hn:je op=false) (h:OpX P ⟨some d,op,T,pos,after,g⟩ e A R)
    (k:∀ av A',R av A'→AR P ro N ops Q rest ⟨(d,av)::e,ds,A'⟩):AO P ro N ops Q rest ⟨some d,op,T,pos,after,g⟩ ⟨e,ds,A⟩:=fun F I w a hI hS=>by
  obtain ⟨n,v,w',I',av,A',hrun,hnv,E,hI',hv,hR⟩:=h F I w a.eval hI hS.op
  have hk:=k av A' hR F I' w' (a.put (some d) v) hI' ((hS.mono E).put (af hd) hv A')
  refine ⟨fun _ _=>dQ _,?_⟩
  rw [Oper.semAt_eq _ _ _ (qT hn),hrun]
  have hk':wpOpsIn (dX ro) 0 P ops (CQ N F I w Q) rest (a.put (some d) v) w':=cZ rest (fun _ _ _=>eL E fun _ _ h=>h) _ _ hk
  rcases hnv with rfl | ⟨rfl,rfl⟩ <;> exact hk'
theorem AO.op0 {ops:Array Oper} {rest:List Nat} {op:Op} {T:TypeId} {pos:String} {after:Array Edge} {g:Option (Nat×Bool)} {e:Env} {ds:List ADef} {A A':List Chunk} {av:AV}
    (hn:je op=false) (h:OpR P ⟨none,op,T,pos,after,g⟩ e A av A')
    (k:AR P ro N ops Q rest ⟨e,ds,A'⟩):AO P ro N ops Q rest ⟨none,op,T,pos,after,g⟩ ⟨e,ds,A⟩:=fun F I w a hI hS=>by
  obtain ⟨n,v,w',I',hrun,hnv,E,hI',hv⟩:=h F I w a.eval hI hS.op
  have hk:=k F I' w' a hI' ⟨hS.size,(hS.mono E).env,(hS.mono E).ds⟩
  refine ⟨fun _ _=>dQ _,?_⟩
  rw [Oper.semAt_eq _ _ _ (qT hn),hrun]
  have hk':wpOpsIn (dX ro) 0 P ops (CQ N F I w Q) rest a w':=cZ rest (fun _ _ _=>eL E fun _ _ h=>h) _ _ hk
  rcases hnv with rfl | ⟨rfl,rfl⟩ <;> exact hk'
abbrev _root_.Go.Av.dM := @AO.op0
inductive AE where
  | ret (v:AV)
  | pan (chain:List PanicEntry)
def RelE (I:Info) (w:World):AE→Ending→Prop
  | .ret av,.returned v=>Rel I w av v
  | .pan c,.panicked c'=>c=c'
  | _,_=>False
def ACalls (P:Program) (f:FuncId) (args:List AV) (A:List Chunk) (R:AE→List Chunk→Prop):Prop :=
  ∀ F I w vs,Inv I (A++F) w→RelL I w args vs→Calls P f vs.toArray w fun e w'=>∃ I' ae A',Ext I w I' w'∧Inv I' (A'++F) w'∧RelE I' w' ae e∧R ae A'
def Ret (v:AV) (A:List Chunk):AE→List Chunk→Prop:=fun e A'=>e=.ret v∧A'=A
theorem ACalls.mono {f:FuncId} {args:List AV} {A:List Chunk} {R R':AE→List Chunk→Prop} (h:ACalls P f args A R) (hr:∀ e A',R e A'→R' e A'):ACalls P f args A R' :=
  fun F I w vs hI hv=>(h F I w vs hI hv).mono fun e w' ⟨I',ae,A',h1,h2,h3,h4⟩=>⟨I',ae,A',h1,h2,h3,hr _ _ h4⟩
theorem ACalls.frame {f:FuncId} {args:List AV} {A:List Chunk} {R:AE→List Chunk→Prop} (h:ACalls P f args A R) (B:List Chunk) :
    ACalls P f args (A++B) (fun e A'=>∃ A1,R e A1∧A'=A1++B):=fun F I w vs hI hv =>
  (h (B++F) I w vs (by rw [← List.append_assoc]; exact hI) hv).mono fun e w' ⟨I',ae,A',h1,h2,h3,h4⟩=>⟨I',ae,A'++B,h1,by rw [List.append_assoc]; exact h2,h3,A',h4,rfl⟩
theorem ACalls.perm {f:FuncId} {args:List AV} {A B:List Chunk} {R:AE→List Chunk→Prop} (h:ACalls P f args A R) (p:B.Perm A):ACalls P f args B R:=fun F I w vs hI hv =>
  h F I w vs (hI.perm (p.append_right F)) hv
theorem AO.call {ops:Array Oper} {rest:List Nat} {d:Nat} {f:FuncId} {args:Array Operand} {argTypes:Array TypeId} {T:TypeId} {pos:String} {after:Array Edge} {g:Option (Nat×Bool)} {e:Env} {ds:List ADef} {A A1:List Chunk} (B:List Chunk)
    {R:AE→List Chunk→Prop} {avs:List AV} (hd:Nat.blt d N=true) (hf:∀ args w,(callFunc f args).run P w=.ok (.enter f args) w) (ha:args.toList.map (opv e)=avs)
    (h:ACalls P f avs A1 R) (p:A.Perm (A1++B)) (k:∀ av A',R (.ret av) A'→AR P ro N ops Q rest ⟨(d,av)::e,ds,A'++B⟩)
    (kp:∀ c A',R (.pan c) A'→Q (.panic c) ⟨e,ds,A'++B⟩) :
    AO P ro N ops Q rest ⟨some d,.call ⟨.value (.func f),args,argTypes⟩,T,pos,after,g⟩ ⟨e,ds,A⟩:=fun F I w a hI hS=>by
  have hS':=hS
  have hrl:RelL I w avs (args.toList.map a.eval):=by
    rw [← ha]; exact gf _ _ _ fun x _=>hS'.op x
  refine ⟨fun _ _=>dQ _,?_⟩
  have hex:(Oper.semAt (dX ro).round a.eval ⟨some d,.call ⟨.value (.func f),args,argTypes⟩,T,pos,after,g⟩).run P w=.ok (.enter f (args.map a.eval)) w:=by
    rw [Oper.semAt_eq _ _ _ (fun c h=>by cases h)]
    simp only [execOp,resolve,Act.eval,Deferred.ofValue,Sem.run_bind,Sem.run_pure,Result.andThen_ok,invoke]
    simp only [Array.empty_append,Array.append_empty]
    exact hf _ _
  rw [hex]
  refine ⟨qA,callsIn_wide'.2 ?_⟩
  have hI2:Inv I (A1++(B++F)) w:=by rw [← List.append_assoc]; exact hI.perm (p.append_right F)
  have hc:=h (B++F) I w _ hI2 hrl
  have he:(args.toList.map a.eval).toArray=args.map a.eval:=by apply Array.ext'; simp
  rw [he] at hc
  refine hc.mono fun en w' ⟨I',ae,A',E,hI',hre,hR⟩=>?_
  have hI3:Inv I' ((A'++B)++F) w':=by rw [List.append_assoc]; exact hI'
  cases en with
  | returned v =>
    cases ae with
    | ret av =>
      have hk:=k av A' hR F I' w' (a.put (some d) v) hI3 ((hS.mono E).put (af hd) hre _)
      exact cZ rest (fun _ _ _=>eL E fun _ _ h=>h) _ _ hk
    | pan c=>exact hre.elim
  | panicked c =>
    cases ae with
    | ret av=>exact hre.elim
    | pan c' =>
      cases hre
      exact ⟨I',⟨e,ds,A'++B⟩,E,hI3,⟨hS.size,(hS.mono E).env,(hS.mono E).ds⟩,kp _ A' hR⟩
  | outgrown=>cases ae <;> exact hre.elim
where
  callsIn_wide' {ro:Option Nat} {P:Program} {n:Nat} {f:FuncId} {args:Array Value} {w:World} {R:Ending→World→Prop}:CallsIn (dX ro) n P f args w R↔Calls P f args w R :=
    ⟨fun h=>(callsIn_wide (n:=n)).1 h,fun h=>(callsIn_wide (n:=n)).2 h⟩
abbrev _root_.Go.Av.eM := @AO.call
def mi:Nat→List AV→Env
  | _,[]=>[]
  | i,a::r=>(i,a)::mi (i+1) r
theorem uL (args:List AV) (i t:Nat):ev (mi i args) t=if i≤t then args.getD (t - i) .any else .any:=by
  induction args generalizing i with
  | nil=>simp [mi,ev]
  | cons a r ih =>
    simp only [mi,ev]
    cases hb:Nat.beq i t with
    | true =>
      have:=Nat.eq_of_beq_eq_true hb
      subst this
      simp
    | false =>
      have hne:i≠t:=fun e=>by rw [e,Nat.beq_refl] at hb; cases hb
      simp only [ih]
      by_cases h:i≤t
      · rw [if_pos (by omega),if_pos h,show t - i=(t - (i+1))+1 by omega]
        simp
      · rw [if_neg (by omega),if_neg h]
def ResV (P:Program) (fn:Func) (N:Nat) (s:St) (av:AV):Prop :=
  ∀ F I w a,Inv I (s.A++F) w→RelS N I w s a→∃ v,(results fn a.tmps).run P w=.ok v w∧Rel I w av v
def dn (P:Program) (fn:Func) (N:Nat) (R:AE→List Chunk→Prop):gt
  | .normal,s | .ret,s=>s.ds=[]∧∃ av A',ResV P fn N s av∧Sub A' s.A∧R (.ret av) A'
  | .panic c,s=>s.ds=[]∧∃ A',Sub A' s.A∧R (.pan c) A'
  | _,_=>False
theorem ei {I:Info} {w:World} {ds:List Deferred} (h:RelDs I w [] ds):ds=[]:=by cases h; rfl
theorem ACalls.of_body {f:FuncId} {fn:Func} {c:Code} {args:List AV} {A:List Chunk} {R:AE→List Chunk→Prop} (hf:P.funcs[f]?=some fn) (hb:fn.body=some c) (hl:Nat.ble args.length fn.ntmps=true)
    (h:AW P none fn.ntmps c (dn P fn fn.ntmps R) ⟨mi 0 args,[],A⟩):ACalls P f args A R:=fun F I w vs hI hv=>by
  refine (callsIn_wide (n:=0)).1 (callsIn_of_wp (F:=Fence.wide) hf hb trivial ?_)
  have hl':args.length≤fn.ntmps:=af hl
  refine wpIn_mono (h F I w _ hI ⟨?_,fun t=>?_,.nil⟩) fun e a w' hq=>?_
  · simp [hv.1]; omega
  · rw [uL]
    simp only [Nat.zero_le,if_true,Nat.sub_zero]
    by_cases ht:t < args.length
    · have:=hv.2 t ht
      have hx:t < vs.length:=by rw [hv.1]; exact ht
      rw [show args.getD t .any=args[t] by simp [List.getD,ht]]
      have e1:(vs.toArray++Array.replicate (fn.ntmps - vs.toArray.size) undef).getD t undef=vs.getD t undef:=by
        rw [Array.getD_eq_getD_getElem?,Array.getElem?_append_left (by simpa using hx)]
        simp [List.getD]
      rw [e1]; exact this
    · rw [show args.getD t .any=.any by simp [List.getD,List.getElem?_eq_none (Nat.le_of_not_lt ht)]]
      exact .any _
  · obtain ⟨I',s',E,hI',hS',hq⟩:=hq
    cases e with
    | normal =>
      obtain ⟨hds,av,A',hres,hsub,hR⟩:=hq;obtain ⟨v,hrun,hv⟩:=hres F I' w' a hI' hS';refine ⟨ei (hds ▸ hS'.ds),v,hrun,I',.ret av,A',E,hsub.inv hI',hv,hR⟩
    | ret =>
      obtain ⟨hds,av,A',hres,hsub,hR⟩:=hq;obtain ⟨v,hrun,hv⟩:=hres F I' w' a hI' hS';refine ⟨ei (hds ▸ hS'.ds),v,hrun,I',.ret av,A',E,hsub.inv hI',hv,hR⟩
    | panic c =>
      obtain ⟨hds,A',hsub,hR⟩:=hq;exact ⟨ei (hds ▸ hS'.ds),I',.pan c,A',E,hsub.inv hI',rfl,hR⟩
    | exit id=>exact hq.elim
    | goto l=>exact hq.elim
    | outgrown=>exact hq.elim
abbrev _root_.Go.Av.az := @ACalls.of_body
theorem ResV.oneW {fn:Func} {t:Nat} {e:Env} {ds:List ADef} {A:List Chunk} {av:AV} (hr:fn.results = #[.tmp t]) (h:Wv (ev e t) av):ResV P fn N ⟨e,ds,A⟩ av:=fun F I w a hI hS =>
  ⟨a.tmps.getD t undef,by simp [results,hr],h.rel (hS.env t)⟩
abbrev _root_.Go.Av.aO := @ResV.oneW
theorem bp {fn:Func} {e:Env} {ds:List ADef} {A:List Chunk} (hr:fn.results = #[]):ResV P fn N ⟨e,ds,A⟩ (.tup []):=fun F I w a hI hS =>
  ⟨.tuple #[],by simp [results,hr],.tup [] [] rfl fun j h=>absurd h (Nat.not_lt_zero _)⟩
theorem bt {fn:Func} {t u:Nat} {e:Env} {ds:List ADef} {A:List Chunk} {av bv:AV} (hr:fn.results = #[.tmp t,.tmp u]) (h:Wv (ev e t) av) (h2:Wv (ev e u) bv):ResV P fn N ⟨e,ds,A⟩ (.tup [av,bv]):=fun F I w a hI hS =>
  ⟨.tuple #[a.tmps.getD t undef,a.tmps.getD u undef],by simp [results,hr],.tup _ [_,_] rfl (fp (h.rel (hS.env t)) (fp (h2.rel (hS.env u)) ge)).2⟩
theorem ResV.none {fn:Func} {e:Env} {ds:List ADef} {A:List Chunk} (hr:fn.results = #[]):ResV P fn N ⟨e,ds,A⟩ (.tup []):=bp hr
abbrev _root_.Go.Av.gx := @ResV.none
theorem ResV.one {fn:Func} {t:Nat} {e:Env} {ds:List ADef} {A:List Chunk} {av:AV} (hr:fn.results = #[.tmp t]) (h:ev e t=av):ResV P fn N ⟨e,ds,A⟩ av:=aO hr (h ▸ .refl _)
theorem ResV.two {fn:Func} {t u:Nat} {e:Env} {ds:List ADef} {A:List Chunk} {av bv:AV} (hr:fn.results = #[.tmp t,.tmp u]) (h:ev e t=av) (h2:ev e u=bv):ResV P fn N ⟨e,ds,A⟩ (.tup [av,bv]):=bt hr (h ▸ .refl _) (h2 ▸ .refl _)
end
end Go.Av
namespace Go.Av
open Go.RowKit
def cE:AV→Bool
  | .v (.agg _)=>false
  | .v (.tuple _)=>false
  | .agg _=>false
  | .tup _=>false
  | .any=>false
  | _=>true
structure Enc (α:Type) where
  k:Nat
  f:α→List AV
  pos:0 < k
  len:∀ x,(f x).length=k
  cell:∀ x,∀ c∈f x,cE c=true
def Enc.fl {α:Type} (E:Enc α) (l:List α):List AV:=l.flatMap E.f
@[simp] theorem Enc.fl_length {α:Type} (E:Enc α) (l:List α):(E.fl l).length=l.length*E.k:=by
  induction l with
  | nil=>simp [Enc.fl]
  | cons x l ih =>
    have:E.fl (x::l)=E.f x++E.fl l:=by simp [Enc.fl]
    rw [this,List.length_append,E.len,ih,List.length_cons]
    rw [Nat.add_mul,Nat.one_mul,Nat.add_comm]
theorem Enc.fl_append {α:Type} (E:Enc α) (l m:List α):E.fl (l++m)=E.fl l++E.fl m:=by simp [Enc.fl]
@[simp] theorem Enc.fl_nil {α:Type} (E:Enc α):E.fl []=[]:=rfl
theorem Enc.fl_cons {α:Type} (E:Enc α) (x:α) (l:List α):E.fl (x::l)=E.f x++E.fl l:=by simp [Enc.fl]
abbrev _root_.Go.Av.eu := @Enc.fl_cons
theorem Enc.fl_take {α:Type} (E:Enc α) (l:List α) (n:Nat):E.fl (l.take n)=(E.fl l).take (n*E.k):=by
  induction l generalizing n with
  | nil=>simp
  | cons x l ih =>
    cases n with
    | zero=>simp
    | succ n =>
      rw [List.take_succ_cons,E.fl_cons,E.fl_cons,ih,List.take_append,E.len,Nat.succ_mul]
      rw [List.take_of_length_le (show (E.f x).length≤n*E.k+E.k by rw [E.len]; omega),Nat.add_sub_cancel]
abbrev _root_.Go.Av.aM := @List.drop_eq_nil_of_le
theorem Enc.fl_drop {α:Type} (E:Enc α) (l:List α) (n:Nat):E.fl (l.drop n)=(E.fl l).drop (n*E.k):=by
  induction l generalizing n with
  | nil=>simp
  | cons x l ih =>
    cases n with
    | zero=>simp
    | succ n =>
      rw [List.drop_succ_cons,E.fl_cons,ih,List.drop_append,E.len,Nat.succ_mul]
      rw [aM (show (E.f x).length≤n*E.k+E.k by rw [E.len]; omega),Nat.add_sub_cancel,List.nil_append]
theorem Enc.fl_cell {α:Type} (E:Enc α) (l:List α):∀ c∈E.fl l,cE c=true:=by
  intro c hc;obtain ⟨x,_,hx⟩:=List.mem_flatMap.1 hc;exact E.cell x c hx
def slE {α:Type} (E:Enc α) (l:List α) (t:Option Nat):AV:=.sl E.k (E.fl l) t
def cpE {α:Type} (E:Enc α) (x:α):AV:=.cp (E.f x)
abbrev S (l:List UInt8):AV:=.v (.string ⟨l.toArray⟩)
abbrev B (b:Bool):AV:=.v (.bool b)
abbrev i64 (n:Int):AV:=.v (.int .i64 n)
abbrev u8 (c:UInt8):AV:=.v (.int .u8 c.toNat)
abbrev aj:AV:=.v (.slice none 0 0)
def Enc.byte:Enc UInt8:=⟨1,fun c=>[u8 c],by decide,fun _=>rfl,fun _ c h=>by simp at h; subst h; rfl⟩
def Enc.str:Enc (List UInt8):=⟨1,fun s=>[S s],by decide,fun _=>rfl,fun _ c h=>by simp at h; subst h; rfl⟩
def Enc.int:Enc Int:=⟨1,fun n=>[i64 n],by decide,fun _=>rfl,fun _ c h=>by simp at h; subst h; rfl⟩
def Enc.bool:Enc Bool:=⟨1,fun b=>[B b],by decide,fun _=>rfl,fun _ c h=>by simp at h; subst h; rfl⟩
def Enc.sl {α:Type} (E:Enc α):Enc (List α):=⟨1,fun l=>[slE E l none],by decide,fun _=>rfl,fun _ c h=>by simp at h; subst h; rfl⟩
section
variable {P:Program} {e:Env} {d:Option Nat} {T:TypeId} {pos:String} {after:Array Edge} {g:Option (Nat×Bool)} {x y:Operand} {av:AV}
theorem cf {I:Info} {w:World} {y z:Value} (h:Rel I w (.v y) z):z=y:=by cases h; rfl
theorem ah (hx:opv e x=av):OpS P ⟨d,.move x,T,pos,after,g⟩ e av:=fun I w ρ hρ=>⟨ρ x,hx ▸ hρ x,fun _ _ _=>rfl⟩
theorem aZ (hx:opv e x=av):OpS P ⟨d,.assign x,T,pos,after,g⟩ e av:=fun I w ρ hρ=>⟨ρ x,hx ▸ hρ x,fun _ _ _=>rfl⟩
theorem gb {op:BinOp} {T':TypeId} {u v r:Value} (hx:opv e x=.v u) (hy:opv e y=.v v) (hg:∀ w,(eqGuard op T x y u v).run P w=.ok () w)
    (h:∀ w,(binOp op T u v).run P w=.ok r w) {T2:TypeId}:OpS P ⟨d,.binOp op T x y T',T2,pos,after,g⟩ e (.v r):=fun I w ρ hρ=>by
  have h1:=cf (hx ▸ hρ x)
  have h2:=cf (hy ▸ hρ y)
  exact ⟨r,.v r,fun w' _ _=>by simp only [execOp,h1,h2,Sem.run_bind,hg,h,Result.andThen_ok,Sem.run_pure]⟩
theorem dT {op:BinOp} {k:IntKind} {a b:Int} (w:World):(eqGuard op T x y (.int k a) (.int k b)).run P w=.ok () w:=by
  cases op <;> rfl
theorem oA {op:BinOp} {a b:ByteArray} (w:World):(eqGuard op T x y (.string a) (.string b)).run P w=.ok () w:=by
  cases op <;> rfl
theorem vL {op:BinOp} {a b:Bool} (w:World):(eqGuard op T x y (.bool a) (.bool b)).run P w=.ok () w:=by
  cases op <;> rfl
section ints
variable {k:IntKind} {a b:Int} {T1 T2 T':TypeId} (hx:opv e x=.v (.int k a)) (hy:opv e y=.v (.int k b))
include hx hy
theorem qt:OpS P ⟨d,.binOp .add T x y T',T2,pos,after,g⟩ e (.v (.int k (k.wrap (a+b)))):=gb hx hy (fun w=>dT w) (fun w=>by simp [binOp,Op.intArith])
theorem qs:OpS P ⟨d,.binOp .sub T x y T',T2,pos,after,g⟩ e (.v (.int k (k.wrap (a - b)))):=gb hx hy (fun w=>dT w) (fun w=>by simp [binOp,Op.intArith])
theorem xt:OpS P ⟨d,.binOp .mul T x y T',T2,pos,after,g⟩ e (.v (.int k (k.wrap (a*b)))):=gb hx hy (fun w=>dT w) (fun w=>by simp [binOp,Op.intArith])
theorem bN:OpS P ⟨d,.binOp .lss T x y T',T2,pos,after,g⟩ e (B (decide (a < b))):=gb hx hy (fun w=>dT w) (fun w=>by simp [binOp,Op.intCmp])
theorem dW:OpS P ⟨d,.binOp .leq T x y T',T2,pos,after,g⟩ e (B (decide (a≤b))):=gb hx hy (fun w=>dT w) (fun w=>by simp [binOp,Op.intCmp])
theorem eN:OpS P ⟨d,.binOp .gtr T x y T',T2,pos,after,g⟩ e (B (decide (b < a))):=gb hx hy (fun w=>dT w) (fun w=>by simp [binOp,Op.intCmp])
theorem cX:OpS P ⟨d,.binOp .geq T x y T',T2,pos,after,g⟩ e (B (decide (b≤a))):=gb hx hy (fun w=>dT w) (fun w=>by simp [binOp,Op.intCmp])
theorem bI:OpS P ⟨d,.binOp .eql T x y T',T2,pos,after,g⟩ e (B (decide (a=b))):=gb hx hy (fun w=>dT w) (fun w=>by simp [binOp,Op.intCmp]; rfl)
theorem dD:OpS P ⟨d,.binOp .neq T x y T',T2,pos,after,g⟩ e (B (!decide (a=b))):=gb hx hy (fun w=>dT w) (fun w=>by simp [binOp,Op.intCmp]; rfl)
theorem xr (hb:b≠0):OpS P ⟨d,.binOp .quo T x y T',T2,pos,after,g⟩ e (.v (.int k (k.wrap (a.tdiv b)))):=gb hx hy (fun w=>dT w) (fun w=>by simp [binOp,Op.intDiv,hb])
theorem opS_remw (hb:b≠0):OpS P ⟨d,.binOp .rem T x y T',T2,pos,after,g⟩ e (.v (.int k (a.tmod b))):=gb hx hy (fun w=>dT w) (fun w=>by simp [binOp,Op.intDiv,hb])
theorem opS_or:OpS P ⟨d,.binOp .or T x y T',T2,pos,after,g⟩ e (.v (.int k (k.wrap (BitVec.ofInt k.bits a ||| BitVec.ofInt k.bits b).toNat))):=gb hx hy (fun w=>dT w) (fun w=>by simp [binOp,Op.intBits])
end ints
section
variable {a b:Int} {T2 T':TypeId} (hx:opv e x=i64 a) (hy:opv e y=i64 b)
include hx hy
theorem nT (h : -9223372036854775808≤a+b∧a+b≤9223372036854775807):OpS P ⟨d,.binOp .add T x y T',T2,pos,after,g⟩ e (i64 (a+b)):=by
  have:=qt (P:=P) (d:=d) (T:=T) (pos:=pos) (after:=after) (g:=g) (T2:=T2) (T':=T') hx hy
  rwa [IntWalk.i64_in _ h] at this
theorem mP (h : -9223372036854775808≤a - b∧a - b≤9223372036854775807):OpS P ⟨d,.binOp .sub T x y T',T2,pos,after,g⟩ e (i64 (a - b)):=by
  have:=qs (P:=P) (d:=d) (T:=T) (pos:=pos) (after:=after) (g:=g) (T2:=T2) (T':=T') hx hy
  rwa [IntWalk.i64_in _ h] at this
theorem sr (h : -9223372036854775808≤a*b∧a*b≤9223372036854775807):OpS P ⟨d,.binOp .mul T x y T',T2,pos,after,g⟩ e (i64 (a*b)):=by
  have:=xt (P:=P) (d:=d) (T:=T) (pos:=pos) (after:=after) (g:=g) (T2:=T2) (T':=T') hx hy
  rwa [IntWalk.i64_in _ h] at this
theorem zq (h:0≤a∧a≤9223372036854775807∧1≤b):OpS P ⟨d,.binOp .quo T x y T',T2,pos,after,g⟩ e (i64 (a / b)):=by
  have:=xr (P:=P) (d:=d) (T:=T) (pos:=pos) (after:=after) (g:=g) (T2:=T2) (T':=T') hx hy (by omega)
  rwa [IntWalk.i64_quo _ _ h] at this
theorem opS_rem (h:0≤a∧b≠0):OpS P ⟨d,.binOp .rem T x y T',T2,pos,after,g⟩ e (i64 (a % b)):=by
  have:=opS_remw (P:=P) (d:=d) (T:=T) (pos:=pos) (after:=after) (g:=g) (T2:=T2) (T':=T') hx hy h.2
  rwa [IntWalk.rem_in _ _ h.1] at this
end
theorem zp {k k':IntKind} {a b:Int} {T2 T':TypeId} (hx:opv e x=.v (.int k a)) (hy:opv e y=.v (.int k' b)) (hb:0≤b) :
    OpS P ⟨d,.binOp .shl T x y T',T2,pos,after,g⟩ e (.v (.int k (k.wrap (a*2 ^ min b.toNat k.bits)))) :=
  gb hx hy (fun w=>rfl) (fun w=>by simp only [binOp,Op.shift,if_neg (show ¬ b < 0 by omega),Sem.run_pure])
abbrev _root_.Go.Av.aB := @List.drop_eq_getElem_cons
theorem rm (b:ByteArray):∀ (n i:Nat) (r:List UInt8),b.size - i=n→ByteArray.toList.loop b i r=r.reverse++b.data.toList.drop i
  | 0,i,r,h=>by
    have hs:b.data.toList.length=b.size:=rfl
    rw [ByteArray.toList.loop,if_neg (by omega),aM (by omega),List.append_nil]
  | n+1,i,r,h=>by
    have hi:i < b.size:=by omega
    have hs:b.data.toList.length=b.size:=rfl
    rw [ByteArray.toList.loop,if_pos hi,rm b n (i+1) _ (by omega),aB (show i < b.data.toList.length by omega)]
    have:b.get! i=b.data.toList[i]:=by
      cases b with
      | mk d =>
        have:i < d.size:=by simpa [ByteArray.size] using hi
        simp [ByteArray.get!,Array.getElem!_eq_getD,Array.getD_eq_getD_getElem?,this]
    simp [this]
theorem ut (l:List UInt8):(⟨l.toArray⟩:ByteArray).toList=l:=by
  unfold ByteArray.toList
  rw [rm _ _ 0 [] rfl]
  simp
theorem tg (s r:List UInt8):(s==r)=decide (s=r):=by rw [Bool.eq_iff_iff]; simp
section strs
variable {s r:List UInt8} {T2 T':TypeId} (hx:opv e x=S s) (hy:opv e y=S r)
include hx hy
theorem cD:OpS P ⟨d,.binOp .eql T x y T',T2,pos,after,g⟩ e (B (decide (s=r))):=gb hx hy (fun w=>oA w) (fun w=>by simp [binOp,Op.stringOp,ut,tg])
theorem pi:OpS P ⟨d,.binOp .neq T x y T',T2,pos,after,g⟩ e (B (!decide (s=r))):=gb hx hy (fun w=>oA w) (fun w=>by simp [binOp,Op.stringOp,ut,tg])
theorem opS_cat (h:s.length+r.length≤9223372036854775807):OpS P ⟨d,.binOp .add T x y T',T2,pos,after,g⟩ e (S (s++r)) :=
  gb hx hy (fun w=>oA w) (fun w=>by
    have h1:(⟨s.toArray⟩:ByteArray)++⟨r.toArray⟩=⟨(s++r).toArray⟩:=by apply ByteArray.ext; simp
    have hs:(⟨s.toArray⟩:ByteArray).size=s.length:=by simp [ByteArray.size]
    have hr:(⟨r.toArray⟩:ByteArray).size=r.length:=by simp [ByteArray.size]
    simp only [binOp,Op.stringOp,hs,hr,h1]
    have hm:IntKind.i64.max=9223372036854775807:=by decide
    rw [if_neg (show ¬ (((s.length+r.length:Nat):Int) > IntKind.i64.max) by omega)]
    rfl)
end strs
theorem ca {b:Bool} {T2:TypeId} (hx:opv e x=B b):OpS P ⟨d,.unOp .not T x,T2,pos,after,g⟩ e (B (!b)):=fun I w ρ hρ=>by
  have h1:=cf (hx ▸ hρ x)
  exact ⟨_,.v _,fun w' _ _=>by simp [execOp,h1,Op.unary]⟩
theorem opS_negw {k:IntKind} {n:Int} {T2:TypeId} (hx:opv e x=.v (.int k n)):OpS P ⟨d,.unOp .neg T x,T2,pos,after,g⟩ e (.v (.int k (k.wrap (0 - n)))):=fun I w ρ hρ=>by
  have h1:=cf (hx ▸ hρ x)
  exact ⟨_,.v _,fun w' _ _=>by simp [execOp,h1,Op.unary,Op.intArith]⟩
theorem tX (hT:P.underlying T=some .bool) (n:Nat) (a b:Bool) (w:World):(Op.equalIn (n+1) T (.bool a) (.bool b)).run P w=.ok (a==b) w:=by
  simp only [Op.equalIn,Sem.run_bind,run_underlying hT,Result.andThen_ok,Sem.run_pure]
theorem wC (hT:P.underlying T=some .bool) (a b:Bool) (w:World):(Op.equal T (.bool a) (.bool b)).run P w=.ok (a==b) w:=tX hT 9999 a b w
theorem zr {a b:Bool} {T2 T':TypeId} (hT:P.underlying T=some .bool) (hx:opv e x=B a) (hy:opv e y=B b):OpS P ⟨d,.binOp .eql T x y T',T2,pos,after,g⟩ e (B (a==b)) :=
  gb hx hy (fun w=>vL w) (fun w=>by
    show (do pure (Value.bool (← Op.equal T (.bool a) (.bool b))):Sem Value).run P w=_
    simp only [Sem.run_bind,wC hT,Result.andThen_ok,Sem.run_pure])
theorem aD {z:Operand} {b:Bool} (hx:opv e x=B b) (hb:b=true) (hy:opv e y=av):OpS P ⟨d,.pick x y z,T,pos,after,g⟩ e av:=fun I w ρ hρ=>by
  have h1:=cf (hx ▸ hρ x)
  exact ⟨ρ y,hy ▸ hρ y,fun w' _ _=>by simp [execOp,h1,asBool,hb]⟩
theorem aF {z:Operand} {b:Bool} (hx:opv e x=B b) (hb:b=false) (hz:opv e z=av):OpS P ⟨d,.pick x y z,T,pos,after,g⟩ e av:=fun I w ρ hρ=>by
  have h1:=cf (hx ▸ hρ x)
  exact ⟨ρ z,hz ▸ hρ z,fun w' _ _=>by simp [execOp,h1,asBool,hb]⟩
theorem eJ {k k':IntKind} {n:Int} {src dst:TypeId} (hs:(P.underlying src).isSome=true) (hd:P.underlying dst=some (.int k)) (hx:opv e x=.v (.int k' n)) :
    OpS P ⟨d,.convert src dst x,T,pos,after,g⟩ e (.v (.int k (k.wrap n))):=fun I w ρ hρ=>by
  have h1:=cf (hx ▸ hρ x)
  obtain ⟨ds,hds⟩:=Option.isSome_iff_exists.1 hs;exact ⟨_,.v _,fun w' _ _=>by simp [execOp,h1,convert,run_underlying hds,run_underlying hd,Conv.intToInt]⟩
theorem ba {n:Nat} {vs:List AV} (hx:opv e x=.tup vs) (hn:vs[n]?=some av):OpS P ⟨d,.extract x n,T,pos,after,g⟩ e av:=fun I w ρ hρ=>by
  have h1:=hx ▸ hρ x
  generalize e1:ρ x=v at h1
  cases h1 with
  | tup cs xs hl hr =>
    have hlt:n < vs.length:=(List.getElem?_eq_some_iff.1 hn).1
    have hv:vs[n]=av:=(List.getElem?_eq_some_iff.1 hn).2
    refine ⟨xs.getD n undef,hv ▸ hr n hlt,fun w' _ _=>?_⟩
    have hx':xs[n]?=some (xs.getD n undef):=by
      have:n < xs.length:=by rw [hl]; exact hlt
      simp [List.getD,this]
    simp only [execOp,e1,Instr.extract,List.getElem?_toArray,hx',Sem.run_bind,Sem.run_pure,Result.andThen_ok]
end
end Go.Av
namespace Go.Av
open Go.RowKit
theorem df (b off i:Nat):(⟨b,off,none⟩:Addr).add i=⟨b,off+i,none⟩:=by unfold Addr.add; split <;> simp_all
theorem rel_sl {I:Info} {w:World} {k n:Nat} {cs:List AV} {t:Option Nat} {x:Value} (h:Rel I w (.sl k cs t) x) (hk:0 < k) (hn:cs.length=n*k) :
    ∃ a cap xs,x=.slice a n cap∧n≤cap∧RelL I w cs xs ∧
      (n=0∨∃ b off,a=some ⟨b,off,none⟩∧Stab I b (off+cs.length)∧∀ j,j < cs.length→w.cell? ⟨b,off+j,none⟩=some (xs.getD j undef)):=by
  cases h with
  | slz k a cap =>
    have:n=0:=by
      rcases Nat.eq_zero_or_pos n with h | h
      · exact h
      · have:=Nat.mul_pos h hk; simp at hn; omega
    subst this;exact ⟨a,cap,[],rfl,Nat.zero_le _,ge,.inl rfl⟩
  | slnil k t ht =>
    have:n=0:=by
      rcases Nat.eq_zero_or_pos n with h | h
      · exact h
      · have:=Nat.mul_pos h hk; simp at hn; omega
    subst this;exact ⟨none,0,[],rfl,Nat.zero_le _,ge,.inl rfl⟩
  | sl k cs t b off len cap xs hk' hlen hcap hst hx hr ht =>
    have:len=n:=Nat.eq_of_mul_eq_mul_right hk (hlen.trans hn)
    subst this
    have hg:∀ j,j < cs.length→((List.range cs.length).map xs).getD j undef=xs j:=fun j hj=>by simp [List.getD,hj]
    refine ⟨_,cap,(List.range cs.length).map xs,rfl,hcap,⟨by simp,fun j hj=>?_⟩,.inr ⟨b,off,rfl,hst,fun j hj=>?_⟩⟩
    · rw [hg j hj]; exact hr j hj
    · rw [hg j hj]; exact hx j hj
theorem mO {α:Type} {E:Enc α} {I:Info} {w:World} {l:List α} {t:Option Nat} {x:Value} (h:Rel I w (slE E l t) x) :
    ∃ a cap xs,x=.slice a l.length cap∧l.length≤cap∧RelL I w (E.fl l) xs ∧
      (l.length=0∨∃ b off,a=some ⟨b,off,none⟩∧Stab I b (off+(E.fl l).length)∧∀ j,j < (E.fl l).length→w.cell? ⟨b,off+j,none⟩=some (xs.getD j undef)) :=
  rel_sl h E.pos (E.fl_length l)
theorem Enc.fl_at {α:Type} (E:Enc α) {l:List α} {m:Nat} {a:α} (h:l[m]?=some a):∃ ds,(E.fl l).drop (m*E.k)=E.f a++ds:=by
  refine ⟨(E.fl l).drop ((m+1)*E.k),?_⟩
  have hlt:m < l.length:=(List.getElem?_eq_some_iff.1 h).1
  have ha:l[m]=a:=(List.getElem?_eq_some_iff.1 h).2
  rw [← E.fl_drop,← E.fl_drop,aB hlt,E.fl_cons,ha]
section
variable {P:Program} {e:Env} {d:Option Nat} {T:TypeId} {pos:String} {after:Array Edge} {g:Option (Nat×Bool)} {x y:Operand} {av:AV} {A:List Chunk} {I:Info} {w:World}
theorem aW {s:List UInt8} {T2:TypeId} (hT:P.underlying T=some .string) (hx:opv e x=S s):OpS P ⟨d,.call ⟨.builtin .len,#[x],#[T]⟩,T2,pos,after,g⟩ e (i64 s.length):=fun I w ρ hρ=>by
  have h1:=cf (hx ▸ hρ x)
  refine ⟨_,.v _,fun w' _ _=>?_⟩
  simp only [execOp,resolve,List.map_toArray,List.map_cons,List.map_nil,h1,Sem.run_bind,Sem.run_pure,Result.andThen_ok,invoke,builtin,Builtin.len_]
  simp only [List.getElem?_toArray,List.getElem?_cons_zero,run_underlying hT,Sem.run_bind,Sem.run_pure,Result.andThen_ok,goInt]
  rfl
theorem bh {α:Type} {E:Enc α} {l:List α} {t:Option Nat} {El T2:TypeId} (hT:P.underlying T=some (.slice El)) (hx:opv e x=slE E l t) :
    OpS P ⟨d,.call ⟨.builtin .len,#[x],#[T]⟩,T2,pos,after,g⟩ e (i64 l.length):=fun I w ρ hρ=>by
  obtain ⟨a,cap,xs,h1,_⟩:=mO (hx ▸ hρ x);refine ⟨_,.v _,fun w' _ _=>?_⟩
  simp only [execOp,resolve,List.map_toArray,List.map_cons,List.map_nil,h1,Sem.run_bind,Sem.run_pure,Result.andThen_ok,invoke,builtin,Builtin.len_]
  simp only [List.getElem?_toArray,List.getElem?_cons_zero,run_underlying hT,Sem.run_bind,Sem.run_pure,Result.andThen_ok,goInt]
theorem cY {El T2:TypeId} (hT:P.underlying T=some (.slice El)) (hx:opv e x=aj):OpS P ⟨d,.call ⟨.builtin .len,#[x],#[T]⟩,T2,pos,after,g⟩ e (i64 0):=fun I w ρ hρ=>by
  have h1:=cf (hx ▸ hρ x)
  refine ⟨_,.v _,fun w' _ _=>?_⟩
  simp only [execOp,resolve,List.map_toArray,List.map_cons,List.map_nil,h1,Sem.run_bind,Sem.run_pure,Result.andThen_ok,invoke,builtin,Builtin.len_]
  simp only [List.getElem?_toArray,List.getElem?_cons_zero,run_underlying hT,Sem.run_bind,Sem.run_pure,Result.andThen_ok,goInt]
  rfl
theorem jC {s:List UInt8} {q:IntKind} {n:Int} {m:Nat} {c:UInt8} (hT:P.underlying T=some .string) (hx:opv e x=S s) (hy:opv e y=.v (.int q n)) (hm:n=m) (hc:s[m]?=some c) {T2:TypeId} :
    OpS P ⟨d,.index T x y,T2,pos,after,g⟩ e (u8 c):=fun I w ρ hρ=>by
  have h1:=cf (hx ▸ hρ x)
  have h2:=cf (hy ▸ hρ y)
  refine ⟨_,.v _,fun w' _ _=>?_⟩
  have hlt:m < s.length:=(List.getElem?_eq_some_iff.1 hc).1
  have hg:(⟨s.toArray⟩:ByteArray)[m]?=some c:=by
    have h3:m < (⟨s.toArray⟩:ByteArray).size:=by simpa [ByteArray.size] using hlt
    rw [getElem?_pos (⟨s.toArray⟩:ByteArray) m h3]
    have:=(List.getElem?_eq_some_iff.1 hc).2
    simp only [Option.some.injEq]
    exact this
  subst hm
  simp only [execOp,h1,h2,Instr.index,asIntOf,Sem.run_bind,Sem.run_pure,Result.andThen_ok,run_underlying hT,Int.natCast_nonneg,if_true,Int.toNat_natCast,hg]
theorem nC (s:List UInt8) (lo hi:Nat):(⟨s.toArray⟩:ByteArray).extract lo hi=⟨((s.take hi).drop lo).toArray⟩:=by
  apply ByteArray.ext
  apply Array.ext'
  simp [List.extract_eq_take_drop,List.take_drop]
  by_cases h:lo≤hi
  · rw [show lo+(hi - lo)=hi by omega]
  · rw [aM (show (List.take hi s).length≤lo by simp; omega),aM (by simp; omega)]
theorem ia {q:IntKind} {n:Int} {m top:Nat} {code:BoundsCode} (hm:n=m) (ht:m≤top) (w:World):(Instr.sliceBound (.int q n) top code).run P w=.ok m w:=by
  subst hm
  simp only [Instr.sliceBound,asIntOf,Sem.run_bind,Sem.run_pure,Result.andThen_ok]
  rw [if_pos ⟨Int.natCast_nonneg _,by omega⟩]
  simp
theorem tY {s:List UInt8} {q q':IntKind} {n n':Int} {lo hi:Nat} {z:Operand} {T2:TypeId} (hT:P.underlying T=some .string) (hx:opv e x=S s) (hy:opv e y=.v (.int q n)) (hz:opv e z=.v (.int q' n'))
    (hn:n=lo) (hn':n'=hi) (h1:lo≤hi) (h2:hi≤s.length):OpS P ⟨d,.slice T x (some y) (some z) none,T2,pos,after,g⟩ e (S ((s.take hi).drop lo)):=fun I w ρ hρ=>by
  have e1:=cf (hx ▸ hρ x)
  have e2:=cf (hy ▸ hρ y)
  have e3:=cf (hz ▸ hρ z)
  refine ⟨_,.v _,fun w' _ _=>?_⟩
  have hs:(⟨s.toArray⟩:ByteArray).size=s.length:=by simp [ByteArray.size]
  simp only [execOp,e1,e2,e3,Option.map_some,Option.map_none,Instr.sliceAt,Instr.slice,Instr.sliceBounds,run_underlying hT,Sem.run_bind,Sem.run_pure,Result.andThen_ok,Option.isSome_none,Bool.false_eq_true,if_false,hs,
    ia hn' h2,ia hn h1,nC]
theorem pE {s:List UInt8} {q:IntKind} {n:Int} {lo:Nat} {T2:TypeId} (hT:P.underlying T=some .string) (hx:opv e x=S s) (hy:opv e y=.v (.int q n))
    (hn:n=lo) (h1:lo≤s.length):OpS P ⟨d,.slice T x (some y) none none,T2,pos,after,g⟩ e (S (s.drop lo)):=fun I w ρ hρ=>by
  have e1:=cf (hx ▸ hρ x)
  have e2:=cf (hy ▸ hρ y)
  refine ⟨_,.v _,fun w' _ _=>?_⟩
  have hs:(⟨s.toArray⟩:ByteArray).size=s.length:=by simp [ByteArray.size]
  simp only [execOp,e1,e2,Option.map_some,Option.map_none,Instr.sliceAt,Instr.slice,Instr.sliceBounds,run_underlying hT,Sem.run_bind,Sem.run_pure,Result.andThen_ok,Option.isSome_none,Bool.false_eq_true,if_false,hs,
    ia hn h1,nC,List.take_length]
theorem qH {s:List UInt8} {q':IntKind} {n':Int} {hi:Nat} {z:Operand} {T2:TypeId} (hT:P.underlying T=some .string) (hx:opv e x=S s) (hz:opv e z=.v (.int q' n'))
    (hn':n'=hi) (h2:hi≤s.length):OpS P ⟨d,.slice T x none (some z) none,T2,pos,after,g⟩ e (S (s.take hi)):=fun I w ρ hρ=>by
  have e1:=cf (hx ▸ hρ x)
  have e3:=cf (hz ▸ hρ z)
  refine ⟨_,.v _,fun w' _ _=>?_⟩
  have hs:(⟨s.toArray⟩:ByteArray).size=s.length:=by simp [ByteArray.size]
  simp only [execOp,e1,e3,Option.map_some,Option.map_none,Instr.sliceAt,Instr.slice,Instr.sliceBounds,run_underlying hT,Sem.run_bind,Sem.run_pure,Result.andThen_ok,Option.isSome_none,Bool.false_eq_true,if_false,hs,
    ia hn' h2,nC,List.drop_zero]
def bO (P:Program) (t:TypeId):Option Nat:=(P.info? t).map (·.size)
theorem bS {t n:Nat} (h:bO P t=some n) (w:World):(sizeOf t).run P w=.ok n w:=by
  unfold bO at h
  obtain ⟨i,hi,rfl⟩:=Option.map_eq_some_iff.1 h
  simp [sizeOf,typeInfo,hi,program,Sem.run]
abbrev _root_.Go.Av.aq := @Option.some.inj
theorem bH {α:Type} {E:Enc α} {l:List α} {t:Option Nat} {q:IntKind} {n:Int} {m:Nat} {a:α} {El T2:TypeId} (hT:P.underlying T=some (.slice El)) (hsz:bO P El=some E.k)
    (hx:opv e x=slE E l t) (hy:opv e y=.v (.int q n)) (hm:n=m) (ha:l[m]?=some a):OpS P ⟨d,.indexAddr T x y,T2,pos,after,g⟩ e (cpE E a):=fun I w ρ hρ=>by
  obtain ⟨ad,cap,xs,e1,hcap,hrl,hor⟩:=mO (hx ▸ hρ x)
  have e2:=cf (hy ▸ hρ y)
  have hlt:m < l.length:=(List.getElem?_eq_some_iff.1 ha).1
  rcases hor with h0 | ⟨b,off,rfl,hst,hc⟩
  · omega
  obtain ⟨ds,hds⟩:=E.fl_at ha
  have hfl:(E.fl l).length=l.length*E.k:=E.fl_length l
  have hmk:(m+1)*E.k≤l.length*E.k:=Nat.mul_le_mul_right _ hlt
  have hmk':(m+1)*E.k=m*E.k+E.k:=Nat.succ_mul _ _
  have hfk:=E.len a
  refine ⟨.pointer (some ⟨b,off+m*E.k,none⟩),.cp _ b _ (fun j=>xs.getD (m*E.k+j) undef) (hst.le (by omega)) (fun j hj=>?_) (fun j hj=>?_),fun w' hw' _=>?_⟩
  · rw [← hc _ (by omega),Nat.add_assoc]
  · have hj':m*E.k+j < (E.fl l).length:=by omega
    have:=hrl.2 _ hj'
    have h3:(E.fl l)[m*E.k+j]=(E.f a)[j]:=by
      have h4:((E.fl l).drop (m*E.k))[j]?=(E.f a)[j]?:=by rw [hds,List.getElem?_append_left (by omega)]
      rw [List.getElem?_drop,aV hj',aV hj] at h4
      exact aq h4
    rw [h3] at this; exact this
  · subst hm
    simp only [execOp,e1,e2,Instr.indexAt,asIntOf,Sem.run_bind,Sem.run_pure,Result.andThen_ok,run_underlying hT]
    rw [if_pos ⟨Int.natCast_nonneg _,by omega⟩]
    simp only [Sem.run_bind,bS hsz,Result.andThen_ok,Sem.run_pure,Int.toNat_natCast,df]
theorem iU {α:Type} {E:Enc α} {l:List α} {t:Option Nat} {q:IntKind} {n:Int} {m:Nat} {El T2:TypeId} (hT:P.underlying T=some (.slice El)) (hsz:bO P El=some E.k)
    (hx:opv e x=slE E l t) (hy:opv e y=.v (.int q n)) (hm:n=m) (ha:m < l.length):OpS P ⟨d,.indexAddr T x y,T2,pos,after,g⟩ e (cpE E l[m]):=bH hT hsz hx hy hm (aV ha)
def jg:TypeDesc→Bool
  | .struct _ | .array _ _=>true
  | _=>false
theorem kg {t:TypeId} {D:TypeDesc} {b:Bool} (h:P.underlying t=some D) (hD:jg D=b) (w:World):(isAgg t).run P w=.ok b w:=by
  simp only [isAgg,Sem.run_bind,run_underlying h,Result.andThen_ok]
  cases D <;> simp only [jg] at hD <;> subst hD <;> rfl
theorem aG {c:AV} {r:List AV} {D:TypeDesc} {T2:TypeId} (hT:P.underlying T=some D) (hD:jg D=false) (hx:opv e x=.cp (c::r)):OpS P ⟨d,.load T x,T2,pos,after,g⟩ e c:=fun I w ρ hρ=>by
  have h:=hx ▸ hρ x
  generalize e1:ρ x=v at h
  cases h with
  | cp cs b off xs hst hc hr =>
    refine ⟨xs 0,hr 0 (by simp),fun w' hw' _=>?_⟩
    have h0:w'.cell? ⟨b,off,none⟩=some (xs 0):=(hw' b off (hst.le (by simp))).trans (by simpa using hc 0 (by simp))
    simp only [execOp,e1,Instr.loadAt,Instr.sureAddr,Sem.run_bind,Sem.run_pure,Result.andThen_ok,loadVar,kg hT hD,Bool.false_eq_true,if_false,run_load,h0]
theorem cx {cs:List AV} {n:Nat} {D:TypeDesc} {T2:TypeId} (hT:P.underlying T=some D) (hD:jg D=true) (hsz:bO P T=some n) (hx:opv e x=.cp cs) (hn:n≤cs.length) :
    OpS P ⟨d,.load T x,T2,pos,after,g⟩ e (.agg (cs.take n)):=fun I w ρ hρ=>by
  have h:=hx ▸ hρ x
  generalize e1:ρ x=v at h
  cases h with
  | cp cs b off xs hst hc hr =>
    refine ⟨.agg ((List.range n).map xs).toArray,.agg _ _ (by simp; omega) (fun j hj=>?_),fun w' hw' _=>?_⟩
    · have hj':j < n:=by simp at hj; omega
      have:((List.range n).map xs).getD j undef=xs j:=by simp [List.getD,hj']
      rw [this,List.getElem_take]; exact hr j (by omega)
    have hl:(loadCells ⟨b,off,none⟩ n).run P w'=.ok ((List.range n).map xs).toArray w':=run_loadCells w' _ n xs (fun j hj=>by
      rw [df]; exact (hw' b (off+j) (hst.le (by omega))).trans (hc j (by omega)))
    simp only [execOp,e1,Instr.loadAt,Instr.sureAddr,Sem.run_bind,Sem.run_pure,Result.andThen_ok,loadVar,kg hT hD,if_true,bS hsz,hl]
def qv (P:Program) (s:TypeId) (f:Nat):Option Nat :=
  match P.underlying s with
  | some (.struct fs)=>match fs[f]? with
    | some fd=>if (bO P fd.type).getD 0=0 then none else some fd.offset
    | none=>none
  | _=>none
theorem rt {s:TypeId} {f n:Nat} (h:qv P s f=some n) (b off:Nat) (w:World):(Instr.fieldAt s (.pointer (some ⟨b,off,none⟩)) f).run P w=.ok (.pointer (some ⟨b,off+n,none⟩)) w:=by
  unfold qv at h
  cases hu:P.underlying s with
  | none=>rw [hu] at h; cases h
  | some D =>
    rw [hu] at h
    cases D with
    | struct fs =>
      simp only at h
      cases hf:fs[f]? with
      | none=>rw [hf] at h; cases h
      | some fd =>
        rw [hf] at h
        simp only at h
        split at h
        · cases h
        · rename_i hz
          cases h
          cases hc:bO P fd.type with
          | none=>rw [hc] at hz; simp at hz
          | some k =>
            rw [hc] at hz
            simp only [Option.getD_some] at hz
            simp only [Instr.fieldAt,Sem.run_bind,run_underlying hu,Result.andThen_ok,hf,Instr.sureAddr,Sem.run_pure,fieldPlace,bS hc,if_neg hz,df]
    | _=>cases h
theorem aN {cs:List AV} {f n:Nat} {T2:TypeId} (hf:qv P T f=some n) (hx:opv e x=.cp cs) (hn:n≤cs.length):OpS P ⟨d,.fieldAddr T x f,T2,pos,after,g⟩ e (.cp (cs.drop n)):=fun I w ρ hρ=>by
  have h:=hx ▸ hρ x
  generalize e1:ρ x=v at h
  cases h with
  | cp cs b off xs hst hc hr =>
    refine ⟨.pointer (some ⟨b,off+n,none⟩),.cp _ b _ (fun j=>xs (n+j)) (hst.le (by simp; omega)) (fun j hj=>?_) (fun j hj=>?_),fun w' _ _=>?_⟩
    · simp at hj; rw [Nat.add_assoc]; exact hc _ (by omega)
    · simp at hj; rw [List.getElem_drop]; exact hr _ (by omega)
    · simp only [execOp,e1,Sem.run_bind,rt hf,Result.andThen_ok,Sem.run_pure]
theorem ai {o off f n:Nat} {T2:TypeId} (hf:qv P T f=some n) (hx:opv e x=.pt o off):OpS P ⟨d,.fieldAddr T x f,T2,pos,after,g⟩ e (.pt o (off+n)):=fun I w ρ hρ=>by
  have h:=hx ▸ hρ x
  generalize e1:ρ x=v at h
  cases h with
  | pt o off b h=>exact ⟨.pointer (some ⟨b,off+n,none⟩),.pt _ _ b h,fun w' _ _=>by simp only [execOp,e1,Sem.run_bind,rt hf,Result.andThen_ok,Sem.run_pure]⟩
theorem am {o off:Nat} {T2:TypeId} (hx:opv e x=.pt o off):OpS P ⟨d,.nilCheck x,T2,pos,after,g⟩ e (.pt o off):=fun I w ρ hρ=>by
  have h:=hx ▸ hρ x
  generalize e1:ρ x=v at h
  cases h with
  | pt o off b h=>exact ⟨_,.pt _ _ b h,fun w' _ _=>by simp only [execOp,e1,Sem.run_pure]⟩
theorem bu {cs:List AV} {T2:TypeId} (hx:opv e x=.cp cs):OpS P ⟨d,.nilCheck x,T2,pos,after,g⟩ e (.cp cs):=fun I w ρ hρ=>by
  have h:=hx ▸ hρ x
  generalize e1:ρ x=v at h
  cases h with
  | cp cs b off xs hst hc hr=>exact ⟨_,.cp cs b off xs hst hc hr,fun w' _ _=>by simp only [execOp,e1,Sem.run_pure]⟩
theorem bJ {f:Nat} {as_ bs:List AV} {T2:TypeId} (hx:opv e x=.fn (.func f) as_ bs):OpS P ⟨d,.nilCheck x,T2,pos,after,g⟩ e (.fn (.func f) as_ bs):=fun I w ρ hρ=>by
  have h:=hx ▸ hρ x
  generalize e1:ρ x=v at h
  cases h with
  | fn f as_ bs xs ys h1 h2 h3 h4=>exact ⟨_,.fn _ as_ bs xs ys h1 h2 h3 h4,fun w' _ _=>by simp only [execOp,e1,Sem.run_pure]⟩
theorem jV {c:Chunk} {i:Nat} (h:A[i]?=some c) (F:List Chunk):c∈A++F:=List.mem_append_left _ (List.mem_of_getElem? h)
theorem ph {α:Type}:∀ (A:List α) (i:Nat) (c:α),A[i]?=some c→A.Perm (c::A.eraseIdx i)
  | [],i,c,h=>by cases h
  | a::A,0,c,h=>by simp at h; subst h; exact bG _
  | a::A,i+1,c,h=>by
    have:=ph A i c (by simpa using h)
    exact (this.cons a).trans (List.Perm.swap _ _ _)
theorem qr {α:Type}:∀ (A:List α) (i:Nat) (c c':α),A[i]?=some c→(c'::A.eraseIdx i).Perm (A.set i c')
  | [],i,c,c',h=>by cases h
  | a::A,0,c,c',h=>bG _
  | a::A,i+1,c,c',h=>by
    have:=qr A i c c' (by simpa using h)
    exact (List.Perm.swap _ _ _).trans (this.cons a)
theorem Inv.take_at {F:List Chunk} {i:Nat} {c:Chunk} (hI:Inv I (A++F) w) (h:A[i]?=some c):Inv I (c::(A.eraseIdx i++F)) w:=hI.perm ((ph A i c h).append_right F)
theorem eG {F:List Chunk} {i:Nat} {c c':Chunk} (h:A[i]?=some c) (hI:Inv I (c'::(A.eraseIdx i++F)) w):Inv I (A.set i c'++F) w:=hI.perm ((qr A i c c' h).append_right F)
theorem al {o off i:Nat} {cs:List AV} {c:AV} {D:TypeDesc} {T2:TypeId} (hT:P.underlying T=some D) (hD:jg D=false) (hx:opv e x=.pt o off) (hA:A[i]?=some (.obj o cs)) (hc:cs[off]?=some c) :
    OpR P ⟨d,.load T x,T2,pos,after,g⟩ e A c A:=fun F I w ρ hI hρ=>by
  have h:=hx ▸ hρ x
  generalize e1:ρ x=v at h
  cases h with
  | pt o off b ho =>
    obtain ⟨b',arr,ho',he,hca,hrl⟩:=hI.holds _ (jV hA F)
    rw [ho] at ho'; cases ho'
    have hlt:off < cs.length:=(List.getElem?_eq_some_iff.1 hc).1
    have hlt':off < arr.length:=by rw [hrl.1]; exact hlt
    have h0:w.cell? ⟨b,off,none⟩=some (arr.getD off undef):=by rw [hca.cell]; simp [List.getD,hlt']
    have hr:=hrl.2 off hlt
    rw [(List.getElem?_eq_some_iff.1 hc).2] at hr
    refine ⟨_,_,w,I,?_,.inl rfl,cj _ _,hI,hr⟩
    simp only [execOp,e1,Instr.loadAt,Instr.sureAddr,Sem.run_bind,Sem.run_pure,Result.andThen_ok,loadVar,kg hT hD,Bool.false_eq_true,if_false,run_load,h0]
theorem iH {c:AV} {v:Value} (h:Rel I w c v) (hc:cE c=true):v.oneCell'=true:=by
  cases h with
  | v=>cases v <;> simp_all [cE,Value.oneCell']
  | _=>first | rfl | (simp [cE] at hc)
theorem aA {o off i:Nat} {cs:List AV} {c:AV} {T2:TypeId} (hsz:bO P T=some 1) (hx:opv e x=.pt o off) (hy:opv e y=c) (hcell:cE c=true) (hA:A[i]?=some (.obj o cs)) (hoff:off < cs.length) :
    OpR P ⟨d,.store T x y,T2,pos,after,g⟩ e A .any (A.set i (.obj o (cs.set off c))):=fun F I w ρ hI hρ=>by
  have h:=hx ▸ hρ x
  have hv:=hy ▸ hρ y
  generalize e1:ρ x=v at h
  cases h with
  | pt o off b ho =>
    have hI2:=hI.take_at hA
    obtain ⟨b',arr,ho',he,hca,hrl⟩:=hI.holds _ (jV hA F)
    rw [ho] at ho'; cases ho'
    have hlt':off < arr.length:=by rw [hrl.1]; exact hoff
    obtain ⟨E,hI3⟩:=hI2.set_obj ho off hv;refine ⟨.skip,undef,_,I,?_,.inr ⟨rfl,rfl⟩,E,eG hA hI3,.any _⟩
    have h1c:=iH hv hcell
    have hcs:(ρ y).cells = #[ρ y]:=by cases hq:ρ y <;> rw [hq] at h1c <;> first | rfl | cases h1c
    have h0:w.cell? ⟨b,off,none⟩=some (arr.getD off undef):=by rw [hca.cell]; simp [List.getD,hlt']
    have hst:(storeCells ⟨b,off,none⟩ [ρ y]).run P w=.ok () (w.setCell ⟨b,off,none⟩ (ρ y)):=by
      simp only [storeCells,Sem.run_bind,df,Nat.add_zero,run_store P w _ _ _ h1c,h0,hca.free hlt',Bool.false_eq_true,if_false,Result.andThen_ok,Sem.run_pure]
    simp only [execOp,e1,Instr.storeAt,Instr.sureAddr,Sem.run_bind,Sem.run_pure,Result.andThen_ok,storeVar,hcs,bS hsz]
    simp [hst]
def cellsOf:AV→List AV
  | .agg cs=>cs
  | a=>[a]
theorem oU {a:AV} {v:Value} (h:Rel I w a v) (hc:cE a=true∨∃ cs,a=.agg cs):RelL I w (cellsOf a) v.cells.toList:=by
  rcases hc with hc | ⟨cs,rfl⟩
  · have h1:=iH h hc
    have h2:v.cells = #[v]:=by cases v <;> first | rfl | cases h1
    have h3:cellsOf a=[a]:=by cases a <;> first | rfl | (simp [cE] at hc)
    rw [h2,h3]
    exact fp h ge
  · cases h with
    | agg cs xs hl hr=>exact ⟨by simpa [Value.cells,cellsOf] using hl,by simpa [Value.cells,cellsOf] using hr⟩
theorem vW {a:AV} {T2:TypeId} (hx:opv e x=a) (hc:cE a=true∨∃ cs,a=.agg cs):OpX P ⟨d,.box T x,T2,pos,after,g⟩ e A (fun av A'=>∃ o,av=.pt o 0∧A'=.obj o (cellsOf a)::A):=fun F I w ρ hI hρ=>by
  have hv:=hx ▸ hρ x
  obtain ⟨o,ho⟩:=hI.fresh_obj
  have hrl:=oU hv hc
  refine ⟨_,.pointer (some ⟨w.heap.size,0,none⟩),_,_,_,_,?_,.inl rfl,hI.new_obj ho _,hI.alloc_obj ho T hrl,.pt o 0 _ (by simp [Info.putObj]),o,rfl,rfl⟩
  simp only [execOp,Instr.box,newVar,newRow,Sem.run_bind,Sem.run_pure,run_newObj_alloc,Result.andThen_ok]
end
end Go.Av
namespace Go.Av
open Go.RowKit
def cU (P:Program) (t:TypeId):Option (Nat×Nat) :=
  (P.info? t).bind fun i=>i.zero.bind fun z=>if z.cells.size=i.size then some (i.size,i.bytes) else none
theorem ep {P:Program} {t k b:Nat} (h:cU P t=some (k,b)):∃ i z,P.info? t=some i∧i.zero=some z∧z.cells.size=k∧i.size=k∧i.bytes=b:=by
  unfold cU at h
  obtain ⟨i,hi,h⟩:=Option.bind_eq_some_iff.1 h;obtain ⟨z,hz,h⟩:=Option.bind_eq_some_iff.1 h
  split at h
  · rename_i hc
    simp only [Option.some.injEq,Prod.mk.injEq] at h
    exact ⟨i,z,hi,hz,hc.trans h.1,h.1,h.2⟩
  · cases h
def jf:TypeDesc→Bool
  | .int _=>true
  | _=>false
def Src (P:Program) (I:Info) (w:World) (k:Nat) (u:Value) (ms:List AV) (m:Nat):Prop :=
  ∃ xs,ms.length=m*k∧RelL I w ms xs∧(∀ w',(Builtin.lenOf u).run P w'=.ok m w') ∧
    ∀ w',(∀ b j,Stab I b (j+1)→w'.cell? ⟨b,j,none⟩=w.cell? ⟨b,j,none⟩)→(Builtin.firstCells k m u).run P w'=.ok xs.toArray w'
section
variable {P:Program} {I:Info} {w:World}
theorem wh {α:Type} {E:Enc α} {l:List α} {t:Option Nat} {u:Value} (h:Rel I w (slE E l t) u):Src P I w E.k u (E.fl l) l.length:=by
  obtain ⟨a,cap,xs,rfl,hcap,hrl,hor⟩:=mO h;refine ⟨xs,E.fl_length l,hrl,fun w'=>rfl,fun w' hw=>?_⟩
  rcases hor with h0 | ⟨b,off,rfl,hst,hc⟩
  · have:xs=[]:=List.eq_nil_of_length_eq_zero (by rw [hrl.1,E.fl_length,h0,Nat.zero_mul])
    subst this
    rw [h0]
    cases a with
    | none=>exact run_firstCells_none ..
    | some a =>
      simp only [Builtin.firstCells,Nat.zero_mul]
      rfl
  · refine run_firstCells_some _ E.k l.length _ _ _ xs (by rw [hrl.1,E.fl_length]) (fun j v hj=>?_)
    have hlt:j < xs.length:=(List.getElem?_eq_some_iff.1 hj).1
    rw [hrl.1] at hlt
    rw [df,hw b (off+j) (hst.le (by omega)),hc j hlt]
    simp [List.getD,hj]
theorem zg {s:List UInt8}:Src P I w 1 (.string ⟨s.toArray⟩) (Enc.byte.fl s) s.length:=by
  refine ⟨s.map fun b=>.int .u8 b.toNat,Enc.byte.fl_length s,?_,fun w'=>?_,fun w' _=>?_⟩
  · have:Enc.byte.fl s=s.map fun c=>u8 c:=by
      induction s with
      | nil=>rfl
      | cons c s ih=>rw [eu,ih]; rfl
    rw [this]
    exact gf _ _ _ fun x _=>.v _
  · simp [Builtin.lenOf,ByteArray.size]
  · have h1:(⟨s.toArray⟩:ByteArray).extract 0 s.length=⟨s.toArray⟩:=by rw [nC]; simp
    simp only [Builtin.firstCells,Sem.run_pure,h1]
    simp
theorem mU (b:Nat):∀ (vs:List Value) (o:Nat) (w:World) (b':Nat),b'≠b→(w.setCells b o vs).heap[b']?=w.heap[b']?
  | [],_,_,_,_=>rfl
  | v::r,o,w,b',h=>by rw [World.setCells,mU b r _ _ _ h,gV _ _ _ _ h]
theorem rq (b:Nat):∀ (vs:List Value) (o:Nat) (w:World) (arr:List Value),CellsAt w b arr→∃ arr',CellsAt (w.setCells b o vs) b arr'∧arr'.length=arr.length
  | [],_,w,arr,h=>⟨arr,h,rfl⟩
  | v::r,o,w,arr,h=>by
    obtain ⟨arr',h',hl⟩:=rq b r (o+1) _ _ (lz h o v);exact ⟨arr',h',by rw [hl]; simp⟩
theorem pr (b:Nat):∀ (vs:List Value) (o:Nat) (w:World) (E:TypeId),ElemAt w b E→ElemAt (w.setCells b o vs) b E
  | [],_,w,E,h=>h
  | v::r,o,w,E,h=>pr b r (o+1) _ E (h.setCell _ _)
theorem pq (b:Nat):∀ (vs:List Value) (o:Nat) (w:World),(w.setCells b o vs).os=w.os∧(w.setCells b o vs).tape=w.tape∧(w.setCells b o vs).output=w.output∧(w.setCells b o vs).heap.size=w.heap.size
  | [],_,w=>⟨rfl,rfl,rfl,rfl⟩
  | v::r,o,w=>by
    obtain ⟨h1,h2,h3,h4⟩:=pq b r (o+1) (w.setCell ⟨b,o,none⟩ v);exact ⟨h1,h2,h3,h4.trans (by simp)⟩
theorem Ac {A:List Chunk} {T T2 El:TypeId} {D2:TypeDesc} {k bytes n m:Nat} {cs ms:List AV} {u:Value} {ty:TypeId}
    (hT:P.underlying T=some (.slice El)) (hT2:P.underlying T2=some D2) (hD2:jf D2=false) (hE:cU P El=some (k,bytes)) (hk:0 < k)
    (hI:Inv I A w) (hn:cs.length=n*k) (hu:Src P I w k u ms m) (hcell:∀ c∈ms,cE c=true) (hb:(n+m)*bytes≤140737488355328) (hs:n+m≤140737488355328)
    (base:Option Addr) (cap:Nat) (old:List Value) (hol:old.length=cs.length) (hro:RelL I w cs old) (hcap:cap < n+m)
    (hold:∀ w',(∀ b j,Stab I b (j+1)→w'.cell? ⟨b,j,none⟩=w.cell? ⟨b,j,none⟩)→(Builtin.firstCells k n (.slice base n cap)).run P w'=.ok old.toArray w') :
    ∃ v' w' I' t',(Builtin.append_ #[T,T2] ty #[.slice base n cap,u]).run P w=.ok v' w'∧Ext I w I' w'∧Inv I' (.tok t' El::A) w'∧Rel I' w' (.sl k (cs++ms) (some t')) v':=by
  obtain ⟨i,z,hi,hz,hzs,hsz,hby⟩:=ep hE;obtain ⟨xs,hml,hrl,hlen,hfirst⟩:=hu
  have hxl:xs.length=m*k:=by rw [hrl.1,hml]
  have hone:∀ x∈xs,x.oneCell'=true:=by
    intro x hx;obtain ⟨j,hj,rfl⟩:=List.getElem_of_mem hx
    have hj':j < ms.length:=by rw [← hrl.1]; exact hj
    have:=hrl.2 j hj'
    rw [show xs.getD j undef=xs[j] by simp [List.getD,hj]] at this
    exact iH this (hcell _ (List.getElem_mem hj'))
  have hcz:bO P El=some k:=by simp only [bO,hi,Option.map_some,hsz]
  obtain ⟨t',ht'⟩:=hI.fresh_tok
  have hge:=grownCap_ge w (n+m) cap El
  generalize hg:grownCap w (n+m) cap El=c at hge
  have hch:(choose (.appendCap (n+m) cap El)).run P w=.ok c w.drew:=by
    rw [run_choose_drew,← hg]
    rfl
  have hfit:¬ (Builtin.nextslicecap (n+m) cap*i.bytes > 2 ^ 48):=by
    have:=growslice_fits (need:=n+m) (old:=cap) (bytes:=i.bytes) (by omega) (by rw [hby]; exact hb)
    omega
  have hID:=hI.drew
  have hdrop:Inv I A w.drew:=hID
  have hzl:(Builtin.zeroCells z.cells (c - (n+m))).size=(c - (n+m))*k:=by rw [size_zeroCells,hzs]
  have harr:(old++xs++(Builtin.zeroCells z.cells (c - (n+m))).toList).length=c*k:=by
    simp only [List.length_append,hol,hn,hxl,Array.length_toList,hzl,← Nat.add_mul]
    congr 1; omega
  have hle:n*k+m*k≤c*k:=by rw [← Nat.add_mul]; exact Nat.mul_le_mul_right _ hge
  have X:=hdrop.new_row ht' (n*k+m*k) (c*k) (.cells (old++xs++(Builtin.zeroCells z.cells (c - (n+m))).toList).toArray El (0,0))
  have hI':=hdrop.alloc_row ht' (n*k+m*k) (old++xs++(Builtin.zeroCells z.cells (c - (n+m))).toList) El (0,0) (by rw [harr]; exact hle) (.inl rfl)
  rw [harr] at hI'
  refine ⟨.slice (some ⟨w.drew.heap.size,0,none⟩) (n+m) c,_,_,t',?_,(Ext.drew I w).trans X,hI',?_⟩
  · have hti:(typeInfo El).run P w=.ok i w:=by simp [typeInfo,program,hi,Sem.run]
    have hti2:(typeInfo El).run P w.drew=.ok i w.drew:=by simp [typeInfo,program,hi,Sem.run]
    have hzv:(zeroValue El).run P w.drew=.ok z w.drew:=by simp only [zeroValue,Sem.run_bind,hti2,Result.andThen_ok,hz,Sem.run_pure]
    have hroom:(askRoom (c*i.bytes)).run P w.drew=.ok () w.drew:=by unfold askRoom; split <;> rfl
    have hcf:(choose (.appendCap (n+m) cap El)).run P w=.ok c w.drew:=hch
    have hm:IntKind.i64.max=9223372036854775807:=by decide
    have heq:old.toArray++xs.toArray++Builtin.zeroCells z.cells (c - (n+m))=(old++xs++(Builtin.zeroCells z.cells (c - (n+m))).toList).toArray:=by apply Array.ext'; simp
    cases D2 <;> cases hD2
    all_goals
      simp only [Builtin.append_,List.getElem?_toArray,List.getElem?_cons_zero,List.getElem?_cons_succ,run_underlying hT,run_underlying hT2,Sem.run_bind,Sem.run_pure,Result.andThen_ok,bS hcz,hlen,Bool.false_eq_true,if_false]
      rw [if_neg (show ¬ n+m≤cap by omega)]
      simp only [false_or,Sem.run_bind,hti,Result.andThen_ok]
      rw [if_neg (show ¬ (((n+m:Nat):Int) > IntKind.i64.max∧i.bytes=0) by omega)]
      simp only [Sem.run_bind,hti,Result.andThen_ok,Sem.run_pure]
      rw [if_neg hfit]
      simp only [Sem.run_bind,hti2,hcf,Result.andThen_ok,Sem.run_pure,hroom,hold w.drew (fun _ _ _=>rfl),hfirst w.drew (fun _ _ _=>rfl),Bool.not_false,if_true,hzv,newRow,run_newObj_alloc]
      rw [heq]
  · refine .sl k _ _ _ 0 _ _ (fun j=>(old++xs).getD j undef) hk (by rw [List.length_append,hn,hml,Nat.add_mul]) hge ?_ ?_ ?_ ?_
    · intro q hq
      simp only [Info.putTok,if_true,Option.some.injEq] at hq
      subst hq; simp only [List.length_append,hn,hml]; omega
    · intro j hj
      have hj2:j < (old++xs).length:=by simp only [List.length_append,hol,hn,hxl,hml] at hj ⊢; exact hj
      rw [Nat.zero_add,(show CellsAt (w.drew.alloc (.cells (old++xs++(Builtin.zeroCells z.cells (c - (n+m))).toList).toArray El (0,0))) w.drew.heap.size _ from ⟨El,(0,0),cT _ _,.inl rfl⟩).cell]
      rw [List.getElem?_append_left hj2,List.getD,aV hj2,Option.getD_some]
    · have:=(RelL.append hro hrl).mono ((Ext.drew I w).trans X)
      exact this.2
    · intro q hq
      cases hq
      exact ⟨by simp [Info.putTok,List.length_append,hn,hml],rfl⟩
theorem wD {A:List Chunk} {T T2 El E0:TypeId} {D2:TypeDesc} {k bytes n m t:Nat} {cs ms:List AV} {v u:Value} {ty:TypeId}
    (hT:P.underlying T=some (.slice El)) (hT2:P.underlying T2=some D2) (hD2:jf D2=false) (hE:cU P El=some (k,bytes)) (hk:0 < k)
    (hI:Inv I (.tok t E0::A) w) (hv:Rel I w (.sl k cs (some t)) v) (hn:cs.length=n*k) (hu:Src P I w k u ms m) (hcell:∀ c∈ms,cE c=true) (hb:(n+m)*bytes≤140737488355328) (hs:n+m≤140737488355328) :
    ∃ v' w' I' t' E1,(Builtin.append_ #[T,T2] ty #[v,u]).run P w=.ok v' w'∧Ext I w I' w'∧Inv I' (.tok t' E1::A) w'∧Rel I' w' (.sl k (cs++ms) (some t')) v'∧(E1=E0∨E1=El):=by
  obtain ⟨i,z,hi,hz,hzs,hsz,hby⟩:=ep hE
  have hu0:=hu
  obtain ⟨xs,hml,hrl,hlen,hfirst⟩:=hu
  have hxl:xs.length=m*k:=by rw [hrl.1,hml]
  have hone:∀ x∈xs,x.oneCell'=true:=by
    intro x hx;obtain ⟨j,hj,rfl⟩:=List.getElem_of_mem hx
    have hj':j < ms.length:=by rw [← hrl.1]; exact hj
    have:=hrl.2 j hj'
    rw [show xs.getD j undef=xs[j] by simp [List.getD,hj]] at this
    exact iH this (hcell _ (List.getElem_mem hj'))
  have hcz:bO P El=some k:=by simp only [bO,hi,Option.map_some,hsz]
  have grown:∀ (base:Option Addr) (cap:Nat) (old:List Value),old.length=cs.length→RelL I w cs old→cap < n+m→v=.slice base n cap →
      (∀ w',(∀ b j,Stab I b (j+1)→w'.cell? ⟨b,j,none⟩=w.cell? ⟨b,j,none⟩)→(Builtin.firstCells k n v).run P w'=.ok old.toArray w') →
      ∃ v' w' I' t',(Builtin.append_ #[T,T2] ty #[v,u]).run P w=.ok v' w'∧Ext I w I' w'∧Inv I' (.tok t' El::A) w'∧Rel I' w' (.sl k (cs++ms) (some t')) v':=by
    intro base cap old hol hro hcap hve hold;subst hve;exact Ac (ty:=ty) (u:=u) hT hT2 hD2 hE hk (hI.sub (List.sublist_cons_self ..)) hn hu0 hcell hb hs base cap old hol hro hcap hold
  cases hv with
  | slnil k t ht =>
    have hn0:n=0:=by
      rcases Nat.eq_zero_or_pos n with h | h
      · exact h
      · have:=Nat.mul_pos h hk; simp at hn; omega
    subst hn0
    by_cases hm0:m=0
    · subst hm0
      have hms:ms=[]:=List.eq_nil_of_length_eq_zero (by rw [hml,Nat.zero_mul])
      subst hms
      have hxs:xs=[]:=List.eq_nil_of_length_eq_zero (by rw [hxl,Nat.zero_mul])
      subst hxs;refine ⟨.slice none 0 0,w,I,t,E0,?_,cj _ _,hI,.slnil k t ht,.inl rfl⟩
      cases D2 <;> cases hD2
      all_goals
        simp only [Builtin.append_,List.getElem?_toArray,List.getElem?_cons_zero,List.getElem?_cons_succ,run_underlying hT,run_underlying hT2,Sem.run_bind,Sem.run_pure,Result.andThen_ok,bS hcz,hlen,Bool.false_eq_true,if_false]
        rw [if_pos (Nat.le_refl 0)]
        simp only [Sem.run_bind,hfirst w (fun _ _ _=>rfl),Bool.not_false,if_true,Result.andThen_ok,Sem.run_pure]
    · obtain ⟨v1,w1,I1,t1,g1,g2,g3,g4⟩:=grown none 0 [] rfl ge (by omega) (by simp) (fun w' _=>run_firstCells_none ..)
      exact ⟨v1,w1,I1,t1,El,g1,g2,g3,g4,.inr rfl⟩
  | sl k cs t' b off len cap f hk' hlen' hcap hst hx hr ht =>
    obtain ⟨htk,rfl⟩:=ht t rfl
    have hln:len=n:=Nat.eq_of_mul_eq_mul_right hk (hlen'.trans hn)
    subst hln;obtain ⟨ob,n',c',ht2,_,hh⟩:=hI.holds _ (List.mem_cons_self ..)
    rw [htk] at ht2; cases ht2
    obtain ⟨hex,hnc,arr,hca,hal,het⟩:=hh b rfl
    by_cases hfit:len+m≤cap
    · obtain ⟨t',ht'⟩:=hI.fresh_tok
      have hle:len*k+m*k≤cap*k:=by rw [← Nat.add_mul]; exact Nat.mul_le_mul_right _ hfit
      have hst':(storeCells ⟨b,len*k,none⟩ xs).run P w=.ok () (w.setCells b (len*k+0) xs):=by
        refine run_storeCells_cells b (len*k) xs 0 w (fun j hj=>?_) (fun j hj=>?_) hone
        · rw [hca.cell]; simp only [Nat.add_zero]; rw [aV (by omega)]; rfl
        · exact hca.free (by omega)
      simp only [Nat.add_zero] at hst'
      obtain ⟨r1,r2,r3,r4⟩:=pq b xs (len*k) w
      have hcell':∀ j,j < len*k→(w.setCells b (len*k) xs).cell? ⟨b,j,none⟩=w.cell? ⟨b,j,none⟩:=fun j hj=>World.cell?_setCells_out b xs _ w _ (fun _ _=>.inl hj)
      obtain ⟨arr',hca',hal'⟩:=rq b xs (len*k) w arr hca;obtain ⟨E,hI'⟩:=hI.grow htk ht' (m*k) (by rw [← hlen']; exact hle) r1 r2 r3 r4 (fun b' hb'=>mU b xs _ w b' hb') (by rw [← hlen']; exact hcell') ⟨arr',hca',by rw [hal',hal]⟩ (fun E hE=>pr b xs _ w E hE);refine ⟨.slice (some ⟨b,0,none⟩) (len+m) cap,_,_,t',E0,?_,E,hI',?_,.inl rfl⟩
      · cases D2 <;> cases hD2
        all_goals
          simp only [Builtin.append_,List.getElem?_toArray,List.getElem?_cons_zero,List.getElem?_cons_succ,run_underlying hT,run_underlying hT2,Sem.run_bind,Sem.run_pure,Result.andThen_ok,bS hcz,hlen,Bool.false_eq_true,if_false]
          rw [if_pos hfit]
          simp only [Sem.run_bind,hfirst w (fun _ _ _=>rfl),Bool.not_false,if_true,Result.andThen_ok,Sem.run_pure,df,Nat.zero_add,hst']
      · refine .sl k _ _ _ 0 _ _ (fun j=>if j < cs.length then f j else xs.getD (j - cs.length) undef) hk (by rw [List.length_append,← hlen',hml,Nat.add_mul]) hfit ?_ ?_ ?_ ?_
        · intro q hq
          simp only [Info.putTok,if_true,Option.some.injEq] at hq
          subst hq; simp only [List.length_append,hml]; omega
        · intro j hj
          by_cases hjc:j < cs.length
          · rw [if_pos hjc,Nat.zero_add,hcell' j (by omega)]
            have:=hx j hjc
            rwa [Nat.zero_add] at this
          · rw [if_neg hjc]
            have hj2:j - cs.length < xs.length:=by simp only [List.length_append,hml] at hj; omega
            have:=World.cell?_setCells_in b xs (len*k) w (fun i hi=>by rw [hca.cell]; rw [aV (by omega)]; rfl) (j - cs.length) hj2
            rw [show 0+j=len*k+(j - cs.length) by omega,this]
            simp [List.getD,hj2]
        · intro j hj
          by_cases hjc:j < cs.length
          · rw [if_pos hjc,List.getElem_append_left hjc]; exact (hr j hjc).mono E
          · rw [if_neg hjc,List.getElem_append_right (by omega)]
            exact (hrl.2 _ (by simp only [List.length_append] at hj; omega)).mono E
        · intro q hq
          cases hq
          exact ⟨by simp [Info.putTok,List.length_append,← hlen',hml],rfl⟩
    · have hg:∀ j,j < cs.length→((List.range cs.length).map f).getD j undef=f j:=fun j hj=>by simp [List.getD,hj]
      have hgr:=grown (some ⟨b,0,none⟩) cap ((List.range cs.length).map f) (by simp) ⟨by simp,fun j hj=>by rw [hg j hj]; exact hr j hj⟩ (by omega) rfl (fun w' hw=>by
        refine run_firstCells_some _ k len _ _ _ _ (by simp [hlen']) (fun j v hj=>?_)
        have hlt:j < cs.length:=by have:=(List.getElem?_eq_some_iff.1 hj).1; simpa using this
        rw [df,hw b (0+j) (hst.le (by omega)),hx j hlt]
        rw [← hg j hlt]
        simp only [List.getD,hj,Option.getD_some])
      obtain ⟨v1,w1,I1,t1,g1,g2,g3,g4⟩:=hgr;exact ⟨v1,w1,I1,t1,El,g1,g2,g3,g4,.inr rfl⟩
theorem pI {A:List Chunk} {T T2 El:TypeId} {D2:TypeDesc} {k bytes n m t:Nat} {cs ms:List AV} {v u:Value} {ty:TypeId}
    (hT:P.underlying T=some (.slice El)) (hT2:P.underlying T2=some D2) (hD2:jf D2=false) (hE:cU P El=some (k,bytes)) (hk:0 < k)
    (hI:Inv I (.tok t El::A) w) (hv:Rel I w (.sl k cs (some t)) v) (hn:cs.length=n*k) (hu:Src P I w k u ms m) (hcell:∀ c∈ms,cE c=true) (hb:(n+m)*bytes≤140737488355328) (hs:n+m≤140737488355328) :
    ∃ v' w' I' t',(Builtin.append_ #[T,T2] ty #[v,u]).run P w=.ok v' w'∧Ext I w I' w'∧Inv I' (.tok t' El::A) w'∧Rel I' w' (.sl k (cs++ms) (some t')) v':=by
  obtain ⟨v',w',I',t',E1,h1,h2,h3,h4,h5⟩:=wD (ty:=ty) hT hT2 hD2 hE hk hI hv hn hu hcell hb hs
  have:E1=El:=by rcases h5 with h | h <;> exact h
  subst this;exact ⟨v',w',I',t',h1,h2,h3,h4⟩
variable {e:Env} {d:Option Nat} {T:TypeId} {pos:String} {after:Array Edge} {g:Option (Nat×Bool)} {x y:Operand} {av:AV} {A:List Chunk}
theorem mD {T T2 T3:TypeId} {ρ:Operand→Value} {v':Value} {w':World} (h:(Builtin.append_ #[T,T2] T3 #[ρ x,ρ y]).run P w=.ok v' w') :
    (execOp ρ ⟨d,.call ⟨.builtin .append,#[x,y],#[T,T2]⟩,T3,pos,after,g⟩).run P w=.ok (.value v') w':=by
  simp only [execOp,resolve,List.map_toArray,List.map_cons,List.map_nil,Sem.run_bind,Sem.run_pure,Result.andThen_ok,invoke,builtin,h]
theorem yf {α:Type} {E:Enc α} {l m:List α} {t:Nat} {t2:Option Nat} {El T2 T3 bytes:Nat} {D2:TypeDesc} (i:Nat) (hT:P.underlying T=some (.slice El)) (hT2:P.underlying T2=some D2) (hD2:jf D2=false) (hE:cU P El=some (E.k,bytes))
    (hx:opv e x=slE E l (some t)) (hy:opv e y=slE E m t2) (hA:A[i]?=some (.tok t El)) (hb:(l.length+m.length)*bytes≤140737488355328) (hs:l.length+m.length≤140737488355328) :
    OpX P ⟨d,.call ⟨.builtin .append,#[x,y],#[T,T2]⟩,T3,pos,after,g⟩ e A (fun av A'=>∃ t',av=slE E (l++m) (some t')∧A'=A.set i (.tok t' El)):=fun F I w ρ hI hρ=>by
  obtain ⟨v',w',I',t',h1,h2,h3,h4⟩:=pI (ty:=T3) hT hT2 hD2 hE E.pos (hI.take_at hA) (hx ▸ hρ x) (E.fl_length l) (wh (hy ▸ hρ y)) (E.fl_cell m) hb hs
  rw [← E.fl_append] at h4
  exact ⟨_,v',w',I',_,_,mD h1,.inl rfl,h2,eG hA h3,h4,t',rfl,rfl⟩
theorem iC {l m:List UInt8} {t:Nat} {El T2 T3 bytes:Nat} {D2:TypeDesc} (i:Nat) (hT:P.underlying T=some (.slice El)) (hT2:P.underlying T2=some D2) (hD2:jf D2=false) (hE:cU P El=some (1,bytes))
    (hx:opv e x=slE Enc.byte l (some t)) (hy:opv e y=S m) (hA:A[i]?=some (.tok t El)) (hb:(l.length+m.length)*bytes≤140737488355328) (hs:l.length+m.length≤140737488355328) :
    OpX P ⟨d,.call ⟨.builtin .append,#[x,y],#[T,T2]⟩,T3,pos,after,g⟩ e A (fun av A'=>∃ t',av=slE Enc.byte (l++m) (some t')∧A'=A.set i (.tok t' El)):=fun F I w ρ hI hρ=>by
  have e2:=cf (hy ▸ hρ y)
  obtain ⟨v',w',I',t',h1,h2,h3,h4⟩:=pI (ty:=T3) (u:=ρ y) hT hT2 hD2 hE (Nat.zero_lt_one) (hI.take_at hA) (hx ▸ hρ x) (Enc.byte.fl_length l) (by rw [e2]; exact zg) (Enc.byte.fl_cell m) hb hs
  rw [← Enc.fl_append] at h4
  exact ⟨_,v',w',I',_,_,mD h1,.inl rfl,h2,eG hA h3,h4,t',rfl,rfl⟩
theorem sG {α:Type} {E:Enc α} {m:List α} {t2:Option Nat} {El T2 T3 bytes:Nat} {D2:TypeDesc} (hT:P.underlying T=some (.slice El)) (hT2:P.underlying T2=some D2) (hD2:jf D2=false) (hE:cU P El=some (E.k,bytes))
    (hx:opv e x=aj) (hy:opv e y=slE E m t2) (hb:m.length*bytes≤140737488355328) (hs:m.length≤140737488355328) :
    OpX P ⟨d,.call ⟨.builtin .append,#[x,y],#[T,T2]⟩,T3,pos,after,g⟩ e A (fun av A'=>∃ t',av=slE E m (some t')∧A'=.tok t' El::A):=fun F I w ρ hI hρ=>by
  obtain ⟨t,ht⟩:=hI.fresh_tok;obtain ⟨E0,hI0⟩:=hI.nil_tok ht El
  have e1:=cf (hx ▸ hρ x)
  have hv:Rel (I.nilTok t) w (.sl E.k [] (some t)) (ρ x):=by rw [e1]; exact .slnil _ _ (by simp [Info.nilTok])
  obtain ⟨v',w',I',t',h1,h2,h3,h4⟩:=pI (ty:=T3) hT hT2 hD2 hE E.pos hI0 hv (n:=0) (by simp) (wh ((hy ▸ hρ y).mono E0)) (E.fl_cell m) (by rw [Nat.zero_add]; exact hb) (by rw [Nat.zero_add]; exact hs);exact ⟨_,v',w',I',_,_,mD h1,.inl rfl,E0.trans h2,h3,h4,t',rfl,rfl⟩
theorem xD:∀ (vs:List Value) (i:Nat) (pre rest:List Value),pre.length=i→rest.length=vs.length→(∀ v∈vs,v.oneCell'=true) →
    Instr.fill (fun i=>some (i*1,1)) (pre++rest).toArray ((List.range' i vs.length).zip vs)=some (pre++vs).toArray
  | [],i,pre,rest,hi,hr,h1=>by
    have:rest=[]:=List.eq_nil_of_length_eq_zero (by simpa using hr)
    subst this
    simp [Instr.fill]
  | v::vs,i,pre,rest,hi,hr,h1=>by
    obtain ⟨r0,rest,rfl⟩:∃ r0 r,rest=r0::r:=by cases rest with
      | nil=>simp at hr
      | cons a r=>exact ⟨a,r,rfl⟩
    have hv:=h1 v (List.mem_cons_self ..)
    have hc:v.cells = #[v]:=by cases v <;> first | rfl | cases hv
    have ih:=xD vs (i+1) (pre++[v]) rest (by simp [hi]) (by simpa using hr) (fun u hu=>h1 u (List.mem_cons_of_mem _ hu))
    simp only [List.length_cons,List.range'_succ,List.zip_cons_cons,Instr.fill,hc]
    rw [if_neg (by simp [hi])]
    have hset:(#[v].zipIdx.foldl (fun cs (x:Value×Nat)=>cs.setIfInBounds (i*1+x.2) x.1) (pre++r0::rest).toArray)=(pre++[v]++rest).toArray:=by
      apply Array.ext'
      simp [← hi]
    rw [hset]
    simpa using ih
theorem lM {El bytes:Nat} {parts:Array (Nat×Operand)} {xs:List Operand} {cs:List AV} {T2 n:Nat} {ρ:Operand→Value} (hT:P.underlying T=some (.slice El)) (hE:cU P El=some (1,bytes)) (hn:xs.length=n) (hp:parts=((List.range' 0 xs.length).zip xs).toArray) (hlt:n≤16777216)
    (hcs:xs.map (opv e)=cs) (hcell:∀ c∈cs,cE c=true) (hρ:∀ x,Rel I w (opv e x) (ρ x)):(execOp ρ ⟨d,.buildSlice T n parts,T2,pos,after,g⟩).run P w=.ok (.value (.slice (some ⟨w.heap.size,0,none⟩) xs.length xs.length)) (w.alloc (.cells (xs.map ρ).toArray El)):=by
  subst hn;obtain ⟨i,z,hi,hz,hzs,hsz,hby⟩:=ep hE
  have hcz:bO P El=some 1:=by simp only [bO,hi,Option.map_some,hsz]
  have hrl:RelL I w cs (xs.map ρ):=by rw [← hcs]; exact gf _ _ _ fun x _=>hρ x
  have hlen:(xs.map ρ).length=cs.length:=hrl.1
  have hone:∀ v∈xs.map ρ,v.oneCell'=true:=by
    intro v hv;obtain ⟨j,hj,rfl⟩:=List.getElem_of_mem hv
    have hj':j < cs.length:=by rw [← hrl.1]; exact hj
    have:=hrl.2 j hj'
    rw [show (xs.map ρ).getD j undef=(xs.map ρ)[j] by simp only [List.getD,aV hj,Option.getD_some]] at this
    exact iH this (hcell _ (List.getElem_mem hj'))
  have hti:(typeInfo El).run P w=.ok i w:=by simp [typeInfo,program,hi,Sem.run]
  have hzv:(zeroValue El).run P w=.ok z w:=by simp only [zeroValue,Sem.run_bind,hti,Result.andThen_ok,hz,Sem.run_pure]
  have hpm:(parts.map fun (i,x)=>(i,ρ x)).toList=(List.range' 0 (xs.map ρ).length).zip (xs.map ρ):=by
    subst hp
    simp [List.zip_map_right]
  have key:∀ zero:Array Value,Instr.fill (fun i=>some (i*1,1)) ((Array.range (xs.length*1)).map (zero[· % zero.size]!)) (parts.map fun (i,x)=>(i,ρ x)).toList=some (xs.map ρ).toArray:=by
    intro zero
    have hfill:=xD (xs.map ρ) 0 [] ((Array.range (xs.length*1)).map (zero[· % zero.size]!)).toList rfl (by simp) hone
    simp only [List.nil_append,Array.toArray_toList] at hfill
    rw [hpm]; exact hfill
  have hz0:(if xs.length*1=0 then (pure #[]:Sem (Array Value)) else do pure (← zeroValue El).cells).run P w=.ok (if xs.length*1=0 then #[] else z.cells) w:=by
    split
    · rfl
    · simp only [Sem.run_bind,hzv,Result.andThen_ok,Sem.run_pure]
  simp only [execOp,Instr.buildSlice,Sem.run_bind,run_underlying hT,Result.andThen_ok,bS hcz,Sem.run_pure]
  rw [if_neg (by omega)]
  simp only [Sem.run_bind,hz0,Result.andThen_ok,key,newRow,run_newObj_alloc,Sem.run_pure]
  split <;> simp only [Sem.run_bind,hzv,Result.andThen_ok,Sem.run_pure,run_newObj_alloc]
theorem oo {El bytes:Nat} {parts:Array (Nat×Operand)} {xs:List Operand} {cs:List AV} {T2 n:Nat} (hT:P.underlying T=some (.slice El)) (hE:cU P El=some (1,bytes)) (hn:xs.length=n) (hp:parts=((List.range' 0 xs.length).zip xs).toArray) (hlt:n≤16777216)
    (hcs:xs.map (opv e)=cs) (hcell:∀ c∈cs,cE c=true):OpR P ⟨d,.buildSlice T n parts,T2,pos,after,g⟩ e A (.sl 1 cs none) A:=fun F I w ρ hI hρ=>by
  have hrl:RelL I w cs (xs.map ρ):=by rw [← hcs]; exact gf _ _ _ fun x _=>hρ x
  have hlen:(xs.map ρ).length=cs.length:=hrl.1
  have X:=hI.new_still (.cells (xs.map ρ).toArray El)
  refine ⟨_,.slice (some ⟨w.heap.size,0,none⟩) xs.length xs.length,_,_,lM hT hE hn hp hlt hcs hcell hρ,.inl rfl,X,hI.alloc_still _,?_⟩
  · refine .sl 1 cs none _ 0 _ _ (fun j=>(xs.map ρ).getD j undef) (by omega) (by rw [← hlen]; simp) (Nat.le_refl _) ?_ ?_ (hrl.mono X).2 (fun t h=>by cases h)
    · intro m hm; simp [Info.still] at hm
    · intro j hj
      have hj':j < (xs.map ρ).length:=by rw [hlen]; exact hj
      rw [Nat.zero_add]
      simp only [World.cell?,cT]
      simp only [Option.isSome_none,Bool.false_eq_true,if_false,List.getElem?_toArray,List.getD,aV hj',Option.getD_some]
theorem _root_.List.set_getElem?_self' {α:Type}:∀ {l:List α} {i:Nat} {a:α},l[i]?=some a→l.set i a=l
  | [],_,_,h=>by cases h
  | x::l,0,a,h=>by simp at h; subst h; rfl
  | x::l,i+1,a,h=>by simp at h; simp [List.set_getElem?_self' h]
theorem sE {El bytes:Nat} {parts:Array (Nat×Operand)} {xs:List Operand} {cs:List AV} {T2 n:Nat} (hT:P.underlying T=some (.slice El)) (hE:cU P El=some (1,bytes)) (hn:xs.length=n) (hp:parts=((List.range' 0 xs.length).zip xs).toArray) (hlt:n≤16777216)
    (hcs:xs.map (opv e)=cs) (hcell:∀ c∈cs,cE c=true):OpX P ⟨d,.buildSlice T n parts,T2,pos,after,g⟩ e A (fun av A'=>∃ t,av=.sl 1 cs (some t)∧A'=.tok t El::A):=fun F I w ρ hI hρ=>by
  obtain ⟨t,ht⟩:=hI.fresh_tok;obtain ⟨n',v,w',I',hrun,hnv,E,hI',hv⟩:=oo (P:=P) (d:=d) (T:=T) (pos:=pos) (after:=after) (g:=g) (A:=A) (T2:=T2) hT hE hn hp hlt hcs hcell F I w ρ hI hρ
  have hrl:RelL I w cs (xs.map ρ):=by rw [← hcs]; exact gf _ _ _ fun x _=>hρ x
  have hlen:(xs.map ρ).length=cs.length:=hrl.1
  have hex:(execOp ρ ⟨d,.buildSlice T n parts,T2,pos,after,g⟩).run P w=.ok (.value (.slice (some ⟨w.heap.size,0,none⟩) xs.length xs.length)) (w.alloc (.cells (xs.map ρ).toArray El)):=lM hT hE hn hp hlt hcs hcell hρ
  have X:=hI.new_row ht cs.length (xs.map ρ).length (.cells (xs.map ρ).toArray El (0,0))
  refine ⟨_,_,_,_,_,_,hex,.inl rfl,X,hI.alloc_row ht cs.length (xs.map ρ) El (0,0) (by omega) (.inl rfl),?_,t,rfl,rfl⟩;refine .sl 1 cs _ _ 0 _ _ (fun j=>(xs.map ρ).getD j undef) (by omega) (by rw [← hlen]; simp) (Nat.le_refl _) ?_ ?_ (hrl.mono X).2 (fun t' h=>?_)
  · intro m hm
    simp only [Info.putTok,if_true] at hm
    cases hm; omega
  · intro j hj
    have hj':j < (xs.map ρ).length:=by omega
    rw [Nat.zero_add]
    simp only [World.cell?,cT]
    simp only [Option.isSome_none,Bool.false_eq_true,if_false,List.getElem?_toArray,List.getD,aV hj',Option.getD_some]
  · cases h
    exact ⟨by simp [Info.putTok],rfl⟩
theorem uc {l:List UInt8} {t El T2:Nat} (i:Nat) (hT:P.underlying T=some (.slice El)) (hE:P.underlying El=some (.int .u8)) (hx:opv e x=slE Enc.byte l (some t)) (hne:l≠[]) (hA:A[i]?=some (.tok t El)) :
    OpR P ⟨d,.convert T T x,T2,pos,after,g⟩ e A (slE Enc.byte l (some t)) A:=fun F I w ρ hI hρ=>by
  have h:=hx ▸ hρ x
  have hI2:=hI.take_at hA
  have hll:0 < (Enc.byte.fl l).length:=by
    rw [Enc.fl_length]
    cases l with
    | nil=>exact absurd rfl hne
    | cons a r=>simp [Enc.byte]
  unfold slE at h
  generalize hcs:Enc.byte.fl l=cs at h hll
  generalize e1:ρ x=v at h
  cases h with
  | slnil k t ht=>simp at hll
  | sl k cs t' b off len cap f hk' hlen' hcap hst hx' hr ht =>
    obtain ⟨htk,rfl⟩:=ht t rfl;obtain ⟨E,hI3⟩:=hI2.mark htk;obtain ⟨ob,n',c',ht2,_,hh⟩:=hI2.holds _ (List.mem_cons_self ..)
    rw [htk] at ht2; cases ht2
    obtain ⟨hex,hnc,arr,hca,hal⟩:=hh b rfl
    have hback:=eG (c':=.tok t El) hA hI3
    have hset:A.set i (.tok t El)=A:=by
      rw [List.set_getElem?_self' hA]
    rw [hset] at hback
    refine ⟨.value (.slice (some ⟨b,0,none⟩) len cap),_,_,I,?_,.inl rfl,E,hback,?_⟩
    · obtain ⟨E',hsh⟩:∃ E',w.shape? b=some (E',cap*Enc.byte.k):=by
        obtain ⟨E',fz,hh',_⟩:=hca;exact ⟨E',by simp [World.shape?,hh',hal]⟩
      have hm:(markStringish ⟨b,0,none⟩).run P w=.ok () (w.freeze ⟨b,cap*Enc.byte.k,none⟩ 1):=by
        simp only [markStringish,Sem.run_bind,run_shape,hsh,Result.andThen_ok,run_freeze]
      simp only [execOp,e1,convert,Sem.run_bind,run_underlying hT,run_underlying hE,Result.andThen_ok,beq_self_eq_true,hm,Sem.run_pure]
    · unfold slE
      rw [hcs]
      exact (Rel.sl (I:=I) (w:=w) _ cs (some t) b 0 len cap f hk' hlen' hcap hst hx' hr ht).mono E
theorem uz {α:Type} {E:Enc α} {l:List α} {a:Option Addr} {cap lo hi El:Nat} {xs:List Value} (hsz:bO P El=some E.k) (hcap:l.length≤cap) (hrl:RelL I w (E.fl l) xs)
    (hor:l.length=0∨∃ b off,a=some ⟨b,off,none⟩∧Stab I b (off+(E.fl l).length)∧∀ j,j < (E.fl l).length→w.cell? ⟨b,off+j,none⟩=some (xs.getD j undef)) (h1:lo≤hi) (h2:hi≤l.length) :
    Rel I w (slE E ((l.take hi).drop lo) none) (.slice (if cap=lo then a else a.map (·.add (lo*E.k))) (hi - lo) (cap - lo)):=by
  by_cases hz:hi - lo=0
  · have:(l.take hi).drop lo=[]:=aM (by simp; omega)
    rw [this,hz]
    exact .slz _ _ _
  · have hlen:((l.take hi).drop lo).length=hi - lo:=by simp; omega
    have hflen:(E.fl ((l.take hi).drop lo)).length=(hi - lo)*E.k:=by rw [E.fl_length,hlen]
    rcases hor with h0 | ⟨b,off,rfl,hst,hc⟩
    · omega
    rw [if_neg (by omega)]
    have hfl:(E.fl l).length=l.length*E.k:=E.fl_length l
    have hb:lo*E.k+(hi - lo)*E.k≤l.length*E.k:=by rw [← Nat.add_mul]; exact Nat.mul_le_mul_right _ (by omega)
    rw [Option.map_some,df]
    refine .sl _ _ _ _ _ _ _ (fun j=>xs.getD (lo*E.k+j) undef) E.pos hflen.symm (by omega) (hst.le (by omega)) (fun j hj=>?_) (fun j hj=>?_) (fun t h=>by cases h)
    · rw [← hc _ (by omega),Nat.add_assoc]
    · have hj':lo*E.k+j < (E.fl l).length:=by omega
      have h3:(E.fl ((l.take hi).drop lo))[j]=(E.fl l)[lo*E.k+j]:=by
        have h4:(E.fl ((l.take hi).drop lo))[j]?=(E.fl l)[lo*E.k+j]?:=by
          rw [E.fl_drop,E.fl_take,List.getElem?_drop,List.getElem?_take]
          rw [if_pos]
          have:hi*E.k=lo*E.k+(hi - lo)*E.k:=by rw [← Nat.add_mul]; congr 1; omega
          omega
        rw [aV hj,aV hj'] at h4
        exact aq h4
      rw [h3]; exact hrl.2 _ hj'
theorem pU {α:Type} {E:Enc α} {l:List α} {t:Option Nat} {q:IntKind} {n:Int} {lo:Nat} {El T2:TypeId} (hT:P.underlying T=some (.slice El)) (hsz:bO P El=some E.k) (hx:opv e x=slE E l t)
    (hy:opv e y=.v (.int q n)) (hn:n=lo) (h1:lo≤l.length):OpS P ⟨d,.slice T x (some y) none none,T2,pos,after,g⟩ e (slE E (l.drop lo) none):=fun I w ρ hρ=>by
  obtain ⟨a,cap,xs,e1,hcap,hrl,hor⟩:=mO (hx ▸ hρ x)
  have e2:=cf (hy ▸ hρ y)
  refine ⟨.slice (if cap=lo then a else a.map (·.add (lo*E.k))) (l.length - lo) (cap - lo),?_,fun w' _ _=>?_⟩
  · have:=uz hsz hcap hrl hor h1 (Nat.le_refl l.length)
    rwa [List.take_length] at this
  · simp only [execOp,e1,e2,Option.map_some,Option.map_none,Instr.sliceAt,Instr.slice,Instr.sliceBounds,run_underlying hT,Sem.run_bind,Sem.run_pure,Result.andThen_ok,Option.isSome_none,Bool.false_eq_true,if_false,
      ia hn h1,bS hsz]
theorem rS {α:Type} {E:Enc α} {l:List α} {t:Option Nat} {q':IntKind} {n':Int} {hi:Nat} {z:Operand} {El T2:TypeId} (hT:P.underlying T=some (.slice El)) (hsz:bO P El=some E.k) (hx:opv e x=slE E l t)
    (hz:opv e z=.v (.int q' n')) (hn':n'=hi) (h2:hi≤l.length):OpS P ⟨d,.slice T x none (some z) none,T2,pos,after,g⟩ e (slE E (l.take hi) none):=fun I w ρ hρ=>by
  obtain ⟨a,cap,xs,e1,hcap,hrl,hor⟩:=mO (hx ▸ hρ x)
  have e3:=cf (hz ▸ hρ z)
  refine ⟨.slice (if cap=0 then a else a.map (·.add (0*E.k))) (hi - 0) (cap - 0),?_,fun w' _ _=>?_⟩
  · have:=uz hsz hcap hrl hor (Nat.zero_le hi) h2
    simpa using this
  · simp only [execOp,e1,e3,Option.map_some,Option.map_none,Instr.sliceAt,Instr.slice,Instr.sliceBounds,run_underlying hT,Sem.run_bind,Sem.run_pure,Result.andThen_ok,Option.isSome_none,Bool.false_eq_true,if_false,
      ia hn' (Nat.le_trans h2 hcap),bS hsz]
theorem bV {l:List UInt8} {t:Option Nat} {src dst El T2:TypeId} (hs:P.underlying src=some (.slice El)) (hE:P.underlying El=some (.int .u8)) (hd:P.underlying dst=some .string) (hx:opv e x=slE Enc.byte l t) :
    OpS P ⟨d,.convert src dst x,T2,pos,after,g⟩ e (S l):=fun I w ρ hρ=>by
  obtain ⟨a,cap,xs,e1,hcap,hrl,hor⟩:=mO (hx ▸ hρ x)
  have hfl:Enc.byte.fl l=l.map fun c=>u8 c:=by
    clear hor hrl e1 hcap hx
    induction l with
    | nil=>rfl
    | cons c s ih=>rw [eu,ih]; rfl
  have hxs:xs=l.map fun c=>.int .u8 c.toNat:=by
    rw [hfl] at hrl
    refine List.ext_getElem (by rw [hrl.1]; simp) fun j h1 h2=>?_
    have:=hrl.2 j (by rw [← hrl.1]; exact h1)
    simp only [List.getElem_map,List.getD,aV h1,Option.getD_some] at this ⊢
    exact cf this
  refine ⟨.string ⟨l.toArray⟩,.v _,fun w' hw' _=>?_⟩
  have hc:∀ w',(∀ b j,Stab I b (j+1)→w'.cell? ⟨b,j,none⟩=w.cell? ⟨b,j,none⟩)→(convert src dst (.slice a l.length cap)).run P w'=.ok (.string ⟨l.toArray⟩) w':=fun w' hw'=>by
    cases a with
    | none =>
      have h0:l=[]:=by
        rcases hor with h0 | ⟨b,off,h,_⟩
        · exact List.eq_nil_of_length_eq_zero h0
        · cases h
      subst h0
      rw [run_convert_bytes_string w' src dst El none _ cap hs hE hd]
      rfl
    | some ad =>
      refine run_convert_bytes_back w' src dst El ad cap l hs hE hd fun j hj=>?_
      rcases hor with h0 | ⟨b,off,h,hst,hcell⟩
      · omega
      · cases h
        have hfl':(Enc.byte.fl l).length=l.length:=by rw [hfl]; simp
        rw [df,hw' b (off+j) (hst.le (by omega)),hcell j (by omega),hxs]
        simp [List.getD,hj]
  simp only [execOp,e1,hc w' hw',Sem.run_bind,Result.andThen_ok,Sem.run_pure]
theorem pD {s:List UInt8} {src dst El T2 bytes:TypeId} (hs:P.underlying src=some .string) (hd:P.underlying dst=some (.slice El)) (hE:P.underlying El=some (.int .u8)) (hx:opv e x=S s) (hl:s.length≤9223372036854775807) :
    OpX P ⟨d,.convert src dst x,T2,pos,after,g⟩ e A (fun av A'=>∃ t,av=slE Enc.byte s (some t)∧A'=.tok t El::A):=fun F I w ρ hI hρ=>by
  have e1:=cf (hx ▸ hρ x)
  obtain ⟨t,ht⟩:=hI.fresh_tok
  have hge:=grownCap_ge w s.length 0 El
  have hsz:(⟨s.toArray⟩:ByteArray).size=s.length:=by simp [ByteArray.size]
  have hrun:=run_bytes_of_string (P:=P) w src dst El ⟨s.toArray⟩ hs hd hE
  rw [hsz] at hrun
  generalize grownCap w s.length 0 El=c at hge hrun
  obtain ⟨arr,harr⟩:∃ arr:List Value,arr=(s.map fun b=>Value.int .u8 b.toNat)++List.replicate (c - s.length) (.int .u8 0):=⟨_,rfl⟩
  have hbr:bytesRow ⟨s.toArray⟩ c=arr.toArray:=by
    subst harr
    apply Array.ext'
    simp [bytesRow,hsz]
  have hal:arr.length=c:=by subst harr; simp; omega
  rw [hbr] at hrun
  have hID:=hI.drew
  have hfz:arr.toArray.size=arr.toArray.size+1∨arr.length≤arr.toArray.size:=.inr (by simp)
  have X:=hID.new_row ht s.length arr.length (.cells arr.toArray El (arr.toArray.size,arr.toArray.size+1))
  have hI':=hID.alloc_row ht s.length arr El (arr.toArray.size,arr.toArray.size+1) (by omega) hfz
  have hfl:Enc.byte.fl s=s.map fun c=>u8 c:=by
    clear harr hrun hsz hge hbr hx hl e1 X hI'
    induction s with
    | nil=>rfl
    | cons c s ih=>rw [eu,ih]; rfl
  have hfll:(Enc.byte.fl s).length=s.length:=by rw [hfl]; simp
  refine ⟨_,.slice (some ⟨w.heap.size,0,none⟩) s.length c,_,_,_,_,?_,.inl rfl,(Ext.drew I w).trans X,hI',?_,t,rfl,rfl⟩
  · simp only [execOp,e1,hrun,Sem.run_bind,Result.andThen_ok,Sem.run_pure]
  · refine .sl 1 (Enc.byte.fl s) _ _ 0 _ _ (fun j=>arr.getD j undef) (by omega) (by omega) hge ?_ ?_ ?_ ?_
    · intro m hm
      simp only [Info.putTok] at hm
      rw [if_pos (show w.heap.size=w.drew.heap.size from rfl)] at hm
      cases hm; omega
    · intro j hj
      have hj':j < arr.length:=by omega
      rw [Nat.zero_add]
      have hca:CellsAt (w.drew.alloc (.cells arr.toArray El (arr.toArray.size,arr.toArray.size+1))) w.drew.heap.size arr:=⟨El,_,cT _ _,hfz⟩
      refine (hca.cell j).trans ?_
      rw [aV hj']
      simp [List.getD,hj']
    · intro j hj
      have hj2:j < s.length:=by omega
      have h3:(Enc.byte.fl s)[j]=u8 s[j]:=by simp [hfl]
      rw [h3]
      have h4:arr.getD j undef=.int .u8 s[j].toNat:=by
        subst harr
        rw [List.getD,List.getElem?_append_left (by simpa using hj2)]
        simp [hj2]
      rw [h4]
      exact .v _
    · intro q hq
      cases hq
      refine ⟨?_,rfl⟩
      simp only [Info.putTok,if_true]
      rw [hal,hfll,Nat.mul_one]
      simp
end
end Go.Av
namespace Go.Av
open Go.RowKit
def rK (P:Program) (ro:Option Nat) (ops:Array Oper) (Q:Exit→Act→World→Prop):Nat→Array Bool→Act→World→Info→Prop
  | 0,listed,a,w,I=>Region.ready .any ops listed=[]∧Q .normal a w
  | fuel+1,listed,a,w,I =>
    (Region.ready .any ops listed=[]→Q .normal a w) ∧
    ∀ i∈Region.ready .any ops listed,wpOpIn (dX ro) 0 P ops Q i (fun a' w'=>∃ I',Ext I w I' w'∧rK P ro ops Q fuel (listed.setIfInBounds i true) a' w' I') a w
def Plain (ro:Option Nat) (ops:Array Oper):Prop:=∀ (j:Nat) (o:Oper),ops[j]?=some o→∀ ρ,Oper.semAt ro ρ o=execOp ρ o
theorem Plain.none (ops:Array Oper):Plain none ops:=fun _ _ _ _=>rfl
section
variable {P:Program} {ro:Option Nat} {ops:Array Oper} {Q:Exit→Act→World→Prop}
theorem sK:∀ (fuel:Nat) (listed:Array Bool) (a:Act) (w:World) (I:Info),rK P ro ops Q fuel listed a w I→wpAnyIn (dX ro) 0 P .any ops Q fuel listed a w
  | 0,_,_,_,_,h=>h
  | fuel+1,_,_,_,_,h=>⟨h.1,fun i hi=>wpOpIn_mono (fun a' w' ⟨I',_,h'⟩=>sK fuel _ a' w' I' h') (h.2 i hi)⟩
def YieldsI (P:Program) (ops:Array Oper) (o:Oper) (v:Value) (a:Act) (w:World) (I:Info):Prop :=
  (Region.wanted o (yielded ops a.tmps)=true∧∀ w',(∀ b j,Stab I b (j+1)→w'.cell? ⟨b,j,none⟩=w.cell? ⟨b,j,none⟩)→(∀ b,I.ext b=none→w'.heap[b]?=w.heap[b]?)→(execOp a.eval o).run P w'=.ok (.value v) w') ∨
  (Region.wanted o (yielded ops a.tmps)=false∧v=undef)
theorem YieldsI.later {o:Oper} {v:Value} {a:Act} {w w':World} {I I':Info} (h:YieldsI P ops o v a w I) (E:Ext I w I' w'):YieldsI P ops o v a w' I' :=
  h.imp (fun ⟨h1,h2⟩=>⟨h1,fun w'' hw hb=>h2 w'' (fun b j hj=>(hw b j (E.ext b _ hj)).trans (E.cell b j hj)) (fun b hb'=>(hb b (E.blk b hb').2).trans (E.blk b hb').1)⟩) id
theorem YieldsI.of_same {o:Oper} {v:Value} {a a':Act} {w:World} {I:Info} (hy:YieldsI P ops o v a w I) (he:execOp a'.eval o=execOp a.eval o)
    (hw:Region.wanted o (yielded ops a'.tmps)=Region.wanted o (yielded ops a.tmps)):YieldsI P ops o v a' w I:=by
  unfold YieldsI at *
  rw [he,hw]
  exact hy
theorem YieldsI.wpOp {i:Nat} {o:Oper} {v:Value} {a:Act} {w:World} {I:Info} (hp:Plain ro ops) (hi:ops[i]?=some o) (hy:YieldsI P ops o v a w I) {K:Act→World→Prop} (h:K (a.put o.dst v) w):wpOpIn (dX ro) 0 P ops Q i K a w:=by
  unfold Go.wpOpIn
  simp only [hi]
  rcases hy with ⟨hw,hv⟩ | ⟨hw,rfl⟩
  · simp only [hw,if_true]
    refine ⟨fun _ _=>dQ _,?_⟩
    rw [show (dX ro).round=ro from rfl,hp i o hi,hv w (fun _ _ _=>rfl) (fun _ _=>rfl)]
    exact h
  · simp only [hw,Bool.false_eq_true,if_false]; exact ⟨fun _ _=>dQ _,h⟩
theorem zQ {j:Nat} {oi oj:Oper} {v:Value} (hp:Plain ro ops) (hj:ops[j]?=some oj) (hap:oi.apart ops oj=true)
    (hsi:∀ cs b,oi.op≠.select cs b) (hsj:∀ cs b,oj.op≠.select cs b) (hQ:∀ c a w,Q (.panic c) (a.put oi.dst v) w→Q (.panic c) a w) {K:Act→World→Prop} {a:Act} {w w0:World} {I:Info}
    (hy:YieldsI P ops oi v a w0 I) (h:wpOpIn (dX ro) 0 P ops Q j K (a.put oi.dst v) w) :
    wpOpIn (dX ro) 0 P ops Q j (fun a' w'=>YieldsI P ops oi v a' w0 I∧K (a'.put oi.dst v) w') a w:=by
  obtain ⟨h1,h2,h3⟩:=Oper.apart_spec hap
  have keep:∀ (a:Act),YieldsI P ops oi v a w0 I→∀ u,YieldsI P ops oi v (a.put oj.dst u) w0 I:=fun a hy u =>
    hy.of_same (execOp_put oi hsi a oj.dst u h3) (wanted_put oi a oj.dst u h3)
  have keepD:∀ d,YieldsI P ops oi v { a with defers:=d::a.defers } w0 I:=fun d=>hy.of_same rfl rfl
  have hpj:=hp j oj hj
  unfold Go.wpOpIn at h ⊢
  simp only [hj] at h ⊢
  rw [wanted_put oj a oi.dst v h1] at h
  split
  · rename_i hw
    simp only [hw,if_true] at h
    refine ⟨fun _ _=>dQ _,?_⟩
    have h:=h.2
    rw [show (dX ro).round=ro from rfl,hpj,execOp_put oj hsj a oi.dst v h1] at h
    rw [show (dX ro).round=ro from rfl,hpj]
    generalize (execOp a.eval oj).run P w=r at *
    cases r with
    | ok n w' =>
      cases n <;> simp only [Oper.uponIn] at h ⊢
      case value u=>exact ⟨keep a hy u,by rw [← Act.put_comm a v u h2]; exact h⟩
      case skip=>exact ⟨keep a hy _,by rw [← Act.put_comm a v undef h2]; exact h⟩
      case defer d =>
        refine ⟨keep _ (keepD d) _,?_⟩
        rw [← Act.put_comm _ v undef h2,← Act.put_defers]
        exact h
      case enter f args =>
        refine ⟨h.1,CallsIn.mono h.2 fun e w'' he=>?_⟩
        cases e with
        | returned u=>exact ⟨keep a hy u,by rw [← Act.put_comm a v u h2]; exact he⟩
        | panicked c=>exact hQ _ _ _ he
        | outgrown=>exact he
      case row row args=>exact ⟨h.1,RowsIn.mono h.2 fun u w'' he=>⟨keep a hy u,by rw [← Act.put_comm a v u h2]; exact he⟩⟩
      case round l f tmps assign body =>
        refine ⟨h.1,RoundIn.mono h.2 fun e w'' he=>?_⟩
        cases e with
        | returned u=>exact ⟨keep a hy u,by rw [← Act.put_comm a v u h2]; exact he⟩
        | panicked c=>exact hQ _ _ _ he
        | outgrown=>exact he
    | halt x w' =>
      cases x <;> simp only [Oper.uponIn] at h ⊢
      case panic u=>exact hQ _ _ _ h
  · rename_i hw
    simp only [hw] at h
    exact ⟨fun _ _=>dQ _,keep a hy _,by rw [← Act.put_comm a v undef h2]; exact h.2⟩
theorem nt {i:Nat} {oi:Oper} {v:Value} (hp:Plain ro ops) (hi:ops[i]?=some oi) (hsel:∀ (j:Nat) (o:Oper) cs b,ops[j]?=some o→o.op≠.select cs b)
    (hQ:∀ c a w,Q (.panic c) (a.put oi.dst v) w→Q (.panic c) a w) :
    ∀ (fuel:Nat) (listed:Array Bool) (a:Act) (w:World) (I:Info),
      (∀ j oj,ops[j]?=some oj→j≠i→listed.getD j true=false→(∀ e∈oj.after,Region.binds .any e=true→e.on≠i)→oi.apart ops oj=true) →
      i∈Region.ready .any ops listed→YieldsI P ops oi v a w I →
      rK P ro ops Q fuel (listed.setIfInBounds i true) (a.put oi.dst v) w I→rK P ro ops Q (fuel+1) listed a w I:=by
  intro fuel
  induction fuel with
  | zero =>
    intro listed a w I _ hr hy H;refine ⟨fun h=>(by rw [h] at hr; cases hr),fun j hj=>?_⟩
    by_cases hji:j=i
    · subst hji; exact hy.wpOp hp hi ⟨I,cj _ _,H⟩
    · have:=ready_mono hj hji
      rw [H.1] at this
      cases this
  | succ fuel ih =>
    intro listed a w I hfree hr hy H;refine ⟨fun h=>(by rw [h] at hr; cases hr),fun j hj=>?_⟩
    by_cases hji:j=i
    · subst hji; exact hy.wpOp hp hi ⟨I,cj _ _,H⟩
    · have h1:=H.2 j (ready_mono hj hji)
      obtain ⟨hjun,oj,hoj,hall⟩:=mem_ready.1 hj
      have hnot:∀ e∈oj.after,Region.binds .any e=true→e.on≠i:=fun e he hb heq=>by
        have h1:=hall e he hb
        have h0:=(mem_ready.1 hr).1
        rw [heq] at h1
        rcases Nat.lt_or_ge i listed.size with h' | h'
        · simp [h'] at h0 h1; rw [h0] at h1; cases h1
        · simp [Array.getElem?_eq_none h'] at h1
      have h2:=zQ hp hoj (hfree j oj hoj hji hjun hnot) (fun cs b=>hsel i oi cs b hi) (fun cs b=>hsel j oj cs b hoj) hQ hy h1
      have hfree':∀ k ok,ops[k]?=some ok→k≠i→(listed.setIfInBounds j true).getD k true=false →
          (∀ e∈ok.after,Region.binds .any e=true→e.on≠i)→oi.apart ops ok=true:=fun k ok hk hki hun hno=>by
        refine hfree k ok hk hki ?_ hno
        by_cases hjk:j=k
        · subst hjk; exact hjun
        · rw [getD_set_ne true hjk] at hun; exact hun
      refine wpOpIn_mono (fun a' w' h3=>?_) h2;obtain ⟨hy',I',E,h4⟩:=h3;refine ⟨I',E,ih (listed.setIfInBounds j true) a' w' I' hfree' (ready_mono hr (Ne.symm hji)) (hy'.later E) ?_⟩
      rw [Array.setIfInBounds_comm _ _ hji]
      exact h4
end
def AI (P:Program) (ro:Option Nat) (N:Nat) (ops:Array Oper) (Q:gt) (fuel:Nat) (listed:Array Bool) (s:St):Prop :=
  Plain ro ops→∀ F I0 w0 I w a,Ext I0 w0 I w→Inv I (s.A++F) w→RelS N I w s a→rK P ro ops (CQ N F I0 w0 Q) fuel listed a w I
def AIO (P:Program) (ro:Option Nat) (N:Nat) (ops:Array Oper) (Q:gt) (fuel:Nat) (listed:Array Bool) (o:Oper) (s:St):Prop :=
  Plain ro ops→(∀ ρ,Oper.semAt ro ρ o=execOp ρ o)→∀ F I0 w0 I w a,Ext I0 w0 I w→Inv I (s.A++F) w→RelS N I w s a →
    o.wpIn (dX ro) 0 P a w (fun a' w'=>∃ I',Ext I w I' w'∧rK P ro ops (CQ N F I0 w0 Q) fuel listed a' w' I') (CQ N F I0 w0 Q)
section
variable {P:Program} {ro:Option Nat} {N:Nat} {Q:gt} {s:St} {ops:Array Oper}
theorem sf {id:Nat} (hp:Plain ro ops) (hm:P.follows .mixedOrders=true) (h:AI P ro N ops Q ops.size (Array.replicate ops.size false) s):AW P ro N (.region id ops true) Q s:=fun F I w a hI hS=>by
  refine wpIn_region_any hm (sK _ _ _ _ I ?_);exact h hp F I w I w.drew a (Ext.drew I w) hI.drew (hS.mono (Ext.drew I w))
theorem bn {id:Nat} (hm:P.follows .mixedOrders=true) (h:AI P none N ops Q ops.size (Array.replicate ops.size false) s):AW P none N (.region id ops true) Q s:=sf (Plain.none _) hm h
def NoPanic (d:Nat) (Q:gt):Prop:=∀ c s,Q (.panic c) s→Q (.panic c) ⟨(d,.any)::s.env,s.ds,s.A⟩
theorem NoPanic.back {N d:Nat} {F:List Chunk} {I:Info} {w:World} {Q:gt} (hQ:NoPanic d Q) {c:List PanicEntry} {a:Act} {v:Value} {w':World} (h:CQ N F I w Q (.panic c) (a.put (some d) v) w'):CQ N F I w Q (.panic c) a w':=by
  obtain ⟨I',s',E,hI,hS,hq⟩:=h;refine ⟨I',⟨(d,.any)::s'.env,s'.ds,s'.A⟩,E,hI,⟨?_,fun t=>?_,hS.ds⟩,hQ _ _ hq⟩
  · have:=hS.size; simpa [Act.put] using this
  · simp only [ev]
    cases hb:Nat.beq d t with
    | true=>exact .any _
    | false =>
      have hne:d≠t:=fun e=>by rw [e,Nat.beq_refl] at hb; cases hb
      have:=hS.env t
      simp only [Act.put,Array.getD_eq_getD_getElem?,Array.getElem?_setIfInBounds_ne hne] at this
      simpa [Array.getD_eq_getD_getElem?] using this
theorem AI.take {i d:Nat} {fuel:Nat} {listed:Array Bool} {op:Op} {T:TypeId} {pos:String} {after:Array Edge} {e:Env} {ds:List ADef} {A:List Chunk} {av:AV}
    (hi:ops[i]?=some ⟨some d,op,T,pos,after,none⟩) (hd:Nat.blt d N=true) (hs:Region.noSelect ops=true) (hf:Region.free .any ops listed i=true) (hr:(Region.ready .any ops listed).contains i=true)
    (hQ:NoPanic d Q) (h:OpS P ⟨some d,op,T,pos,after,none⟩ e av) (k:AI P ro N ops Q fuel (listed.setIfInBounds i true) ⟨(d,av)::e,ds,A⟩):AI P ro N ops Q (fuel+1) listed ⟨e,ds,A⟩:=fun hp F I0 w0 I w a E hI hS=>by
  obtain ⟨v,hv,hrun⟩:=h I w a.eval hS.op;refine nt hp hi (Region.noSelect_spec hs) (fun c a w h=>?_) fuel listed a w I (Region.free_spec hi hf) (by simpa using hr) (.inl ⟨rfl,hrun⟩) ?_
  · exact hQ.back h
  · exact k hp F I0 w0 I w _ E hI (hS.put (af hd) hv A)
abbrev _root_.Go.Av.bc := @AI.take
theorem AI.all {fuel:Nat} {listed:Array Bool} {rs:List Nat} (hr:Region.ready .any ops listed=rs) (hne:rs.isEmpty=false)
    (h:∀ i∈rs,∃ o,ops[i]?=some o∧o.guard=none∧AIO P ro N ops Q fuel (listed.setIfInBounds i true) o s):AI P ro N ops Q (fuel+1) listed s:=fun hp F I0 w0 I w a E hI hS=>by
  refine ⟨fun h0=>?_,fun i hi=>?_⟩
  · rw [hr] at h0; subst h0; cases hne
  · rw [hr] at hi
    obtain ⟨o,ho,hg,h⟩:=h i hi
    unfold Go.wpOpIn
    simp only [ho,Region.wanted,hg,if_true]
    exact h hp (hp _ o ho) F I0 w0 I w a E hI hS
theorem AI.one {fuel:Nat} {listed:Array Bool} {i:Nat} {o:Oper} (hr:Region.ready .any ops listed=[i]) (ho:ops[i]?=some o) (hg:o.guard=none)
    (h:AIO P ro N ops Q fuel (listed.setIfInBounds i true) o s):AI P ro N ops Q (fuel+1) listed s:=AI.all hr rfl fun j hj=>by simp at hj; subst hj; exact ⟨o,ho,hg,h⟩
abbrev _root_.Go.Av.bj := @AI.one
theorem AI.two {fuel:Nat} {listed:Array Bool} {i j:Nat} {o o':Oper} (hr:Region.ready .any ops listed=[i,j]) (ho:ops[i]?=some o) (hg:o.guard=none) (ho':ops[j]?=some o') (hg':o'.guard=none)
    (h:AIO P ro N ops Q fuel (listed.setIfInBounds i true) o s) (h':AIO P ro N ops Q fuel (listed.setIfInBounds j true) o' s):AI P ro N ops Q (fuel+1) listed s:=AI.all hr rfl fun k hk=>by
  simp at hk
  rcases hk with rfl | rfl
  · exact ⟨o,ho,hg,h⟩
  · exact ⟨o',ho',hg',h'⟩
abbrev _root_.Go.Av.dj := @AI.two
theorem xI {fuel:Nat} {listed:Array Bool} {i j l:Nat} {o o' o'':Oper} (hr:Region.ready .any ops listed=[i,j,l]) (ho:ops[i]?=some o) (hg:o.guard=none) (ho':ops[j]?=some o') (hg':o'.guard=none) (ho'':ops[l]?=some o'') (hg'':o''.guard=none)
    (h:AIO P ro N ops Q fuel (listed.setIfInBounds i true) o s) (h':AIO P ro N ops Q fuel (listed.setIfInBounds j true) o' s) (h'':AIO P ro N ops Q fuel (listed.setIfInBounds l true) o'' s):AI P ro N ops Q (fuel+1) listed s:=AI.all hr rfl fun k hk=>by
  simp at hk
  rcases hk with rfl | rfl | rfl
  · exact ⟨o,ho,hg,h⟩
  · exact ⟨o',ho',hg',h'⟩
  · exact ⟨o'',ho'',hg'',h''⟩
theorem AI.done {fuel:Nat} {listed:Array Bool} (hr:Region.ready .any ops listed=[]) (h:Q .normal s):AI P ro N ops Q fuel listed s:=fun hp F I0 w0 I w a E hI hS=>by
  cases fuel with
  | zero=>exact ⟨hr,I,s,E,hI,hS,h⟩
  | succ fuel=>exact ⟨fun _=>⟨I,s,E,hI,hS,h⟩,by rw [hr]; simp⟩
abbrev _root_.Go.Av.bw := @AI.done
theorem AIO.opx {fuel:Nat} {listed:Array Bool} {d:Nat} {op:Op} {T:TypeId} {pos:String} {after:Array Edge} {g:Option (Nat×Bool)} {e:Env} {ds:List ADef} {A:List Chunk} {R:AV→List Chunk→Prop}
    (hd:Nat.blt d N=true) (h:OpX P ⟨some d,op,T,pos,after,g⟩ e A R) (k:∀ av A',R av A'→AI P ro N ops Q fuel listed ⟨(d,av)::e,ds,A'⟩) :
    AIO P ro N ops Q fuel listed ⟨some d,op,T,pos,after,g⟩ ⟨e,ds,A⟩:=fun hp hop F I0 w0 I w a E hI hS=>by
  obtain ⟨n,v,w',I',av,A',hrun,hnv,E',hI',hv,hR⟩:=h F I w a.eval hI hS.op
  have hk:=k av A' hR hp F I0 w0 I' w' (a.put (some d) v) (E.trans E') hI' ((hS.mono E').put (af hd) hv A')
  refine ⟨fun _ _=>dQ _,?_⟩
  rw [show (dX ro).round=ro from rfl,hop,hrun]
  rcases hnv with rfl | ⟨rfl,rfl⟩ <;> exact ⟨I',E',hk⟩
abbrev _root_.Go.Av.dC := @AIO.opx
theorem OpR.opX {o:Oper} {e:Env} {A A':List Chunk} {av:AV} (h:OpR P o e A av A'):OpX P o e A (fun a B=>a=av∧B=A'):=fun F I w ρ hI hρ =>
  let ⟨n,v,w',I',h1,h2,h3,h4,h5⟩:=h F I w ρ hI hρ
  ⟨n,v,w',I',av,A',h1,h2,h3,h4,h5,rfl,rfl⟩
theorem AIO.op {fuel:Nat} {listed:Array Bool} {d:Nat} {op:Op} {T:TypeId} {pos:String} {after:Array Edge} {g:Option (Nat×Bool)} {e:Env} {ds:List ADef} {A A':List Chunk} {av:AV}
    (hd:Nat.blt d N=true) (h:OpR P ⟨some d,op,T,pos,after,g⟩ e A av A') (k:AI P ro N ops Q fuel listed ⟨(d,av)::e,ds,A'⟩) :
    AIO P ro N ops Q fuel listed ⟨some d,op,T,pos,after,g⟩ ⟨e,ds,A⟩:=dC hd h.opX fun _ _ ⟨h1,h2⟩=>by subst h1; subst h2; exact k
abbrev _root_.Go.Av.aJ := @AIO.op
theorem AIO.op0 {fuel:Nat} {listed:Array Bool} {op:Op} {T:TypeId} {pos:String} {after:Array Edge} {g:Option (Nat×Bool)} {e:Env} {ds:List ADef} {A A':List Chunk} {av:AV}
    (h:OpR P ⟨none,op,T,pos,after,g⟩ e A av A') (k:AI P ro N ops Q fuel listed ⟨e,ds,A'⟩) :
    AIO P ro N ops Q fuel listed ⟨none,op,T,pos,after,g⟩ ⟨e,ds,A⟩:=fun hp hop F I0 w0 I w a E hI hS=>by
  obtain ⟨n,v,w',I',hrun,hnv,E',hI',hv⟩:=h F I w a.eval hI hS.op
  have hk:=k hp F I0 w0 I' w' a (E.trans E') hI' ⟨hS.size,(hS.mono E').env,(hS.mono E').ds⟩
  refine ⟨fun _ _=>dQ _,?_⟩
  rw [show (dX ro).round=ro from rfl,hop,hrun]
  rcases hnv with rfl | ⟨rfl,rfl⟩ <;> exact ⟨I',E',hk⟩
abbrev _root_.Go.Av.dY := @AIO.op0
theorem AIO.call {fuel:Nat} {listed:Array Bool} {d:Nat} {f:FuncId} {args:Array Operand} {argTypes:Array TypeId} {T:TypeId} {pos:String} {after:Array Edge} {g:Option (Nat×Bool)} {e:Env} {ds:List ADef} {A A1:List Chunk} (B:List Chunk)
    {R:AE→List Chunk→Prop} {avs:List AV} (hd:Nat.blt d N=true) (hf:∀ args w,(callFunc f args).run P w=.ok (.enter f args) w) (ha:args.toList.map (opv e)=avs)
    (h:ACalls P f avs A1 R) (p:A.Perm (A1++B)) (k:∀ av A',R (.ret av) A'→AI P ro N ops Q fuel listed ⟨(d,av)::e,ds,A'++B⟩)
    (kp:∀ c A',R (.pan c) A'→Q (.panic c) ⟨e,ds,A'++B⟩) :
    AIO P ro N ops Q fuel listed ⟨some d,.call ⟨.value (.func f),args,argTypes⟩,T,pos,after,g⟩ ⟨e,ds,A⟩:=fun hp hop F I0 w0 I w a E0 hI hS=>by
  have hS':=hS
  have hrl:RelL I w avs (args.toList.map a.eval):=by
    rw [← ha]; exact gf _ _ _ fun x _=>hS'.op x
  have hex:(execOp a.eval ⟨some d,.call ⟨.value (.func f),args,argTypes⟩,T,pos,after,g⟩).run P w=.ok (.enter f (args.map a.eval)) w:=by
    simp only [execOp,resolve,Act.eval,Deferred.ofValue,Sem.run_bind,Sem.run_pure,Result.andThen_ok,invoke]
    simp only [Array.empty_append,Array.append_empty]
    exact hf _ _
  refine ⟨fun _ _=>dQ _,?_⟩
  rw [show (dX ro).round=ro from rfl,hop,hex]
  refine ⟨qA,AO.call.callsIn_wide'.2 ?_⟩
  have hI2:Inv I (A1++(B++F)) w:=by rw [← List.append_assoc]; exact hI.perm (p.append_right F)
  have hc:=h (B++F) I w _ hI2 hrl
  have he:(args.toList.map a.eval).toArray=args.map a.eval:=by apply Array.ext'; simp
  rw [he] at hc
  refine hc.mono fun en w' ⟨I',ae,A',E,hI',hre,hR⟩=>?_
  have hI3:Inv I' ((A'++B)++F) w':=by rw [List.append_assoc]; exact hI'
  cases en with
  | returned v =>
    cases ae with
    | ret av=>exact ⟨I',E,k av A' hR hp F I0 w0 I' w' (a.put (some d) v) (E0.trans E) hI3 ((hS.mono E).put (af hd) hre _)⟩
    | pan c=>exact hre.elim
  | panicked c =>
    cases ae with
    | ret av=>exact hre.elim
    | pan c' =>
      cases hre
      exact ⟨I',⟨e,ds,A'++B⟩,E0.trans E,hI3,⟨hS.size,(hS.mono E).env,(hS.mono E).ds⟩,kp _ A' hR⟩
  | outgrown=>cases ae <;> exact hre.elim
end
end Go.Av
namespace Go.Av
open Go.RowKit
def kj (cs:List AV) (off:Nat) (vs:List AV):List AV:=cs.take off++vs++cs.drop (off+vs.length)
def tI (places:List (Nat×Nat)):List AV→List (Nat×AV)→Option (List AV)
  | cells,[]=>some cells
  | cells,(i,a)::rest=>match places[i]? with
    | none=>none
    | some (off,size)=>if (cellsOf a).length≠size∨off+size > cells.length then none else tI places (kj cells off (cellsOf a)) rest
def pH (P:Program) (t:TypeId):Option (List Value×List (Nat×Nat)) :=
  match P.underlying t with
  | some (.struct fs)=>(P.info? t).bind fun i=>i.zero.bind fun z=>((fs.toList.mapM fun f=>(bO P f.type).map fun s=>(f.offset,s)):Option (List (Nat×Nat))).map fun ps=>(z.cells.toList,ps)
  | _=>none
section
variable {P:Program} {I:Info} {w:World} {e:Env} {d:Option Nat} {T:TypeId} {pos:String} {after:Array Edge} {g:Option (Nat×Bool)} {x y:Operand} {av:AV} {A:List Chunk}
theorem Ap (vs:List Value):∀ (off j:Nat) (cs:List Value),off+j+vs.length≤cs.length →
    (vs.zipIdx j).foldl (fun (cs:Array Value) (x:Value×Nat)=>cs.setIfInBounds (off+x.2) x.1) cs.toArray=(cs.take (off+j)++vs++cs.drop (off+j+vs.length)).toArray:=by
  induction vs with
  | nil=>intro off j cs h; simp
  | cons v vs ih =>
    intro off j cs h
    simp only [List.zipIdx_cons,List.foldl_cons,List.setIfInBounds_toArray]
    rw [ih off (j+1) _ (by simp at h ⊢; omega)]
    congr 1
    simp only [List.length_cons] at h
    have h1:(cs.set (off+j) v).take (off+(j+1))=cs.take (off+j)++[v]:=by
      rw [← Nat.add_assoc,List.take_succ_eq_append_getElem (by simp; omega)]
      rw [List.take_set_of_le (by omega)]
      simp
    have h2:(cs.set (off+j) v).drop (off+(j+1)+vs.length)=cs.drop (off+j+(vs.length+1)):=by
      rw [List.drop_set_of_lt (by omega)]
      congr 1; omega
    rw [h1,h2]
    simp
theorem yd {cs vs:List AV} {xs ys:List Value} {off:Nat} (h:RelL I w cs xs) (g:RelL I w vs ys) (hl:off+vs.length≤cs.length):RelL I w (kj cs off vs) (xs.take off++ys++xs.drop (off+ys.length)):=by
  have ht:∀ n,RelL I w (cs.take n) (xs.take n):=fun n=>⟨by simp [h.1],fun j hj=>by
    have hj':j < n∧j < cs.length:=by simp at hj; omega
    have:=h.2 j hj'.2
    rw [List.getElem_take]
    rw [show (xs.take n).getD j undef=xs.getD j undef by simp [List.getD,hj'.1]]
    exact this⟩
  have hd:∀ n,RelL I w (cs.drop n) (xs.drop n):=fun n=>⟨by simp [h.1],fun j hj=>by
    have hj':n+j < cs.length:=by simp at hj; omega
    rw [List.getElem_drop]
    rw [show (xs.drop n).getD j undef=xs.getD (n+j) undef by simp [List.getD]]
    exact h.2 _ hj'⟩
  unfold kj
  rw [← g.1]
  exact RelL.append (RelL.append (ht off) g) (hd _)
theorem tu (places:List (Nat×Nat)):∀ (parts:List (Nat×AV)) (vparts:List (Nat×Value)) (cs:List AV) (xs:List Value) (r:List AV),
    vparts.map (·.1)=parts.map (·.1)→(∀ j (h:j < parts.length),RelL I w (cellsOf parts[j].2) ((vparts.map (·.2)).getD j undef).cells.toList)→RelL I w cs xs→tI places cs parts=some r →
    ∃ ys,Instr.fill (places.toArray[·]?) xs.toArray vparts=some ys.toArray∧RelL I w r ys
  | [],[],cs,xs,r,_,_,h,hf=>by cases hf; exact ⟨xs,rfl,h⟩
  | [],_::_,_,_,_,h,_,_,_=>by cases h
  | _::_,[],_,_,_,h,_,_,_=>by cases h
  | (i,a)::parts,(i',v)::vparts,cs,xs,r,hm,hr,h,hf=>by
    simp only [List.map_cons,List.cons.injEq] at hm
    obtain ⟨rfl,hm⟩:=hm
    simp only [tI] at hf
    have h0:=hr 0 (by simp)
    simp only [List.getElem_cons_zero,List.map_cons,List.getD_cons_zero] at h0
    cases hp:places[i']? with
    | none=>rw [hp] at hf; cases hf
    | some p =>
      obtain ⟨off,size⟩:=p
      rw [hp] at hf
      simp only at hf
      split at hf
      · cases hf
      · rename_i hc
        have hc1:(cellsOf a).length=size:=by omega
        have hc2:off+size≤cs.length:=by omega
        have hv:v.cells.size=size:=by rw [← hc1,← h0.1]; simp
        have hx:xs.length=cs.length:=h.1
        obtain ⟨ys,hy,hyr⟩:=tu places parts vparts _ _ r hm (fun j hj=>by have:=hr (j+1) (by simpa using hj); simpa using this) (yd h h0 (by omega)) hf;refine ⟨ys,?_,hyr⟩
        simp only [Instr.fill,List.getElem?_toArray,hp]
        rw [if_neg (by simp [hv,hx]; omega)]
        have:=Ap v.cells.toList off 0 xs (by simp [hv,hx]; omega)
        simp only [Nat.add_zero] at this
        have e2:v.cells.zipIdx.foldl (fun cs (x:Value×Nat)=>cs.setIfInBounds (off+x.2) x.1) xs.toArray=(xs.take off++v.cells.toList++xs.drop (off+v.cells.toList.length)).toArray:=by
          rw [← this,← Array.foldl_toList]
          congr 1
          simp
        rw [e2]
        simpa only [List.getElem?_toArray] using hy
theorem Ak {parts:Array (Nat×Operand)} {zs:List Value} {ps:List (Nat×Nat)} {cs:List AV} {T2:TypeId} (hi:pH P T=some (zs,ps))
    (hok:∀ p∈parts.toList,cE (opv e p.2)=true∨∃ cs,opv e p.2=.agg cs) (hf:tI ps (zs.map .v) (parts.toList.map fun p=>(p.1,opv e p.2))=some cs) :
    OpS P ⟨d,.build T parts,T2,pos,after,g⟩ e (.agg cs):=fun I w ρ hρ=>by
  unfold pH at hi
  cases hu:P.underlying T with
  | none=>rw [hu] at hi; cases hi
  | some D =>
    rw [hu] at hi
    cases D with
    | struct fs =>
      simp only at hi
      obtain ⟨i,hin,hi⟩:=Option.bind_eq_some_iff.1 hi;obtain ⟨z,hz,hi⟩:=Option.bind_eq_some_iff.1 hi;obtain ⟨ps',hps,hi⟩:=Option.map_eq_some_iff.1 hi
      simp only [Prod.mk.injEq] at hi
      obtain ⟨rfl,rfl⟩:=hi
      have hz0:RelL I w (z.cells.toList.map .v) z.cells.toList:=by
        have:=gf (I:=I) (w:=w) AV.v id z.cells.toList (fun x _=>.v x)
        simpa using this
      obtain ⟨ys,hy,hyr⟩:=tu (I:=I) (w:=w) ps' _ (parts.toList.map fun p=>(p.1,ρ p.2)) _ _ cs (by simp) (fun j hj=>by
        have hj':j < parts.toList.length:=by simpa using hj
        simp only [List.getElem_map,List.map_map,List.getD,List.getElem?_map,aV hj',Option.map_some,Option.getD_some,Function.comp]
        exact oU (hρ _) (hok _ (List.getElem_mem hj'))) hz0 hf
      refine ⟨.agg ys.toArray,.agg cs ys hyr.1 hyr.2,fun w' _ _=>?_⟩
      have hti:(typeInfo T).run P w'=.ok i w':=by simp [typeInfo,program,hin,Sem.run]
      have hzv:(zeroValue T).run P w'=.ok z w':=by simp only [zeroValue,Sem.run_bind,hti,Result.andThen_ok,hz,Sem.run_pure]
      have hmap:∀ (l:List Field) (r:List (Nat×Nat)),(l.mapM fun f=>(bO P f.type).map fun s=>(f.offset,s))=some r→(l.mapM fun f=>do pure (f.offset,← sizeOf f.type):Sem (List (Nat×Nat))).run P w'=.ok r w':=by
        intro l
        induction l with
        | nil=>intro r h; simp at h; subst h; rfl
        | cons f l ih =>
          intro r h
          simp only [List.mapM_cons,Option.bind_eq_bind,Option.bind_eq_some_iff] at h
          obtain ⟨p,hp,q,hq,h⟩:=h;obtain ⟨s,hs,rfl⟩:=Option.map_eq_some_iff.1 hp
          cases h
          simp only [List.mapM_cons,Sem.run_bind,bS hs,Result.andThen_ok,Sem.run_pure,ih q hq]
      have hpl:(fs.mapM fun f=>do pure (f.offset,← sizeOf f.type):Sem (Array (Nat×Nat))).run P w'=.ok ps'.toArray w':=by
        rw [Array.mapM_eq_mapM_toList]
        simp only [Sem.run_map,hmap _ _ hps,Result.andThen_ok]
      have hpm:(parts.map fun (i,x)=>(i,ρ x)).toList=parts.toList.map fun p=>(p.1,ρ p.2):=by simp
      simp only [Array.toArray_toList] at hy
      simp only [execOp,Instr.build,Sem.run_bind,hzv,Result.andThen_ok,run_underlying hu,hpl,hpm,hy,Sem.run_pure]
    | _=>cases hi
theorem bo {o:Oper} {av':AV} (h:OpS P o e av) (he:av=av'):OpS P o e av':=he ▸ h
theorem ce {α:Type} {E:Enc α} {El bytes:Nat} {parts:Array (Nat×Operand)} {xs:List Operand} {l:List α} {T2 n:Nat} (hT:P.underlying T=some (.slice El)) (hE:cU P El=some (1,bytes)) (hk:E.k=1) (hn:xs.length=n) (hlt:n≤16777216)
    (hp:parts=((List.range' 0 xs.length).zip xs).toArray) (hcs:xs.map (opv e)=E.fl l):OpR P ⟨d,.buildSlice T n parts,T2,pos,after,g⟩ e A (slE E l none) A:=by
  have:=oo (P:=P) (d:=d) (T:=T) (pos:=pos) (after:=after) (g:=g) (A:=A) (T2:=T2) hT hE hn hp hlt hcs (E.fl_cell l)
  unfold slE
  rw [hk]
  exact this
theorem ye {α:Type} {E:Enc α} {El bytes:Nat} {parts:Array (Nat×Operand)} {xs:List Operand} {l:List α} {T2 n:Nat} (hT:P.underlying T=some (.slice El)) (hE:cU P El=some (1,bytes)) (hk:E.k=1) (hn:xs.length=n) (hlt:n≤16777216)
    (hp:parts=((List.range' 0 xs.length).zip xs).toArray) (hcs:xs.map (opv e)=E.fl l):OpX P ⟨d,.buildSlice T n parts,T2,pos,after,g⟩ e A (fun av A'=>∃ t,av=slE E l (some t)∧A'=.tok t El::A):=by
  have:=sE (P:=P) (d:=d) (T:=T) (pos:=pos) (after:=after) (g:=g) (A:=A) (T2:=T2) hT hE hn hp hlt hcs (E.fl_cell l)
  unfold slE
  rw [hk]
  exact this
end
section
variable {P:Program} {ro:Option Nat} {N:Nat} {Q:gt} {ops:Array Oper}
theorem AO.callp {rest:List Nat} {d:Nat} {f:FuncId} {args:Array Operand} {argTypes:Array TypeId} {T:TypeId} {pos:String} {after:Array Edge} {g:Option (Nat×Bool)} {e:Env} {ds:List ADef} {A:List Chunk}
    {avs:List AV} {v:AV} (hd:Nat.blt d N=true) (hf:∀ args w,(callFunc f args).run P w=.ok (.enter f args) w) (ha:args.toList.map (opv e)=avs)
    (h:ACalls P f avs [] (Ret v [])) (k:AR P ro N ops Q rest ⟨(d,v)::e,ds,A⟩) :
    AO P ro N ops Q rest ⟨some d,.call ⟨.value (.func f),args,argTypes⟩,T,pos,after,g⟩ ⟨e,ds,A⟩ :=
  eM A hd hf ha h (bG _) (fun av A' ⟨h1,h2⟩=>by cases h1; subst h2; exact k) (fun c A' ⟨h1,_⟩=>by cases h1)
abbrev _root_.Go.Av.aX := @AO.callp
theorem AIO.callp {fuel:Nat} {listed:Array Bool} {d:Nat} {f:FuncId} {args:Array Operand} {argTypes:Array TypeId} {T:TypeId} {pos:String} {after:Array Edge} {g:Option (Nat×Bool)} {e:Env} {ds:List ADef} {A:List Chunk}
    {avs:List AV} {v:AV} (hd:Nat.blt d N=true) (hf:∀ args w,(callFunc f args).run P w=.ok (.enter f args) w) (ha:args.toList.map (opv e)=avs)
    (h:ACalls P f avs [] (Ret v [])) (k:AI P ro N ops Q fuel listed ⟨(d,v)::e,ds,A⟩) :
    AIO P ro N ops Q fuel listed ⟨some d,.call ⟨.value (.func f),args,argTypes⟩,T,pos,after,g⟩ ⟨e,ds,A⟩ :=
  AIO.call A hd hf ha h (bG _) (fun av A' ⟨h1,h2⟩=>by cases h1; subst h2; exact k) (fun c A' ⟨h1,_⟩=>by cases h1)
abbrev _root_.Go.Av.dV := @AIO.callp
end
theorem kO {a b:Int} (h:a=b):i64 a=i64 b:=by rw [h]
theorem nq {a b:AV} (h:a=b):Wv a b:=h ▸ .refl a
theorem opS_ext {P:Program} {e:Env} {d:Option Nat} {T:TypeId} {pos:String} {after:Array Edge} {g:Option (Nat×Bool)} {f:FuncId} {fn:Func} {ext:Array Value→Sem Value} {args:Array Operand} {argTypes:Array TypeId} {av:AV}
    (hf:P.funcs[f]?=some fn) (hname:(fn.name == "runtime.NumGoroutine")=false) (hb:fn.body.isNone=true) (hn:Extern.findNext fn=none) (he:Extern.find fn=some ext)
    (h:∀ I w ρ,(∀ x,Rel I w (opv e x) (ρ x))→∃ v,Rel I w av v∧∀ w',(∀ b j,Stab I b (j+1)→w'.cell? ⟨b,j,none⟩=w.cell? ⟨b,j,none⟩)→(ext (args.map ρ)).run P w'=.ok v w') :
    OpS P ⟨d,.call ⟨.value (.func f),args,argTypes⟩,T,pos,after,g⟩ e av:=fun I w ρ hρ=>by
  obtain ⟨v,hv,hw⟩:=h I w ρ hρ
  have h0:=cf (hρ (.func f))
  refine ⟨v,hv,fun w' hw' _=>?_⟩
  simp only [execOp,resolve,h0,Deferred.ofValue,Sem.run_bind,Sem.run_pure,Result.andThen_ok,invoke]
  simp only [Array.empty_append,Array.append_empty]
  rw [run_callFunc_extern hf hname hb hn he,hw w' hw']
  rfl
theorem Ret.mk {av v:AV} {A:List Chunk} (h:av=v):Ret v A (.ret av) A:=⟨by rw [h],rfl⟩
section
variable {P:Program} {e:Env} {d:Option Nat} {T:TypeId} {pos:String} {after:Array Edge} {g:Option (Nat×Bool)} {x y:Operand} {k:IntKind} {a b:Int} {Ts:Array TypeId}
end
theorem bP {b:Bool} {p:Prop} (h:b=true) (h':b=false):p:=by rw [h] at h'; cases h'
theorem aw {a b:Bool} (h:a=b):B a=B b:=by rw [h]
end Go.Av
namespace Go.Av
open Go.RowKit
section
variable {P:Program} {e:Env} {d:Option Nat} {T:TypeId} {pos:String} {after:Array Edge} {g:Option (Nat×Bool)} {x y:Operand}
theorem ow {c:UInt8} {src dst:TypeId} (hs:(P.underlying src).isSome=true) (hd:P.underlying dst=some (.int .i64)) (hx:opv e x=u8 c) :
    OpS P ⟨d,.convert src dst x,T,pos,after,g⟩ e (i64 c.toNat):=by
  have:=eJ (P:=P) (d:=d) (T:=T) (pos:=pos) (after:=after) (g:=g) hs hd hx
  rw [IntWalk.i64_in _ (by have:=c.toNat_lt; omega)] at this
  exact this
end
section
variable {P:Program} {ro:Option Nat} {N:Nat} {Q:gt} {ops:Array Oper}
theorem oM {j t:Nat} {v:Value} {e:Env} {ds:List ADef} {A:List Chunk} {I:Info} {w:World} {a:Act} (hS:RelS N I w ⟨e,ds,A⟩ a) (hj:(ops[j]?).bind (·.dst)=some t) (hb:ev e t=.v v) (ht:Nat.blt t N=true) :
    yielded ops a.tmps j=(match v with | .bool b=>some b | _=>none):=by
  have htlt:t < N:=af ht
  have hv:a.tmps[t]?=some v:=by
    have h:=hS.env t
    simp only [hb] at h
    have hs:=hS.size
    have hlt:t < a.tmps.size:=by omega
    rw [Array.getD_eq_getD_getElem?,Array.getElem?_eq_getElem hlt,Option.getD_some] at h
    rw [Array.getElem?_eq_getElem hlt]
    generalize a.tmps[t]=x at h
    cases h; rfl
  simp only [yielded,hj,Option.bind_some,hv]
  cases v <;> rfl
theorem ic {b:Bool} {t fuel:Nat} {listed:Array Bool} {s:St} (hb:ev s.env t=.v (.bool b)) (h1:b=true→AI P ro N ops Q fuel listed s) (h2:b=false→AI P ro N ops Q fuel listed s):AI P ro N ops Q fuel listed s:=by
  cases b
  · exact h2 rfl
  · exact h1 rfl
theorem aL {i d j t:Nat} {want b:Bool} {fuel:Nat} {listed:Array Bool} {op:Op} {T:TypeId} {pos:String} {after:Array Edge} {e:Env} {ds:List ADef} {A:List Chunk} {av:AV}
    (hi:ops[i]?=some ⟨some d,op,T,pos,after,some (j,want)⟩) (hd:Nat.blt d N=true) (hs:Region.noSelect ops=true) (hf:Region.free .any ops listed i=true) (hr:(Region.ready .any ops listed).contains i=true)
    (hj:(ops[j]?).bind (·.dst)=some t) (hb:ev e t=.v (.bool b)) (ht:Nat.blt t N=true) (hQ:NoPanic d Q)
    (hbw:b=want) (h:OpS P ⟨some d,op,T,pos,after,some (j,want)⟩ e av) (k:AI P ro N ops Q fuel (listed.setIfInBounds i true) ⟨(d,av)::e,ds,A⟩):AI P ro N ops Q (fuel+1) listed ⟨e,ds,A⟩:=fun hp F I0 w0 I w a E hI hS=>by
  have hy:=oM (ops:=ops) hS hj hb ht
  obtain ⟨v,hv,hrun⟩:=h I w a.eval hS.op;refine nt hp hi (Region.noSelect_spec hs) (fun c a w h=>?_) fuel listed a w I (Region.free_spec hi hf) (by simpa using hr) (.inl ⟨?_,hrun⟩) ?_
  · exact hQ.back h
  · simp only [Region.wanted,hy,hbw]; cases want <;> rfl
  · exact k hp F I0 w0 I w _ E hI (hS.put (af hd) hv A)
theorem aU {i d j t:Nat} {want b:Bool} {fuel:Nat} {listed:Array Bool} {op:Op} {T:TypeId} {pos:String} {after:Array Edge} {e:Env} {ds:List ADef} {A:List Chunk}
    (hi:ops[i]?=some ⟨some d,op,T,pos,after,some (j,want)⟩) (hd:Nat.blt d N=true) (hs:Region.noSelect ops=true) (hf:Region.free .any ops listed i=true) (hr:(Region.ready .any ops listed).contains i=true)
    (hj:(ops[j]?).bind (·.dst)=some t) (hb:ev e t=.v (.bool b)) (ht:Nat.blt t N=true) (hQ:NoPanic d Q)
    (hbw:b = !want) (k:AI P ro N ops Q fuel (listed.setIfInBounds i true) ⟨(d,.v undef)::e,ds,A⟩):AI P ro N ops Q (fuel+1) listed ⟨e,ds,A⟩:=fun hp F I0 w0 I w a E hI hS=>by
  have hy:=oM (ops:=ops) hS hj hb ht
  refine nt hp hi (Region.noSelect_spec hs) (fun c a w h=>?_) fuel listed a w I (Region.free_spec hi hf) (by simpa using hr) (.inr ⟨?_,rfl⟩) ?_
  · exact hQ.back h
  · simp only [Region.wanted,hy,hbw]; cases want <;> rfl
  · exact k hp F I0 w0 I w _ E hI (hS.put (af hd) (.v _) A)
end
end Go.Av
namespace Go.Av
open Go.RowKit
def zeroCells (P:Program) (t:TypeId):Option (List Value):=(P.info? t).bind fun i=>i.zero.map fun z=>z.cells.toList
theorem pu {P:Program} {t:TypeId} {zs:List Value} (h:zeroCells P t=some zs) (w:World):∃ z,(zeroValue t).run P w=.ok z w∧z.cells.toList=zs:=by
  unfold zeroCells at h
  obtain ⟨i,hi,h⟩:=Option.bind_eq_some_iff.1 h;obtain ⟨z,hz,rfl⟩:=Option.map_eq_some_iff.1 h;exact ⟨z,by simp [zeroValue,typeInfo,program,hi,hz,Sem.run],rfl⟩
theorem lP {I:Info} {w:World}:∀ zs:List Value,RelL I w (zs.map AV.v) zs
  | []=>ge
  | z::zs=>fp (.v z) (lP zs)
section
variable {P:Program} {I:Info} {w:World} {e:Env} {d:Option Nat} {T:TypeId} {pos:String} {after:Array Edge} {g:Option (Nat×Bool)} {x y:Operand} {av:AV} {A:List Chunk}
theorem dw {zs:List Value} {T2:TypeId} (hz:zeroCells P T=some zs):OpX P ⟨d,.alloc T,T2,pos,after,g⟩ e A (fun av A'=>∃ o,av=.pt o 0∧A'=.obj o (zs.map AV.v)::A):=fun F I w ρ hI hρ=>by
  obtain ⟨o,ho⟩:=hI.fresh_obj;obtain ⟨z,hrun,rfl⟩:=pu hz w;refine ⟨_,.pointer (some ⟨w.heap.size,0,none⟩),_,_,_,_,?_,.inl rfl,hI.new_obj ho _,hI.alloc_obj ho T (lP _),.pt o 0 _ (by simp [Info.putObj]),o,rfl,rfl⟩
  simp only [execOp,Instr.alloc,newVar,newRow,Sem.run_bind,Sem.run_pure,hrun,run_newObj_alloc,Result.andThen_ok]
theorem fN {o off i n:Nat} {cs:List AV} {D:TypeDesc} {T2:TypeId} (hT:P.underlying T=some D) (hD:jg D=true) (hsz:bO P T=some n) (hx:opv e x=.pt o off) (hA:A[i]?=some (.obj o cs)) (hn:off+n≤cs.length) :
    OpR P ⟨d,.load T x,T2,pos,after,g⟩ e A (.agg ((cs.drop off).take n)) A:=fun F I w ρ hI hρ=>by
  have h:=hx ▸ hρ x
  generalize e1:ρ x=v at h
  cases h with
  | pt o off b ho =>
    obtain ⟨b',arr,ho',he,hca,hrl⟩:=hI.holds _ (jV hA F)
    rw [ho] at ho'; cases ho'
    have hl:(loadCells ⟨b,off,none⟩ n).run P w=.ok ((List.range n).map fun j=>arr.getD (off+j) undef).toArray w:=run_loadCells w _ n _ (fun j hj=>by
      rw [df,hca.cell,aV (by rw [hrl.1]; omega)]
      simp [List.getD,show off+j < arr.length by rw [hrl.1]; omega])
    refine ⟨_,_,w,I,?_,.inl rfl,cj _ _,hI,.agg _ ((List.range n).map fun j=>arr.getD (off+j) undef) (by simp; omega) (fun j hj=>?_)⟩
    · simp only [execOp,e1,Instr.loadAt,Instr.sureAddr,Sem.run_bind,Sem.run_pure,Result.andThen_ok,loadVar,kg hT hD,if_true,bS hsz,hl]
    · have hj':j < n:=by simp at hj; omega
      have:((List.range n).map fun j=>arr.getD (off+j) undef).getD j undef=arr.getD (off+j) undef:=by simp [List.getD,hj']
      rw [this,List.getElem_take,List.getElem_drop]
      exact hrl.2 _ (by omega)
theorem dm {o off k len:Nat} {q:IntKind} {n:Int} {m:Nat} {El Ar T2:TypeId} (hT:P.underlying T=some (.array len El)) (hsz:bO P El=some k) (hx:opv e x=.pt o off) (hy:opv e y=.v (.int q n)) (hm:n=m) (ha:m < len) :
    OpS P ⟨d,.indexAddr T x y,T2,pos,after,g⟩ e (.pt o (off+m*k)):=fun I w ρ hρ=>by
  have h:=hx ▸ hρ x
  have e2:=cf (hy ▸ hρ y)
  generalize e1:ρ x=v at h
  cases h with
  | pt o off b ho =>
    refine ⟨.pointer (some ⟨b,off+m*k,none⟩),.pt _ _ b ho,fun w' _ _=>?_⟩;subst hm
    simp only [execOp,e1,e2,Instr.indexAt,asIntOf,Sem.run_bind,Sem.run_pure,Result.andThen_ok,run_underlying hT,Instr.sureAddr]
    rw [if_pos ⟨Int.natCast_nonneg _,by omega⟩]
    simp only [Sem.run_bind,bS hsz,Result.andThen_ok,Sem.run_pure,Int.toNat_natCast,df]
theorem nX {cs:List AV} {k len:Nat} {q:IntKind} {n:Int} {m:Nat} {El T2:TypeId} (hT:P.underlying T=some (.array len El)) (hsz:bO P El=some k) (hx:opv e x=.cp cs) (hy:opv e y=.v (.int q n)) (hm:n=m) (ha:m < len) (hl:m*k≤cs.length) :
    OpS P ⟨d,.indexAddr T x y,T2,pos,after,g⟩ e (.cp (cs.drop (m*k))):=fun I w ρ hρ=>by
  have h:=hx ▸ hρ x
  have e2:=cf (hy ▸ hρ y)
  generalize e1:ρ x=v at h
  cases h with
  | cp cs b off xs hst hc hr =>
    refine ⟨.pointer (some ⟨b,off+m*k,none⟩),.cp _ b _ (fun j=>xs (m*k+j)) (hst.le (by simp; omega)) (fun j hj=>?_) (fun j hj=>?_),fun w' _ _=>?_⟩
    · simp at hj; rw [Nat.add_assoc]; exact hc _ (by omega)
    · simp at hj; rw [List.getElem_drop]; exact hr _ (by omega)
    · subst hm
      simp only [execOp,e1,e2,Instr.indexAt,asIntOf,Sem.run_bind,Sem.run_pure,Result.andThen_ok,run_underlying hT,Instr.sureAddr]
      rw [if_pos ⟨Int.natCast_nonneg _,by omega⟩]
      simp only [Sem.run_bind,bS hsz,Result.andThen_ok,Sem.run_pure,Int.toNat_natCast,df]
theorem qI {o off len cap k:Nat} {q:IntKind} {n:Int} {m:Nat} {El T2:TypeId} (hT:P.underlying T=some (.slice El)) (hsz:bO P El=some k) (hx:opv e x=.vw o off len cap) (hy:opv e y=.v (.int q n)) (hm:n=m) (ha:m < len) :
    OpS P ⟨d,.indexAddr T x y,T2,pos,after,g⟩ e (.pt o (off+m*k)):=fun I w ρ hρ=>by
  have h:=hx ▸ hρ x
  have e2:=cf (hy ▸ hρ y)
  generalize e1:ρ x=v at h
  cases h with
  | vw o off len cap b ho =>
    refine ⟨.pointer (some ⟨b,off+m*k,none⟩),.pt _ _ b ho,fun w' _ _=>?_⟩;subst hm
    simp only [execOp,e1,e2,Instr.indexAt,asIntOf,Sem.run_bind,Sem.run_pure,Result.andThen_ok,run_underlying hT]
    rw [if_pos ⟨Int.natCast_nonneg _,by omega⟩]
    simp only [Sem.run_bind,bS hsz,Result.andThen_ok,Sem.run_pure,Int.toNat_natCast,df]
theorem pT {o off len cap k:Nat} {q:IntKind} {n:Int} {lo:Nat} {El T2:TypeId} (hT:P.underlying T=some (.slice El)) (hsz:bO P El=some k) (hx:opv e x=.vw o off len cap)
    (hy:opv e y=.v (.int q n)) (hn:n=lo) (h1:lo≤len) (h3:lo < cap) (h4:len≤cap) :
    OpS P ⟨d,.slice T x (some y) none none,T2,pos,after,g⟩ e (.vw o (off+lo*k) (len - lo) (cap - lo)):=fun I w ρ hρ=>by
  have h:=hx ▸ hρ x
  have e2:=cf (hy ▸ hρ y)
  generalize e1:ρ x=v at h
  cases h with
  | vw o off len cap b ho =>
    refine ⟨.slice (some ⟨b,off+lo*k,none⟩) (len - lo) (cap - lo),.vw _ _ _ _ b ho,fun w' _ _=>?_⟩
    simp only [execOp,e1,e2,Option.map_some,Option.map_none,Instr.sliceAt,Instr.slice,Instr.sliceBounds,run_underlying hT,Sem.run_bind,Sem.run_pure,Result.andThen_ok,ia hn h1,bS hsz]
    rw [if_neg (by omega)]
    simp [df]
theorem oD {o:Nat} {b:Nat}:∀ (vs:List AV) (us:List Value) (off:Nat) (cs:List AV) (w:World),Inv I (.obj o cs::A) w→I.obj o=some b→RelL I w vs us→off+vs.length≤cs.length →
    Ext I w I (w.setCells b off us)∧Inv I (.obj o (kj cs off vs)::A) (w.setCells b off us)
  | [],us,off,cs,w,hI,ho,hr,hl=>by
    have:us=[]:=hr.out_nil
    subst this;refine ⟨cj _ _,?_⟩
    have:kj cs off []=cs:=by simp [kj]
    rw [this]; exact hI
  | v::vs,us,off,cs,w,hI,ho,hr,hl=>by
    obtain ⟨u,us',rfl,h1,h2⟩:=hr.out_cons
    simp only [List.length_cons] at hl
    obtain ⟨E,hI2⟩:=hI.set_obj ho off h1;obtain ⟨E3,hI3⟩:=oD vs us' (off+1) (cs.set off v) _ hI2 ho (h2.mono E) (by simp; omega);refine ⟨E.trans E3,?_⟩
    have:kj (cs.set off v) (off+1) vs=kj cs off (v::vs):=by
      unfold kj
      rw [List.take_succ_eq_append_getElem (by simp; omega),List.take_set_of_le (by omega),List.drop_set_of_lt (by omega)]
      simp
      congr 1; omega
    rw [this] at hI3
    exact hI3
theorem RelL.one {vs:List AV} {us:List Value} (h:RelL I w vs us) (hc:∀ c∈vs,cE c=true):∀ u∈us,u.oneCell'=true:=by
  intro u hu;obtain ⟨j,hj,rfl⟩:=List.getElem_of_mem hu
  have hj':j < vs.length:=by rw [← h.1]; exact hj
  have:=h.2 j hj'
  rw [show us.getD j undef=us[j] by simp [List.getD,hj]] at this
  exact iH this (hc _ (List.getElem_mem hj'))
theorem qb {o b off:Nat} {cs vs:List AV} {us:List Value} (hI:Inv I (.obj o cs::A) w) (ho:I.obj o=some b) (hr:RelL I w vs us) (hc:∀ c∈vs,cE c=true) (hl:off+vs.length≤cs.length) :
    (storeCells ⟨b,off,none⟩ us).run P w=.ok () (w.setCells b off us):=by
  obtain ⟨b',arr,ho',he,hca,hrl⟩:=hI.holds _ (List.mem_cons_self ..)
  rw [ho] at ho'; cases ho'
  have:=run_storeCells_cells (P:=P) b off us 0 w (fun j hj=>?_) (fun j hj=>?_) (hr.one hc)
  · simpa using this
  · rw [hca.cell]; simp only [Nat.add_zero]; rw [aV (by rw [hrl.1]; have:=hr.1; omega)]; rfl
  · exact hca.free (by rw [hrl.1]; have:=hr.1; omega)
theorem cn {o off i:Nat} {cs vs:List AV} {T2:TypeId} (hsz:bO P T=some vs.length) (hx:opv e x=.pt o off) (hy:opv e y=.agg vs) (hcell:∀ c∈vs,cE c=true) (hA:A[i]?=some (.obj o cs)) (hoff:off+vs.length≤cs.length) :
    OpR P ⟨d,.store T x y,T2,pos,after,g⟩ e A .any (A.set i (.obj o (kj cs off vs))):=fun F I w ρ hI hρ=>by
  have h:=hx ▸ hρ x
  have hv:=hy ▸ hρ y
  generalize e1:ρ x=v at h
  generalize e2:ρ y=u at hv
  cases h with
  | pt o off b ho =>
    cases hv with
    | agg vs us hl hr =>
      have hrl:RelL I w vs us:=⟨hl,hr⟩
      have hI2:=hI.take_at hA
      obtain ⟨E,hI3⟩:=oD vs us off cs w hI2 ho hrl hoff;refine ⟨.skip,undef,_,I,?_,.inr ⟨rfl,rfl⟩,E,eG hA hI3,.any _⟩
      have hst:=qb (P:=P) hI2 ho hrl hcell hoff
      simp only [execOp,e1,e2,Instr.storeAt,Instr.sureAddr,Sem.run_bind,Sem.run_pure,Result.andThen_ok,storeVar,Value.cells,bS hsz]
      rw [if_neg (by simp [hl])]
      simp [hst]
theorem uK {T T2 T3:TypeId} {ρ:Operand→Value} {v':Value} {w':World} (h:(Builtin.copy_ #[T,T2] T3 #[ρ x,ρ y]).run P w=.ok v' w') :
    (execOp ρ ⟨d,.call ⟨.builtin .copy,#[x,y],#[T,T2]⟩,T3,pos,after,g⟩).run P w=.ok (.value v') w':=by
  simp only [execOp,resolve,List.map_toArray,List.map_cons,List.map_nil,Sem.run_bind,Sem.run_pure,Result.andThen_ok,invoke,builtin,h]
theorem vk {F:List Chunk} {o off len cap i k m:Nat} {cs ms:List AV} {El T2 T3:TypeId} {ρ:Operand→Value} (hT:P.underlying T=some (.slice El)) (hsz:bO P El=some k) (hI:Inv I (A++F) w) (h:Rel I w (.vw o off len cap) (ρ x))
    (hu:Src P I w k (ρ y) ms m) (hc:∀ c∈ms,cE c=true) (hA:A[i]?=some (.obj o cs)) (hm:m≤len) (hl:off+ms.length≤cs.length) :
    ∃ w',(execOp ρ ⟨d,.call ⟨.builtin .copy,#[x,y],#[T,T2]⟩,T3,pos,after,g⟩).run P w=.ok (.value (.int .i64 m)) w'∧Ext I w I w'∧Inv I (A.set i (.obj o (kj cs off ms))++F) w':=by
  generalize e1:ρ x=v at h
  cases h with
  | vw o off len cap b ho =>
    obtain ⟨us,hml,hrl,hlen,hfirst⟩:=hu
    have hI2:=hI.take_at hA
    obtain ⟨E,hI3⟩:=oD ms us off cs w hI2 ho hrl hl;refine ⟨_,uK ?_,E,eG hA hI3⟩
    have hst:=qb (P:=P) hI2 ho hrl hc hl
    rw [e1]
    simp only [Builtin.copy_,List.getElem?_toArray,List.getElem?_cons_zero,List.getElem?_cons_succ,run_underlying hT,Sem.run_bind,Sem.run_pure,Result.andThen_ok,bS hsz,hlen]
    rw [show Nat.min m len=m from Nat.min_eq_left hm]
    simp only [hfirst w (fun _ _ _=>rfl),Sem.run_bind,Result.andThen_ok,hst,Sem.run_pure]
    rfl
theorem iI {α:Type} {E:Enc α} {l:List α} {t:Option Nat} {o off len cap i:Nat} {cs:List AV} {El T2 T3:TypeId} (hT:P.underlying T=some (.slice El)) (hsz:bO P El=some E.k) (hx:opv e x=.vw o off len cap) (hy:opv e y=slE E l t)
    (hA:A[i]?=some (.obj o cs)) (hm:l.length≤len) (hl:off+l.length*E.k≤cs.length) :
    OpR P ⟨d,.call ⟨.builtin .copy,#[x,y],#[T,T2]⟩,T3,pos,after,g⟩ e A (i64 l.length) (A.set i (.obj o (kj cs off (E.fl l)))):=fun F I w ρ hI hρ=>by
  obtain ⟨w',h1,h2,h3⟩:=vk (d:=d) (pos:=pos) (after:=after) (g:=g) (T2:=T2) (T3:=T3) hT hsz hI (hx ▸ hρ x) (wh (hy ▸ hρ y)) (E.fl_cell l) hA hm (by rw [E.fl_length]; exact hl);exact ⟨_,_,w',I,h1,.inl rfl,h2,h3,.v _⟩
theorem iZ {s:List UInt8} {o off len cap i:Nat} {cs:List AV} {El T2 T3:TypeId} (hT:P.underlying T=some (.slice El)) (hsz:bO P El=some 1) (hx:opv e x=.vw o off len cap) (hy:opv e y=S s)
    (hA:A[i]?=some (.obj o cs)) (hm:s.length≤len) (hl:off+s.length≤cs.length) :
    OpR P ⟨d,.call ⟨.builtin .copy,#[x,y],#[T,T2]⟩,T3,pos,after,g⟩ e A (i64 s.length) (A.set i (.obj o (kj cs off (Enc.byte.fl s)))):=fun F I w ρ hI hρ=>by
  have e2:=cf (hy ▸ hρ y)
  obtain ⟨w',h1,h2,h3⟩:=vk (d:=d) (pos:=pos) (after:=after) (g:=g) (T2:=T2) (T3:=T3) hT hsz hI (hx ▸ hρ x) (by rw [e2]; exact zg) (Enc.byte.fl_cell s) hA hm (by rw [Enc.fl_length]; simpa [Enc.byte] using hl);exact ⟨_,_,w',I,h1,.inl rfl,h2,h3,.v _⟩
def gr (zs:List Value) (n:Nat):List Value:=(List.range n).map fun i=>zs.getD (i % zs.length) undef
theorem made_eq (z:Value) (cap k:Nat) (hk:z.cells.size=k):madeCells z.cells (cap*k)=(gr z.cells.toList (cap*k)).toArray:=by
  apply Array.ext'
  simp only [madeCells,gr,Array.toList_map,Array.toList_range]
  refine List.map_congr_left fun j hj=>?_
  have hj':j < cap*k:=by simpa using hj
  have hk0:0 < k:=Nat.pos_of_ne_zero fun h=>by rw [h,Nat.mul_zero] at hj'; omega
  have hlt:j % z.cells.size < z.cells.size:=Nat.mod_lt _ (by omega)
  rw [getElem!_pos z.cells _ hlt]
  simp [List.getD,hlt]
theorem Al {ρ:Operand→Value} {El T2 k bytes len cap:Nat} (hT:P.underlying T=some (.slice El)) (hE:cU P El=some (k,bytes)) (e1:ρ x=.int .i64 len) (e2:ρ y=.int .i64 cap) (hle:len≤cap) (hb:cap*bytes≤140737488355328) (hc:cap≤140737488355328) (w:World) :
    ∃ zs:List Value,zeroCells P El=some zs∧zs.length=k∧(execOp ρ ⟨d,.makeSlice T x y,T2,pos,after,g⟩).run P w=.ok (.value (.slice (some ⟨w.heap.size,0,none⟩) len cap)) (w.alloc (.cells (gr zs (cap*k)).toArray El)):=by
  obtain ⟨i,z,hi,hz,hzs,hsz,hby⟩:=ep hE;refine ⟨z.cells.toList,by simp [zeroCells,hi,hz],by simpa using hzs,?_⟩
  have hbi:((i.bytes:Nat):Int)*(cap:Int)≤281474976710656:=by
    have h:((i.bytes*cap:Nat):Int)≤281474976710656:=by rw [hby,Nat.mul_comm]; omega
    rwa [Int.natCast_mul] at h
  have hr:=run_make (P:=P) w T El i z hT hi hz .i64 .i64 len cap (by omega) (by omega) hbi (by omega)
  simp only [Int.toNat_natCast,hsz,made_eq z cap k hzs] at hr
  simp only [execOp,e1,e2,Sem.run_bind,hr,Result.andThen_ok,Sem.run_pure]
theorem wH {El T2 k bytes cap:Nat} {n n':Int} (hT:P.underlying T=some (.slice El)) (hE:cU P El=some (k,bytes)) (hx:opv e x=i64 n) (hy:opv e y=i64 n') (hn:n=0) (hn':n'=cap) (hk:0 < k)
    (hb:cap*bytes≤140737488355328) (hc:cap≤140737488355328) :
    OpX P ⟨d,.makeSlice T x y,T2,pos,after,g⟩ e A (fun av A'=>∃ t,av=.sl k [] (some t)∧A'=.tok t El::A):=fun F I w ρ hI hρ=>by
  obtain ⟨t,ht⟩:=hI.fresh_tok
  subst hn; subst hn'
  obtain ⟨zs,hz,hzl,hrun⟩:=Al (d:=d) (pos:=pos) (after:=after) (g:=g) (T2:=T2) (len:=0) hT hE (cf (hx ▸ hρ x)) (cf (hy ▸ hρ y)) (Nat.zero_le _) hb hc w
  have hlen:(gr zs (cap*k)).length=cap*k:=by simp [gr]
  have X:=hI.new_row ht 0 (gr zs (cap*k)).length (.cells (gr zs (cap*k)).toArray El)
  have hI':=hI.alloc_row ht 0 (gr zs (cap*k)) El (0,0) (Nat.zero_le _) (.inl rfl)
  refine ⟨_,_,_,_,_,_,hrun,.inl rfl,X,hI',?_,t,rfl,rfl⟩;refine .sl k [] _ _ 0 0 cap (fun _=>undef) hk (by simp) (Nat.zero_le _) (fun m hm=>?_) (fun j hj=>by simp at hj) (fun j hj=>by simp at hj) (fun t' h=>?_)
  · simp
  · cases h
    exact ⟨by simp [Info.putTok,hlen],rfl⟩
theorem AR.weaken {ro:Option Nat} {N:Nat} {ops:Array Oper} {Q:gt} {l:List Nat} {s s':St} (k:WK N s s') (h:AR P ro N ops Q l s'):AR P ro N ops Q l s:=fun F I w a hI hS=>by
  obtain ⟨I',E,hI',hS'⟩:=k F I w a hI hS;exact cZ l (fun _ _ _=>eL E fun _ _ h=>h) _ _ (h F I' w a hI' hS')
end
end Go.Av
namespace Go.Av
open Go.RowKit
section
variable {P:Program} {I:Info} {w:World} {e:Env} {d:Option Nat} {T:TypeId} {pos:String} {after:Array Edge} {g:Option (Nat×Bool)} {x y:Operand} {av:AV} {A:List Chunk}
theorem lq {op:BinOp} {a b:Option Addr} (w:World):(eqGuard op T x y (.pointer a) (.pointer b)).run P w=.ok () w:=by
  unfold eqGuard
  cases op <;> rfl
theorem ug {n:Nat} {El:TypeId} {a:Addr} (hT:P.underlying T=some (.pointer El)) (w:World):(Op.equalIn (n+1) T (.pointer (some a)) (.pointer none)).run P w=.ok false w:=by
  simp only [Op.equalIn,Sem.run_bind,run_underlying hT,Result.andThen_ok,Sem.run_pure]
theorem rV {n:Nat} {El:TypeId} (hT:P.underlying T=some (.pointer El)) (w:World):(Op.equalIn (n+1) T (.pointer none) (.pointer none)).run P w=.ok true w:=by
  simp only [Op.equalIn,Sem.run_bind,run_underlying hT,Result.andThen_ok,Sem.run_pure]
  (try rfl)
theorem vK {n k:Nat} {El:TypeId} {a:Addr} (hT:P.underlying T=some (.pointer El)) (hsz:bO P El=some k) (hk:k≠0) (w:World):(Op.equalIn (n+1) T (.pointer (some a)) (.pointer (some a))).run P w=.ok true w:=by
  simp only [Op.equalIn,Sem.run_bind,run_underlying hT,Result.andThen_ok,Sem.run_pure,bS hsz]
  rw [if_pos hk]
  simp [sameAddr]
theorem mE {El:TypeId} {a:Addr} (hT:P.underlying T=some (.pointer El)) (w:World):(Op.equal T (.pointer (some a)) (.pointer none)).run P w=.ok false w:=ug (n:=9999) hT w
theorem kX {El:TypeId} (hT:P.underlying T=some (.pointer El)) (w:World):(Op.equal T (.pointer none) (.pointer none)).run P w=.ok true w:=rV (n:=9999) hT w
theorem yp {k:Nat} {El:TypeId} {a:Addr} (hT:P.underlying T=some (.pointer El)) (hsz:bO P El=some k) (hk:k≠0) (w:World):(Op.equal T (.pointer (some a)) (.pointer (some a))).run P w=.ok true w:=vK (n:=9999) hT hsz hk w
theorem qd {o off:Nat} {El T' T2:TypeId} (hT:P.underlying T=some (.pointer El)) (hx:opv e x=.pt o off) (hy:opv e y=.v (.pointer none)):OpS P ⟨d,.binOp .eql T x y T',T2,pos,after,g⟩ e (B false):=fun I w ρ hρ=>by
  have h:=hx ▸ hρ x
  have e2:=cf (hy ▸ hρ y)
  generalize e1:ρ x=v at h
  cases h with
  | pt o off b ho =>
    refine ⟨_,.v _,fun w' _ _=>?_⟩
    simp only [execOp,e1,e2,Sem.run_bind,lq,Result.andThen_ok,binOp,mE hT,kX hT,Sem.run_pure]
theorem vE {o off:Nat} {El T' T2:TypeId} (hT:P.underlying T=some (.pointer El)) (hx:opv e x=.pt o off) (hy:opv e y=.v (.pointer none)):OpS P ⟨d,.binOp .neq T x y T',T2,pos,after,g⟩ e (B true):=fun I w ρ hρ=>by
  have h:=hx ▸ hρ x
  have e2:=cf (hy ▸ hρ y)
  generalize e1:ρ x=v at h
  cases h with
  | pt o off b ho =>
    refine ⟨_,.v _,fun w' _ _=>?_⟩
    simp only [execOp,e1,e2,Sem.run_bind,lq,Result.andThen_ok,binOp,mE hT,kX hT,Sem.run_pure]
    (try rfl)
theorem py {El T' T2:TypeId} (hT:P.underlying T=some (.pointer El)) (hx:opv e x=.v (.pointer none)) (hy:opv e y=.v (.pointer none)):OpS P ⟨d,.binOp .eql T x y T',T2,pos,after,g⟩ e (B true):=fun I w ρ hρ=>by
  have e1:=cf (hx ▸ hρ x)
  have e2:=cf (hy ▸ hρ y)
  refine ⟨_,.v _,fun w' _ _=>?_⟩
  simp only [execOp,e1,e2,Sem.run_bind,lq,Result.andThen_ok,binOp,mE hT,kX hT,Sem.run_pure]
  (try rfl)
theorem tZ {El T' T2:TypeId} (hT:P.underlying T=some (.pointer El)) (hx:opv e x=.v (.pointer none)) (hy:opv e y=.v (.pointer none)):OpS P ⟨d,.binOp .neq T x y T',T2,pos,after,g⟩ e (B false):=fun I w ρ hρ=>by
  have e1:=cf (hx ▸ hρ x)
  have e2:=cf (hy ▸ hρ y)
  refine ⟨_,.v _,fun w' _ _=>?_⟩
  simp only [execOp,e1,e2,Sem.run_bind,lq,Result.andThen_ok,binOp,mE hT,kX hT,Sem.run_pure]
  (try rfl)
theorem wK {o off k:Nat} {El T' T2:TypeId} (hT:P.underlying T=some (.pointer El)) (hsz:bO P El=some k) (hk:k≠0) (hx:opv e x=.pt o off) (hy:opv e y=.pt o off):OpS P ⟨d,.binOp .neq T x y T',T2,pos,after,g⟩ e (B false):=fun I w ρ hρ=>by
  have h1:=hx ▸ hρ x
  have h2:=hy ▸ hρ y
  generalize e1:ρ x=v at h1
  generalize e2:ρ y=u at h2
  cases h1 with
  | pt o off b ho =>
    cases h2 with
    | pt o off b' ho' =>
      rw [ho] at ho'; cases ho'
      refine ⟨_,.v _,fun w' _ _=>?_⟩
      simp only [execOp,e1,e2,Sem.run_bind,lq,Result.andThen_ok,binOp,yp hT hsz hk,Sem.run_pure]
      (try rfl)
theorem oS {b:Nat} {arr:List Value} {E:TypeId} (h:CellsAt w b arr) (he:ElemAt w b E):w.shape? b=some (E,arr.length):=by
  obtain ⟨E',fz,h1,_⟩:=h;obtain ⟨c,fz',h2⟩:=he
  rw [h1] at h2; cases h2
  simp [World.shape?,h1]
theorem pA {o off i k:Nat} {cs:List AV} {t src dst T2:TypeId} (hs:P.underlying src=some (.pointer t)) (hd:P.underlying dst=some .unsafePointer) (hsz:bO P t=some k) (hk:k≠0) (hx:opv e x=.pt o off) (hA:A[i]?=some (.obj o cs)) (hoff:off < cs.length) :
    OpR P ⟨d,.convert src dst x,T2,pos,after,g⟩ e A (.pt o off) A:=fun F I w ρ hI hρ=>by
  have h:=hx ▸ hρ x
  generalize e1:ρ x=v at h
  cases h with
  | pt o off b ho =>
    obtain ⟨b',arr,ho',he,hca,hrl⟩:=hI.holds _ (jV hA F)
    rw [ho] at ho'; cases ho'
    obtain ⟨E,hE⟩:∃ E,ElemAt w b E:=by obtain ⟨E,fz,h,_⟩:=hca; exact ⟨E,_,fz,h⟩
    have hsh:=oS hca hE
    refine ⟨_,.pointer (some ⟨b,off,none⟩),w,I,?_,.inl rfl,cj _ _,hI,.pt _ _ _ ho⟩
    have hl:¬ arr.length≤off:=by rw [hrl.1]; omega
    simp only [execOp,e1,Sem.run_bind,convert,run_underlying hs,run_underlying hd,Result.andThen_ok,Conv.unsafePointer,Conv.seenAt,viewAt,run_shape,hsh,Option.isSome_some,if_true,Sem.run_pure,cellsIn,bS hsz]
    simp [hl,hk]
theorem nH {o off i j k:Nat} {cs:List AV} {u E src dst T2:TypeId} (hs:P.underlying src=some .unsafePointer) (hd:P.underlying dst=some (.pointer u)) (hsz:bO P u=some k) (hx:opv e x=.pt o off) (hA:A[i]?=some (.obj o cs)) (hA2:A[j]?=some (.ty o E))
    (hl:liesAt P P.depth E (cs.length / P.cellsOf E) off u 1=true) :
    OpR P ⟨d,.convert src dst x,T2,pos,after,g⟩ e A (.pt o off) A:=fun F I w ρ hI hρ=>by
  have h:=hx ▸ hρ x
  generalize e1:ρ x=v at h
  cases h with
  | pt o off b ho =>
    obtain ⟨b',arr,ho',he,hca,hrl⟩:=hI.holds _ (jV hA F)
    rw [ho] at ho'; cases ho'
    obtain ⟨b2,ho2,hE⟩:=hI.holds _ (jV hA2 F)
    rw [ho] at ho2; cases ho2
    have hsh:=oS hca hE
    refine ⟨_,.pointer (some ⟨b,off,none⟩),w,I,?_,.inl rfl,cj _ _,hI,.pt _ _ _ ho⟩
    have hv:(variablesAt ⟨b,off,none⟩ u 1).run P w=.ok true w:=by
      simp only [variablesAt,Sem.run_bind,run_program,run_shape,hsh,Result.andThen_ok,Sem.run_pure,hrl.1,hl]
    simp only [execOp,e1,Sem.run_bind,convert,run_underlying hs,run_underlying hd,Result.andThen_ok,Conv.unsafePointer,Conv.seenAt,viewAt,run_shape,hsh,Option.isSome_some,if_true,Sem.run_pure,bS hsz,hv,Bool.or_true]
theorem wJ {f:FuncId} {fn:Func} {argTypes:Array TypeId} {a:AV} (hf:P.funcs[f]?=some fn) (hq:(fn.name == "runtime.NumGoroutine")=false∧fn.body.isNone=true∧Extern.findNext fn=none∧Extern.find fn=some Extern.AbiNoEscape.same) (hx:opv e x=a) :
    OpS P ⟨d,.call ⟨.value (.func f),#[x],argTypes⟩,T,pos,after,g⟩ e a:=opS_ext hf hq.1 hq.2.1 hq.2.2.1 hq.2.2.2 fun I w ρ hρ=>⟨ρ x,hx ▸ hρ x,fun w' _=>by rw [show (#[x].map ρ) = #[ρ x] by simp]; rfl⟩
theorem mR (l:List UInt8):Enc.byte.fl l=l.map fun c=>u8 c:=by
  induction l with
  | nil=>rfl
  | cons c s ih=>rw [eu,ih]; rfl
theorem hY {l:List UInt8} {t i:Nat} {El El':TypeId} (hT:P.underlying T=some (.pointer El')) (hx:opv e x=slE Enc.byte l (some t)) (hA:A[i]?=some (.tok t El)) {Ts:Array TypeId} :
    OpR P ⟨d,.call ⟨.builtin .unsafeSliceData,#[x],Ts⟩,T,pos,after,g⟩ e A (.rp (slE Enc.byte l (some t))) A:=fun F I w ρ hI hρ=>by
  have h:=hx ▸ hρ x
  generalize e1:ρ x=v at h
  have hex:∀ p w',(Builtin.unsafeSliceData_ Ts T #[v]).run P w=.ok (.pointer p) w'→(execOp ρ ⟨d,.call ⟨.builtin .unsafeSliceData,#[x],Ts⟩,T,pos,after,g⟩).run P w=.ok (.value (.pointer p)) w':=fun p w' hp=>by
    simp only [execOp,resolve,List.map_toArray,List.map_cons,List.map_nil,Sem.run_bind,Sem.run_pure,Result.andThen_ok,invoke,builtin,e1,hp]
  have h':=h
  unfold slE at h
  generalize hcs:Enc.byte.fl l=cs at h
  cases h with
  | slnil k t ht=>exact ⟨_,_,w,I,hex _ _ rfl,.inl rfl,cj _ _,hI,.rp _ _ _ _ _ h' (.inl rfl)⟩
  | sl k cs t' b off len cap f hk hlen hcap hst hxx hr ht =>
    obtain ⟨htk,rfl⟩:=ht t rfl
    by_cases hc:cap=0
    · obtain ⟨ob,n,c,ht2,_,hh⟩:=hI.holds _ (jV hA F)
      rw [htk] at ht2; cases ht2
      obtain ⟨_,_,arr,hca,hal,hE⟩:=hh b rfl
      have hsh:=oS hca hE
      subst hc;exact ⟨_,_,_,_,hex _ _ (Go.Lib.run_unsafeSliceData_zero w _ _ _ hT _ _ _ hsh),.inl rfl,hI.new_still _,hI.alloc_still _,.rp _ _ _ _ _ (h'.mono (hI.new_still _)) (.inr rfl)⟩
    · exact ⟨_,_,w,I,hex _ _ (Go.Lib.run_unsafeSliceData_row w _ _ _ _ _ hc),.inl rfl,cj _ _,hI,.rp _ _ _ _ _ h' (.inl rfl)⟩
theorem Inv.freeze_tok {t b n c m:Nat} {E0:TypeId} (h:Inv I (.tok t E0::A) w) (ht:I.tok t=some (some b,n,c)):Ext I w I (w.freeze ⟨b,0,none⟩ m)∧Inv I A (w.freeze ⟨b,0,none⟩ m):=by
  obtain ⟨ob,n',c',ht2,_,hh⟩:=h.holds _ (List.mem_cons_self ..)
  rw [ht] at ht2; cases ht2
  obtain ⟨he,hnc,arr,hca,hl⟩:=hh b rfl
  have hsz:(w.freeze ⟨b,0,none⟩ m).heap.size=w.heap.size:=by unfold World.freeze; split <;> simp
  have hrest:(w.freeze ⟨b,0,none⟩ m).os=w.os∧(w.freeze ⟨b,0,none⟩ m).tape=w.tape∧(w.freeze ⟨b,0,none⟩ m).output=w.output:=by unfold World.freeze; split <;> simp
  have X:Ext I w I (w.freeze ⟨b,0,none⟩ m):=by
    refine ⟨hrest.1,hrest.2.1,hrest.2.2,by omega,fun b' hb'=>⟨ko _ _ _ _ (fun e=>by simp only at e; rw [e,he] at hb'; cases hb'),hb'⟩,fun b' j' _=>rF _ _ _ _,fun _ _ h=>h,fun _ _ h=>h,fun _ _ h=>h,fun _ _ h=>h.freeze _ _⟩
  refine ⟨X,(h.sub (List.sublist_cons_self ..)).keep X (fun d hd b' hb'=>⟨ko _ _ _ _ (fun e=>?_),rfl⟩) (fun b' hb'=>h.fresh b' (by omega)) h.ids⟩;exact h.apart (c:=.tok t E0) (b:=b) (by simp [Chunk.blk,ht]) d hd (by simp only at e; rw [← e]; exact hb')
theorem eO {l:List UInt8} {t i pt T3:Nat} {n:Int} {El:TypeId} (hp:P.underlying pt=some (.pointer El)) (hc1:P.cellsOf El=1) (hx:opv e x=.rp (slE Enc.byte l (some t))) (hy:opv e y=i64 n) (hn:n=l.length) (hl:l.length≤9223372036854775807) (hA:A[i]?=some (.tok t El)) :
    OpR P ⟨d,.call ⟨.builtin .unsafeString,#[x,y],#[pt,T3]⟩,T,pos,after,g⟩ e A (S l) (A.eraseIdx i):=fun F I w ρ hI hρ=>by
  have h:=hx ▸ hρ x
  have e2:=cf (hy ▸ hρ y)
  subst hn
  generalize e1:ρ x=v at h
  have hI2:=hI.take_at hA
  cases h with
  | rp a ad len cap p hr hpp =>
    have hex:∀ s w',(Builtin.unsafeString_ #[pt,T3] T #[.pointer p,.int .i64 l.length]).run P w=.ok (.string s) w'→(execOp ρ ⟨d,.call ⟨.builtin .unsafeString,#[x,y],#[pt,T3]⟩,T,pos,after,g⟩).run P w=.ok (.value (.string s)) w':=fun s w' hp=>by
      simp only [execOp,resolve,List.map_toArray,List.map_cons,List.map_nil,Sem.run_bind,Sem.run_pure,Result.andThen_ok,invoke,builtin,e1,e2,hp]
    by_cases h0:l.length=0
    · have hl0:l=[]:=List.eq_nil_of_length_eq_zero h0
      subst hl0;refine ⟨_,.string .empty,w,I,hex _ _ ?_,.inl rfl,cj _ _,hI2.sub (List.sublist_cons_self ..),.v _⟩;exact Go.Lib.run_unsafeString_none w _ _ _ p
    · unfold slE at hr
      generalize hcs:Enc.byte.fl l=cs at hr
      cases hr with
      | slnil k t ht=>rw [mR] at hcs; simp at hcs; exact absurd (by rw [hcs]; rfl) h0
      | sl k cs t' b off len cap f hk hlen hcap hst hxx hr ht =>
        obtain ⟨htk,rfl⟩:=ht t rfl
        have hcl:cs.length=l.length:=by rw [← hcs,mR]; simp
        have hp0:p=some ⟨b,0,none⟩:=by
          rcases hpp with h | h
          · exact h
          · have:len*1=cs.length:=hlen
            omega
        subst hp0;obtain ⟨ob,n,c,ht2,_,hh⟩:=hI2.holds _ (List.mem_cons_self ..)
        rw [htk] at ht2; cases ht2
        obtain ⟨_,hnc,arr,hca,hal,hE⟩:=hh b rfl
        have hsh:=oS hca hE
        obtain ⟨X,hI3⟩:=hI2.freeze_tok (m:=l.length) htk;refine ⟨_,.string ⟨l.toArray⟩,_,I,hex _ _ ?_,.inl rfl,X,hI3,.v _⟩
        refine Go.Lib.run_unsafeString_row w _ _ _ _ hp hc1 _ _ hsh l (fun h=>h0 (by rw [h]; rfl)) (by omega) hl fun j c hj=>?_
        have hjl:j < l.length:=(List.getElem?_eq_some_iff.1 hj).1
        have h1:=hxx j (by omega)
        have h2:=hr j (by omega)
        rw [df]
        rw [h1]
        have h3:cs[j]'(by omega)=u8 c:=by
          have:cs[j]?=some (u8 c):=by rw [← hcs,mR]; simp [hj]
          exact (List.getElem?_eq_some_iff.1 this).2
        rw [h3] at h2
        exact congrArg some (cf h2)
theorem pJ {zs:List Value} {T2:TypeId} (hz:zeroCells P T=some zs):OpX P ⟨d,.alloc T,T2,pos,after,g⟩ e A (fun av A'=>∃ o,av=.pt o 0∧A'=.obj o (zs.map AV.v)::.ty o T::A):=fun F I w ρ hI hρ=>by
  obtain ⟨o,ho⟩:=hI.fresh_obj;obtain ⟨z,hrun,rfl⟩:=pu hz w
  have hI':=hI.alloc_obj ho T (lP z.cells.toList)
  have hty:(Chunk.ty o T).Holds (I.putObj o w.heap.size) (w.alloc (.cells z.cells.toList.toArray T)):=⟨w.heap.size,by simp [Info.putObj],_,_,cT _ _⟩
  have hI2:Inv (I.putObj o w.heap.size) (.ty o T::.obj o (z.cells.toList.map AV.v)::(A++F)) (w.alloc (.cells z.cells.toList.toArray T)):=Inv.cons hI' hty (fun b hb=>by cases hb)
  refine ⟨_,.pointer (some ⟨w.heap.size,0,none⟩),_,_,_,_,?_,.inl rfl,hI.new_obj ho _,hI2.perm (List.Perm.swap _ _ _),.pt o 0 _ (by simp [Info.putObj]),o,rfl,rfl⟩
  simp only [execOp,Instr.alloc,newVar,newRow,Sem.run_bind,Sem.run_pure,hrun,run_newObj_alloc,Result.andThen_ok]
theorem ACalls.conv {f:FuncId} {args:List AV} {R R':AE→List Chunk→Prop} (h:ACalls P f args A R) (hc:∀ ae A',R ae A'→∀ F I w,Inv I (A'++F) w→∃ I' A'',Ext I w I' w∧Inv I' (A''++F) w∧R' ae A''):ACalls P f args A R':=fun F I w vs hI hv =>
  (h F I w vs hI hv).mono fun e w' ⟨I1,ae,A',E,hI1,hre,hR⟩=>by
    obtain ⟨I2,A'',E2,hI2,hR2⟩:=hc ae A' hR F I1 w' hI1;refine ⟨I2,ae,A'',E.trans E2,hI2,?_,hR2⟩
    cases ae with
    | ret v=>cases e with
      | returned u=>exact Rel.mono E2 hre
      | panicked c=>exact hre.elim
      | outgrown=>exact hre.elim
    | pan c=>cases e with
      | returned u=>exact hre.elim
      | panicked c'=>exact hre
      | outgrown=>exact hre.elim
theorem wX {o:Nat} {cs:List AV} (hI:Inv I (.obj o cs::A) w) (j k:Nat) (Ty:TypeId) (hj:cs[j]?=some (.v (.slice none 0 0))) :
    ∃ I' t,Ext I w I' w∧Inv I' (.tok t Ty::.obj o (cs.set j (.sl k [] (some t)))::A) w:=by
  obtain ⟨t,ht⟩:=hI.fresh_tok;obtain ⟨E,hI'⟩:=hI.nil_tok ht Ty;refine ⟨I.nilTok t,t,E,?_⟩
  have hp:Inv (I.nilTok t) (.obj o cs::.tok t Ty::A) w:=hI'.perm (List.Perm.swap _ _ _)
  have hK:Inv (I.nilTok t) (.obj o (cs.set j (.sl k [] (some t)))::.tok t Ty::A) w:=by
    refine Inv.cons (hp.sub (List.sublist_cons_self ..)) ?_ (fun b hb d hd e=>?_)
    · obtain ⟨b,arr,ho,he,hc,hr⟩:=hp.holds _ (List.mem_cons_self ..)
      refine ⟨b,arr,ho,he,hc,by simp [hr.1],fun i hi=>?_⟩
      have hi':i < cs.length:=by simpa using hi
      by_cases hij:j=i
      · subst hij
        simp only [List.getElem_set_self]
        have:=hr.2 j hi'
        have hcj:cs[j]=.v (.slice none 0 0):=(List.getElem?_eq_some_iff.1 hj).2
        rw [hcj] at this
        generalize arr.getD j undef=x at this
        cases this
        exact .slnil k t (by simp [Info.nilTok])
      · rw [List.getElem_set_ne hij]; exact hr.2 i hi'
    · exact hp.apart (c:=.obj o cs) (b:=b) hb d hd e
  exact hK.perm (List.Perm.swap _ _ _)
end
end Go.Av
namespace Go.Av
open Go.RowKit
section
variable {P:Program} {I:Info} {w:World} {e:Env} {d:Option Nat} {T:TypeId} {pos:String} {after:Array Edge} {g:Option (Nat×Bool)} {x y:Operand} {av:AV} {A:List Chunk}
theorem lU {f:FuncId} {fn:Func} {argTypes:Array TypeId} {n:Int} {m:Nat} {t0 El:TypeId} {ps:Array TypeId} (hf:P.funcs[f]?=some fn)
    (hq:(fn.name == "runtime.NumGoroutine")=false∧fn.body.isNone=true∧Extern.findNext fn=none∧Extern.find fn=some (Extern.BytealgMakeNoZero.makeNoZero ps #[t0])) (hT:P.underlying t0=some (.slice El))
    (hx:opv e x=i64 n) (hn:n=m) (hm:m≤140737488355328) :
    OpX P ⟨d,.call ⟨.value (.func f),#[x],argTypes⟩,T,pos,after,g⟩ e A (fun av A'=>∃ t,av=.mk t m∧A'=.tok t El::A):=fun F I w ρ hI hρ=>by
  have e1:=cf (hx ▸ hρ x)
  have h0:=cf (hρ (.func f))
  subst hn;obtain ⟨t,ht⟩:=hI.fresh_tok;obtain ⟨cs,hrun,hge,_⟩:=Go.Lib.run_makeNoZero w ps t0 El hT m (by omega)
  have hID:=hI.drew.drew
  have X:=hID.new_row ht 0 cs.toList.length (.cells cs El)
  have hI':=hID.alloc_row ht 0 cs.toList El (0,0) (Nat.zero_le _) (.inl rfl)
  refine ⟨_,.slice (some ⟨w.heap.size,0,none⟩) m cs.size,_,_,_,_,?_,.inl rfl,((Ext.drew I w).trans (Ext.drew I w.drew)).trans X,hI',?_,t,rfl,rfl⟩
  · simp only [execOp,resolve,h0,Deferred.ofValue,Sem.run_bind,Sem.run_pure,Result.andThen_ok,invoke]
    simp only [Array.empty_append,Array.append_empty,List.map_toArray,List.map_cons,List.map_nil,e1]
    rw [run_callFunc_extern hf hq.1 hq.2.1 hq.2.2.1 hq.2.2.2,hrun]
    rfl
  · refine .mk t m _ cs.size ?_
    simp [Info.putTok]
    try rfl
theorem nw {α:Type} {E:Enc α} {t m:Nat} {q':IntKind} {n':Int} {z:Operand} {El T2:TypeId} (hT:P.underlying T=some (.slice El)) (hsz:bO P El=some E.k) (hk:E.k=1) (hx:opv e x=.mk t m)
    (hz:opv e z=.v (.int q' n')) (hn':n'=0):OpS P ⟨d,.slice T x none (some z) none,T2,pos,after,g⟩ e (slE E [] (some t)):=fun I w ρ hρ=>by
  have h:=hx ▸ hρ x
  have e3:=cf (hz ▸ hρ z)
  generalize e1:ρ x=v at h
  cases h with
  | mk t m b c ht =>
    refine ⟨.slice (some ⟨b,0,none⟩) 0 c,?_,fun w' _ _=>?_⟩
    · refine .sl E.k [] (some t) b 0 0 c (fun _=>undef) E.pos (by simp) (Nat.zero_le _) (fun m hm=>by simp) (fun j hj=>by simp at hj) (fun j hj=>by simp at hj) (fun t' h=>?_)
      cases h
      exact ⟨by rw [ht,hk]; simp,rfl⟩
    · subst hn'
      have hb:∀ top code w,(Instr.sliceBound (.int q' 0) top code).run P w=.ok 0 w:=fun top code w=>ia (m:=0) rfl (Nat.zero_le _) w
      simp only [execOp,e1,e3,Option.map_some,Option.map_none,Instr.sliceAt,Instr.slice,Instr.sliceBounds,run_underlying hT,Sem.run_bind,Sem.run_pure,Result.andThen_ok,hb,bS hsz]
      by_cases hc:c=0 <;> simp [hc,df]
theorem kb {El T2:TypeId} (hT:P.underlying T=some (.slice El)) (hx:opv e x=aj):OpS P ⟨d,.call ⟨.builtin .cap,#[x],#[T]⟩,T2,pos,after,g⟩ e (i64 0):=fun I w ρ hρ=>by
  have e1:=cf (hx ▸ hρ x)
  refine ⟨_,.v _,fun w' _ _=>?_⟩
  simp only [execOp,resolve,List.map_toArray,List.map_cons,List.map_nil,e1,Sem.run_bind,Sem.run_pure,Result.andThen_ok,invoke,builtin,Builtin.cap_,List.getElem?_toArray,List.getElem?_cons_zero,run_underlying hT]
  rfl
theorem mJ {α:Type} {E:Enc α} {t:Option Nat} {El T2 T3:TypeId} (hT:P.underlying T=some (.slice El)) (hsz:bO P El=some E.k) (hx:opv e x=slE E [] t) (hy:opv e y=aj) :
    OpS P ⟨d,.call ⟨.builtin .copy,#[x,y],#[T,T2]⟩,T3,pos,after,g⟩ e (i64 0):=fun I w ρ hρ=>by
  obtain ⟨a,cap,xs,e1,hcap,hrl,hor⟩:=mO (hx ▸ hρ x)
  have e2:=cf (hy ▸ hρ y)
  refine ⟨_,.v _,fun w' _ _=>uK ?_⟩
  rw [e1,e2]
  have hst:∀ b:Addr,(storeCells b ([]:List Value)).run P w'=.ok () w':=fun b=>rfl
  cases a with
  | none=>simp [Builtin.copy_,run_underlying hT,bS hsz,Builtin.lenOf,Builtin.firstCells]; rfl
  | some a=>simp [Builtin.copy_,run_underlying hT,bS hsz,Builtin.lenOf,Builtin.firstCells,hst]; rfl
theorem bW {a:AV} {D:TypeDesc} {T2:TypeId} (hT:P.underlying T=some D) (hD:(match D with | .interface _=>true | _=>false)=false) (hx:opv e x=a):OpS P ⟨d,.makeInterface T x,T2,pos,after,g⟩ e (.ifc T a):=fun I w ρ hρ=>by
  refine ⟨_,.ifc T a _ (hx ▸ hρ x),fun w' _ _=>?_⟩
  cases D <;> first | (exfalso; simp at hD; done) | simp only [execOp,Instr.makeInterface,Sem.run_bind,run_underlying hT,Result.andThen_ok,Sem.run_pure]
end
end Go.Av
namespace Go.Av
open Go.RowKit
section
variable {P:Program} {f:FuncId} {avs:List AV}
theorem Ext.below {I:Info} {A:List Chunk} {w w':World} (hI:Inv I A w) (b:Below w.heap.size w w') (he:∀ c E,ElemAt w c E→c < w.heap.size):Ext I w I w':=by
  refine ⟨b.os,b.tape,b.output,b.size,fun c hc=>⟨?_,hc⟩,fun c j hj=>?_,fun _ _ h=>h,fun _ _ h=>h,fun _ _ h=>h,fun c E hE=>?_⟩
  · have:c < w.heap.size:=Nat.lt_of_not_le fun h=>by rw [hI.fresh c h] at hc; cases hc
    exact b.block c this
  · have:c < w.heap.size:=Nat.lt_of_not_le fun h=>by have:=hj 0 (hI.fresh c h); omega
    simp only [World.cell?,b.block c this]
  · obtain ⟨d,fz,h⟩:=hE
    exact ⟨d,fz,(b.block c (Array.getElem?_eq_some_iff.1 h).1).trans h⟩
theorem Inv.below {I:Info} {A:List Chunk} {w w':World} (hI:Inv I A w) (b:Below w.heap.size w w'):Ext I w I w'∧Inv I A w':=by
  have X:=Ext.below hI b fun c E ⟨d,fz,h⟩=>(Array.getElem?_eq_some_iff.1 h).1
  exact ⟨X,hI.keep X (fun c hc k hk=>⟨b.block k ((hI.holds c hc).blk_lt hk),rfl⟩) (fun k hk=>hI.fresh k (Nat.le_trans b.size hk)) hI.ids⟩
theorem fF {v:Value} (h:∀ I A w vs,Inv I A w→RelL I w avs vs→Calls P f vs.toArray w fun e w'=>e=.returned v∧Below w.heap.size w w'):ACalls P f avs [] (Ret (.v v) []):=fun F I w vs hI hv =>
  (h I F w vs hI hv).mono fun e w' ⟨he,hb⟩=>by
    subst he;obtain ⟨X,hI'⟩:=Inv.below hI hb;exact ⟨I,.ret (.v v),[],X,hI',.v _,rfl,rfl⟩
theorem lC {rs:List Value} {v:Value} (hv0:v=.tuple rs.toArray) (h:∀ I A w vs,Inv I A w→RelL I w avs vs→Calls P f vs.toArray w fun e w'=>e=.returned v∧Below w.heap.size w w'):ACalls P f avs [] (Ret (.tup (rs.map AV.v)) []):=fun F I w vs hI hv =>
  (h I F w vs hI hv).mono fun e w' ⟨he,hb⟩=>by
    subst he;obtain ⟨X,hI'⟩:=Inv.below hI hb;refine ⟨I,.ret (.tup (rs.map AV.v)),[],X,hI',?_,rfl,rfl⟩;subst hv0
    have:=lP (I:=I) (w:=w') rs
    exact .tup _ _ this.1 this.2
theorem uG {I:Info} {A:List Chunk} {w:World} (hI:Inv I A w) {g:Nat} {k:IntKind} {r:List AV} (hg:G g=some (.anyk k::r)):∃ m:Int,w.cell? ⟨g,0,none⟩=some (.int k m):=by
  have h:Rel I w (.cp _) _:=hI.glob g _ hg
  generalize hp:Value.pointer (some ⟨g,0,none⟩)=p at h
  cases h with
  | cp cs b off xs hst hx hr =>
    cases hp
    have h0:=hx 0 (by simp)
    have h1:=hr 0 (by simp)
    simp only [List.getElem_cons_zero] at h1
    generalize xs 0=u at h0 h1
    cases h1 with
    | anyk k n=>exact ⟨n,h0⟩
theorem kD {I:Info} {w:World} {s:List UInt8} {v:Value} (h:Rel I w (S s) v):v=.string ⟨s.toArray⟩:=cf h
theorem Below.drewN (w:World):∀ n,Below w.heap.size w (w.drewN n):=fun n=>by
  have:∀ n,(w.drewN n).heap=w.heap∧(w.drewN n).os=w.os∧(w.drewN n).tape=w.tape∧(w.drewN n).output=w.output:=fun n=>⟨rfl,rfl,rfl,rfl⟩
  obtain ⟨h1,h2,h3,h4⟩:=this n;exact ⟨h2,h3,h4,by rw [h1]; exact Nat.le_refl _,fun k _=>by rw [h1]⟩
theorem mV {av:AV} (h:∀ I A w vs,Inv I A w→RelL I w avs vs→Calls P f vs.toArray w fun e w'=>∃ v,e=.returned v∧(∀ I w,Rel I w av v)∧Below w.heap.size w w'):ACalls P f avs [] (Ret av []):=fun F I w vs hI hv =>
  (h I F w vs hI hv).mono fun e w' ⟨v,he,hr,hb⟩=>by
    subst he;obtain ⟨X,hI'⟩:=Inv.below hI hb;exact ⟨I,.ret av,[],X,hI',hr _ _,rfl,rfl⟩
theorem uH {I:Info} {A:List Chunk} {w:World} (hI:Inv I A w) {g:Nat} {r:List AV} (hg:G g=some (.anyi::r)):∃ v,w.cell? ⟨g,0,none⟩=some v∧(v=.nilIface∨∃ t p,v=.iface t p):=by
  have h:Rel I w (.cp _) _:=hI.glob g _ hg
  generalize hp:Value.pointer (some ⟨g,0,none⟩)=p at h
  cases h with
  | cp cs b off xs hst hx hr =>
    cases hp
    have h0:=hx 0 (by simp)
    have h1:=hr 0 (by simp)
    simp only [List.getElem_cons_zero] at h1
    generalize xs 0=u at h0 h1
    cases h1 with
    | anyi0=>exact ⟨_,h0,.inl rfl⟩
    | anyi1 t v=>exact ⟨_,h0,.inr ⟨t,v,rfl⟩⟩
end
end Go.Av
namespace Go.Av
open Go.RowKit
section
variable {P:Program} {I:Info} {w:World} {e:Env} {d:Option Nat} {T:TypeId} {pos:String} {after:Array Edge} {g:Option (Nat×Bool)} {x y:Operand} {av:AV} {A:List Chunk}
theorem px {s:List UInt8} {T2:TypeId} (hT:P.underlying T=some .string) (hx:opv e x=S s):OpX P ⟨d,.range T x,T2,pos,after,g⟩ e A (fun av A'=>∃ o,av=.pt o 0∧A'=.iter o s 0::A):=fun F I w ρ hI hρ=>by
  obtain ⟨o,ho⟩:=hI.fresh_obj
  have e1:=cf (hx ▸ hρ x)
  refine ⟨_,.pointer (some ⟨w.heap.size,0,none⟩),_,_,_,_,?_,.inl rfl,hI.new_obj ho _,hI.alloc_iter ho s 0,.pt o 0 _ (by simp [Info.putObj]),o,rfl,rfl⟩
  simp only [execOp,e1,run_range_string w T _ hT,Sem.run_bind,Result.andThen_ok,Sem.run_pure]
  rfl
theorem ua {s:List UInt8} {o i p:Nat} (hx:opv e x=.pt o 0) (hA:A[i]?=some (.iter o s p)) (hp:p < s.length) :
    OpR P ⟨d,.next x true,T,pos,after,g⟩ e A (.tup [B true,i64 p,.v (.int .i32 (Utf8.decode ⟨s.toArray⟩ p).1)]) (A.set i (.iter o s (p+(Utf8.decode ⟨s.toArray⟩ p).2))):=fun F I w ρ hI hρ=>by
  have h:=hx ▸ hρ x
  generalize e1:ρ x=v at h
  cases h with
  | pt o off b ho =>
    have hI2:=hI.take_at hA
    obtain ⟨b',ho',he,hh⟩:=hI2.holds _ (List.mem_cons_self ..)
    rw [ho] at ho'; cases ho'
    have hlt:=(Array.getElem?_eq_some_iff.1 hh).1
    have hsz:(⟨s.toArray⟩:ByteArray).size=s.length:=by simp [ByteArray.size]
    have hrun:(Instr.next (.pointer (some ⟨b,0,none⟩)) true T).run P w=.ok (.tuple #[.bool true,.int .i64 p,.int .i32 (Utf8.decode ⟨s.toArray⟩ p).1]) { w with heap:=w.heap.setIfInBounds b (.stringIter ⟨s.toArray⟩ (p+(Utf8.decode ⟨s.toArray⟩ p).2)) }:=by
      simp only [Instr.next,getObj,setObj,Sem.run_bind,Sem.run,hh,Result.andThen,hsz,hp,if_true]
      simp [goInt]
    obtain ⟨X,hI3⟩:=hI2.set_iter (pos':=p+(Utf8.decode ⟨s.toArray⟩ p).2) ho (w':={ w with heap:=w.heap.setIfInBounds b (.stringIter ⟨s.toArray⟩ (p+(Utf8.decode ⟨s.toArray⟩ p).2)) }) rfl rfl rfl (by simp)
      (fun b' hb'=>by simp only []; rw [Array.getElem?_setIfInBounds_ne (Ne.symm hb')]) (by simp [hlt])
    refine ⟨_,_,_,I,?_,.inl rfl,X,eG hA hI3,.tup _ [.bool true,.int .i64 p,.int .i32 (Utf8.decode ⟨s.toArray⟩ p).1] rfl (fun j hj=>?_)⟩
    · simp only [execOp,e1,hrun,Sem.run_bind,Result.andThen_ok,Sem.run_pure]
    · match j,hj with
      | 0,_=>exact .v _
      | 1,_=>exact .v _
      | 2,_=>exact .v _
theorem ub {s:List UInt8} {o i p:Nat} (hx:opv e x=.pt o 0) (hA:A[i]?=some (.iter o s p)) (hp:¬ p < s.length) :
    OpR P ⟨d,.next x true,T,pos,after,g⟩ e A (.tup [B false]) A:=fun F I w ρ hI hρ=>by
  have h:=hx ▸ hρ x
  generalize e1:ρ x=v at h
  cases h with
  | pt o off b ho =>
    have hI2:=hI.take_at hA
    obtain ⟨b',ho',he,hh⟩:=hI2.holds _ (List.mem_cons_self ..)
    rw [ho] at ho'; cases ho'
    have hsz:(⟨s.toArray⟩:ByteArray).size=s.length:=by simp [ByteArray.size]
    have hrun:(Instr.next (.pointer (some ⟨b,0,none⟩)) true T).run P w=.ok (.tuple #[.bool false]) w:=by
      simp only [Instr.next,getObj,setObj,Sem.run_bind,Sem.run,hh,Result.andThen,hsz,hp,if_false]
      rfl
    refine ⟨_,_,w,I,?_,.inl rfl,cj _ _,hI,.tup _ [.bool false] rfl (fun j hj=>?_)⟩
    · simp only [execOp,e1,hrun,Sem.run_bind,Result.andThen_ok,Sem.run_pure]
    · match j,hj with
      | 0,_=>exact .v _
end
end Go.Av
namespace Go.Pv
variable {α β γ δ ε ρ σ:Type}
def grd (b:Bool) (k:Option ρ):Option ρ:=bif b then k else none
def fq (c b:Bool) (k:Option ρ):Option ρ:=bif !c||b then k else none
def lt (a:α) (f:α→Option ρ):Option ρ:=f a
def bnd (a:Option α) (f:α→Option ρ):Option ρ:=match a with | some x=>f x | none=>none
def iE (a:Option (α×β)) (f:α→β→Option ρ):Option ρ:=match a with | some x=>f x.1 x.2 | none=>none
def rN (a:Option (α×β×γ)) (f:α→β→γ→Option ρ):Option ρ:=match a with | some x=>f x.1 x.2.1 x.2.2 | none=>none
def bnd4 (a:Option (α×β×γ×δ)) (f:α→β→γ→δ→Option ρ):Option ρ:=match a with | some x=>f x.1 x.2.1 x.2.2.1 x.2.2.2 | none=>none
def bnd5 (a:Option (α×β×γ×δ×ε)) (f:α→β→γ→δ→ε→Option ρ):Option ρ:=match a with | some x=>f x.1 x.2.1 x.2.2.1 x.2.2.2.1 x.2.2.2.2 | none=>none
def lL [Inhabited α] (c:Bool) (a:Option α) (f:α→Option ρ):Option ρ:=bif c then bnd a f else f default
def loop (body:(σ→Option ρ)→σ→Option ρ):Nat→σ→Option ρ
  | 0,_=>none
  | n+1,x=>body (loop body n) x
def at_ [Inhabited α] (l:List α) (i:Int):α:=l.getD i.toNat default
def sub (l:List α) (a b:Int):List α:=(l.take b.toNat).drop a.toNat
def gW (l:List α) (a:Int):List α:=l.drop a.toNat
def to_ (l:List α) (b:Int):List α:=l.take b.toNat
def okI (n:Int):Bool:=decide (-9223372036854775808≤n∧n≤9223372036854775807)
def okJ (n:Int):Bool:=decide (-2147483648≤n∧n≤2147483647)
def co (i:Int) (n:Nat):Bool:=decide (0≤i∧i < n)
def mG (a b:Int) (n:Nat):Bool:=decide (0≤a∧a≤b∧b≤n)
def mb (b:Int) (n:Nat):Bool:=decide (0≤b∧b≤n)
def cI (n:Nat):Bool:=decide (n≤100000000000)
def kE (a b:Int):Bool:=decide (0≤a∧a≤9223372036854775807∧1≤b)
theorem aI {b:Bool} {k:Option ρ} {r:ρ} (H:grd b k=some r):b=true∧k=some r:=by
  cases b
  · cases H
  · exact ⟨rfl,H⟩
theorem cP {c b:Bool} {k:Option ρ} {r:ρ} (H:fq c b k=some r):(c=true→b=true)∧k=some r:=by
  cases c
  · exact ⟨fun h=>by (cases h),H⟩
  · cases b
    · cases H
    · exact ⟨fun _=>rfl,H⟩
theorem bz {a:α} {f:α→Option ρ} {r:ρ} (H:lt a f=some r):∃ x,a=x∧f x=some r:=⟨a,rfl,H⟩
theorem cm {a:Option α} {f:α→Option ρ} {r:ρ} (H:bnd a f=some r):∃ x,a=some x∧f x=some r:=by
  cases a with
  | none=>cases H
  | some x=>exact ⟨x,rfl,H⟩
theorem dd {a:Option (α×β)} {f:α→β→Option ρ} {r:ρ} (H:iE a f=some r):∃ x y,a=some (x,y)∧f x y=some r:=by
  cases a with
  | none=>cases H
  | some x=>exact ⟨_,_,rfl,H⟩
theorem mh {a:Option (α×β×γ)} {f:α→β→γ→Option ρ} {r:ρ} (H:rN a f=some r):∃ x y z,a=some (x,y,z)∧f x y z=some r:=by
  cases a with
  | none=>cases H
  | some x=>exact ⟨_,_,_,rfl,H⟩
theorem bnd4_s {a:Option (α×β×γ×δ)} {f:α→β→γ→δ→Option ρ} {r:ρ} (H:bnd4 a f=some r):∃ x y z u,a=some (x,y,z,u)∧f x y z u=some r:=by
  cases a with
  | none=>cases H
  | some x=>exact ⟨_,_,_,_,rfl,H⟩
theorem bnd5_s {a:Option (α×β×γ×δ×ε)} {f:α→β→γ→δ→ε→Option ρ} {r:ρ} (H:bnd5 a f=some r):∃ x y z u v,a=some (x,y,z,u,v)∧f x y z u v=some r:=by
  cases a with
  | none=>cases H
  | some x=>exact ⟨_,_,_,_,_,rfl,H⟩
theorem fZ [Inhabited α] {c:Bool} {a:Option α} {f:α→Option ρ} {r:ρ} (H:lL c a f=some r):∃ x,(c=true→a=some x)∧f x=some r:=by
  cases c
  · exact ⟨default,fun h=>by (cases h),H⟩
  · obtain ⟨x,h1,h2⟩:=cm H
    exact ⟨x,fun _=>h1,h2⟩
theorem be {b:Bool} {x y:Option ρ} {r:ρ} (h:b=true) (H:(bif b then x else y)=some r):x=some r:=by subst h; exact H
theorem bf {b:Bool} {x y:Option ρ} {r:ρ} (h:b=false) (H:(bif b then x else y)=some r):y=some r:=by subst h; exact H
theorem cO {body:(σ→Option ρ)→σ→Option ρ} {n:Nat} {x:σ} {r:ρ} (H:loop body n x=some r):∃ m,n=m+1∧body (loop body m) x=some r:=by
  cases n with
  | zero=>cases H
  | succ n=>exact ⟨n,rfl,H⟩
theorem pd {i:Int} {n:Nat} (h:co i n=true):0≤i∧i < n:=of_decide_eq_true h
theorem okSub_s {a b:Int} {n:Nat} (h:mG a b n=true):0≤a∧a≤b∧b≤n:=of_decide_eq_true h
theorem wj {b:Int} {n:Nat} (h:mb b n=true):0≤b∧b≤n:=of_decide_eq_true h
theorem xK {n:Int} (h:okI n=true) : -9223372036854775808≤n∧n≤9223372036854775807:=of_decide_eq_true h
theorem okJ_s {n:Int} (h:okJ n=true) : -2147483648≤n∧n≤2147483647:=of_decide_eq_true h
theorem pj {n:Nat} (h:cI n=true):n≤100000000000:=of_decide_eq_true h
theorem vY {a b:Int} (h:kE a b=true):0≤a∧a≤9223372036854775807∧1≤b:=of_decide_eq_true h
inductive Res (ρ:Type) where
  | ok (x:ρ)
  | pan (e:Int)
def hZ (a:Option (Res α)) (f:α→Option (Res ρ)):Option (Res ρ):=match a with
  | some (.ok x)=>f x
  | some (.pan e)=>some (.pan e)
  | none=>none
theorem dE {a:Option (Res α)} {f:α→Option (Res ρ)} {r:Res ρ} (H:hZ a f=some r):(∃ x,a=some (.ok x)∧f x=some r)∨(∃ e,a=some (.pan e)∧.pan e=r):=by
  cases a with
  | none=>cases H
  | some x=>cases x with
    | ok x=>exact .inl ⟨x,rfl,H⟩
    | pan e=>exact .inr ⟨e,rfl,Option.some.inj H⟩
def bndk (a:Option (Res α)) (k:Int→Option ρ) (f:α→Option ρ):Option ρ:=match a with
  | some (.ok x)=>f x
  | some (.pan e)=>k e
  | none=>none
theorem bndk_s {a:Option (Res α)} {k:Int→Option ρ} {f:α→Option ρ} {r:ρ} (H:bndk a k f=some r):(∃ x,a=some (.ok x)∧f x=some r)∨(∃ e,a=some (.pan e)∧k e=some r):=by
  cases a with
  | none=>cases H
  | some x=>cases x with
    | ok x=>exact .inl ⟨x,rfl,H⟩
    | pan e=>exact .inr ⟨e,rfl,H⟩
theorem cL {x:α} {f:α→Option (Res ρ)}:hZ (some (.ok x)) f=f x:=Eq.symm (Eq.symm rfl)
theorem de {e:Int} {f:α→Option (Res ρ)}:hZ (some (.pan e)) f=some (.pan e):=Eq.symm (Eq.symm rfl)
theorem zE {x:α} {k:Int→Option ρ} {f:α→Option ρ}:bndk (some (.ok x)) k f=f x:=Eq.symm (Eq.symm rfl)
theorem tv {e:Int} {k:Int→Option ρ} {f:α→Option ρ}:bndk (some (.pan e)) k f=k e:=Eq.symm (Eq.symm rfl)
section
variable {k:Option ρ}
theorem bD {n:Int} (h : -9223372036854775808≤n∧n≤9223372036854775807):grd (okI n) k=k:=by rw [okI,decide_eq_true h]; rfl
theorem grd_J {n:Int} (h : -2147483648≤n∧n≤2147483647):grd (okJ n) k=k:=by rw [okJ,decide_eq_true h]; rfl
theorem bR {i:Int} {n:Nat} (h:0≤i∧i < n):grd (co i n) k=k:=by rw [co,decide_eq_true h]; rfl
theorem jX {a b:Int} {n:Nat} (h:0≤a∧a≤b∧b≤n):grd (mG a b n) k=k:=by rw [mG,decide_eq_true h]; rfl
theorem jd {b:Int} {n:Nat} (h:0≤b∧b≤n):grd (mb b n) k=k:=by rw [mb,decide_eq_true h]; rfl
theorem cc {n:Nat} (h:n≤100000000000):grd (cI n) k=k:=by rw [cI,decide_eq_true h]; rfl
theorem we {a b:Int} (h:0≤a∧a≤9223372036854775807∧1≤b):grd (kE a b) k=k:=by rw [kE,decide_eq_true h]; rfl
theorem lx {p:Prop} [Decidable p] (h:p):grd (decide p) k=k:=by rw [decide_eq_true h]; rfl
theorem mQ {c:Bool} {i:Int} {n:Nat} (h:c=true→0≤i∧i < n):fq c (co i n) k=k:=by
  cases c
  · rfl
  · rw [co,decide_eq_true (h rfl)]; rfl
theorem gp {b:Bool}:fq false b k=k:=by cases b <;> rfl
theorem kC {b:Bool}:fq true b k=grd b k:=by cases b <;> rfl
theorem nM:grd true k=k:=Eq.symm (Eq.symm rfl)
theorem bb {a:α} {f:α→Option ρ}:bnd (some a) f=f a:=Eq.symm (Eq.symm rfl)
theorem br {a:α} {b:β} {f:α→β→Option ρ}:iE (some (a,b)) f=f a b:=Eq.symm (Eq.symm rfl)
theorem dS {a:α} {b:β} {c:γ} {f:α→β→γ→Option ρ}:rN (some (a,b,c)) f=f a b c:=Eq.symm (Eq.symm rfl)
theorem jc [Inhabited α] {c:Bool} {a:α} {f:α→Option ρ}:lL c (some a) f=f (bif c then a else default):=by cases c <;> rfl
theorem mg [Inhabited α] {a:Option α} {f:α→Option ρ}:lL false a f=f default:=Eq.symm (Eq.symm rfl)
theorem tD [Inhabited α] {a:Option α} {f:α→Option ρ}:lL true a f=bnd a f:=Eq.symm (Eq.symm rfl)
end
theorem nW {a b:Bool} (h:a=true) (g:b=true):(a&&b)=true:=by rw [h,g]; rfl
theorem nf {a:Bool} (h:a=false):(!a)=true:=by rw [h]; rfl
theorem fn {a:Bool} (h:(!a)=true):a=false:=by cases a <;> first | rfl | cases h
theorem ii {c x:Bool} (h:c=true):true=(c||x):=by rw [h]; rfl
theorem ie {c x:Bool} (h:c=false):x=(c||x):=by rw [h]; rfl
theorem cd {c x:Bool} (h:c=true):x=(c&&x):=by rw [h]; rfl
theorem cq {c x:Bool} (h:c=false):false=(c&&x):=by rw [h]; rfl
theorem ek {a b:α} {c d:β} (H:some (a,c)=some (b,d)):a=b∧c=d:=by cases H; exact ⟨rfl,rfl⟩
theorem res3 {a b:α} {c d:β} {e f:γ} (H:some (a,c,e)=some (b,d,f)):a=b∧c=d∧e=f:=by cases H; exact ⟨rfl,rfl,rfl⟩
theorem res4 {a b:α} {c d:β} {e f:γ} {g h:δ} (H:some (a,c,e,g)=some (b,d,f,h)):a=b∧c=d∧e=f∧g=h:=by cases H; exact ⟨rfl,rfl,rfl,rfl⟩
theorem sj {a b:α} {c d:β} {e f:γ} {g h:δ} {i j:ε} (H:some (a,c,e,g,i)=some (b,d,f,h,j)):a=b∧c=d∧e=f∧g=h∧i=j:=by cases H; exact ⟨rfl,rfl,rfl,rfl,rfl⟩
theorem bT {p:Prop} [Decidable p] {a b:α} (h:p):(bif decide p then a else b)=a:=by rw [decide_eq_true h]; rfl
theorem bF {p:Prop} [Decidable p] {a b:α} (h:¬ p):(bif decide p then a else b)=b:=by rw [decide_eq_false h]; rfl
theorem cF [Inhabited α] {l:List α} {i:Nat} (h:i < l.length):at_ l (i:Int)=l[i]:=by simp [at_,h]
theorem at_zero [Inhabited α] {l:List α} (h:0 < l.length):at_ l 0=l[0]:=cF (i:=0) h
theorem nl {l:List α} {i:Nat}:gW l (i:Int)=l.drop i:=by simp [gW]
theorem rL {l:List α} {i:Nat}:to_ l (i:Int)=l.take i:=by simp [to_]
theorem qz {l:List α} {i j:Nat}:sub l (i:Int) (j:Int)=(l.take j).drop i:=by simp [sub]
theorem bx (i:Nat):((i:Int)+1)=((i+1:Nat):Int):=Eq.symm (Eq.symm rfl)
theorem bm {a:α} {f:α→Option ρ}:lt a f=f a:=Eq.symm (Eq.symm rfl)
end Go.Pv
namespace Go.Av
open Go.RowKit Go.Pv
theorem getD_at {α:Type} [Inhabited α] {l:List α} {m:Nat} (h:m < l.length):l[m]?=some (at_ l (m:Int)):=by
  simp [at_,List.getD,h]
section
variable {P:Program} {e:Env} {d:Option Nat} {T:TypeId} {pos:String} {after:Array Edge} {g:Option (Nat×Bool)} {x y z:Operand} {av:AV} {T1 T2 T':TypeId}
theorem bB {a b:Int} (hx:opv e x=i64 a) (hy:opv e y=i64 b) (h:okI (a+b)=true):OpS P ⟨d,.binOp .add T x y T',T2,pos,after,g⟩ e (i64 (a+b)):=nT hx hy (xK h)
theorem mc {a b:Int} (hx:opv e x=i64 a) (hy:opv e y=i64 b) (h:okI (a - b)=true):OpS P ⟨d,.binOp .sub T x y T',T2,pos,after,g⟩ e (i64 (a - b)):=mP hx hy (xK h)
theorem g_mul {a b:Int} (hx:opv e x=i64 a) (hy:opv e y=i64 b) (h:okI (a*b)=true):OpS P ⟨d,.binOp .mul T x y T',T2,pos,after,g⟩ e (i64 (a*b)):=sr hx hy (xK h)
theorem tH {a b:Int} (hx:opv e x=i64 a) (hy:opv e y=i64 b) (h:kE a b=true):OpS P ⟨d,.binOp .quo T x y T',T2,pos,after,g⟩ e (i64 (a / b)):=zq hx hy (vY h)
theorem tG {a b:Int} (hx:opv e x=i64 a) (hy:opv e y=i64 b) (h:kE a b=true):OpS P ⟨d,.binOp .rem T x y T',T2,pos,after,g⟩ e (i64 (a % b)):=opS_rem hx hy ⟨(vY h).1,by have:=(vY h).2.2; omega⟩
theorem g_neg {a:Int} (hx:opv e x=i64 a) (h:okI (0 - a)=true):OpS P ⟨d,.unOp .neg T x,T2,pos,after,g⟩ e (i64 (0 - a)):=by
  have:=opS_negw (P:=P) (d:=d) (T:=T) (pos:=pos) (after:=after) (g:=g) (T2:=T2) hx
  rwa [IntWalk.i64_in _ (xK h)] at this
theorem u8_inj {a b:UInt8}:((a.toNat:Int)=(b.toNat:Int))↔a=b:=by
  constructor
  · intro h; exact UInt8.toNat_inj.1 (by omega)
  · intro h; rw [h]
theorem eS {a b:UInt8} (hx:opv e x=u8 a) (hy:opv e y=u8 b):OpS P ⟨d,.binOp .eql T x y T',T2,pos,after,g⟩ e (B (decide (a=b))):=by
  have:=bI (P:=P) (d:=d) (T:=T) (pos:=pos) (after:=after) (g:=g) (T2:=T2) (T':=T') hx hy
  rwa [show decide ((a.toNat:Int)=(b.toNat:Int))=decide (a=b) from decide_eq_decide.2 u8_inj] at this
theorem sg {a b:UInt8} (hx:opv e x=u8 a) (hy:opv e y=u8 b):OpS P ⟨d,.binOp .neq T x y T',T2,pos,after,g⟩ e (B (!decide (a=b))):=by
  have:=dD (P:=P) (d:=d) (T:=T) (pos:=pos) (after:=after) (g:=g) (T2:=T2) (T':=T') hx hy
  rwa [show decide ((a.toNat:Int)=(b.toNat:Int))=decide (a=b) from decide_eq_decide.2 u8_inj] at this
theorem wrap_u8 (n:Int):IntKind.u8.wrap n=n % 256:=by rw [IntKind.wrap_u8]
theorem g_add8 {a b:UInt8} (hx:opv e x=u8 a) (hy:opv e y=u8 b):OpS P ⟨d,.binOp .add T x y T',T2,pos,after,g⟩ e (u8 (a+b)):=by
  have:=qt (P:=P) (d:=d) (T:=T) (pos:=pos) (after:=after) (g:=g) (T2:=T2) (T':=T') hx hy
  rwa [wrap_u8,show ((a.toNat:Int)+b.toNat) % 256=((a+b).toNat:Int) by rw [UInt8.toNat_add]; omega] at this
theorem tB {a b:UInt8} (hx:opv e x=u8 a) (hy:opv e y=u8 b):OpS P ⟨d,.binOp .sub T x y T',T2,pos,after,g⟩ e (u8 (a - b)):=by
  have:=qs (P:=P) (d:=d) (T:=T) (pos:=pos) (after:=after) (g:=g) (T2:=T2) (T':=T') hx hy
  rwa [wrap_u8,show ((a.toNat:Int) - b.toNat) % 256=((a - b).toNat:Int) by rw [UInt8.toNat_sub]; have:=a.toNat_lt; have:=b.toNat_lt; omega] at this
def toB (n:Int):UInt8:=UInt8.ofNat (n % 256).toNat
theorem eE {k:IntKind} {n:Int} {src dst:TypeId} (hs:(P.underlying src).isSome=true) (hd:P.underlying dst=some (.int .u8)) (hx:opv e x=.v (.int k n)) :
    OpS P ⟨d,.convert src dst x,T,pos,after,g⟩ e (u8 (toB n)):=by
  have:=eJ (P:=P) (d:=d) (T:=T) (pos:=pos) (after:=after) (g:=g) hs hd hx
  rwa [wrap_u8,show n % 256=((toB n).toNat:Int) by unfold toB; rw [UInt8.toNat_ofNat_of_lt' (by show (n % 256).toNat < 256; omega)]; omega] at this
theorem qU {k:IntKind} {n:Int} {src dst:TypeId} (hs:(P.underlying src).isSome=true) (hd:P.underlying dst=some (.int .i64)) (hx:opv e x=.v (.int k n)) (h:okI n=true) :
    OpS P ⟨d,.convert src dst x,T,pos,after,g⟩ e (i64 n):=by
  have:=eJ (P:=P) (d:=d) (T:=T) (pos:=pos) (after:=after) (g:=g) hs hd hx
  rwa [IntWalk.i64_in _ (xK h)] at this
theorem uI {k:IntKind} {n:Int} {src dst:TypeId} (hs:(P.underlying src).isSome=true) (hd:P.underlying dst=some (.int .i32)) (hx:opv e x=.v (.int k n)) (h:okJ n=true) :
    OpS P ⟨d,.convert src dst x,T,pos,after,g⟩ e (.v (.int .i32 n)):=by
  have:=eJ (P:=P) (d:=d) (T:=T) (pos:=pos) (after:=after) (g:=g) hs hd hx
  rwa [IntWalk.i32_in _ (okJ_s h)] at this
theorem bg {s:List UInt8} {q:IntKind} {n:Int} {c:UInt8} (hT:P.underlying T=some .string) (hx:opv e x=S s) (hy:opv e y=.v (.int q n)) (hg:co n s.length=true) (he:at_ s n=c) :
    OpS P ⟨d,.index T x y,T2,pos,after,g⟩ e (u8 c):=by
  obtain ⟨h1,h2⟩:=pd hg;obtain ⟨m,rfl⟩:=Int.eq_ofNat_of_zero_le h1;exact jC hT hx hy rfl (by rw [← he]; exact getD_at (by omega))
theorem bQ {s r:List UInt8} {q q':IntKind} {a b:Int} (hT:P.underlying T=some .string) (hx:opv e x=S s) (hy:opv e y=.v (.int q a)) (hz:opv e z=.v (.int q' b)) (hg:mG a b s.length=true) (he:sub s a b=r) :
    OpS P ⟨d,.slice T x (some y) (some z) none,T2,pos,after,g⟩ e (S r):=by
  obtain ⟨h1,h2,h3⟩:=okSub_s hg;subst he;exact tY hT hx hy hz (Int.toNat_of_nonneg h1).symm (Int.toNat_of_nonneg (by omega)).symm (by omega) (by omega)
theorem ee {s r:List UInt8} {q:IntKind} {a:Int} (hT:P.underlying T=some .string) (hx:opv e x=S s) (hy:opv e y=.v (.int q a)) (hg:mb a s.length=true) (he:gW s a=r) :
    OpS P ⟨d,.slice T x (some y) none none,T2,pos,after,g⟩ e (S r):=by
  obtain ⟨h1,h2⟩:=wj hg;subst he;exact pE hT hx hy (Int.toNat_of_nonneg h1).symm (by omega)
theorem qu {s r:List UInt8} {q:IntKind} {b:Int} (hT:P.underlying T=some .string) (hx:opv e x=S s) (hz:opv e z=.v (.int q b)) (hg:mb b s.length=true) (he:to_ s b=r) :
    OpS P ⟨d,.slice T x none (some z) none,T2,pos,after,g⟩ e (S r):=by
  obtain ⟨h1,h2⟩:=wj hg;subst he;exact qH hT hx hz (Int.toNat_of_nonneg h1).symm (by omega)
theorem mZ {s r u:List UInt8} (hx:opv e x=S s) (hy:opv e y=S r) (h:cI (s.length+r.length)=true) (he:s++r=u):OpS P ⟨d,.binOp .add T x y T',T2,pos,after,g⟩ e (S u):=by
  subst he;exact opS_cat hx hy (by have:=pj h; omega)
section
variable {α:Type} [Inhabited α] {E:Enc α} {l m:List α} {t:Option Nat} {El:TypeId}
theorem bA {q:IntKind} {n:Int} {a:α} (hT:P.underlying T=some (.slice El)) (hsz:bO P El=some E.k) (hx:opv e x=slE E l t) (hy:opv e y=.v (.int q n)) (hg:co n l.length=true) (he:at_ l n=a) :
    OpS P ⟨d,.indexAddr T x y,T2,pos,after,g⟩ e (cpE E a):=by
  obtain ⟨h1,h2⟩:=pd hg;obtain ⟨k,rfl⟩:=Int.eq_ofNat_of_zero_le h1;exact bH hT hsz hx hy rfl (by rw [← he]; exact getD_at (by omega))
omit [Inhabited α] in
theorem g_to_sl {q:IntKind} {b:Int} (hT:P.underlying T=some (.slice El)) (hsz:bO P El=some E.k) (hx:opv e x=slE E l t) (hz:opv e z=.v (.int q b)) (hg:mb b l.length=true) (he:to_ l b=m) :
    OpS P ⟨d,.slice T x none (some z) none,T2,pos,after,g⟩ e (slE E m none):=by
  obtain ⟨h1,h2⟩:=wj hg;subst he;exact rS hT hsz hx hz (Int.toNat_of_nonneg h1).symm (by omega)
omit [Inhabited α] in
theorem cM {u:List α} {A:List Chunk} {t:Nat} {t2:Option Nat} {T3 bytes:Nat} {D2:TypeDesc} (i:Nat) (hT:P.underlying T=some (.slice El)) (hT2:P.underlying T2=some D2) (hD2:jf D2=false) (hE:cU P El=some (E.k,bytes)) (hb:Nat.ble bytes 1000=true)
    (hx:opv e x=slE E l (some t)) (hy:opv e y=slE E m t2) (hA:A[i]?=some (.tok t El)) (hg:cI (l.length+m.length)=true) (he:l++m=u) :
    OpX P ⟨d,.call ⟨.builtin .append,#[x,y],#[T,T2]⟩,T3,pos,after,g⟩ e A (fun av A'=>∃ t',av=slE E u (some t')∧A'=A.set i (.tok t' El)):=by
  subst he
  have h1:=pj hg
  have h2:=af hb
  have h3:(l.length+m.length)*bytes≤100000000000*1000:=Nat.mul_le_mul h1 h2
  exact yf i hT hT2 hD2 hE hx hy hA (by omega) (by omega)
theorem eK {l m u:List UInt8} {A:List Chunk} {t:Nat} {T3 bytes:Nat} {D2:TypeDesc} (i:Nat) (hT:P.underlying T=some (.slice El)) (hT2:P.underlying T2=some D2) (hD2:jf D2=false) (hE:cU P El=some (1,bytes)) (hb:Nat.ble bytes 1000=true)
    (hx:opv e x=slE Enc.byte l (some t)) (hy:opv e y=S m) (hA:A[i]?=some (.tok t El)) (hg:cI (l.length+m.length)=true) (he:l++m=u) :
    OpX P ⟨d,.call ⟨.builtin .append,#[x,y],#[T,T2]⟩,T3,pos,after,g⟩ e A (fun av A'=>∃ t',av=slE Enc.byte u (some t')∧A'=A.set i (.tok t' El)):=by
  subst he
  have h1:=pj hg
  have h2:=af hb
  have h3:(l.length+m.length)*bytes≤100000000000*1000:=Nat.mul_le_mul h1 h2
  exact iC i hT hT2 hD2 hE hx hy hA (by omega) (by omega)
omit [Inhabited α] in
theorem fO {A:List Chunk} {t2:Option Nat} {T3 bytes:Nat} {D2:TypeDesc} (hT:P.underlying T=some (.slice El)) (hT2:P.underlying T2=some D2) (hD2:jf D2=false) (hE:cU P El=some (E.k,bytes)) (hb:Nat.ble bytes 1000=true)
    (hx:opv e x=aj) (hy:opv e y=slE E m t2) (hg:cI m.length=true) :
    OpX P ⟨d,.call ⟨.builtin .append,#[x,y],#[T,T2]⟩,T3,pos,after,g⟩ e A (fun av A'=>∃ t',av=slE E m (some t')∧A'=.tok t' El::A):=by
  have h1:=pj hg
  have h2:=af hb
  have h3:m.length*bytes≤100000000000*1000:=Nat.mul_le_mul h1 h2
  exact sG hT hT2 hD2 hE hx hy (by omega) (by omega)
end
theorem eP {s:List UInt8} {A:List Chunk} {src dst El T2 bytes:TypeId} (hs:P.underlying src=some .string) (hd:P.underlying dst=some (.slice El)) (hE:P.underlying El=some (.int .u8)) (hx:opv e x=S s) (hg:cI s.length=true) :
    OpX P ⟨d,.convert src dst x,T2,pos,after,g⟩ e A (fun av A'=>∃ t,av=slE Enc.byte s (some t)∧A'=.tok t El::A):=pD (bytes:=bytes) hs hd hE hx (by have:=pj hg; omega)
theorem mv {v:Value} (hx:opv e x=.v v):OpS P ⟨d,.move x,T,pos,after,g⟩ e (.v v):=ah hx
theorem asg {v:Value} (hx:opv e x=.v v):OpS P ⟨d,.assign x,T,pos,after,g⟩ e (.v v):=aZ hx
end
section
variable {P:Program} {ro:Option Nat} {N:Nat} {Q:gt} {ops:Array Oper} {i:Nat} {rest:List Nat} {e:Env} {ds:List ADef} {A A':List Chunk}
  {d:Nat} {op:Op} {T:TypeId} {pos:String} {after:Array Edge} {g:Option (Nat×Bool)} {av:AV}
theorem sS (ho:ops[i]?=some ⟨some d,op,T,pos,after,none⟩) (hd:Nat.blt d N=true) (hn:je op=false) (h:OpS P ⟨some d,op,T,pos,after,none⟩ e av)
    (k:AR P ro N ops Q rest ⟨(d,av)::e,ds,A⟩):AR P ro N ops Q (i::rest) ⟨e,ds,A⟩:=ar ho rfl (aE hd hn h k)
theorem sR (ho:ops[i]?=some ⟨some d,op,T,pos,after,none⟩) (hd:Nat.blt d N=true) (hn:je op=false) (h:OpR P ⟨some d,op,T,pos,after,none⟩ e A av A')
    (k:AR P ro N ops Q rest ⟨(d,av)::e,ds,A'⟩):AR P ro N ops Q (i::rest) ⟨e,ds,A⟩:=ar ho rfl (cG hd hn h k)
theorem sX {R:AV→List Chunk→Prop} (ho:ops[i]?=some ⟨some d,op,T,pos,after,none⟩) (hd:Nat.blt d N=true) (hn:je op=false) (h:OpX P ⟨some d,op,T,pos,after,none⟩ e A R)
    (k:∀ av A',R av A'→AR P ro N ops Q rest ⟨(d,av)::e,ds,A'⟩):AR P ro N ops Q (i::rest) ⟨e,ds,A⟩:=ar ho rfl (AO.opx hd hn h k)
theorem s0 (ho:ops[i]?=some ⟨none,op,T,pos,after,none⟩) (hn:je op=false) (h:OpR P ⟨none,op,T,pos,after,none⟩ e A av A')
    (k:AR P ro N ops Q rest ⟨e,ds,A'⟩):AR P ro N ops Q (i::rest) ⟨e,ds,A⟩:=ar ho rfl (dM hn h k)
theorem gT {o:Oper} {j t:Nat} {want b:Bool} (hw:b=want) (ho:ops[i]?=some o) (hg:o.guard=some (j,want)) (hj:(ops[j]?).bind (·.dst)=some t) (hb:ev e t=.v (.bool b)) (ht:Nat.blt t N=true) (hd:o.dst.isSome=true)
    (k:AO P ro N ops Q rest o ⟨e,ds,A⟩):AR P ro N ops Q (i::rest) ⟨e,ds,A⟩ :=
  AR.guard ho hg hj hb ht (fun _=>k) (fun h=>by subst hw; cases b <;> cases h) (fun h=>by rw [h] at hd; cases hd)
theorem gF {j t:Nat} {want b:Bool} (hw:b = !want) (ho:ops[i]?=some ⟨some d,op,T,pos,after,some (j,want)⟩) (hj:(ops[j]?).bind (·.dst)=some t) (hb:ev e t=.v (.bool b)) (ht:Nat.blt t N=true) (hd:Nat.blt d N=true)
    (k:AR P ro N ops Q rest ⟨(d,.v undef)::e,ds,A⟩):AR P ro N ops Q (i::rest) ⟨e,ds,A⟩ :=
  AR.guard ho rfl hj hb ht (fun h=>by subst h; cases b <;> cases hw) (fun _ d' h=>by cases h; exact ⟨hd,k⟩) (fun h=>by cases h)
theorem gU {j t:Nat} {want:Bool} (ho:ops[i]?=some ⟨some d,op,T,pos,after,some (j,want)⟩) (hj:(ops[j]?).bind (·.dst)=some t) (hb:ev e t=.v undef) (ht:Nat.blt t N=true) (hd:Nat.blt d N=true)
    (k:AR P ro N ops Q rest ⟨(d,.v undef)::e,ds,A⟩):AR P ro N ops Q (i::rest) ⟨e,ds,A⟩ :=
  yJ ho rfl hj hb ht (fun d' h=>by cases h; exact ⟨hd,k⟩) (fun h=>by cases h)
def fresh (ks:List Nat) (e:Env):Bool:=e.all fun p => !(ks.contains p.1)
theorem lA {e:Env}:∀ (pre:Env) (t:Nat),(∀ p∈pre,p.1≠t)→ev (pre++e) t=ev e t
  | [],t,h=>rfl
  | (j,a)::r,t,h=>by
    have hj:j≠t:=h (j,a) (List.mem_cons_self ..)
    have hb:Nat.beq j t=false:=by
      cases hb:Nat.beq j t with
      | false=>rfl
      | true=>exact absurd (Nat.eq_of_beq_eq_true hb) hj
    show (match Nat.beq j t with | true=>a | false=>ev (r++e) t)=_
    rw [hb]
    exact lA r t fun p hp=>h p (List.mem_cons_of_mem _ hp)
theorem AR.meet (d:Nat) (av:AV) {i:Nat} {rest:List Nat} {l:List Nat}
    (k:(∀ (r:Env) (m:Nat) (x:AV),x=av→r.drop m=e→fresh ((r.take m).map Prod.fst) e=true→AR P ro N ops Q l ⟨(d,x)::r,ds,A⟩)→AR P ro N ops Q (i::rest) ⟨e,ds,A⟩)
    (h:AR P ro N ops Q l ⟨(d,av)::e,ds,A⟩):AR P ro N ops Q (i::rest) ⟨e,ds,A⟩ :=
  k fun r m x hx hr hf=>AR.weaken (fun F I w a hI hS=>by
    subst hx;refine ⟨I,cj _ _,hI,hS.size,fun t=>?_,hS.ds⟩
    have ht:=hS.env t
    have hre:r=r.take m++e:=by rw [← hr,List.take_append_drop]
    generalize r.take m=pre at hf hre
    subst hre
    simp only [ev] at ht ⊢
    cases hb:Nat.beq d t with
    | true=>rw [hb] at ht; exact ht
    | false =>
      rw [hb] at ht
      simp only at ht ⊢
      by_cases hm:∃ p∈pre,p.1=t
      · obtain ⟨p,hp,rfl⟩:=hm
        have:ev e p.1=.any:=by
          clear ht hS hI h k hr
          induction e with
          | nil=>rfl
          | cons q e ih =>
            obtain ⟨j,b⟩:=q
            simp only [fresh,List.all_cons,Bool.and_eq_true,Bool.not_eq_true'] at hf
            have hj:j≠p.1:=fun e=>by
              have:=hf.1
              rw [e] at this
              have h2:(pre.map Prod.fst).contains p.1=true:=by simpa using ⟨p.2,hp⟩
              rw [h2] at this; cases this
            simp only [ev]
            have hb:Nat.beq j p.1=false:=by
              cases hb:Nat.beq j p.1 with
              | false=>rfl
              | true=>exact absurd (Nat.eq_of_beq_eq_true hb) hj
            rw [hb]
            exact ih hf.2
        rw [this]; exact .any _
      · rw [← lA pre t (fun p hp e=>hm ⟨p,hp,e⟩)]; exact ht) h
abbrev _root_.Go.Av.bk := @AR.meet
def nY:List Chunk→List Nat→Option (List Chunk×List Chunk)
  | A,[]=>some ([],A)
  | A,i::r=>match A[i]? with
    | some c=>match nY (A.eraseIdx i) r with
      | some (C,D)=>some (c::C,D)
      | none=>none
    | none=>none
theorem gH:∀ (is:List Nat) (A C D:List Chunk),nY A is=some (C,D)→A.Perm (C++D)
  | [],A,C,D,h=>by cases h; exact bG _
  | i::r,A,C,D,h=>by
    simp only [nY] at h
    cases hA:A[i]? with
    | none=>rw [hA] at h; cases h
    | some c =>
      rw [hA] at h
      simp only at h
      cases hp:nY (A.eraseIdx i) r with
      | none=>rw [hp] at h; cases h
      | some q =>
        obtain ⟨C',D'⟩:=q
        rw [hp] at h
        cases h
        exact (ph A i c hA).trans ((gH r _ _ _ hp).cons c)
theorem AO.callAt {f:FuncId} {args:Array Operand} {argTypes:Array TypeId} {A1 B:List Chunk} {R:AE→List Chunk→Prop} {avs:List AV} (is:List Nat) (hd:Nat.blt d N=true)
    (hf:∀ args w,(callFunc f args).run P w=.ok (.enter f args) w) (ha:args.toList.map (opv e)=avs) (h:ACalls P f avs A1 R) (p:nY A is=some (A1,B))
    (hr:∀ c A',¬ R (.pan c) A') (k:∀ av A',R (.ret av) A'→AR P ro N ops Q rest ⟨(d,av)::e,ds,A'++B⟩) :
    AO P ro N ops Q rest ⟨some d,.call ⟨.value (.func f),args,argTypes⟩,T,pos,after,g⟩ ⟨e,ds,A⟩ :=
  eM B hd hf ha h (gH is _ _ _ p) k (fun c A' h=>(hr c A' h).elim)
abbrev _root_.Go.Av.aY := @AO.callAt
theorem WK.at {N:Nat} {e l:Env} {ds:List ADef} {A B C:List Chunk} (is:List Nat) (h:Env.le e l) (p:nY A is=some (B,C)):WK N ⟨e,ds,A⟩ ⟨l,ds,B⟩:=fun F I w a hI hS =>
  ⟨I,cj _ _,by
    have hp:=gH is _ _ _ p
    have h1:=hI.perm (hp.append_right F)
    rw [List.append_assoc] at h1
    exact h1.sub (List.Sublist.append_left (List.sublist_append_right C F) B),⟨hS.size,fun t=>(h.ev t).rel (hS.env t),hS.ds⟩⟩
abbrev _root_.Go.Av.aP := @WK.at
theorem Sub.at {A B C:List Chunk} (is:List Nat) (p:nY A is=some (B,C)):Sub B A:=by
  obtain ⟨D,h1,h2⟩:=List.exists_perm_sublist (List.sublist_append_left B C) (gH is _ _ _ p).symm;exact ⟨D,h1,h2⟩
abbrev _root_.Go.Av.aK := @Sub.at
end
def Enc.prod {α β:Type} (E:Enc α) (F:Enc β):Enc (α×β):=⟨E.k+F.k,fun x=>E.f x.1++F.f x.2,by have:=E.pos; omega,fun x=>by simp [E.len,F.len],fun x c h=>by
  rcases List.mem_append.1 h with h | h
  · exact E.cell _ _ h
  · exact F.cell _ _ h⟩
end Go.Av
namespace Go.Av
open Go.RowKit Go.Pv
section
variable {P:Program} {ro:Option Nat} {N:Nat} {Q:gt} {ops:Array Oper} {i:Nat} {rest:List Nat} {e:Env} {ds:List ADef} {A A':List Chunk}
  {d:Nat} {op:Op} {T:TypeId} {pos:String} {after:Array Edge} {g:Option (Nat×Bool)} {av:AV} {x:Operand} {v:Value}
theorem zS (H:(ops[i]?,Nat.blt d N,je op)=(some ⟨some d,op,T,pos,after,none⟩,true,false)) (h:OpS P ⟨some d,op,T,pos,after,none⟩ e av)
    (k:AR P ro N ops Q rest ⟨(d,av)::e,ds,A⟩):AR P ro N ops Q (i::rest) ⟨e,ds,A⟩:=sS (congrArg Prod.fst H) (congrArg (·.2.1) H) (congrArg (·.2.2) H) h k
theorem zR (H:(ops[i]?,Nat.blt d N,je op)=(some ⟨some d,op,T,pos,after,none⟩,true,false)) (h:OpR P ⟨some d,op,T,pos,after,none⟩ e A av A')
    (k:AR P ro N ops Q rest ⟨(d,av)::e,ds,A'⟩):AR P ro N ops Q (i::rest) ⟨e,ds,A⟩:=sR (congrArg Prod.fst H) (congrArg (·.2.1) H) (congrArg (·.2.2) H) h k
theorem zX {R:AV→List Chunk→Prop} (H:(ops[i]?,Nat.blt d N,je op)=(some ⟨some d,op,T,pos,after,none⟩,true,false)) (h:OpX P ⟨some d,op,T,pos,after,none⟩ e A R)
    (k:∀ av A',R av A'→AR P ro N ops Q rest ⟨(d,av)::e,ds,A'⟩):AR P ro N ops Q (i::rest) ⟨e,ds,A⟩:=sX (congrArg Prod.fst H) (congrArg (·.2.1) H) (congrArg (·.2.2) H) h k
theorem zm (H:(ops[i]?,Nat.blt d N,opv e x)=(some ⟨some d,.move x,T,pos,after,none⟩,true,.v v))
    (k:AR P ro N ops Q rest ⟨(d,.v v)::e,ds,A⟩):AR P ro N ops Q (i::rest) ⟨e,ds,A⟩:=sS (congrArg Prod.fst H) (congrArg (·.2.1) H) rfl (mv (congrArg (·.2.2) H)) k
theorem za (H:(ops[i]?,Nat.blt d N,opv e x)=(some ⟨some d,.assign x,T,pos,after,none⟩,true,.v v))
    (k:AR P ro N ops Q rest ⟨(d,.v v)::e,ds,A⟩):AR P ro N ops Q (i::rest) ⟨e,ds,A⟩:=sS (congrArg Prod.fst H) (congrArg (·.2.1) H) rfl (asg (congrArg (·.2.2) H)) k
theorem zF {j t:Nat} {want b:Bool} (hw:b = !want) (H:(ops[i]?,(ops[j]?).bind (·.dst),ev e t,Nat.blt t N,Nat.blt d N)=(some ⟨some d,op,T,pos,after,some (j,want)⟩,some t,.v (.bool b),true,true))
    (k:AR P ro N ops Q rest ⟨(d,.v undef)::e,ds,A⟩):AR P ro N ops Q (i::rest) ⟨e,ds,A⟩ :=
  gF hw (congrArg Prod.fst H) (congrArg (·.2.1) H) (congrArg (·.2.2.1) H) (congrArg (·.2.2.2.1) H) (congrArg (·.2.2.2.2) H) k
theorem zT {o:Oper} {j t:Nat} {want b:Bool} (hw:b=want) (H:(ops[i]?,o.guard,(ops[j]?).bind (·.dst),ev e t,Nat.blt t N,o.dst.isSome)=(some o,some (j,want),some t,.v (.bool b),true,true))
    (k:AO P ro N ops Q rest o ⟨e,ds,A⟩):AR P ro N ops Q (i::rest) ⟨e,ds,A⟩ :=
  gT hw (congrArg Prod.fst H) (congrArg (·.2.1) H) (congrArg (·.2.2.1) H) (congrArg (·.2.2.2.1) H) (congrArg (·.2.2.2.2.1) H) (congrArg (·.2.2.2.2.2) H) k
theorem zU {j t:Nat} {want b:Bool} (hw:b=want) (H:(ops[i]?,(ops[j]?).bind (·.dst),ev e t,Nat.blt t N,Nat.blt d N,je op)=(some ⟨some d,op,T,pos,after,some (j,want)⟩,some t,.v (.bool b),true,true,false))
    (h:OpS P ⟨some d,op,T,pos,after,some (j,want)⟩ e av) (k:AR P ro N ops Q rest ⟨(d,av)::e,ds,A⟩):AR P ro N ops Q (i::rest) ⟨e,ds,A⟩ :=
  gT hw (congrArg Prod.fst H) rfl (congrArg (·.2.1) H) (congrArg (·.2.2.1) H) (congrArg (·.2.2.2.1) H) rfl (aE (congrArg (·.2.2.2.2.1) H) (congrArg (·.2.2.2.2.2) H) h k)
theorem zM {j t:Nat} {want b:Bool} (hw:b=want) (H:(ops[i]?,(ops[j]?).bind (·.dst),ev e t,Nat.blt t N,Nat.blt d N,opv e x)=(some ⟨some d,.move x,T,pos,after,some (j,want)⟩,some t,.v (.bool b),true,true,.v v))
    (k:AR P ro N ops Q rest ⟨(d,.v v)::e,ds,A⟩):AR P ro N ops Q (i::rest) ⟨e,ds,A⟩ :=
  gT hw (congrArg Prod.fst H) rfl (congrArg (·.2.1) H) (congrArg (·.2.2.1) H) (congrArg (·.2.2.2.1) H) rfl (aE (congrArg (·.2.2.2.2.1) H) rfl (mv (congrArg (·.2.2.2.2.2) H)) k)
end
section
variable {P:Program} {ro:Option Nat} {N:Nat} {Q:gt} {ops:Array Oper} {d:Nat} {fuel:Nat} {listed:Array Bool} {op:Op} {T:TypeId} {pos:String} {after:Array Edge} {e:Env} {ds:List ADef} {A:List Chunk} {av:AV}
theorem zk (i:Nat) (H:(ops[i]?,Nat.blt d N)=(some ⟨some d,op,T,pos,after,none⟩,true)) (h:OpS P ⟨some d,op,T,pos,after,none⟩ e av)
    (k:AI P ro N ops Q fuel (listed.setIfInBounds i true) ⟨(d,av)::e,ds,A⟩) (hK:(Region.noSelect ops&&Region.free .any ops listed i&&(Region.ready .any ops listed).contains i)=true:=by kernel_rfl)
    (hQ:NoPanic d Q:=by exact fun _ _ h=>h):AI P ro N ops Q (fuel+1) listed ⟨e,ds,A⟩:=by
  simp only [Bool.and_eq_true] at hK
  exact bc (congrArg Prod.fst H) (congrArg Prod.snd H) hK.1.1 hK.1.2 hK.2 hQ h k
end
def zL (n k:Nat):Nat→List Bool
  | 0=>[]
  | m+1=>Nat.beq (Nat.land (Nat.shiftRight k (Nat.sub n (m+1))) 1) 1::zL n k m
def zb (n k:Nat):Array Bool:=⟨zL n k n⟩
abbrev zI {P:Program} {ro:Option Nat} {N:Nat} {ops:Array Oper} {Q:gt} {fuel:Nat} {s:St} (n k:Nat):Prop:=AI P ro N ops Q fuel (zb n k) s
end Go.Av
namespace Go.Av
open Go.RowKit Go.Pv
section
variable {P:Program} {ro:Option Nat} {N:Nat} {Q:gt} {s:St}
theorem gE {c:Code} {e:Env} {ds:List ADef} {A:List Chunk} {o:Nat} {cs:List AV} (i j k:Nat) (Ty:TypeId) (hA:A[i]?=some (.obj o cs)) (hj:cs[j]?=some (.v (.slice none 0 0)))
    (h:∀ t,AW P ro N c Q ⟨e,ds,.tok t Ty::A.set i (.obj o (cs.set j (.sl k [] (some t))))⟩):AW P ro N c Q ⟨e,ds,A⟩:=by
  have hp:=ph A i _ hA
  refine AW.weaken (s':=⟨e,ds,.obj o cs::A.eraseIdx i⟩) (fun F I w a hI hS=>⟨I,cj _ _,hI.perm (hp.append_right F),hS.size,hS.env,hS.ds⟩) (yI j k Ty hj fun t=>?_);refine AW.weaken (s':=⟨e,ds,.tok t Ty::A.set i (.obj o (cs.set j (.sl k [] (some t))))⟩) (fun F I w a hI hS=>⟨I,cj _ _,?_,hS.size,hS.env,hS.ds⟩) (h t);refine hI.perm ((List.Perm.trans ?_ ((qr A i _ (.obj o (cs.set j (.sl k [] (some t)))) hA).cons (.tok t Ty))).append_right F);exact List.Perm.swap _ _ _
end
section
variable {P:Program} {ro:Option Nat} {N:Nat} {Q:gt} {ops:Array Oper}
theorem AIO.callAt {fuel:Nat} {listed:Array Bool} {d:Nat} {f:FuncId} {args:Array Operand} {argTypes:Array TypeId} {T:TypeId} {pos:String} {after:Array Edge} {g:Option (Nat×Bool)} {e:Env} {ds:List ADef} {A A1 B:List Chunk}
    {R:AE→List Chunk→Prop} {avs:List AV} (is:List Nat) (hd:Nat.blt d N=true) (hf:∀ args w,(callFunc f args).run P w=.ok (.enter f args) w) (ha:args.toList.map (opv e)=avs)
    (h:ACalls P f avs A1 R) (p:nY A is=some (A1,B)) (hr:∀ c A',¬ R (.pan c) A') (k:∀ av A',R (.ret av) A'→AI P ro N ops Q fuel listed ⟨(d,av)::e,ds,A'++B⟩) :
    AIO P ro N ops Q fuel listed ⟨some d,.call ⟨.value (.func f),args,argTypes⟩,T,pos,after,g⟩ ⟨e,ds,A⟩ :=
  AIO.call B hd hf ha h (gH is _ _ _ p) k (fun c A' h=>(hr c A' h).elim)
end
section
variable {P:Program} {e:Env} {d:Option Nat} {T:TypeId} {pos:String} {after:Array Edge} {g:Option (Nat×Bool)} {x y z:Operand} {av:AV} {T1 T2 T':TypeId} {A:List Chunk}
theorem row_at {l:List UInt8} {n:Nat} {m:Nat} (h:m < l.length):(Enc.byte.fl l++List.replicate n AV.any)[m]?=some (u8 (at_ l (m:Int))):=by
  rw [mR,List.getElem?_append_left (by simpa using h)]
  simp [at_,h]
theorem row_set {l:List UInt8} {n:Nat} {m:Nat} {c:UInt8} (h:m < l.length):(Enc.byte.fl l++List.replicate n AV.any).set m (u8 c)=Enc.byte.fl (l.set m c)++List.replicate n AV.any:=by
  rw [mR,mR,List.set_append_left _ _ (by simpa using h)]
  simp [List.map_set]
theorem rU {o len cap:Nat} {q:IntKind} {i:Int} {El:TypeId} (hT:P.underlying T=some (.slice El)) (hsz:bO P El=some 1) (hx:opv e x=.vw o 0 len cap) (hy:opv e y=.v (.int q i)) (hg:co i len=true) :
    OpS P ⟨d,.indexAddr T x y,T2,pos,after,g⟩ e (.pt o i.toNat):=by
  obtain ⟨h1,h2⟩:=pd hg
  have:=qI (P:=P) (d:=d) (pos:=pos) (after:=after) (g:=g) (T2:=T2) hT hsz hx hy (Int.toNat_of_nonneg h1).symm (by omega)
  simpa using this
theorem wQ {l r:List UInt8} {o n k:Nat} {i:Int} {c:UInt8} (hsz:bO P T=some 1) (hx:opv e x=.pt o i.toNat) (hy:opv e y=u8 c) (hA:A[k]?=some (.obj o (Enc.byte.fl l++List.replicate n .any))) (hg:co i l.length=true) (he:l.set i.toNat c=r) :
    OpR P ⟨d,.store T x y,T2,pos,after,g⟩ e A .any (A.set k (.obj o (Enc.byte.fl r++List.replicate n .any))):=by
  obtain ⟨h1,h2⟩:=pd hg
  have:=aA (P:=P) (d:=d) (pos:=pos) (after:=after) (g:=g) (T2:=T2) (i:=k) hsz hx hy rfl hA (by simp [mR]; omega)
  rwa [row_set (by omega),he] at this
theorem qK {l:List UInt8} {o len cap n k:Nat} {src dst El:TypeId} (hs:P.underlying src=some (.slice El)) (hE:P.underlying El=some (.int .u8)) (hd:P.underlying dst=some .string) (hx:opv e x=.vw o 0 len cap)
    (hl:decide (l.length=len)=true) (hA:A[k]?=some (.obj o (Enc.byte.fl l++List.replicate n .any))):OpR P ⟨d,.convert src dst x,T2,pos,after,g⟩ e A (S l) A:=fun F I w ρ hI hρ=>by
  have hl:=of_decide_eq_true hl
  subst hl
  have h:=hx ▸ hρ x
  generalize e1:ρ x=v at h
  cases h with
  | vw o off len cap b ho =>
    obtain ⟨b',arr,ho',he,hca,hrl⟩:=hI.holds _ (jV hA F)
    rw [ho] at ho'; cases ho'
    have hc:(convert src dst (.slice (some ⟨b,0,none⟩) l.length cap)).run P w=.ok (.string ⟨l.toArray⟩) w:=by
      refine run_convert_bytes_back w src dst El _ cap l hs hE hd fun j hj=>?_
      have hj':j < (Enc.byte.fl l++List.replicate n AV.any).length:=by simp [mR]; omega
      have hr:=hrl.2 j hj'
      have hrow:=row_at (n:=n) hj
      rw [(List.getElem?_eq_some_iff.1 hrow).2] at hr
      have hv:=cf hr
      have hja:j < arr.length:=by rw [hrl.1]; exact hj'
      rw [df,hca.cell]
      simp only [Nat.zero_add,aV hja]
      simp only [List.getD,aV hja,Option.getD_some] at hv
      rw [hv]
      simp [at_,List.getD,hj]
    refine ⟨_,_,w,I,?_,.inl rfl,cj _ _,hI,.v (.string ⟨l.toArray⟩)⟩
    simp only [execOp,e1,hc,Sem.run_bind,Result.andThen_ok,Sem.run_pure]
end
end Go.Av
namespace Go.Av
open Go.RowKit Go.Pv Go.MapKept
def mpI (k:IntKind) (es:List (List UInt8×Int)):AV:=.mp (es.map fun p=>(p.1,.int k p.2))
section
variable {P:Program} {ro:Option Nat} {N:Nat} {Q:gt} {ops:Array Oper} {i:Nat} {rest:List Nat} {e:Env} {ds:List ADef} {A:List Chunk}
  {T:TypeId} {pos:String} {after:Array Edge} {k:IntKind}
def AM (P:Program) (ro:Option Nat) (N:Nat) (ops:Array Oper) (Q:gt) (l:List Nat) (t:Nat) (k:IntKind) (es:List (List UInt8×Int)) (s:St):Prop :=
  ∀ F I w a r,Inv I (s.A++F) w→RelS N I w s a→a.tmps.getD t undef=.map (some r)→I.ext r=some 0→(∀ c∈s.A++F,c.blk I≠some r) →
    (∃ ents c,w.heap[r]?=some (.map ents c)∧ents.toList.map (fun x=>(x.key,x.val))=es.map fun p=>(.string ⟨p.1.toArray⟩,.int k p.2))→wpOpsIn (dX ro) 0 P ops (CQ N F I w Q) l a w
theorem AM.make {d T2:Nat} (ho:ops[i]?=some ⟨some d,.makeMap T none,T2,pos,after,none⟩) (hd:Nat.blt d N=true) (h:AM P ro N ops Q rest d k [] ⟨(d,.any)::e,ds,A⟩):AR P ro N ops Q (i::rest) ⟨e,ds,A⟩:=by
  refine ar ho rfl fun F I w a hI hS=>?_
  have hdN:d < N:=af hd
  have X:=hI.new_still (.map #[] 0)
  have X2:Ext I w I (w.alloc (.map #[] 0)):=by
    refine ⟨rfl,rfl,rfl,by simp,fun b hb=>?_,fun b j hj=>?_,fun _ _ h=>h,fun _ _ h=>h,fun _ _ h=>h,fun _ _ h=>h.alloc _⟩
    · have hne:b≠w.heap.size:=fun e=>by rw [e,hI.fresh _ (Nat.le_refl _)] at hb; cases hb
      exact ⟨cS _ _ _ hne,hb⟩
    · refine kY _ _ _ _ fun e=>?_
      have:=hj 0 (by rw [e]; exact hI.fresh _ (Nat.le_refl _))
      omega
  have hlt:∀ c∈A++F,∀ b,c.blk I=some b→b≠w.heap.size:=fun c hc b hb e=>by
    have:=(hI.holds c hc).blk_lt hb; omega
  have hI2:Inv I (A++F) (w.alloc (.map #[] 0)):=hI.keep X2 (fun c hc b hb=>⟨cS _ _ _ (hlt c hc b hb),rfl⟩) (fun b hb=>hI.fresh b (by simp only [World.size_alloc] at hb; omega)) hI.ids
  refine ⟨fun _ _=>dQ _,?_⟩
  rw [Oper.semAt_eq _ _ _ (fun c h=>by cases h)]
  have hrun:(execOp a.eval ⟨some d,.makeMap T none,T2,pos,after,none⟩).run P w=.ok (.value (.map (some w.heap.size))) (w.alloc (.map #[] 0)):=by
    simp only [execOp,Option.map_none,Sem.run_bind,Result.andThen_ok,Sem.run_pure]
    rfl
  rw [hrun]
  have hS2:=(hS.mono X2).put hdN (av:=.any) (v:=.map (some w.heap.size)) (.any _) A
  have hk:=h F I (w.alloc (.map #[] 0)) (a.put (some d) (.map (some w.heap.size))) w.heap.size hI2 hS2 (by
      have hs:=hS.size
      simp only [Act.put,Array.getD_eq_getD_getElem?,Array.getElem?_setIfInBounds_self_of_lt (show d < a.tmps.size by omega),Option.getD_some]) (hI.fresh _ (Nat.le_refl _)) (fun c hc hb=>hlt c hc _ hb rfl)
    ⟨#[],0,cT _ _,rfl⟩
  exact cZ rest (fun _ _ _=>eL X2 fun _ _ h=>h) _ _ hk
theorem AM.insert {t T2:Nat} {es:List (List UInt8×Int)} {key:ByteArray} {s:List UInt8} {n:Int} {kt et:TypeId} (ho:ops[i]?=some ⟨none,.insert T (.tmp t) (.const (.string key)) (.const (.int k n)),T2,pos,after,none⟩)
    (hm:P.underlying T=some (.map kt et)) (hd:P.underlying kt=some .string) (hs:key.data.toList=s) (hn:(es.all fun p => !(p.1==s))=true)
    (h:AM P ro N ops Q rest t k (es++[(s,n)]) ⟨e,ds,A⟩):AM P ro N ops Q (i::rest) t k es ⟨e,ds,A⟩:=by
  intro F I w a r hI hS ht hr0 hrb hh;obtain ⟨ents,c,hb,hes⟩:=hh
  have hkey:key=⟨s.toArray⟩:=by cases key; simp at hs; subst hs; rfl
  have hks:∀ x∈ents.toList,IsKey .string x.key:=fun x hx=>by
    have:(x.key,x.val)∈es.map fun p=>(Value.string ⟨p.1.toArray⟩,Value.int k p.2):=by rw [← hes]; exact List.mem_map_of_mem hx
    obtain ⟨p,_,hp⟩:=List.mem_map.1 this
    simp only [Prod.mk.injEq] at hp
    rw [← hp.1]; trivial
  have hne:∀ x∈ents.toList,x.key≠.string key:=fun x hx e2=>by
    have:(x.key,x.val)∈es.map fun p=>(Value.string ⟨p.1.toArray⟩,Value.int k p.2):=by rw [← hes]; exact List.mem_map_of_mem hx
    obtain ⟨p,hp,hpe⟩:=List.mem_map.1 this
    simp only [Prod.mk.injEq] at hpe
    have h2:=List.all_eq_true.1 hn p hp
    rw [e2,hkey] at hpe
    have h3:=hpe.1
    simp only [Value.string.injEq,ByteArray.mk.injEq] at h3
    have h4:p.1=s:=by have:=congrArg Array.toList h3; simpa using this
    simp [h4] at h2
  rcases findNow_spec (d:=.string) (k:=.string key) trivial ents.toList 0 hks with ⟨h1,_⟩ | ⟨j,x,_,h2,h3⟩
  · have hlt:=(Array.getElem?_eq_some_iff.1 hb).1
    have hrun:(Oper.semAt (dX ro).round a.eval ⟨none,.insert T (.tmp t) (.const (.string key)) (.const (.int k n)),T2,pos,after,none⟩).run P w =
        .ok .skip { w with heap:=w.heap.setIfInBounds r (.map (ents.push { key:=.string key,val:=.int k n,born:=c }) (c+1)) }:=by
      rw [Oper.semAt_eq _ _ _ (fun c h=>by cases h)]
      simp [execOp,Act.eval,ht,Instr.mapUpdate,run_underlying hm,MapKept.run_getObj_map hb,MapKept.run_checkKey (d:=.string) (k:=.string key) hd trivial,MapKept.run_findKey hd h1,MapKept.run_setObj_map _ hb,Result.andThen]
    have hset:=heap_set (o':=.map (ents.push { key:=.string key,val:=.int k n,born:=c }) (c+1)) hb
    have X:Ext I w I { w with heap:=w.heap.setIfInBounds r (.map (ents.push { key:=.string key,val:=.int k n,born:=c }) (c+1)) }:=by
      refine ⟨rfl,rfl,rfl,by simp,fun b hb'=>?_,fun b j hj=>?_,fun _ _ h=>h,fun _ _ h=>h,fun _ _ h=>h,fun b E hE=>?_⟩
      · have:b≠r:=fun e=>by rw [e,hr0] at hb'; cases hb'
        exact ⟨hset.2 b this,hb'⟩
      · have:b≠r:=fun e=>by have:=hj 0 (by rw [e]; exact hr0); omega
        simp only [World.cell?,hset.2 b this]
      · by_cases e:b=r
        · subst e; obtain ⟨d,fz,hd⟩:=hE; rw [hb] at hd; cases hd
        · obtain ⟨d,fz,hd⟩:=hE; exact ⟨d,fz,(hset.2 b e).trans hd⟩
    have hI2:=hI.keep X (fun c hc b hb'=>⟨hset.2 b (fun e=>hrb c hc (by rw [← e]; exact hb')),rfl⟩) (fun b hb'=>hI.fresh b (by simpa using hb')) hI.ids
    have hk:=h F I _ a r hI2 (hS.mono X) ht hr0 hrb ⟨_,_,hset.1,by simp [hes,hkey]⟩
    simp only [wpOpsIn,ho,Region.wanted,if_true]
    refine ⟨fun _ _=>dQ _,?_⟩
    rw [hrun]
    exact cZ rest (fun _ _ _=>eL X fun _ _ h=>h) _ _ hk
  · exact (hne x (by have:=List.mem_of_getElem? h2; exact this) h3).elim
theorem AM.done {l:List Nat} {t:Nat} {es:List (List UInt8×Int)} (h:AR P ro N ops Q l ⟨(t,mpI k es)::e,ds,A⟩):AM P ro N ops Q l t k es ⟨e,ds,A⟩:=by
  intro F I w a r hI hS ht hr0 hrb hh;obtain ⟨ents,c,hb,hes⟩:=hh
  have X:Ext I w (I.still r) w:=by
    refine ⟨rfl,rfl,rfl,Nat.le_refl _,fun b hb'=>⟨rfl,?_⟩,fun _ _ _=>rfl,fun b n hn=>?_,fun _ _ h=>h,fun _ _ h=>h,fun _ _ h=>h⟩
    · simp only [Info.still]; split
      · rfl
      · exact hb'
    · intro m hm
      simp only [Info.still] at hm
      split at hm
      · cases hm
      · exact hn m hm
  have hlt:=(Array.getElem?_eq_some_iff.1 hb).1
  have hI2:Inv (I.still r) (A++F) w:=hI.keep X (fun c hc b hb'=>⟨rfl,by simp only [Info.still]; rw [if_neg (fun e=>hrb c hc (by rw [← e]; exact hb'))]⟩) (fun b hb'=>by simp only [Info.still]; rw [if_neg (by omega)]; exact hI.fresh b hb') hI.ids
  have hv:Rel (I.still r) w (mpI k es) (.map (some r)):=.mp _ r ents c hb (by simp [Info.still]) (by rw [hes]; simp)
  have hS2:=hS.mono X
  have hk:=h F (I.still r) w a hI2 ⟨hS.size,fun j=>by
    simp only [ev]
    cases hbq:Nat.beq t j with
    | false=>exact hS2.env j
    | true=>have:=Nat.eq_of_beq_eq_true hbq; subst this; rw [ht]; exact hv,hS2.ds⟩
  exact cZ l (fun _ _ _=>eL X fun _ _ h=>h) _ _ hk
end
def mget (es:List (List UInt8×Int)) (s:List UInt8):Int:=(es.lookup s).getD 0
def mhas (es:List (List UInt8×Int)) (s:List UInt8):Bool:=(es.lookup s).isSome
section
variable {P:Program} {e:Env} {d:Option Nat} {T:TypeId} {pos:String} {after:Array Edge} {g:Option (Nat×Bool)} {x y:Operand} {T2:TypeId} {k:IntKind}
theorem wN {es:List (List UInt8×Int)} {s:List UInt8} {I:Info} {w:World} {v:Value} (h:Rel I w (mpI k es) v) {kt et:TypeId} (hm:P.underlying T=some (.map kt et)) (hd:P.underlying kt=some .string) (hz:∀ w,(zeroValue et).run P w=.ok (.int k 0) w) :
    ∀ w',(∀ b,I.ext b=none→w'.heap[b]?=w.heap[b]?)→∀ ok,(Instr.lookup T v (.string ⟨s.toArray⟩) ok).run P w'=.ok (if ok then .tuple #[.int k (mget es s),.bool (mhas es s)] else .int k (mget es s)) w':=by
  cases h with
  | mp _ r ents c hb hst he =>
    intro w' hw' ok
    have hb':w'.heap[r]?=some (.map ents c):=(hw' r hst).trans hb
    have key:∀ (es:List (List UInt8×Int)) (l:List MapEntry) (i:Nat),l.map (fun x=>(x.key,x.val))=(es.map fun p=>(p.1,Value.int k p.2)).map (fun p=>(.string ⟨p.1.toArray⟩,p.2)) →
        ∃ j,Instr.findNow .string (.string ⟨s.toArray⟩) l i=some (match es.lookup s with | some n=>some (j,.int k n) | none=>none):=by
      intro es
      induction es with
      | nil=>intro l i hl; simp at hl; subst hl; exact ⟨0,rfl⟩
      | cons p es ih =>
        intro l i hl
        cases l with
        | nil=>simp at hl
        | cons x l =>
          simp only [List.map_cons,List.cons.injEq,Prod.mk.injEq] at hl
          obtain ⟨⟨hk1,hv1⟩,hl⟩:=hl
          have hsn:Instr.sameNow .string (.string ⟨s.toArray⟩) x.key=some (s==p.1):=by
            rw [hk1]
            show some ((⟨s.toArray⟩:ByteArray)==⟨p.1.toArray⟩)=_
            congr 1
            rw [Bool.eq_iff_iff,bytes_beq]
            simp
          cases hsp:(s==p.1) with
          | true =>
            refine ⟨i,?_⟩
            simp only [Instr.findNow,hsn,hsp,List.lookup,hv1]
          | false =>
            obtain ⟨j,hj⟩:=ih l (i+1) hl;refine ⟨j,?_⟩
            simp only [Instr.findNow,hsn,hsp,List.lookup,hj]
    obtain ⟨j,hj⟩:=key es ents.toList 0 he
    have hfk:(Instr.findKey kt (.string ⟨s.toArray⟩) ents.toList).run P w'=.ok _ w':=MapKept.run_findKey (d:=.string) hd hj
    have hck:∀ b,(Instr.checkKey b 10000 kt (.string ⟨s.toArray⟩)).run P w'=.ok () w':=fun b=>MapKept.run_checkKey (d:=.string) (k:=.string ⟨s.toArray⟩) hd trivial b 9999
    simp only [Instr.lookup,Sem.run_bind,run_underlying hm,Result.andThen_ok,MapKept.run_getObj_map hb',Sem.run_pure,hck,hfk]
    unfold mget mhas
    cases es.lookup s with
    | none=>simp [hz,Result.andThen]
    | some n=>simp [Result.andThen]
theorem Ao {es:List (List UInt8×Int)} {s:List UInt8} {kt et:TypeId} (hm:P.underlying T=some (.map kt et)) (hd:P.underlying kt=some .string) (hz:∀ w,(zeroValue et).run P w=.ok (.int k 0) w) (hx:opv e x=mpI k es) (hy:opv e y=S s) :
    OpS P ⟨d,.lookup T x y true,T2,pos,after,g⟩ e (.tup [.v (.int k (mget es s)),B (mhas es s)]):=fun I w ρ hρ=>by
  have h:=hx ▸ hρ x
  have e2:=cf (hy ▸ hρ y)
  refine ⟨.tuple #[.int k (mget es s),.bool (mhas es s)],.tup _ [_,_] rfl (fp (.v _) (fp (.v _) ge)).2,fun w' _ hw=>?_⟩
  simp only [execOp,e2,wN h hm hd hz w' hw true,Sem.run_bind,Result.andThen_ok,Sem.run_pure]
  rfl
end
end Go.Av
namespace Go.Pv
open Go
def dh (n:Int):List UInt8:=(Utf8.encode n).data.toList
def nV (s:List UInt8) (p:Nat):Nat×Nat:=Utf8.decode ⟨s.toArray⟩ p
end Go.Pv
namespace Go.Av
open Go.RowKit Go.Pv
def lD (T:TypeId) (k:IntKind) (n:Int):AV:=if n=0 then .v .nilIface else .ifc T (.v (.int k n))
def eAny (T:TypeId) (n:Int):AV:=if n=0 then .v .nilIface else .ifc T .any
section
variable {P:Program} {e:Env} {d:Option Nat} {T:TypeId} {pos:String} {after:Array Edge} {g:Option (Nat×Bool)} {x y z:Operand} {av:AV} {T1 T2 T':TypeId}
def eY:TypeDesc→Bool
  | .interface _=>true
  | _=>false
theorem wU {n:Nat} {t:TypeId} {v:Value} {w:World} {D:TypeDesc} (hT:P.underlying T=some D) (hD:eY D=true):(Op.equalIn (n+1) T (.iface t v) .nilIface).run P w=.ok false w:=by
  cases D <;> first | (cases hD; done) | simp only [Op.equalIn,Sem.run_bind,run_underlying hT,Result.andThen_ok,Sem.run_pure]
theorem wT {n:Nat} {t:TypeId} {v:Value} {w:World} {D:TypeDesc} (hT:P.underlying T=some D) (hD:eY D=true):(Op.equalIn (n+1) T .nilIface (.iface t v)).run P w=.ok false w:=by
  cases D <;> first | (cases hD; done) | simp only [Op.equalIn,Sem.run_bind,run_underlying hT,Result.andThen_ok,Sem.run_pure]
theorem wS {n:Nat} {w:World} {D:TypeDesc} (hT:P.underlying T=some D) (hD:eY D=true):(Op.equalIn (n+1) T .nilIface .nilIface).run P w=.ok true w:=by
  cases D <;> first | (cases hD; done) | simp only [Op.equalIn,Sem.run_bind,run_underlying hT,Result.andThen_ok,Sem.run_pure]
theorem eqn_int {n:Nat} {t:TypeId} {k k':IntKind} {a b:Int} {w:World} (ht:P.underlying t=some (.int k)):(Op.equalIn (n+1) t (.int k' a) (.int k' b)).run P w=.ok (a==b) w:=by
  simp [Op.equalIn,run_underlying ht,Result.andThen]
theorem wV {n:Nat} {t:TypeId} {k k':IntKind} {a b:Int} {w:World} {D:TypeDesc} (hT:P.underlying T=some D) (hD:eY D=true) (ht:P.underlying t=some (.int k)) (hc:(P.info? t).any (·.comparable)=true) :
    (Op.equalIn (n+1+1) T (.iface t (.int k' a)) (.iface t (.int k' b))).run P w=.ok (a==b) w:=by
  have h:=eqn_int (n:=n) (k':=k') (a:=a) (b:=b) (w:=w) ht
  obtain ⟨i,hi,hi2⟩:=(Option.any_eq_true _ _).1 hc
  have hti:(typeInfo t).run P w=.ok i w:=by simp [typeInfo,program,hi,Sem.run]
  cases D <;> first | (cases hD; done) | (rw [Op.equalIn]; simp only [Sem.run_bind,run_underlying hT,Result.andThen_ok,Sem.run_pure,ne_eq,not_true_eq_false,if_false,hti,hi2,Bool.not_true,Bool.false_eq_true]; exact h)
theorem yt {t:TypeId} {v:Value} {w:World} {D:TypeDesc} (hT:P.underlying T=some D) (hD:eY D=true):(Op.equal T (.iface t v) .nilIface).run P w=.ok false w:=wU (n:=9999) hT hD
theorem yr {t:TypeId} {v:Value} {w:World} {D:TypeDesc} (hT:P.underlying T=some D) (hD:eY D=true):(Op.equal T .nilIface (.iface t v)).run P w=.ok false w:=wT (n:=9999) hT hD
theorem yq {w:World} {D:TypeDesc} (hT:P.underlying T=some D) (hD:eY D=true):(Op.equal T .nilIface .nilIface).run P w=.ok true w:=wS (n:=9999) hT hD
theorem yu {t:TypeId} {k k':IntKind} {a b:Int} {w:World} {D:TypeDesc} (hT:P.underlying T=some D) (hD:eY D=true) (ht:P.underlying t=some (.int k)) (hc:(P.info? t).any (·.comparable)=true) :
    (Op.equal T (.iface t (.int k' a)) (.iface t (.int k' b))).run P w=.ok (a==b) w:=wV (n:=9998) hT hD ht hc
theorem uM {op:BinOp} {v a b:Value} (h:a=.nilIface∨∃ t y,a=.iface t y) (w:World):(eqGuard op T x (.const v) a b).run P w=.ok () w:=by
  rcases h with rfl | ⟨t,y,rfl⟩
  · cases b <;> cases op <;> simp [eqGuard]
  · cases op <;> simp [eqGuard]
theorem Au {op:BinOp} {a b:Value} {t:TypeId} {v:Value} (hb:b=.iface t v) (h:a=.nilIface∨∃ t y,a=.iface t y) (w:World):(eqGuard op T x y a b).run P w=.ok () w:=by
  subst hb
  rcases h with rfl | ⟨t,y,rfl⟩ <;> cases op <;> simp [eqGuard]
theorem uA {I:Info} {w:World} {t:TypeId} {k:IntKind} {n:Int} {v:Value} (h:Rel I w (lD t k n) v):(n=0∧v=.nilIface)∨(n≠0∧v=.iface t (.int k n)):=by
  unfold lD at h
  by_cases h0:n=0
  · rw [if_pos h0] at h; exact .inl ⟨h0,cf h⟩
  · rw [if_neg h0] at h
    cases h with
    | ifc _ _ y hy=>exact .inr ⟨h0,by rw [cf hy]⟩
theorem rel_eAny {I:Info} {w:World} {t:TypeId} {n:Int} {v:Value} (h:Rel I w (eAny t n) v):(n=0∧v=.nilIface)∨(n≠0∧∃ y,v=.iface t y):=by
  unfold eAny at h
  by_cases h0:n=0
  · rw [if_pos h0] at h; exact .inl ⟨h0,cf h⟩
  · rw [if_neg h0] at h
    cases h with
    | ifc _ _ y hy=>exact .inr ⟨h0,y,rfl⟩
theorem xx {op:BinOp} {n:Int} {v:Value} {D:TypeDesc} (hop:op=.eql∨op=.neq) (hT:P.underlying T=some D) (hD:eY D=true) (h:(n=0∧v=.nilIface)∨(n≠0∧∃ t y,v=.iface t y)) (ρ:Operand→Value) (e1:ρ x=v) (h2:ρ (.const .nilIface)=.nilIface) (w:World) :
    (execOp ρ ⟨d,.binOp op T x (.const .nilIface) T',T2,pos,after,g⟩).run P w=.ok (.value (.bool (if op=.eql then decide (n=0) else !decide (n=0)))) w:=by
  have hg:(eqGuard op T x (.const .nilIface) v .nilIface).run P w=.ok () w:=uM (by rcases h with ⟨_,h⟩ | ⟨_,t,y,h⟩; exact .inl h; exact .inr ⟨t,y,h⟩) w
  have hb:(binOp op T v .nilIface).run P w=.ok (.bool (if op=.eql then decide (n=0) else !decide (n=0))) w:=by
    rcases h with ⟨h0,rfl⟩ | ⟨h0,t,y,rfl⟩ <;> rcases hop with rfl | rfl <;> simp [binOp,yq hT hD,yt hT hD,h0,Result.andThen]
  simp only [execOp,e1,h2,hg,hb,Sem.run_bind,Sem.run_pure,Result.andThen_ok]
theorem pN {n:Int} {t:TypeId} {k:IntKind} {D:TypeDesc} (hT:P.underlying T=some D) (hD:eY D=true) (hx:opv e x=lD t k n):OpS P ⟨d,.binOp .neq T x (.const .nilIface) T',T2,pos,after,g⟩ e (B (!decide (n=0))):=fun I w ρ hρ =>
  ⟨_,.v _,fun w' _ _=>xx (.inr rfl) hT hD (by rcases uA (hx ▸ hρ x) with h | ⟨h,h2⟩; exact .inl h; exact .inr ⟨h,_,_,h2⟩) ρ rfl (cf (hρ (.const .nilIface))) w'⟩
theorem yn {n:Int} {t:TypeId} {D:TypeDesc} (hT:P.underlying T=some D) (hD:eY D=true) (hx:opv e x=eAny t n):OpS P ⟨d,.binOp .neq T x (.const .nilIface) T',T2,pos,after,g⟩ e (B (!decide (n=0))):=fun I w ρ hρ =>
  ⟨_,.v _,fun w' _ _=>xx (.inr rfl) hT hD (by rcases rel_eAny (hx ▸ hρ x) with h | ⟨h,y,h2⟩; exact .inl h; exact .inr ⟨h,_,_,h2⟩) ρ rfl (cf (hρ (.const .nilIface))) w'⟩
theorem BE {op:BinOp} {n m:Int} {v:Value} {t:TypeId} {k k':IntKind} {D:TypeDesc} (hop:op=.eql∨op=.neq) (hT:P.underlying T=some D) (hD:eY D=true) (ht:P.underlying t=some (.int k')) (hc:(P.info? t).any (·.comparable)=true) (hm:decide (m=0)=false)
    (h:(n=0∧v=.nilIface)∨(n≠0∧v=.iface t (.int k n))) (ρ:Operand→Value) (e1:ρ x=v) (h2:ρ y=.iface t (.int k m)) (w:World) :
    (execOp ρ ⟨d,.binOp op T x y T',T2,pos,after,g⟩).run P w=.ok (.value (.bool (if op=.eql then decide (n=m) else !decide (n=m)))) w:=by
  have hm':m≠0:=of_decide_eq_false hm
  have hg:(eqGuard op T x y v (.iface t (.int k m))).run P w=.ok () w:=Au rfl (by rcases h with ⟨_,h⟩ | ⟨_,h⟩; exact .inl h; exact .inr ⟨_,_,h⟩) w
  have hb:(binOp op T v (.iface t (.int k m))).run P w=.ok (.bool (if op=.eql then decide (n=m) else !decide (n=m))) w:=by
    rcases h with ⟨h0,rfl⟩ | ⟨h0,rfl⟩
    · have hnm:¬ n=m:=by omega
      rcases hop with rfl | rfl <;> simp [binOp,yr hT hD,hnm,Result.andThen]
    · rcases hop with rfl | rfl <;> simp [binOp,yu hT hD ht hc,Result.andThen] <;> rfl
  simp only [execOp,e1,h2,hg,hb,Sem.run_bind,Sem.run_pure,Result.andThen_ok]
theorem ov {I:Info} {w:World} {t:TypeId} {k:IntKind} {n:Int} {v:Value} (h:Rel I w (.ifc t (.v (.int k n))) v):v=.iface t (.int k n):=by
  cases h with
  | ifc _ _ y hy=>rw [cf hy]
theorem An {n m:Int} {t:TypeId} {k k':IntKind} {D:TypeDesc} (hT:P.underlying T=some D) (hD:eY D=true) (ht:P.underlying t=some (.int k')) (hc:(P.info? t).any (·.comparable)=true) (hm:decide (m=0)=false) (hx:opv e x=lD t k n) (hy:opv e y=.ifc t (.v (.int k m))) :
    OpS P ⟨d,.binOp .neq T x y T',T2,pos,after,g⟩ e (B (!decide (n=m))):=fun I w ρ hρ =>
  ⟨_,.v _,fun w' _ _=>BE (.inr rfl) hT hD ht hc hm (uA (hx ▸ hρ x)) ρ rfl (ov (hy ▸ hρ y)) w'⟩
theorem pM {k:IntKind} {n:Int} {r:List UInt8} {src dst:TypeId} {ks:IntKind} (hs:P.underlying src=some (.int ks)) (hd:P.underlying dst=some .string) (hx:opv e x=.v (.int k n)) (he:dh n=r) :
    OpS P ⟨d,.convert src dst x,T,pos,after,g⟩ e (S r):=fun I w ρ hρ=>by
  have h1:=cf (hx ▸ hρ x)
  subst he;refine ⟨_,.v _,fun w' _ _=>?_⟩
  simp [execOp,h1,convert,run_underlying hs,run_underlying hd,Conv.intToString,dh,Result.andThen]
theorem xA {A:List Chunk} {s:List UInt8} {o i p:Nat} (hx:opv e x=.pt o 0) (hA:A[i]?=some (.iter o s p)) (hp:decide (p < s.length)=true) :
    OpR P ⟨d,.next x true,T,pos,after,g⟩ e A (.tup [B true,i64 p,.v (.int .i32 (nV s p).1)]) (A.set i (.iter o s (p+(nV s p).2))):=ua hx hA (of_decide_eq_true hp)
theorem xB {A:List Chunk} {s:List UInt8} {o i p:Nat} (hx:opv e x=.pt o 0) (hA:A[i]?=some (.iter o s p)) (hp:decide (p < s.length)=false) :
    OpR P ⟨d,.next x true,T,pos,after,g⟩ e A (.tup [B false]) A:=ub hx hA (of_decide_eq_false hp)
theorem xv (a:UInt8):BitVec.ofInt 8 (a.toNat:Int)=a.toBitVec:=by
  rw [BitVec.ofInt_natCast]
  apply BitVec.eq_of_toNat_eq
  rw [BitVec.toNat_ofNat]
  have:=a.toNat_lt
  show a.toNat % 2 ^ 8=a.toNat
  omega
theorem xM (a:UInt8):IntKind.u8.wrap (a.toNat:Int)=a.toNat:=by rw [wrap_u8]; have:=a.toNat_lt; omega
theorem or8_eq (a b:UInt8):IntKind.u8.wrap ((BitVec.ofInt IntKind.u8.bits (a.toNat:Int) ||| BitVec.ofInt IntKind.u8.bits (b.toNat:Int)).toNat:Int)=((a ||| b).toNat:Int):=by
  show IntKind.u8.wrap ((BitVec.ofInt 8 (a.toNat:Int) ||| BitVec.ofInt 8 (b.toNat:Int)).toNat:Int)=_
  rw [xv,xv,← UInt8.toBitVec_or]
  exact xM _
theorem g_or8 {a b:UInt8} (hx:opv e x=u8 a) (hy:opv e y=u8 b):OpS P ⟨d,.binOp .or T x y T',T2,pos,after,g⟩ e (u8 (a ||| b)) :=
  bo (opS_or hx hy) (by rw [or8_eq])
end
end Go.Av
