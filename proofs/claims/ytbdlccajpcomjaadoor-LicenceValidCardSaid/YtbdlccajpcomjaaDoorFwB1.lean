/- Own work: the value machine, part 1. -/
import Derived.WalkKit
import Derived.KernelRfl
set_option linter.unusedVariables false
set_option linter.unusedSimpArgs false
open Bool renaming and_eq_true → aB
open List renaming replicate → jE, mem_append_left → gJ, mem_append_right → iq, length_append → a8, mem_map → ew, mem_append → eu, cons_append → dQ
open Nat renaming decEq → fg, le_trans → gv, lt_of_lt_of_le → eK
open Option renaming bind_eq_some_iff → av, bind_assoc → oL, bind_some → ah, map_some → vM
open Option.some renaming injEq → az
/- The abstract value machine, part 1: types of values, native values, what memory shows of them. -/
namespace Go.Fw
open Go Go.RowKit
inductive Ty where
 | int (k:IntKind) | bool | str | unit
 | sl (T:Ty) | pair (A B:Ty) | arr (n:Nat) (T:Ty)
 | fn (A B:Ty)
 deriving DecidableEq
abbrev den:Ty→Type
 | .int _=>Int
 | .bool=>Bool
 | .str=>List UInt8
 | .unit=>Unit
 | .sl T=>List (den T)
 | .pair A B=>den A×den B
 | .arr _ T=>List (den T)
 | .fn A B=>den A→Option (den B)
def zero:(T:Ty)→den T
 | .int _=>(0:Int)
 | .bool=>false
 | .str=>([]:List UInt8)
 | .unit=>()
 | .sl _=> []
 | .pair A B=>(zero A,zero B)
 | .arr n T=>jE n (zero T)
 | .fn _ _=>fun _=>none
def aA:Ty→Nat
 | .unit=>0
 | .pair A B=>aA A+aA B
 | .arr n T=>n * aA T
 | _=>1
def fk:Ty→Bool
 | .unit | .pair _ _ | .arr _ _=>true
 | _=>false
def dv:Ty→Bool
 | .sl _ | .fn _ _=>false
 | .pair A B=>dv A&&dv B
 | .arr _ T=>dv T
 | _=>true
def ez:Ty→Bool
 | .fn _ _=>false
 | .sl T=>ez T
 | .pair A B=>ez A&&ez B
 | .arr _ T=>ez T
 | _=>true
inductive aC where
 | no
 | hole
 | own (wr:Bool) (e:TypeId) (o:aC)
 | pair (a b:aC)
def aC.l:aC→aC | .pair a _=>a | _=>.no
def aC.r:aC→aC | .pair _ b=>b | _=>.no
abbrev OB:=List (Nat×Nat)
def aU {α:Type} (R:α→List Value→OB→Prop):List α→List Value→OB→Prop
 | [],vs,ob=>vs=[]∧ob=[]
 | x::xs,vs,ob=>∃ v1 v2 b1 b2,vs=v1++v2∧ob=b1++b2∧R x v1 b1∧aU R xs v2 b2
def ny:TypeId:=4294967295
def rM (fz:Nat×Nat) (n:Nat):Prop:=fz=(0,0)∨n≤fz.1
def jR (w:World) (base:Nat) (e:TypeId) (size:Nat) (v:Value) (n:Nat) (xs:List Value):Prop:=
 xs.length=n * size∧
 ((v=.slice none 0 0∧n=0)∨
  ∃ g cap cur e' fz,v=.slice (some ⟨g,0,none⟩) n cap∧base≤g∧w.heap[g]?=some (.cells cur e' fz)∧n≤cap∧cap≤maxLen∧cur.size=cap * size∧cur.toList.take (n * size)=xs∧(e≠ny→e'=e∧fz=(0,0))∧rM fz cur.size)
def gP (k:IntKind) (n:Int):Prop:=k.min≤n∧n≤k.max
def ck (T:Ty) (vs:List Value):Value:=if fk T then .agg vs.toArray else vs.headD undef
def cf (v:Value) (lim:Nat):OB:=match v.ownBlock with | some b=> [(b,lim)] | none=> []
def b8 (B:Nat) (w w':World):Prop:=w.heap.size≤w'.heap.size∧∀ b,b < B→w'.heap[b]?=w.heap[b]?
def gS (P : Program) (f : FuncId) : Prop := ∃ fn, P.funcs[f]? = some fn ∧ (fn.name == "runtime.NumGoroutine") = false ∧ fn.body.isNone = false
mutual
def Flat (P:Program):(T:Ty)→World→(Nat→Nat→Prop)→Nat→aC→den T→List Value→OB→Prop
 | .int k,_,_,_,_,n,vs,ob=>vs=[.int k n]∧gP k n∧ob=[]
 | .bool,_,_,_,_,b,vs,ob=>vs=[.bool b]∧ob=[]
 | .str,_,_,_,_,s,vs,ob=>vs=[.string ⟨⟨s⟩⟩]∧s.length≤maxLen∧ob=[]
 | .unit,_,_,_,_,_,vs,ob=>vs=[]∧ob=[]
 | .pair A C,w,G,B,o,x,vs,ob=>∃ v1 v2 b1 b2,vs=v1++v2∧ob=b1++b2∧Flat P A w G B o.l x.1 v1 b1∧Flat P C w G B o.r x.2 v2 b2
 | .arr n T,w,G,B,_,xs,vs,ob=>xs.length=n∧aU (Flat P T w G B .no) xs vs ob
 | .sl T,w,G,B,.own wr e o,xs,vs,ob=>∃ v cells ob',vs=[v]∧jR w B e (aA T) v xs.length cells∧aU (Flat P T w G B o) xs cells ob'∧
   ob=cf v (if wr then 0 else xs.length * aA T)++ob'
 | .sl _,_,_,_,.hole,_,vs,ob=>vs.length=1∧ob=[]
 | .sl T,w,G,B,_,xs,vs,ob=>ob=[]∧∃ A c,vs=[.slice A xs.length c]∧xs.length≤c∧c≤maxLen∧
   (xs=[]∨∃ b off cells,A=some ⟨b,off,none⟩∧aU (Flat P T w G B .no) xs cells []∧∀ j v,cells[j]?=some v→w.cell? ⟨b,off+j,none⟩=some v∧G b (off+j))
 | .fn A C,w,_,B,_,g,vs,ob=>ob=[]∧dv C=true∧∃ f caps,vs=[.func (.func f) #[] caps]∧
   ∀ (w':World) (G':Nat→Nat→Prop) (x:den A) (vals:List Value),b8 B w w'→jV P A w' G' x vals→∀ r,g x=some r→
     gS P f∧Calls P f (vals.toArray++caps) w' (fun e w''=>∃ rs,Flat P C w'' G' B .no r rs []∧e=.returned (ck C rs)∧Below w'.heap.size w' w'')
def jV (P:Program):(A:Ty)→World→(Nat→Nat→Prop)→den A→List Value→Prop
 | .pair A C,w,G,x,vals=>∃ v1 rest,Flat P A w G w.heap.size .no x.1 v1 []∧vals=ck A v1::rest∧jV P C w G x.2 rest
 | .unit,_,_,_,vals=>vals=[]
 | _,_,_,_,_=>False
end
end Go.Fw
/- The abstract value machine, part 2: entries, operations, code. -/
namespace Go.Fw
open Go Go.RowKit
inductive St where
 | l | r | ix (i:Nat)
 deriving DecidableEq
abbrev Path:=List St
abbrev TV:=(T:Ty)×den T
def dw:Ty→Path→Option Ty
 | T,[]=>some T
 | .pair A _,.l::p=>dw A p
 | .pair _ B,.r::p=>dw B p
 | .arr n T,.ix i::p=>if i < n then dw T p else none
 | _,_=>none
def bu:Ty→Path→Nat
 | .pair A _,.l::p=>bu A p
 | .pair A B,.r::p=>aA A+bu B p
 | .arr _ T,.ix i::p=>i * aA T+bu T p
 | _,_=>0
def aN:(T:Ty)→Path→den T→Option TV
 | T,[],x=>some ⟨T,x⟩
 | .pair A _,.l::p,x=>aN A p x.1
 | .pair _ B,.r::p,x=>aN B p x.2
 | .arr _ T,.ix i::p,x=>if i < x.length then aN T p (x.getD i (zero T)) else none
 | _,_,_=>none
def bM (T:Ty) (y:TV):Option (den T):=if h:y.1=T then some (h▸y.2) else none
def bz:(T:Ty)→Path→den T→TV→Option (den T)
 | T,[],_,y=>bM T y
 | .pair A _,.l::p,x,y=>(bz A p x.1 y).bind fun z=>some (z,x.2)
 | .pair _ B,.r::p,x,y=>(bz B p x.2 y).bind fun z=>some (x.1,z)
 | .arr _ T,.ix i::p,x,y=>if i < x.length then (bz T p (x.getD i (zero T)) y).bind fun z=>some (x.set i z) else none
 | _,_,_,_=>none
def ct:aC→Path→aC
 | a,[]=>a
 | a,.l::p=>ct a.l p
 | a,.r::p=>ct a.r p
 | _,.ix _::_=>.no
def fD:aC→Path→aC→aC
 | _,[],b=>b
 | a,.l::p,b=>.pair (fD a.l p b) a.r
 | a,.r::p,b=>.pair a.l (fD a.r p b)
 | a,.ix _::_,_=>a
def td {α:Type}:aC→List (Path×α)→aC
 | o,[]=>o
 | o,(p,_)::r=>td (fD o p .no) r
def dM:Path→Bool
 | []=>false
 | .ix _::_=>true
 | _::p=>dM p
def aC.pure:aC→Bool
 | .no=>true
 | .pair a b=>a.pure&&b.pure
 | _=>false
def aC.whole:aC→Bool
 | .hole=>false
 | .pair a b=>a.whole&&b.whole
 | .own _ _ o=>o.whole
 | .no=>true
def aC.bJ:aC→aC
 | .own _ e o=>.own false e o.bJ
 | .pair a b=>.pair a.bJ b.bJ
 | a=>a
inductive E where
 | dead
 | cn
 | v (T:Ty) (x:den T)
 | own (wr:Bool) (e:TypeId) (T:Ty) (o:aC) (xs:List (den T))
 | loc (T:Ty) (o:aC) (x:den T)
 | ref (s:Nat) (p:Path)
 | ptr (s:Nat) (p:Path)
 | dk (s:Nat) (p:Path) (i:Nat) (q:Path)
 | at (T:Ty) (x:den T)
 | cP (es:List E)
 | dY (f:FuncId) (A C:Ty) (caps:List E)
 | it (s:List UInt8) (pos:Nat)
 | sb (t e:TypeId) (s:List UInt8)
 | nw (T:Ty) (o:aC) (x:den T)
abbrev Env:=List (Nat×E)
def look:Env→Nat→E
 | [],_=>.dead
 | (j,e)::r,k=>match fg j k with | .isTrue _=>e | .isFalse _=>look r k
def E.home:E→Bool
 | .own .. | .loc .. =>true
 | _=>false
def leads (s:Nat):E→Bool
 | .ref k _ | .ptr k _ | .dk k _ _ _=>k==s
 | .dY _ _ _ caps=>caps.any fun | .ref k _ | .ptr k _ | .dk k _ _ _=>k==s | _=>false
 | _=>false
def kill (s:Nat) (env:Env):Env:=env.map fun q=>if leads s q.2 then (q.1,.dead) else q
def eQ (s:Nat):E→Bool
 | .ptr _ _=>false
 | e=>leads s e
def jw (s:Nat) (env:Env):Env:=env.map fun q=>if eQ s q.2 then (q.1,.dead) else q
def vb (s d:Nat) (env:Env):Env:=env.map fun q=>match q.2 with
 | .ref k p=>if k==s then (q.1,.ref d p) else q
 | .dk k p i r=>if k==s then (q.1,.dk d p i r) else q
 | .dY f A C caps=>if leads s (.dY f A C caps) then (q.1,.dead) else q
 | _=>q
def put (env:Env) (k:Nat) (e:E):Env:=(k,if leads k e then .dead else e)::(if (look env k).home then kill k env else env)
def aX (env:Env) (k:Option Nat) (e:E):Env:=match k with | some k=>put env k e | none=>env
def freeze (env:Env) (s:Nat):Env:=
 match look env s with
 | .own _ e T o xs=>(s,.own false e T o.bJ xs)::env
 | .loc T o x=>(s,.loc T o.bJ x)::env
 | _=>env
def u0:E→List Nat
 | .ref k _ | .ptr k _ | .dk k _ _ _=> [k]
 | _=> []
def sJ:E→List Nat
 | .dY _ _ _ caps=>caps.flatMap u0
 | e=>u0 e
def sF (live:List Nat) (e:E):E:=match (sJ e).all fun s=>live.any fun k=>k==s with | true=>e | false=>.dead
def ae (live:List Nat) (env:Env):Env:=live.map fun k=>(k,sF live (look env k))
inductive Od where
 | t (k:Nat)
 | c (T:Ty) (x:den T)
 | nil (e:TypeId) (T:Ty)
 | fn (f:FuncId) (A C:Ty)
def ag (env:Env):Od→E
 | .t k=>look env k
 | .c T x=>.v T x
 | .nil e T=>.own true e T .no []
 | .fn f A C=>.dY f A C []
structure jX where
 wr:Bool
 e:TypeId
 T:Ty
 o:aC
 xs:List (den T)
def bC (env:Env) (s:Nat) (p:Path):Option jX:=
 match look env s with
 | .own wr e T o xs=>match p with | []=>some ⟨wr,e,T,o,xs⟩ | _=>none
 | .loc T o x=>match ct o p,aN T p x with
   | .own wr e o',some ⟨.sl T',xs⟩=>some ⟨wr,e,T',o',xs⟩
   | _,_=>none
 | _=>none
structure aH where
 run:FuncId→List E→Option (List E)
 runK:{R:Type}→FuncId→List E→(List E→Option R)→Option R
 eqn:∀ {R:Type} (f:FuncId) (es:List E) (k:List E→Option R),runK f es k=(run f es).bind k
instance:CoeFun aH (fun _=>FuncId→List E→Option (List E)):=⟨aH.run⟩
def aH.of (g:FuncId→List E→Option (List E)):aH:=⟨g,fun f es k=>(g f es).bind k,fun _ _ _=>rfl⟩
def unpack:(A:Ty)→den A→List E
 | .pair A B,x=>.v A x.1::unpack B x.2
 | _,_=> []
def vx (C:Ty):List E→Option (den C)
 | [.v T x]=>bM C ⟨T,x⟩
 | _=>none
def dH (env:Env):E→Option E
 | .v T x=>some (.v T x)
 | .own _ _ T o xs=>if o.pure then some (.v (.sl T) xs) else none
 | .ref s p=>(bC env s p).bind fun h=>if h.o.pure then some (.v (.sl h.T) h.xs) else none
 | .at T x=>some (.at T x)
 | .ptr s p=>match look env s with
   | .loc T o x=>if (ct o p).whole then (aN T p x).bind fun y=>some (.at y.1 y.2) else none
   | _=>none
 | .dk s p i q=>(bC env s p).bind fun h=>if h.o.pure&&decide (i < h.xs.length) then (aN h.T q (h.xs.getD i (zero h.T))).bind fun y=>some (.at y.1 y.2) else none
 | _=>none
def jG (env:Env):List E→Option (List E)
 | []=>some []
 | e::r=>(dH env e).bind fun x=>(jG env r).bind fun y=>some (x::y)
def dT (env:Env) (e:E):Option TV:=
 match e with
 | .v T x=>some ⟨T,x⟩
 | .own _ _ T o xs=>if o.pure then some ⟨.sl T,xs⟩ else none
 | .ref s p=>(bC env s p).bind fun h=>if h.o.pure then some ⟨.sl h.T,h.xs⟩ else none
 | _=>none
def tp (cl:aH) (env:Env) (f:FuncId) (A C:Ty) (caps:List E):Option E:=
 if dv C then (jG env caps).bind fun cs=>some (.v (.fn A C) fun x=>(cl f (unpack A x++cs)).bind (vx C)) else none
def fx (k:Od) (e:E):Option Nat:=
 match e with
 | .own .. =>match k with | .t k=>some k | _=>none
 | .ref s _ | .ptr s _ | .dk s _ _ _=>some s
 | .loc .. =>match k with | .t k=>some k | _=>none
 | _=>none
def ea (env:Env) (k:Od):Option (Env×TV):=
 (dT env (ag env k)).bind fun y=>some (match fx k (ag env k) with | some s=>freeze env s | none=>env,y)
def al {α:Type} (b:Bool) (x y:α):α:=match b with | true=>x | false=>y
def arith (op:BinOp) (k:IntKind) (x y:Int):Option Int:=
 match op with
 | .add=>some (k.wrap (x+y))
 | .sub=>some (k.wrap (x - y))
 | .mul=>some (k.wrap (x * y))
 | .and=>some (Go.bits .and k x y)
 | .or=>some (Go.bits .or k x y)
 | .xor=>some (Go.bits .xor k x y)
 | .andNot=>some (Go.bits .andNot k x y)
 | _=>none
def vp (l:Bool) (k:IntKind) (m n:Int):Int:=match l with
 | true=>k.wrap (m * 2 ^ (min n.toNat k.bits))
 | false=>m.fdiv (2 ^ (min n.toNat k.bits))
def Es (op:BinOp) (x y:Int):Option Bool:=
 match op with
 | .eql=>some (x==y)
 | .neq=>some (x != y)
 | .lss=>some (decide (x < y))
 | .leq=>some (decide (x≤y))
 | .gtr=>some (decide (x > y))
 | .geq=>some (decide (x≥y))
 | _=>none
end Go.Fw
/- The abstract value machine: operations whose order is open, read through a reader that fails on what is dead. -/
namespace Go.Fw
open Go Go.RowKit
def Sub (L L':Nat→E):Prop:=∀ k,L k=.dead∨L' k=L k
structure Rd (α:Type) where
 run:(Nat→E)→Option α
 runK:{R:Type}→(Nat→E)→(α→Option R)→Option R
 mono:∀ L L' x,Sub L L'→run L=some x→run L'=some x
 eqn:∀ {R:Type} (L:Nat→E) (k:α→Option R),runK L k=(run L).bind k
namespace Rd
def ok {α:Type} (x:α):Rd α:=⟨fun _=>some x,fun _ k=>k x,fun _ _ _ _ h=>h,fun _ _=>rfl⟩
def no {α:Type}:Rd α:=⟨fun _=>none,fun _ _=>none,fun _ _ _ _ h=>h,fun _ _=>rfl⟩
def of {α:Type} (x:Option α):Rd α:=⟨fun _=>x,fun _ k=>x.bind k,fun _ _ _ _ h=>h,fun _ _=>rfl⟩
def lz:E→Option E
 | .dead=>none
 | e=>some e
def get (k:Nat):Rd E:=⟨fun L=>lz (L k),fun L c=>(lz (L k)).bind c,fun L L' x hs h=>by
 rcases hs k with h1 | h1
 ·rw [h1] at h; simp [lz] at h
 ·rw [h1]; exact h,fun _ _=>rfl⟩
def bind {α β:Type} (a:Rd α) (f:α→Rd β):Rd β:=⟨fun L=>(a.run L).bind fun x=>(f x).run L,fun L k=>a.runK L fun x=>(f x).runK L k,fun L L' x hs h=>by
 obtain ⟨y,hy,h⟩:=av.1 h
 exact av.2 ⟨y,a.mono L L' y hs hy,(f y).mono L L' x hs h⟩,fun L k=>by
 rw [a.eqn,oL]; congr 1; funext x; exact (f x).eqn L k⟩
def ite {α:Type} (p:Prop) [Decidable p] (a b:Rd α):Rd α:=⟨fun L=>if p then a.run L else b.run L,fun L k=>if p then a.runK L k else b.runK L k,fun L L' x hs h=>by
 split
 ·rename_i hp; rw [if_pos hp] at h; exact a.mono L L' x hs h
 ·rename_i hp; rw [if_neg hp] at h; exact b.mono L L' x hs h,fun L k=>by
 split
 ·exact a.eqn L k
 ·exact b.eqn L k⟩
def br {α:Type} (q:Bool) (a b:Rd α):Rd α:=⟨fun L=>al q (a.run L) (b.run L),fun L k=>al q (a.runK L k) (b.runK L k),fun L L' x hs h=>by
 cases q
 ·exact b.mono L L' x hs h
 ·exact a.mono L L' x hs h,fun L k=>by
 cases q
 ·exact b.eqn L k
 ·exact a.eqn L k⟩
def call (cl:aH) (f:FuncId) (es:List E):Rd (List E):=⟨fun _=>cl f es,fun _ k=>cl.runK f es k,fun _ _ _ _ h=>h,fun _ k=>cl.eqn f es k⟩
end Rd
def dK:Od→Rd E
 | .t k=>.get k
 | .c T x=>.ok (.v T x)
 | .nil e T=>.ok (.own true e T .no [])
 | .fn f A C=>.ok (.dY f A C [])
def HA (e:E) (p:Path):Option jX:=
 match e with
 | .own wr e T o xs=>match p with | []=>some ⟨wr,e,T,o,xs⟩ | _=>none
 | .loc T o x=>match ct o p,aN T p x with
   | .own wr e o',some ⟨.sl T',xs⟩=>some ⟨wr,e,T',o',xs⟩
   | _,_=>none
 | _=>none
def mW (s:Nat) (p:Path):Rd jX:=(Rd.get s).bind fun e=>.of (HA e p)
def SS (p:Path):E→Option E
 | .loc T o x=>if (ct o p).whole then (aN T p x).bind fun y=>some (.at y.1 y.2) else none
 | _=>none
def Dw:E→Rd E
 | .v T x=>.ok (.v T x)
 | .own _ _ T o xs=>.of (if o.pure then some (.v (.sl T) xs) else none)
 | .ref s p=>(mW s p).bind fun h=>.of (if h.o.pure then some (.v (.sl h.T) h.xs) else none)
 | .at T x=>.ok (.at T x)
 | .ptr s p=>(Rd.get s).bind fun e=>.of (SS p e)
 | .dk s p i q=>(mW s p).bind fun h=>.of (if h.o.pure&&decide (i < h.xs.length) then (aN h.T q (h.xs.getD i (zero h.T))).bind fun y=>some (.at y.1 y.2) else none)
 | _=>.no
def tf:List E→Rd (List E)
 | []=>.ok []
 | e::r=>(Dw e).bind fun x=>(tf r).bind fun y=>.ok (x::y)
def CB:E→Rd TV
 | .v T x=>.ok ⟨T,x⟩
 | .own _ _ T o xs=>.of (if o.pure then some ⟨.sl T,xs⟩ else none)
 | .ref s p=>(mW s p).bind fun h=>.of (if h.o.pure then some ⟨.sl h.T,h.xs⟩ else none)
 | _=>.no
def N2 (cl:aH) (f:FuncId) (A C:Ty) (caps:List E):Rd E:=
 if dv C then (tf caps).bind fun cs=>.ok (.v (.fn A C) fun x=>(cl f (unpack A x++cs)).bind (vx C)) else .no
theorem dS (env:Env) (x:Od):(dK x).run (look env)=Rd.lz (ag env x):=by
 cases x<;>rfl
theorem ann (env:Env) (s:Nat) (p:Path):bC env s p=HA (look env s) p:=by
 unfold bC HA
 rfl
theorem uv (env:Env) (s:Nat) (p:Path):(mW s p).run (look env)=bC env s p:=by
 rw [ann]
 show (Rd.lz (look env s)).bind (fun e=>HA e p)=_
 cases look env s<;>rfl
theorem SW (env:Env) (e:E):(Dw e).run (look env)=dH env e:=by
 cases e<;>try rfl
 ·rename_i s p
  show ((mW s p).run (look env)).bind _=_
  rw [uv]; rfl
 ·rename_i s p
  show (Rd.lz (look env s)).bind (fun e=>SS p e)=_
  simp only [dH]
  cases look env s<;>rfl
 ·rename_i s p i q
  show ((mW s p).run (look env)).bind _=_
  rw [uv]; rfl
theorem IY (env:Env):∀ (es:List E),(tf es).run (look env)=jG env es
 | []=>rfl
 | e::r=>by
   show ((Dw e).run (look env)).bind (fun x=>((tf r).run (look env)).bind fun y=>some (x::y))=_
   rw [SW,IY env r]; rfl
theorem HD (env:Env) (e:E):(CB e).run (look env)=dT env e:=by
 cases e<;>try rfl
 rename_i s p
 show ((mW s p).run (look env)).bind _=_
 rw [uv]; rfl
theorem aiK (cl:aH) (env:Env) (f:FuncId) (A C:Ty) (caps:List E):(N2 cl f A C caps).run (look env)=tp cl env f A C caps:=by
 unfold N2 tp
 split
 ·show ((tf caps).run (look env)).bind _=_
  rw [IY]; rfl
 ·rfl
end Go.Fw
/- The abstract value machine, part 3: steps, code, calls. -/
namespace Go.Fw
open Go Go.RowKit
inductive sY where
 | mv (x:Od)
 | ab (x:Od)
 | pick (c a b:Od)
 | alloc (T:Ty) (o:aC)
 | box (T:Ty) (x:Od)
 | build (T:Ty) (parts:List (Path×Od))
 | j6 (T:Ty) (o:aC) (parts:List (Path×Od))
 | buildSlice (e:TypeId) (T:Ty) (parts:List Od)
 | load (T:Ty) (a:Od)
 | store (T:Ty) (a x:Od)
 | bin (op:BinOp) (x y:Od)
 | un (op:UnOp) (x:Od)
 | qP (k:IntKind) (x:Od)
 | fieldAddr (S:Ty) (p:Path) (a:Od)
 | indexAddr (T:Ty) (x i:Od)
 | CE (n:Nat) (T:Ty) (x i:Od)
 | field (S:Ty) (p:Path) (x:Od)
 | du (x i:Od)
 | CD (n:Nat) (T:Ty) (x i:Od)
 | gF (x:Od) (lo hi:Option Od)
 | lY (T:Ty) (x:Od) (lo hi mx:Option Od)
 | rL (neg:Bool) (T:Ty) (x y:Od)
 | mkSlice (e:TypeId) (T:Ty) (lim:Nat) (len cap:Od)
 | append (e:TypeId) (T:Ty) (lim:Nat) (s x:Od)
 | cd (x:Od)
 | b4 (x:Od)
 | CM (n:Nat)
 | mm (max:Bool) (x y:Od)
 | call (f:FuncId) (args:List Od)
 | tl (x:Od) (args:List Od)
 | extract (k:Nat) (i:Nat)
 | CN (f:FuncId) (A C:Ty) (caps:List Od)
 | Sb (x:Od)
 | HO (k:Nat)
 | bad
 | dP (x:Od)
 | vw (x:Od)
 | toStr (x:Od)
 | vU (f:FuncId) (args:List Od)
 | N1 (f:FuncId) (args:List Od)
 | cp (x:Od)
 | Sl (f:FuncId) (x:Od)
 | hN (f:FuncId) (p:Od) (args:List Od)
 | CZ (t e:TypeId)
 | hQ (f:FuncId) (k:Nat) (x:Od)
 | lX (f:FuncId) (k:Nat)
 | shift (l:Bool) (x y:Od)
structure AI where
 dst:Option Nat
 op:sY
 guard:Option (Nat×Bool):=none
abbrev dn (R:Type):=Env→Option R
def Od.slot:Od→Option Nat | .t k=>some k | _=>none
def lq:E→Option (IntKind×Int)
 | .v (.int k) n=>some (k,n)
 | _=>none
def aD:E→Option Bool
 | .v .bool b=>some b
 | _=>none
def nt:E→Option (List UInt8)
 | .v .str s=>some s
 | _=>none
def nh (env:Env):Option Od→Option (Option Int)
 | none=>some none
 | some x=>(lq (ag env x)).bind fun q=>some (some q.2)
def rN:E→E
 | .own _ e T o xs=>.own false e T o.bJ xs
 | e=>e
def fzE:E→E
 | .cP es=>.cP (es.map rN)
 | e=>rN e
def rO (d:Option Nat) (env:Env):Env:=match d,env with
 | some _,(k,e)::r=>(k,fzE e)::r
 | _,env=>env
def fw (x:Od) (e:E):E:=
 match e with
 | .own .. =>match x with | .t k=>.ref k [] | _=>e
 | .loc .. =>match x with | .t k=>.ptr k [] | _=>e
 | .cP _=>.dead
 | .it _ _ | .sb _ _ _=>.dead
 | _=>e
def qi (env:Env) (d:Option Nat) (x:Od):Env:=
 match ag env x with
 | .cP es=>match x,d with
   | .t k,some d=>if k==d then env else (d,.cP es)::(k,.dead)::(if (look env d).home then kill d env else env)
   | _,_=>aX env d .dead
 | e=>aX env d (fw x e)
def assign (env:Env) (d:Nat) (x:Od):Env:=
 match ag env x with
 | .own wr e T o xs=>match x with
   | .t k=>if k==d then env else
     let env:=if (look env d).home then kill d env else env
     (d,.own wr e T o xs)::(k,.ref d [])::vb k d env
   | _=>put env d (.own wr e T o xs)
 | e=>put env d (fw x e)
def jH:(T:Ty)→Option (den T→den T→Bool)
 | .int _=>some fun x y=>x==y
 | .bool=>some fun x y=>x==y
 | .str=>some fun x y=>x==y
 | .unit=>some fun _ _=>true
 | .pair A B=>match jH A,jH B with
   | some f,some g=>some fun x y=>f x.1 y.1&&g x.2 y.2
   | _,_=>none
 | _=>none
def ir:(T:Ty)→den T→Env→List (Path×Od)→Option (Env×den T)
 | _,x,env,[]=>some (env,x)
 | T,x,env,(p,a)::r=>(ea env a).bind fun q=>(bz T p x q.2).bind fun y=>ir T y q.1 r
def oS (T:Ty):Env→List Od→Option (Env×List (den T))
 | env,[]=>some (env,[])
 | env,a::r=>(ea env a).bind fun q=>(bM T q.2).bind fun x=>(oS T q.1 r).bind fun z=>some (z.1,x::z.2)
def gg (cl:aH) (env:Env):List Od→Option (List E)
 | []=>some []
 | a::r=>
   (match ag env a with
    | .loc T o x=>if o.whole then some (E.at T x) else none
    | .dY f A C caps=>tp cl env f A C caps
    | e=>dH env e).bind fun x=>(gg cl env r).bind fun y=>some (x::y)
def jt (env:Env):List Od→Env
 | []=>env
 | a::r=>jt (match fx a (ag env a) with | some s=>freeze env s | none=>env) r
def E.plain:E→Bool
 | .v T _=>dv T
 | .own _ _ T _ _=>dv T
 | _=>false
def eI:List E→E
 | [e]=>e
 | es=>.cP es
def tuple:(A:Ty)→List E→Option (den A)
 | .unit,[]=>some ()
 | .pair A B,.v T x::r=>(bM A ⟨T,x⟩).bind fun y=>(tuple B r).bind fun z=>some (y,z)
 | _,_=>none
variable {R:Type}
def eH (env:Env) (y:Od):Option (Nat×Path):=
 match ag env y with
 | .ptr s p=>some (s,p)
 | .loc .. =>y.slot.map fun k=>(k,[])
 | _=>none
def placeOf (env:Env) (k0:Nat):Option (Nat×Path):=
 match look env k0 with
 | .own .. =>some (k0,[])
 | .ref k p=>some (k,p)
 | _=>none
def vv (env:Env) (k:Nat) (p:Path):Option Env:=
 match look env k with
 | .own .. =>some ((k,.dead)::kill k env)
 | .loc T0 o x0=>some ((k,.loc T0 (fD o p .hole) x0)::jw k env)
 | _=>none
def apart (d:Option Nat) (k:Nat):Bool:=match d with | some d=>!(d==k) | none=>false
def E.cap:E→Bool
 | .cP _ | .dY _ _ _ _ | .own .. | .it _ _ | .sb _ _ _=>false
 | _=>true
def C8:E→Option TV
 | .v T x=>some ⟨T,x⟩
 | _=>none
def vg (env:Env):Od→Option Nat
 | .t k=>match look env k with
   | .own .. =>some k
   | .ref s []=>some s
   | _=>none
 | _=>none
def ag4:List E→Option TV
 | [.own _ _ T _ ys]=>some ⟨.sl T,ys⟩
 | _=>none
def lv (o:aC) (s:Nat) (env:Env):Env:=match o.pure with | true=>env | false=>jw s env
def u6:E→Bool
 | .v T _=>ez T
 | .dead=>true
 | _=>false
def HI (T:Ty):List E→Option (aC×den T×List E)
 | .loc T' o x::rs=>(match ez T with | true=>(bM T ⟨T',x⟩).bind fun x=>some (o,x,rs) | false=>none)
 | _=>none
def sb?:List E→Option (List UInt8)
 | [.sb _ _ s]=>some s
 | _=>none
def ahQ:List E→Option (List UInt8)
 | [.v .str s]=>some s
 | _=>none
def step (cl:aH) (i:AI) (env:Env) (K:dn R):Option R:=
 match i.op with
 | .mv x=>K (qi env i.dst x)
 | .ab x=>match i.dst with | some d=>K (assign env d x) | none=>none
 | .pick c a b=>(aD (ag env c)).bind fun q=>al q (K (aX env i.dst (fw a (ag env a)))) (K (aX env i.dst (fw b (ag env b))))
 | .alloc T o=>K (aX env i.dst (.loc T o (zero T)))
 | .box T x=>(ea env x).bind fun q=>(bM T q.2).bind fun y=>K (aX q.1 i.dst (.loc T .no y))
 | .build T parts=>(ir T (zero T) env parts).bind fun q=>K (aX q.1 i.dst (.v T q.2))
 | .j6 T o parts=>(ir T (zero T) env parts).bind fun q=>K (aX q.1 i.dst (.nw T (td o parts) q.2))
 | .buildSlice e T parts=>(oS T env parts).bind fun q=>K (aX q.1 i.dst (.own true e T .no q.2))
 | .load T a=>match ag env a with
   | .at T' x=>(bM T ⟨T',x⟩).bind fun y=>K (aX env i.dst (.v T y))
   | .dk s p j q=>(bC env s p).bind fun h=>if j < h.xs.length then
     (if h.o.pure then (aN h.T q (h.xs.getD j (zero h.T))).bind fun z=>(bM T z).bind fun y=>K (aX env i.dst (.v T y)) else none) else none
   | _=>match eH env a with
     | some (s,p)=>match look env s with
       | .loc T0 o x=>match ct o p with
         | .own .. =>match aN T0 p x with
           | some ⟨.sl T',_⟩=>if T=.sl T' then K (aX env i.dst (.ref s p)) else none
           | _=>none
         | b=>if b.whole then (aN T0 p x).bind fun z=>(bM T z).bind fun y=>
            K (aX (if b.pure then env else freeze env s) i.dst (.v T y)) else none
       | _=>none
     | none=>none
 | .store T a x=>match ag env a with
   | .dk s p j q=>match look env s with
     | .own true e T0 o xs=>match p with
       | []=>(ea env x).bind fun y=>(bM T y.2).bind fun z=>if j < xs.length then
         (bz T0 q (xs.getD j (zero T0)) ⟨T,z⟩).bind fun u=>(match look y.1 s with | .own true .. =>some () | _=>none).bind fun _=>if o.pure then K ((s,.own true e T0 o (xs.set j u))::y.1) else none else none
       | _=>none
     | .loc .. =>(ea env x).bind fun y=>(bM T y.2).bind fun z=>match look y.1 s with
       | .loc T0 o x0=>(match ct o p,aN T0 p x0 with
         | .own true _ o',some ⟨.sl T1,xs⟩=>if j < xs.length then (bz T1 q (xs.getD j (zero T1)) ⟨T,z⟩).bind fun u=>(bz T0 p x0 ⟨.sl T1,xs.set j u⟩).bind fun x1=>
           if o'.pure then K ((s,.loc T0 o x1)::y.1) else none else none
         | _,_=>none)
       | _=>none
     | _=>none
   | _=>match eH env a with
     | some (s,p)=>match look env s with
       | .loc T0 o x0=>
         if (dv T) then
          (dT env (ag env x)).bind fun y=>(bM T y).bind fun z=>(bz T0 p x0 ⟨T,z⟩).bind fun x1=>K ((s,.loc T0 o x1)::env)
         else match ag env x with
         | .own wr e T1 o1 xs=>match x with
           | .t k=>(bM T ⟨.sl T1,xs⟩).bind fun z=>(bz T0 p x0 ⟨T,z⟩).bind fun x1=>match dM p with
             | true=>none
             | false=>K ((s,.loc T0 (fD o p (.own wr e o1)) x1)::(k,.ref s p)::jw s (kill k env))
           | _=>(bM T ⟨.sl T1,xs⟩).bind fun z=>(bz T0 p x0 ⟨T,z⟩).bind fun x1=>match dM p with
             | true=>none
             | false=>K ((s,.loc T0 (fD o p (.own wr e o1)) x1)::jw s env)
         | .nw T1 o1 x2=>(bM T ⟨T1,x2⟩).bind fun z=>(bz T0 p x0 ⟨T,z⟩).bind fun x1=>match dM p || !o1.whole with
           | true=>none
           | false=>K ((s,.loc T0 (fD o p o1) x1)::jw s env)
         | _=>(ea env x).bind fun y=>(bM T y.2).bind fun z=>match look y.1 s with
           | .loc T0 o x0=>(bz T0 p x0 ⟨T,z⟩).bind fun x1=>match (ct o p).pure with
             | true=>K ((s,.loc T0 o x1)::y.1)
             | false=>K ((s,.loc T0 (fD o p .no) x1)::jw s y.1)
           | _=>none
       | _=>none
     | none=>none
 | .bin op x y=>match ag env x,ag env y with
   | .v (.int k) m,.v (.int k') n=>if k=k' then
     (match op with
      | .quo=>if n=0 then none else K (aX env i.dst (.v (.int k) (k.wrap (m.tdiv n))))
      | .rem=>if n=0 then none else K (aX env i.dst (.v (.int k) (m.tmod n)))
      | _=>match Es op m n with
        | some b=>K (aX env i.dst (.v .bool b))
        | none=>(arith op k m n).bind fun r=>K (aX env i.dst (.v (.int k) r))) else none
   | .v .str s,.v .str t=>match op with
     | .eql=>K (aX env i.dst (.v .bool (s==t)))
     | .neq=>K (aX env i.dst (.v .bool (s != t)))
     | .add=>if s.length+t.length≤140737488355328 then K (aX env i.dst (.v .str (s++t))) else none
     | .lss=>K (aX env i.dst (.v .bool (Op.bytesLess s t)))
     | .leq=>K (aX env i.dst (.v .bool (Op.bytesLess s t || s==t)))
     | .gtr=>K (aX env i.dst (.v .bool (!(Op.bytesLess s t || s==t))))
     | .geq=>K (aX env i.dst (.v .bool (!Op.bytesLess s t)))
     | _=>none
   | _,_=>none
 | .rL neg T x y=>(dT env (ag env x)).bind fun s=>(dT env (ag env y)).bind fun t=>(bM T s).bind fun s=>(bM T t).bind fun t=>(jH T).bind fun f=>
   K (aX env i.dst (.v .bool (if neg then !f s t else f s t)))
 | .un op x=>match op,ag env x with
   | .not,.v .bool b=>K (aX env i.dst (.v .bool (!b)))
   | .neg,.v (.int k) n=>K (aX env i.dst (.v (.int k) (k.wrap (0 - n))))
   | _,_=>none
 | .shift l x y=>match ag env x,ag env y with
   | .v (.int k) m,.v (.int _) n=>if 0≤n then K (aX env i.dst (.v (.int k) (vp l k m n))) else none
   | _,_=>none
 | .qP k x=>(lq (ag env x)).bind fun q=>K (aX env i.dst (.v (.int k) (k.wrap q.2)))
 | .fieldAddr S p a=>match ag env a with
   | .at T x=>(bM S ⟨T,x⟩).bind fun x=>(aN S p x).bind fun y=>K (aX env i.dst (.at y.1 y.2))
   | .ptr s q=>match look env s with
     | .loc T0 _ _=>if dw T0 q=some S then K (aX env i.dst (.ptr s (q++p))) else none
     | _=>none
   | .dk s q j r=>(bC env s q).bind fun h=>if dw h.T r=some S then K (aX env i.dst (.dk s q j (r++p))) else none
   | .loc T0 _ _=>if T0=S then a.slot.bind fun k=>K (aX env i.dst (.ptr k p)) else none
   | _=>none
 | .indexAddr T x ix=>(lq (ag env ix)).bind fun q=>match ag env x with
   | .v T' xs=>(bM (.sl T) ⟨T',xs⟩).bind fun xs=>if 0≤q.2∧q.2 < (xs.length:Int) then K (aX env i.dst (.at T (xs.getD q.2.toNat (zero T)))) else none
   | .own _ _ T' _ xs=>if T'=T then x.slot.bind fun s=>if 0≤q.2∧q.2 < (xs.length:Int) then K (aX env i.dst (.dk s [] q.2.toNat [])) else none else none
   | .ref s p=>(bC env s p).bind fun h=>if h.T=T then if 0≤q.2∧q.2 < (h.xs.length:Int) then K (aX env i.dst (.dk s p q.2.toNat [])) else none else none
   | _=>none
 | .CE n T x ix=>(lq (ag env ix)).bind fun q=>match ag env x with
   | .at T' xs=>(bM (.arr n T) ⟨T',xs⟩).bind fun xs=>if 0≤q.2∧q.2 < (n:Int) then K (aX env i.dst (.at T (xs.getD q.2.toNat (zero T)))) else none
   | _=>match eH env x with
     | some (s,p)=>match look env s with
       | .loc T0 _ _=>if dw T0 p=some (.arr n T) then if 0≤q.2∧q.2 < (n:Int) then K (aX env i.dst (.ptr s (p++[.ix q.2.toNat]))) else none else none
       | _=>none
     | none=>none
 | .field S p x=>(dT env (ag env x)).bind fun y=>(bM S y).bind fun y=>(aN S p y).bind fun z=>K (aX env i.dst (.v z.1 z.2))
 | .du x ix=>(lq (ag env ix)).bind fun q=>(nt (ag env x)).bind fun s=>
   if 0≤q.2∧q.2 < (s.length:Int) then K (aX env i.dst (.v (.int .u8) ((s.getD q.2.toNat 0).toNat:Int))) else none
 | .CD n T x ix=>(lq (ag env ix)).bind fun q=>match ag env x with
   | .v T' xs=>(bM (.arr n T) ⟨T',xs⟩).bind fun xs=>if 0≤q.2∧q.2 < (n:Int) then K (aX env i.dst (.v T (xs.getD q.2.toNat (zero T)))) else none
   | _=>none
 | .gF x lo hi=>(nh env lo).bind fun lo=>(nh env hi).bind fun hi=>(nt (ag env x)).bind fun s=>
   if 0≤lo.getD 0∧lo.getD 0≤hi.getD (s.length:Int)∧hi.getD (s.length:Int)≤(s.length:Int) then
    K (aX env i.dst (.v .str ((s.drop (lo.getD 0).toNat).take ((hi.getD (s.length:Int)).toNat - (lo.getD 0).toNat)))) else none
 | .lY T x lo hi mx=>(nh env lo).bind fun lo=>(nh env hi).bind fun hi=>(nh env mx).bind fun mx=>(ea env x).bind fun y=>(bM (.sl T) y.2).bind fun xs=>
   if 0≤lo.getD 0∧lo.getD 0≤hi.getD (xs.length:Int)∧hi.getD (xs.length:Int)≤mx.getD (xs.length:Int)∧mx.getD (xs.length:Int)≤(xs.length:Int) then
    K (aX y.1 i.dst (.v (.sl T) ((xs.drop (lo.getD 0).toNat).take ((hi.getD (xs.length:Int)).toNat - (lo.getD 0).toNat)))) else none
 | .mkSlice e T lim l c=>match ag env l,ag env c with
   | .v (.int .i64) m,.v (.int .i64) n=>if 0≤m∧m≤n∧n≤(lim:Int) then K (aX env i.dst (.own true e T .no (jE m.toNat (zero T)))) else none
   | _,_=>none
 | .append e T lim s x=>(ea env x).bind fun y=>(bM (.sl T) y.2).bind fun ys=>match s with
   | .nil e' _=>if e=e' then if ys.length≤lim then K (aX y.1 i.dst (.own true e T .no ys)) else none else none
   | .t k0=>(placeOf y.1 k0).bind fun q=>(bC y.1 q.1 q.2).bind fun h=>(bM (.sl T) ⟨.sl h.T,h.xs⟩).bind fun xs=>(vv y.1 q.1 q.2).bind fun env2=>
     match apart i.dst q.1&&h.o.pure&&(h.e==e) with
     | true=>if xs.length+ys.length≤lim then K (aX env2 i.dst (.own h.wr e T .no (xs++ys))) else none
     | false=>none
   | _=>none
 | .cd x=>(nt (ag env x)).bind fun s=>K (aX env i.dst (.v (.int .i64) (s.length:Int)))
 | .b4 x=>(dT env (ag env x)).bind fun y=>match y with
   | ⟨.sl _,xs⟩=>K (aX env i.dst (.v (.int .i64) (xs.length:Int)))
   | _=>none
 | .CM m=>K (aX env i.dst (.v (.int .i64) (m:Int)))
 | .mm mx x y=>match ag env x,ag env y with
   | .v (.int k) m,.v (.int k') n=>if k=k' then K (aX env i.dst (.v (.int k) (if mx then (if n > m then n else m) else (if n < m then n else m)))) else none
   | _,_=>none
 | .call f args=>(gg cl env args).bind fun as=>cl.runK f as fun res=>
   K (aX (if res.all E.plain then env else jt env args) i.dst (eI res))
 | .vU f args=>(gg cl env args).bind fun as=>cl.runK f as fun res=>
   K (rO i.dst (aX (if res.all E.plain then env else jt env args) i.dst (eI res)))
 | .N1 f args=>(gg cl env args).bind fun as=>cl.runK f (.dead::as) fun res=>
   K (aX (if res.all E.plain then env else jt env args) i.dst (eI res))
 | .cp x=>(ea env x).bind fun q=>K (aX q.1 i.dst (.v q.2.1 q.2.2))
 | .Sl f x=>(vg env x).bind fun s=>match look env s with
   | .own true e T .no xs=>if dv T&&!(e==ny) then cl.runK f [.cn,.own true e T .no xs] fun res=>
     (ag4 res).bind fun y=>(bM (.sl T) y).bind fun ys=>K (aX ((s,.own true e T .no ys)::env) i.dst (.cP [])) else none
   | _=>none
 | .hN f p args=>(eH env p).bind fun q=>match q.2 with
   | []=>(gg cl env args).bind fun as=>match as.all u6&&apart i.dst q.1 with
     | true=>(match look (jt env args) q.1 with
       | .loc T o x=>cl.runK f (.loc T o x::as) fun res=>(HI T res).bind fun y=>
         K (aX ((q.1,.loc T y.1 y.2.1)::lv o q.1 (jt env args)) i.dst (eI y.2.2))
       | _=>none)
     | false=>none
   | _=>none
 | .CZ t e=>K (aX env i.dst (.sb t e []))
 | .hQ f k x=>match look env k with
   | .sb t e s=>(match apart i.dst k with
     | true=>(nt (ag env x)).bind fun u=>cl.runK f [.cn,.sb t e s,.v .str u] fun res=>(sb? res).bind fun s'=>K (aX ((k,.sb t e s')::env) i.dst .dead)
     | false=>none)
   | _=>none
 | .lX f k=>match look env k with
   | .sb t e s=>(match apart i.dst k with
     | true=>cl.runK f [.cn,.sb t e s] fun res=>(ahQ res).bind fun u=>K (aX ((k,.dead)::env) i.dst (.v .str u))
     | false=>none)
   | _=>none
 | .tl x args=>match ag env x with
   | .v (.fn A C) g=>(gg cl env args).bind fun as=>(tuple A as).bind fun a=>(g a).bind fun r=>if dv C then K (aX env i.dst (.v C r)) else none
   | .dY f _ _ caps=>(gg cl env args).bind fun as=>(jG env caps).bind fun cs=>cl.runK f (as++cs) fun res=>
     if res.all E.plain then K (aX env i.dst (eI res)) else none
   | _=>none
 | .extract k j=>match look env k with
   | .cP es=>match es[j]? with
     | some e=>(match e with
       | .v T x=>K (aX env i.dst (.v T x))
       | .own wr e' T o xs=>match !wr&&o.pure with
         | true=>K (aX env i.dst (.v (.sl T) xs))
         | false=>K (aX ((k,.cP (es.set j .dead))::env) i.dst (.own wr e' T o xs))
       | _=>none)
     | none=>none
   | _=>none
 | .CN f A C caps=>if (caps.all fun a=>(ag env a).cap) then K (aX env i.dst (.dY f A C (caps.map fun a=>fw a (ag env a)))) else none
 | .bad=>none
 | .vw x=>(nt (ag env x)).bind fun s=>K (aX env i.dst (.own true ny (.int .u8) .no (s.map fun b=>(b.toNat:Int))))
 | .toStr x=>(dT env (ag env x)).bind fun y=>(bM (.sl (.int .u8)) y).bind fun xs=>K (aX env i.dst (.v .str (xs.map fun n=>UInt8.ofNat n.toNat)))
 | .dP x=>match ag env x with
   | .ptr .. | .dk .. | .at .. | .loc .. =>K (aX env i.dst (fw x (ag env x)))
   | _=>none
 | .Sb x=>(nt (ag env x)).bind fun s=>K (aX env i.dst (.it s 0))
 | .HO k=>match look env k with
   | .it s pos=>al (decide (pos < s.length)) (K (aX ((k,.it s (pos+(Utf8.decode ⟨⟨s⟩⟩ pos).2))::env) i.dst (.cP [.v .bool true,.v (.int .i64) (pos:Int),.v (.int .i32) ((Utf8.decode ⟨⟨s⟩⟩ pos).1:Int)]))) (K (aX env i.dst (.cP [.v .bool false])))
   | _=>none
def Cy (g:Option (Nat×Bool)) (env:Env) (yes no:dn R):Option R:=
 match g with
 | none=>yes env
 | some (s,pol)=>match look env s with
   | .v .bool b=>al b ((if pol then yes else no) ((s,.v .bool true)::env)) ((if pol then no else yes) ((s,.v .bool false)::env))
   | .cn=>no env
   | _=>none
def ops (cl:aH):List AI→Env→dn R→Option R
 | [],env,K=>K env
 | i::r,env,K=>Cy i.guard env (fun env=>step cl i env (fun env=>ops cl r env K)) (fun env=>ops cl r (aX env i.dst .cn) K)
def agE (d:Nat) (e:E):E:=if leads d e then .dead else e
def one (d:Option Nat) (e:E):List (Nat×E):=match d with | some d=> [(d,agE d e)] | none=> []
def E.qf:E→Bool
 | .own .. | .loc .. | .cP _ | .dead | .it _ _ | .sb _ _ _=>false
 | _=>true
def RM (x:Od):Rd E:=(dK x).bind fun e=>if e.qf then .ok e else .no
def cpE (x:Od) (e:E):Option E:=
 match e with
 | .cP _ | .dead | .it _ _ | .sb _ _ _=>none
 | .own .. | .loc .. =>match x with | .t _=>some (fw x e) | _=>none
 | e=>some e
def vY (x:Od):Rd E:=(dK x).bind fun e=>match cpE x e with | some f=>.ok f | none=>.no
def lr (x:Od):Rd (IntKind×Int):=(dK x).bind fun e=>.of (lq e)
def I1 (x:Od):Rd Bool:=(dK x).bind fun e=>.of (aD e)
def C2 (x:Od):Rd (List UInt8):=(dK x).bind fun e=>.of (nt e)
def ni:Option Od→Rd (Option Int)
 | none=>.ok none
 | some x=>(lr x).bind fun q=>.ok (some q.2)
def sW (x:Od):Rd TV:=(dK x).bind fun e=>.of (C8 e)
def S1 (op:BinOp) (a b:E):Rd E:=
 match a,b with
 | .v (.int k) m,.v (.int k') n=>if k=k' then
   (match op with
    | .quo=>.ite (n=0) .no (.ok (.v (.int k) (k.wrap (m.tdiv n))))
    | .rem=>.ite (n=0) .no (.ok (.v (.int k) (m.tmod n)))
    | _=>match Es op m n with
      | some b=>.ok (.v .bool b)
      | none=>match arith op k m n with
        | some r=>.ok (.v (.int k) r)
        | none=>.no) else .no
 | .v .str s,.v .str t=>match op with
   | .eql=>.ok (.v .bool (s==t))
   | .neq=>.ok (.v .bool (s != t))
   | .add=>.ite (s.length+t.length≤140737488355328) (.ok (.v .str (s++t))) .no
   | .lss=>.ok (.v .bool (Op.bytesLess s t))
   | .leq=>.ok (.v .bool (Op.bytesLess s t || s==t))
   | .gtr=>.ok (.v .bool (!(Op.bytesLess s t || s==t)))
   | .geq=>.ok (.v .bool (!Op.bytesLess s t))
   | _=>.no
 | _,_=>.no
def ahW (op:UnOp) (x:E):Option E:=
 match op,x with
 | .not,.v .bool b=>some (.v .bool (!b))
 | .neg,.v (.int k) n=>some (.v (.int k) (k.wrap (0 - n)))
 | _,_=>none
def R4 (x:Od):Rd ((Nat×Path)×E):=(dK x).bind fun e=>match e with
 | .ptr s p=>(Rd.get s).bind fun f=>.ok ((s,p),f)
 | .loc .. =>match x with | .t k=>.ok ((k,[]),e) | _=>.no
 | _=>.no
def HJ (T:Ty) (s:Nat) (p:Path):E→Rd E
 | .loc T0 o x=>match ct o p with
   | .own .. =>match aN T0 p x with
     | some ⟨.sl T',_⟩=>if T=.sl T' then .ok (.ref s p) else .no
     | _=>.no
   | b=>if b.whole&&b.pure then (Rd.of ((aN T0 p x).bind fun z=>bM T z)).bind fun y=>.ok (.v T y) else .no
 | _=>.no
def agJ (T:Ty) (j:Nat) (q:Path) (h:jX):Rd E:=
 .ite (j < h.xs.length)
  (if h.o.pure then (Rd.of ((aN h.T q (h.xs.getD j (zero h.T))).bind fun z=>bM T z)).bind fun y=>.ok (.v T y) else .no) .no
def aer (S:Ty) (s:Nat) (q p:Path):E→Option E
 | .loc T0 _ _=>if dw T0 q=some S then some (.ptr s (q++p)) else none
 | _=>none
def Dy (n:Nat) (T:Ty) (i:Int) (s:Nat) (p:Path):E→Rd E
 | .loc T0 _ _=>if dw T0 p=some (.arr n T) then .ite (0≤i∧i < (n:Int)) (.ok (.ptr s (p++[.ix i.toNat]))) .no else .no
 | _=>.no
def tj:(T:Ty)→den T→List (Path×Od)→Rd (den T)
 | _,x,[]=>.ok x
 | T,x,(p,a)::r=>(sW a).bind fun q=>(Rd.of (bz T p x q)).bind fun y=>tj T y r
def vS (T:Ty):List Od→Rd (List (den T))
 | []=>.ok []
 | a::r=>(sW a).bind fun q=>(Rd.of (bM T q)).bind fun x=>(vS T r).bind fun z=>.ok (x::z)
def SU (cl:aH):E→Rd E
 | .loc T o x=>if o.whole then .ok (E.at T x) else .no
 | .dY f A C caps=>N2 cl f A C caps
 | e=>Dw e
def nC (cl:aH):List Od→Rd (List E)
 | []=>.ok []
 | a::r=>((dK a).bind (SU cl)).bind fun x=>(nC cl r).bind fun y=>.ok (x::y)
def CA:List Od→Rd Unit
 | []=>.ok ()
 | a::r=>(dK a).bind fun e=>if (fx a e).isNone then CA r else .no
def HU (args:List Od) (res:List E):Rd E:=if res.all E.plain then .ok (eI res) else (CA args).bind fun _=>.ok (eI res)
def vV:List Od→Rd (List E)
 | []=>.ok []
 | a::r=>(dK a).bind fun e=>if e.cap then (vV r).bind fun y=>.ok (fw a e::y) else .no
def ael (j:Nat):E→Option E
 | .cP es=>match es[j]? with
   | some (.v T x)=>some (.v T x)
   | some (.own false _ T o xs)=>if o.pure then some (.v (.sl T) xs) else none
   | _=>none
 | _=>none
def vy (cl:aH) (d:Option Nat):sY→Rd E
 | .mv x=>vY x
 | .dP x=>(dK x).bind fun e=>match e with
   | .ptr s p=>.ok (.ptr s p)
   | .dk s p i q=>.ok (.dk s p i q)
   | .at T y=>.ok (.at T y)
   | .loc .. =>match x with | .t k=>.ok (.ptr k []) | _=>.no
   | _=>.no
 | .ab x=>if d.isSome then RM x else .no
 | .pick c a b=>(I1 c).bind fun q=>.br q (vY a) (vY b)
 | .alloc T o=>.ok (.loc T o (zero T))
 | .box T x=>(sW x).bind fun q=>(Rd.of (bM T q)).bind fun y=>.ok (.loc T .no y)
 | .build T parts=>(tj T (zero T) parts).bind fun y=>.ok (.v T y)
 | .j6 T o parts=>(tj T (zero T) parts).bind fun y=>.ok (.nw T (td o parts) y)
 | .buildSlice e T parts=>(vS T parts).bind fun y=>.ok (.own true e T .no y)
 | .load T a=>(dK a).bind fun e=>match e with
   | .at T' x=>(Rd.of (bM T ⟨T',x⟩)).bind fun y=>.ok (.v T y)
   | .dk s p j q=>(mW s p).bind fun h=>agJ T j q h
   | .ptr s p=>(Rd.get s).bind fun f=>HJ T s p f
   | .loc .. =>match a with | .t k=>HJ T k [] e | _=>.no
   | _=>.no
 | .bin op x y=>(dK x).bind fun a=>(dK y).bind fun b=>S1 op a b
 | .rL neg T x y=>(dK x).bind fun a=>(dK y).bind fun b=>(CB a).bind fun s=>(CB b).bind fun t=>(Rd.of (bM T s)).bind fun s=>(Rd.of (bM T t)).bind fun t=>(Rd.of (jH T)).bind fun f=>
   .ok (.v .bool (if neg then !f s t else f s t))
 | .un op x=>(dK x).bind fun a=>.of (ahW op a)
 | .shift l x y=>(dK x).bind fun a=>(dK y).bind fun b=>match a,b with
   | .v (.int k) m,.v (.int _) n=>.ite (0≤n) (.ok (.v (.int k) (vp l k m n))) .no
   | _,_=>.no
 | .qP k x=>(lr x).bind fun q=>.ok (.v (.int k) (k.wrap q.2))
 | .fieldAddr S p a=>(dK a).bind fun e=>match e with
   | .at T x=>(Rd.of (bM S ⟨T,x⟩)).bind fun x=>(Rd.of (aN S p x)).bind fun y=>.ok (.at y.1 y.2)
   | .ptr s q=>(Rd.get s).bind fun f=>.of (aer S s q p f)
   | .dk s q j r=>(mW s q).bind fun h=>if dw h.T r=some S then .ok (.dk s q j (r++p)) else .no
   | .loc T0 _ _=>if T0=S then match a with | .t k=>.ok (.ptr k p) | _=>.no else .no
   | _=>.no
 | .indexAddr T x ix=>(lr ix).bind fun q=>(dK x).bind fun e=>match e with
   | .v T' xs=>(Rd.of (bM (.sl T) ⟨T',xs⟩)).bind fun xs=>.ite (0≤q.2∧q.2 < (xs.length:Int)) (.ok (.at T (xs.getD q.2.toNat (zero T)))) .no
   | .own _ _ T' _ xs=>if T'=T then match x with | .t s=>.ite (0≤q.2∧q.2 < (xs.length:Int)) (.ok (.dk s [] q.2.toNat [])) .no | _=>.no else .no
   | .ref s p=>(mW s p).bind fun h=>if h.T=T then .ite (0≤q.2∧q.2 < (h.xs.length:Int)) (.ok (.dk s p q.2.toNat [])) .no else .no
   | _=>.no
 | .CE n T x ix=>(lr ix).bind fun q=>(dK x).bind fun e=>match e with
   | .at T' xs=>(Rd.of (bM (.arr n T) ⟨T',xs⟩)).bind fun xs=>.ite (0≤q.2∧q.2 < (n:Int)) (.ok (.at T (xs.getD q.2.toNat (zero T)))) .no
   | .ptr s p=>(Rd.get s).bind fun f=>Dy n T q.2 s p f
   | .loc .. =>match x with | .t k=>Dy n T q.2 k [] e | _=>.no
   | _=>.no
 | .field S p x=>(dK x).bind fun e=>(CB e).bind fun y=>(Rd.of (bM S y)).bind fun y=>(Rd.of (aN S p y)).bind fun z=>.ok (.v z.1 z.2)
 | .du x ix=>(lr ix).bind fun q=>(C2 x).bind fun s=>
   .ite (0≤q.2∧q.2 < (s.length:Int)) (.ok (.v (.int .u8) ((s.getD q.2.toNat 0).toNat:Int))) .no
 | .CD n T x ix=>(lr ix).bind fun q=>(dK x).bind fun e=>match e with
   | .v T' xs=>(Rd.of (bM (.arr n T) ⟨T',xs⟩)).bind fun xs=>.ite (0≤q.2∧q.2 < (n:Int)) (.ok (.v T (xs.getD q.2.toNat (zero T)))) .no
   | _=>.no
 | .gF x lo hi=>(ni lo).bind fun lo=>(ni hi).bind fun hi=>(C2 x).bind fun s=>
   .ite (0≤lo.getD 0∧lo.getD 0≤hi.getD (s.length:Int)∧hi.getD (s.length:Int)≤(s.length:Int))
    (.ok (.v .str ((s.drop (lo.getD 0).toNat).take ((hi.getD (s.length:Int)).toNat - (lo.getD 0).toNat)))) .no
 | .lY T x lo hi mx=>(ni lo).bind fun lo=>(ni hi).bind fun hi=>(ni mx).bind fun mx=>(sW x).bind fun y=>(Rd.of (bM (.sl T) y)).bind fun xs=>
   .ite (0≤lo.getD 0∧lo.getD 0≤hi.getD (xs.length:Int)∧hi.getD (xs.length:Int)≤mx.getD (xs.length:Int)∧mx.getD (xs.length:Int)≤(xs.length:Int))
    (.ok (.v (.sl T) ((xs.drop (lo.getD 0).toNat).take ((hi.getD (xs.length:Int)).toNat - (lo.getD 0).toNat)))) .no
 | .mkSlice e T lim l c=>(lr l).bind fun m=>(lr c).bind fun n=>if m.1=.i64∧n.1=.i64 then .ite (0≤m.2∧m.2≤n.2∧n.2≤(lim:Int)) (.ok (.own true e T .no (jE m.2.toNat (zero T)))) .no else .no
 | .cd x=>(C2 x).bind fun s=>.ok (.v (.int .i64) (s.length:Int))
 | .b4 x=>(dK x).bind fun e=>(CB e).bind fun y=>match y with
   | ⟨.sl _,xs⟩=>.ok (.v (.int .i64) (xs.length:Int))
   | _=>.no
 | .CM m=>.ok (.v (.int .i64) (m:Int))
 | .mm mx x y=>(lr x).bind fun m=>(lr y).bind fun n=>if m.1=n.1 then .ok (.v (.int m.1) (if mx then (if n.2 > m.2 then n.2 else m.2) else (if n.2 < m.2 then n.2 else m.2))) else .no
 | .call f args=>(nC cl args).bind fun es=>(Rd.call cl f es).bind fun res=>HU args res
 | .tl x args=>(dK x).bind fun e=>match e with
   | .v (.fn A C) g=>(nC cl args).bind fun es=>(Rd.of (tuple A es)).bind fun a=>(Rd.of (g a)).bind fun r=>if dv C then .ok (.v C r) else .no
   | .dY f _ _ caps=>(nC cl args).bind fun es=>(tf caps).bind fun cs=>(Rd.call cl f (es++cs)).bind fun res=>if res.all E.plain then .ok (eI res) else .no
   | _=>.no
 | .extract k j=>(Rd.get k).bind fun e=>.of (ael j e)
 | .CN f A C caps=>(vV caps).bind fun cs=>.ok (.dY f A C cs)
 | _=>.no
def Ia (T:Ty) (z:den T) (s:Nat) (p:Path):E→Rd (List (Nat×E))
 | .loc T0 o x0=>if dv T || (ct o p).pure then (Rd.of (bz T0 p x0 ⟨T,z⟩)).bind fun x1=>.ok [(s,.loc T0 o x1)] else .no
 | _=>.no
def ahP (T:Ty) (z:den T) (s:Nat) (j:Nat) (q:Path):E→Rd (List (Nat×E))
 | .own true e T0 o xs=>.ite (j < xs.length) ((Rd.of (bz T0 q (xs.getD j (zero T0)) ⟨T,z⟩)).bind fun u=>if o.pure then .ok [(s,.own true e T0 o (xs.set j u))] else .no) .no
 | _=>.no
def ahH (T:Ty) {T':Ty} (xs:List (den T')) (lo hi mx:Option Od):Rd E:=
 (ni lo).bind fun lo=>(ni hi).bind fun hi=>(ni mx).bind fun mx=>(Rd.of (bM (.sl T) ⟨.sl T',xs⟩)).bind fun xs=>
   .ite (0≤lo.getD 0∧lo.getD 0≤hi.getD (xs.length:Int)∧hi.getD (xs.length:Int)≤mx.getD (xs.length:Int)∧mx.getD (xs.length:Int)≤(xs.length:Int))
    (.ok (.v (.sl T) ((xs.drop (lo.getD 0).toNat).take ((hi.getD (xs.length:Int)).toNat - (lo.getD 0).toNat)))) .no
def IW (d:Option Nat) (k0:Nat) (x:Od):Rd (TV×List (Nat×E)):=
 (dK x).bind fun e=>match e with
  | .v T y=>.ok (⟨T,y⟩,[])
  | .own _ ed T o xs=>match x with
    | .t k=>if (!(k==k0))&&apart d k&&o.pure then .ok (⟨.sl T,xs⟩,[(k,.own false ed T o.bJ xs)]) else .no
    | _=>.no
  | _=>.no
def R6 (d:Option Nat) (ch:List (Nat×E)) (x:Od):Rd (TV×List (Nat×E)):=
 (dK x).bind fun e=>match e with
  | .v T y=>.ok (⟨T,y⟩,ch)
  | .own _ ed T o xs=>match x with
    | .t k=>if (ch.all fun q=>!(q.1==k))&&apart d k&&o.pure then .ok (⟨.sl T,xs⟩,(k,.own false ed T o.bJ xs)::ch) else .no
    | _=>.no
  | _=>.no
def vT (d:Option Nat):(T:Ty)→den T→List (Nat×E)→List (Path×Od)→Rd (den T×List (Nat×E))
 | _,x,ch,[]=>.ok (x,ch)
 | T,x,ch,(p,a)::r=>(R6 d ch a).bind fun q=>(Rd.of (bz T p x q.1)).bind fun y=>vT d T y q.2 r
def Pa:sY→Option Nat
 | .append _ _ _ (.t k) _=>some k
 | _=>none
def gG (cl:aH) (d:Option Nat):sY→Rd (List (Nat×E))
 | .store T a x=>(sW x).bind fun y=>(Rd.of (bM T y)).bind fun z=>(dK a).bind fun e=>match e with
   | .dk s [] j q=>(Rd.get s).bind fun f=>ahP T z s j q f
   | .ptr s p=>(Rd.get s).bind fun f=>Ia T z s p f
   | .loc .. =>match a with | .t k=>Ia T z k [] e | _=>.no
   | _=>.no
 | .lY T x lo hi mx=>(dK x).bind fun e=>match e with
   | .ref s p=>match p with
     | []=>(Rd.get s).bind fun f=>match f with
       | .own _ ed T' o xs=>if o.pure then (ahH T xs (T':=T') lo hi mx).bind fun v=>.ok (one d v++[(s,.own false ed T' o.bJ xs)]) else .no
       | _=>.no
     | _=>.no
   | _=>(vy cl d (.lY T x lo hi mx)).bind fun e=>.ok (one d e)
 | .build T parts=>(vT d T (zero T) [] parts).bind fun q=>.ok (one d (.v T q.1)++q.2)
 | .cp x=>(dK x).bind fun e=>match e with
   | .v T y=>.ok (one d (.v T y))
   | .own _ ed T o xs=>match x with
     | .t k=>if o.pure then .ok (one d (.v (.sl T) xs)++[(k,.own false ed T o.bJ xs)]) else .no
     | _=>.no
   | _=>.no
 | .append e T lim s x=>match s with
   | .t k0=>(Rd.get k0).bind fun f=>match f with
     | .own wr e' T' o xs=>(IW d k0 x).bind fun q=>(Rd.of (bM (.sl T) q.1)).bind fun ys=>(Rd.of (bM (.sl T) ⟨.sl T',xs⟩)).bind fun xs=>
       if apart d k0&&o.pure&&(e'==e) then .ite (xs.length+ys.length≤lim) (.ok (one d (.own wr e T .no (xs++ys))++(k0,.dead)::q.2)) .no else .no
     | _=>.no
   | _=>.no
 | .hN f p args=>(nC cl args).bind fun es=>(CA args).bind fun _=>(R4 p).bind fun q=>match q.1.2 with
   | []=>(match q.2 with
     | .loc T o x=>if es.all u6&&apart d q.1.1&&o.pure then (Rd.call cl f (.loc T o x::es)).bind fun res=>(Rd.of (HI T res)).bind fun y=>.ok (one d (eI y.2.2)++[(q.1.1,.loc T y.1 y.2.1)]) else .no
     | _=>.no)
   | _=>.no
 | .vU f args=>(nC cl args).bind fun es=>(Rd.call cl f es).bind fun res=>(HU args res).bind fun e=>.ok (rO d (one d e))
 | .mv x=>(dK x).bind fun e=>match e with
   | .cP es=>match x,d with
     | .t k,some d=>if k==d then .no else .ok [(d,.cP es),(k,.dead)]
     | _,_=>.no
   | _=>(vy cl d (.mv x)).bind fun e=>.ok (one d e)
 | op=>(vy cl d op).bind fun e=>.ok (one d e)
structure DI where
 ai:AI
 hide:List Nat
 wr:List Nat
 pre:List Nat
 piv:Bool:=false
 safe:List Nat:=[]
def hid (l:List Nat) (L:Nat→E):Nat→E:=fun k=>match l.any (fun j=>j==k) with | true=>.dead | false=>L k
def free (env:Env) (d:Option Nat):Bool:=match d with | some d=>!(look env d).home | none=>true
def ow (i:DI) (env:Env):Bool:=i.safe.all fun s=>env.all fun q=>!leads s q.2
def okW (i:DI) (env:Env) (δ:List (Nat×E)):Bool:=free env i.ai.dst&&(δ.all fun q=>i.wr.any fun k=>k==q.1)&&ow i (δ++env)
def hR (cl:aH):List DI→Env→dn R→Option R
 | [],env,K=>K env
 | i::r,env,K=>
   let yes:=fun env'=>(gG cl i.ai.dst i.ai.op).runK (hid i.hide (look env)) fun δ=>match okW i env δ with
    | true=>hR cl r (δ++env') K
    | false=>none
   let nope:=fun env'=>match okW i env (one i.ai.dst .cn) with
    | true=>hR cl r (one i.ai.dst .cn++env') K
    | false=>none
   match i.piv with
   | true=>match ow i env with
     | true=>step cl i.ai env fun env'=>match ow i env' with
       | true=>hR cl r env' K
       | false=>none
     | false=>none
   | false=>match i.ai.guard with
     | none=>yes env
     | some (s,pol)=>match hid i.hide (look env) s with
       | .v .bool b=>al b ((if pol then yes else nope) ((s,.v .bool true)::env)) ((if pol then nope else yes) ((s,.v .bool false)::env))
       | .cn=>nope env
       | _=>none
inductive AC where
 | skip
 | aa (live:List Nat) (l:List AI)
 | draw (live:List Nat) (l:List DI)
 | seq (a b:AC)
 | cond (c:Od) (x y:AC)
 | block (id:Nat) (b:AC)
 | loop (live:List Nat) (b:AC)
 | out (live:List Nat) (b:AC)
 | exit (id:Nat)
 | ret
inductive Ex where
 | normal | exit (id:Nat) | ret
abbrev KE (R:Type):=Ex→Env→Option R
def iter (live:List Nat) (body:Env→KE R→Option R) (K:KE R):Nat→Env→Option R
 | 0,_=>none
 | m+1,env=>body env fun e env=>match e with
   | .normal=>iter live body K m (ae live env)
   | .exit id=>K (.exit id) env
   | .ret=>K .ret env
def nr (y:Env→Option R) (K:KE R):KE R:=fun e env=>match e with
 | .normal=>y env
 | .exit id=>K (.exit id) env
 | .ret=>K .ret env
def me (id:Nat) (K:KE R):KE R:=fun e env=>match e with
 | .normal=>K .normal env
 | .exit j=>match fg j id with | .isTrue _=>K .normal env | .isFalse _=>K (.exit j) env
 | .ret=>K .ret env
def exec (cl:aH) (N:Nat):AC→Env→KE R→Option R
 | .skip,env,K=>K .normal env
 | .aa live l,env,K=>ops cl l (ae live env) (K .normal)
 | .draw live l,env,K=>hR cl l (ae live env) (K .normal)
 | .seq a b,env,K=>exec cl N a env (nr (fun env=>exec cl N b env K) K)
 | .cond c x y,env,K=>(aD (ag env c)).bind fun q=>al q (exec cl N x env K) (exec cl N y env K)
 | .block id b,env,K=>exec cl N b env (me id K)
 | .loop live b,env,K=>iter live (fun env K=>exec cl N b env K) K N (ae live env)
 | .out live b,env,K=>exec cl N b env (fun e env=>K e (ae live env))
 | .exit id,env,K=>K (.exit id) env
 | .ret,env,K=>K .ret env
inductive RV where
 | t (k:Nat)
 | cell (k:Nat) (T:Ty)
 | p (k:Nat)
structure FD where
 nargs:Nat
 body:AC
 res:List RV
 lend:Bool:=false
def HV (env:Env):RV→Option (E×List Nat)
 | .t k=>match look env k with
   | .v T x=>some (.v T x,[])
   | .own wr e T o xs=>if o.pure then some (.own wr e T o xs,[k]) else none
   | .ref s p=>(bC env s p).bind fun h=>if h.o.pure then some (.own h.wr h.e h.T h.o h.xs,[s]) else none
   | _=>none
 | .cell k T=>match look env k with
   | .loc T' o x=>if o.whole then (bM T ⟨T',x⟩).bind fun y=>some (.v T y,if o.pure then [] else [k]) else none
   | _=>none
 | .p k=>match look env k with
   | .v T x=>some (.v T x,[])
   | .own _ _ T o xs=>if o.pure then some (.v (.sl T) xs,[k]) else none
   | .ref s p=>(bC env s p).bind fun h=>if h.o.pure then some (.v (.sl h.T) h.xs,[s]) else none
   | _=>none
def vm (env:Env):List RV→Option (List E×List Nat)
 | []=>some ([],[])
 | r::rs=>(HV env r).bind fun x=>(vm env rs).bind fun y=>some (x.1::y.1,x.2++y.2)
def distinct:List Nat→Bool
 | []=>true
 | x::r=>!r.any (· ==x)&&distinct r
def E.back:E→Bool
 | .v T _=>ez T
 | .own _ _ T o _=>ez T&&o.pure
 | _=>false
def nq (env:Env) (res:List RV) (ks:List Nat):Option (List E):=(vm env res).bind fun q=>match distinct (ks++q.2)&&q.1.all E.back with | true=>some q.1 | false=>none
def au (fd:FD):KE (List E):=fun e env=>match e with
 | .exit _=>none
 | _=>match fd.lend with
   | false=>nq env fd.res []
   | true=>match look env 0 with
     | .loc T o x=>(match ez T with | true=>(nq env fd.res [0]).bind fun l=>some (.loc T o x::l) | false=>none)
     | _=>none
def params:Nat→List E→Env
 | _,[]=> []
 | k,e::r=>(k,e)::params (k+1) r
abbrev Table:=FuncId→Option FD
abbrev oM:=FuncId→Option (List E→Option (List E))
def iV:List E→Bool
 | .cn::_=>true
 | _=>false
def lp:List E→Bool
 | .loc _ _ _::_=>true
 | _=>false
def eN (tb:Table) (pr:oM) (N:Nat):Nat→aH
 | 0=>.of fun _ _=>none
 | D+1=>.of fun f args=>match pr f with
   | some p=>p args
   | none=>match iV args with
     | true=>none
     | false=>match tb f with
       | some fd=>match fg args.length fd.nargs with
         | .isTrue _=>(match fd.lend==lp args with
           | true=>exec (eN tb pr N D) N fd.body (params 0 args) (au fd)
           | false=>none)
         | .isFalse _=>none
       | none=>none
def recC (n:FuncId) (fd:FD) (N:Nat) (base:aH):Nat→aH
 | 0=>base
 | m+1=>.of fun f es=>match fg f n with
   | .isTrue _=>match iV es with
     | true=>none
     | false=>match fg es.length fd.nargs with
       | .isTrue _=>(match fd.lend==lp es with
         | true=>exec (recC n fd N base m) N fd.body (params 0 es) (au fd)
         | false=>none)
       | .isFalse _=>none
   | .isFalse _=>base.run f es
end Go.Fw
/- A step, apart from what follows it. -/
namespace Go.Fw
open Go Go.RowKit
theorem aiB {α β:Type} (x:Option α) (f g:α→Option β) (h:∀ y,f y=g y):x.bind f=x.bind g:=by cases x<;>simp [h]
set_option maxHeartbeats 1000000
theorem Sf (cl:aH) (i:AI) (env:Env) {R:Type} (K:dn R):step cl i env K=(step cl i env (some:dn Env)).bind K:=by
 obtain ⟨d,op,g⟩:=i
 unfold step
 cases op<;>simp only [oL,ah,aH.eqn]
 case pick=>congr 1; funext q; cases q<;>rfl
 case HO=>
  split
  ·rename_i s pos _; cases decide (pos < s.length)<;>rfl
  ·rfl
 all_goals first | rfl | skip
 all_goals repeat' first | rfl | (refine aiB _ _ _ fun _=>?_) | split | (rw [oL])
 all_goals first | rfl | (simp_all [oL]; done) | skip
end Go.Fw
/- Soundness: an operation whose order is open does what 'step' does. -/
namespace Go.Fw
open Go Go.RowKit
theorem Rd.run_bind {α β:Type} (a:Rd α) (f:α→Rd β) (L:Nat→E):(a.bind f).run L=(a.run L).bind fun x=>(f x).run L:=rfl
theorem Rd.lV {α:Type} (x:α) (L:Nat→E):(Rd.ok x).run L=some x:=rfl
theorem Rd.bh {α:Type} (L:Nat→E):(Rd.no:Rd α).run L=none:=rfl
theorem Rd.er {α:Type} (x:Option α) (L:Nat→E):(Rd.of x).run L=x:=rfl
theorem Rd.run_get (k:Nat) (L:Nat→E):(Rd.get k).run L=Rd.lz (L k):=rfl
theorem Rd.dy {α:Type} {p:Prop} [Decidable p] (a b:Rd α) (L:Nat→E):(if p then a else b).run L=if p then a.run L else b.run L:=by split<;>rfl
theorem Rd.run_ite {α:Type} {p:Prop} [Decidable p] (a b:Rd α) (L:Nat→E):(Rd.ite p a b).run L=if p then a.run L else b.run L:=rfl
theorem Rd.aAA {α:Type} (q:Bool) (a b:Rd α) (L:Nat→E):(Rd.br q a b).run L=al q (a.run L) (b.run L):=rfl
theorem Rd.HW (cl:aH) (f:FuncId) (es:List E) (L:Nat→E):(Rd.call cl f es).run L=cl f es:=rfl
theorem aNy {e f:E}:Rd.lz e=some f↔e=f∧e≠.dead:=by
 cases e<;>simp [Rd.lz]
theorem dC {β:Type} {e:E} {f:E→Option β} {y:β}:(Rd.lz e).bind f=some y→f e=some y:=by
 cases e<;>simp [Rd.lz]
section
variable {cl:aH} {env:Env} {R:Type}
theorem mZ (x:Od):(lr x).run (look env)=lq (ag env x):=by
 unfold lr; rw [Rd.run_bind,dS]; cases ag env x<;>rfl
theorem aiE (x:Od):(I1 x).run (look env)=aD (ag env x):=by
 unfold I1; rw [Rd.run_bind,dS]; cases ag env x<;>rfl
theorem Sh (x:Od):(C2 x).run (look env)=nt (ag env x):=by
 unfold C2; rw [Rd.run_bind,dS]; cases ag env x<;>rfl
theorem C9 (x:Od):(sW x).run (look env)=C8 (ag env x):=by
 unfold sW; rw [Rd.run_bind,dS]; cases ag env x<;>rfl
theorem HF {e:E} {q:IntKind×Int} (h:lq e=some q):e=.v (.int q.1) q.2:=by
 unfold lq at h
 split at h
 ·cases h; rfl
 ·simp at h
theorem qm (x:Option Od):(ni x).run (look env)=nh env x:=by
 cases x with
 | none=>rfl
 | some x=>unfold ni nh; rw [Rd.run_bind,mZ]; rfl
theorem avu {x:Od} {e:E} (h:(RM x).run (look env)=some e):ag env x=e∧e.qf=true:=by
 unfold RM at h
 rw [Rd.run_bind,dS] at h
 have h:=dC h
 simp only [Rd.dy,Rd.lV,Rd.bh] at h
 split at h
 ·rename_i hl; cases h; exact ⟨rfl,hl⟩
 ·simp at h
theorem adM {x:Od} {e:E} (h:(vY x).run (look env)=some e):fw x (ag env x)=e∧∀ es,ag env x≠.cP es:=by
 unfold vY at h
 rw [Rd.run_bind,dS] at h
 have h:=dC h
 cases he:ag env x<;>rw [he] at h<;>simp only [cpE] at h<;>first | (exfalso; simp [Rd.bh] at h; done) | skip
 all_goals first
  | (simp only [Rd.lV,az] at h; subst h; exact ⟨rfl,by simp⟩)
  | (cases x<;>simp only [Rd.lV,Rd.bh,az] at h<;>first | (subst h; exact ⟨rfl,by simp⟩) | (exfalso; simp at h; done))
theorem ah5 {e:E} {y:TV} (h:C8 e=some y):e=.v y.1 y.2:=by
 cases e<;>simp [C8] at h
 subst h; rfl
theorem CW {x:Od} {y:TV} (h:C8 (ag env x)=some y):ea env x=some (env,y):=by
 have:=ah5 h
 simp only [ea,this,dT,ah,fx]
theorem ayk {x:Od} {q:(Nat×Path)×E} (h:(R4 x).run (look env)=some q):eH env x=some q.1∧look env q.1.1=q.2:=by
 unfold R4 at h
 rw [Rd.run_bind,dS] at h
 have h:=dC h
 split at h
 ·rename_i s p he
  rw [Rd.run_bind,Rd.run_get] at h
  have h:=dC h
  simp only [Rd.lV,az] at h
  subst h
  exact ⟨by unfold eH; rw [he],rfl⟩
 ·rename_i T o y he
  split at h
  ·rename_i k
   simp only [Rd.lV,az] at h
   subst h
   exact ⟨by unfold eH; rw [he]; rfl,rfl⟩
  ·simp [Rd.bh] at h
 ·simp [Rd.bh] at h
theorem te:∀ (l:List Od),(nC cl l).run (look env)=gg cl env l
 | []=>rfl
 | a::r=>by
   unfold nC gg
   rw [Rd.run_bind,Rd.run_bind,dS]
   have e2:∀ x:E,(((nC cl r).bind fun y=>Rd.ok (x::y)).run (look env))=(gg cl env r).bind fun y=>some (x::y):=by
    intro x; rw [Rd.run_bind,te r]; rfl
   simp only [e2]
   congr 1
   cases he:ag env a<;>simp only [Rd.lz,ah,Option.bind_none,SU]
   case dead=>rfl
   case loc T o x=>rw [Rd.dy]; rfl
   case dY f A C caps=>exact aiK cl env f A C caps
   all_goals exact SW env _
theorem Rk:∀ (l:List Od),(CA l).run (look env)=some ()→jt env l=env
 | [],_=>rfl
 | a::r,h=>by
   unfold CA at h
   rw [Rd.run_bind,dS] at h
   have h:=dC h
   first | rw [Rd.run_ite] at h | rw [Rd.dy] at h
   split at h
   ·rename_i hn
    unfold jt
    rw [Option.isNone_iff_eq_none] at hn
    rw [hn]
    exact Rk r h
   ·simp [Rd.bh] at h
theorem ahk {args:List Od} {res:List E} {e:E} (h:(HU args res).run (look env)=some e):e=eI res∧(if res.all E.plain then env else jt env args)=env:=by
 unfold HU at h
 first | rw [Rd.run_ite] at h | rw [Rd.dy] at h
 split at h
 ·rename_i hp; cases h; exact ⟨rfl,if_pos hp⟩
 ·rename_i hp
  rw [Rd.run_bind] at h
  obtain ⟨_,hy,h⟩:=av.1 h
  cases h
  exact ⟨rfl,by rw [if_neg hp]; exact Rk args hy⟩
theorem adE:∀ (l:List Od) (cs:List E),(vV l).run (look env)=some cs→(l.all fun a=>(ag env a).cap)=true∧cs=l.map fun a=>fw a (ag env a)
 | [],cs,h=>by simp only [vV,Rd.lV,az] at h; subst h; exact ⟨rfl,rfl⟩
 | a::r,cs,h=>by
   unfold vV at h
   rw [Rd.run_bind,dS] at h
   have h:=dC h
   first | rw [Rd.run_ite] at h | rw [Rd.dy] at h
   split at h
   ·rename_i hc
    rw [Rd.run_bind] at h
    obtain ⟨y,hy,h⟩:=av.1 h
    obtain ⟨h1,rfl⟩:=adE r y hy
    simp only [Rd.lV,az] at h
    subst h
    exact ⟨by simp only [List.all_cons,hc,h1,Bool.and_true],rfl⟩
   ·simp [Rd.bh] at h
theorem I6:∀ (T:Ty) (x:den T) (l:List (Path×Od)) (y:den T),(tj T x l).run (look env)=some y→ir T x env l=some (env,y)
 | T,x,[],y,h=>by simp only [tj,Rd.lV,az] at h; subst h; simp [ir]
 | T,x,(p,a)::r,y,h=>by
   unfold tj at h
   rw [Rd.run_bind,C9] at h
   obtain ⟨q,hq,h⟩:=av.1 h
   rw [Rd.run_bind,Rd.er] at h
   obtain ⟨z,hz,h⟩:=av.1 h
   unfold ir
   rw [CW hq]
   simp only [ah,hz]
   exact I6 T z r y h
theorem Ta (T:Ty):∀ (l:List Od) (y:List (den T)),(vS T l).run (look env)=some y→oS T env l=some (env,y)
 | [],y,h=>by simp only [vS,Rd.lV,az] at h; subst h; simp [oS]
 | a::r,y,h=>by
   unfold vS at h
   rw [Rd.run_bind,C9] at h
   obtain ⟨q,hq,h⟩:=av.1 h
   rw [Rd.run_bind,Rd.er] at h
   obtain ⟨z,hz,h⟩:=av.1 h
   rw [Rd.run_bind] at h
   obtain ⟨u,hu,h⟩:=av.1 h
   simp only [Rd.lV,az] at h
   subst h
   unfold oS
   rw [CW hq]
   simp only [ah,hz]
   rw [Ta T r u hu]
   rfl
theorem agG {x:Od} {e:E} (h:e.qf=true):fw x e=e:=by
 cases e<;>first | rfl | (exfalso; simp [E.qf] at h; done)
theorem agI {T:Ty} {a:Od} {d:Option Nat} {g:Option (Nat×Bool)} {s:Nat} {p:Path} {e:E} {K:dn R} (h0:eH env a=some (s,p)) (h:(HJ T s p (look env s)).run (look env)=some e):step cl ⟨d,.load T a,g⟩ env K=K (aX env d e):=by
 have h1:step cl ⟨d,.load T a,g⟩ env K=(match eH env a with
   | some (s,p)=>match look env s with
     | .loc T0 o x=>match ct o p with
       | .own .. =>match aN T0 p x with
         | some ⟨.sl T',_⟩=>if T=.sl T' then K (aX env d (.ref s p)) else none
         | _=>none
       | b=>if b.whole then (aN T0 p x).bind fun z=>(bM T z).bind fun y=>
          K (aX (if b.pure then env else freeze env s) d (.v T y)) else none
     | _=>none
   | none=>none):=by
  unfold eH at h0
  cases he:ag env a<;>rw [he] at h0<;>first | (exfalso; simp at h0; done) | (simp only [step,he]; done) | (simp only [step,he]; rfl)
 rw [h1,h0]
 simp only
 cases hl:look env s<;>rw [hl] at h<;>simp only [HJ,Rd.bh] at h<;>first | (exfalso; simp at h; done) | skip
 rename_i T0 o x
 simp only
 cases hb:ct o p<;>rw [hb] at h<;>simp only at h ⊢
 case own wr e' o'=>
  split at h
  ·rename_i T' xs hg
   rw [Rd.dy] at h
   split at h
   ·rename_i h3; cases h; first | (rw [hg]; simp only; rw [if_pos h3]) | rw [if_pos h3]
   ·simp [Rd.bh] at h
  ·simp [Rd.bh] at h
 all_goals
  rw [Rd.dy] at h
  split at h
  ·rename_i hw
   simp only [aB] at hw
   rw [Rd.run_bind,Rd.er] at h
   obtain ⟨y,hy,h⟩:=av.1 h
   obtain ⟨z,hz,hy⟩:=av.1 hy
   cases h
   simp only [hw.1,hw.2,if_true,hz,hy,ah]
  ·simp [Rd.bh] at h
section
variable {i:AI} {e:E} {K:dn R}
theorem aNx {d:Option Nat} {x:Od} (h1:ag env x=e) (h2:e.qf=true):qi env d x=aX env d e:=by
 unfold qi
 rw [h1]
 have h3:=agG (x:=x) h2
 cases e<;>simp_all [E.qf]
theorem aix {d:Nat} {x:Od} (h1:ag env x=e) (h2:e.qf=true):assign env d x=put env d e:=by
 unfold assign
 rw [h1]
 have h3:=agG (x:=x) h2
 cases e<;>simp_all [E.qf]
theorem aMX (h:(vy cl i.dst i.op).run (look env)=some e):step cl i env K=K (aX env i.dst e):=by
 obtain ⟨d,op,g⟩:=i
 cases op<;>simp only [vy] at h ⊢
 case mv x=>
  obtain ⟨h1,h2⟩:=adM h
  have:qi env d x=aX env d e:=by
   unfold qi
   split
   ·rename_i es he; exact absurd he (h2 es)
   ·rw [h1]
  simp only [step,this]
 case dP x=>
  rw [Rd.run_bind,dS] at h
  have h:=dC h
  simp only [step]
  split at h
  ·rename_i he; cases h; rw [he]; rfl
  ·rename_i he; cases h; rw [he]; rfl
  ·rename_i he; cases h; rw [he]; rfl
  ·rename_i he
   split at h
   ·cases h; rw [he]; rfl
   ·simp [Rd.bh] at h
  ·simp [Rd.bh] at h
 case ab x=>
  first | rw [Rd.run_ite] at h | rw [Rd.dy] at h
  split at h
  ·obtain ⟨h1,h2⟩:=avu h
   cases d with
   | none=>simp at *
   | some d=>simp only [step,aix h1 h2]; rfl
  ·simp [Rd.bh] at h
 case pick c a b=>
  rw [Rd.run_bind,aiE] at h
  obtain ⟨q,hq,h⟩:=av.1 h
  simp only [step,hq,ah]
  rw [Rd.aAA] at h
  cases q<;>(simp only [al] at h ⊢; obtain ⟨h1,h2⟩:=adM h; rw [h1])
 case alloc T o=>cases h; rfl
 case box T x=>
  rw [Rd.run_bind,C9] at h
  obtain ⟨q,hq,h⟩:=av.1 h
  rw [Rd.run_bind,Rd.er] at h
  obtain ⟨y,hy,h⟩:=av.1 h
  cases h
  simp only [step,CW hq,ah,hy]
 case build T parts=>
  rw [Rd.run_bind] at h
  obtain ⟨y,hy,h⟩:=av.1 h
  cases h
  simp only [step,I6 _ _ _ _ hy,ah]
 case j6 T o parts=>
  rw [Rd.run_bind] at h
  obtain ⟨y,hy,h⟩:=av.1 h
  cases h
  simp only [step,I6 _ _ _ _ hy,ah]
 case buildSlice ed T parts=>
  rw [Rd.run_bind] at h
  obtain ⟨y,hy,h⟩:=av.1 h
  cases h
  simp only [step,Ta _ _ _ hy,ah]
 case load T a=>
  rw [Rd.run_bind,dS] at h
  have h:=dC h
  split at h
  ·rename_i T' x he
   rw [Rd.run_bind,Rd.er] at h
   obtain ⟨y,hy,h⟩:=av.1 h
   cases h
   simp only [step,he,hy,ah]
  ·rename_i s p j q he
   rw [Rd.run_bind,uv] at h
   obtain ⟨hh,hhe,h⟩:=av.1 h
   simp only [step,he,hhe,ah]
   simp only [agJ,Rd.run_ite] at h
   split at h
   ·rename_i h1
    rw [Rd.dy] at h
    split at h
    ·rename_i h2
     rw [Rd.run_bind,Rd.er] at h
     obtain ⟨y,hy,h⟩:=av.1 h
     obtain ⟨z,hz,hy⟩:=av.1 hy
     cases h
     simp only [h1,h2,hz,hy,ah,if_true]
    ·simp [Rd.bh] at h
   ·simp [Rd.bh] at h
  ·rename_i s p he
   rw [Rd.run_bind,Rd.run_get] at h
   exact agI (by simp only [eH,he]) (dC h)
  ·rename_i T0 o x he
   split at h
   ·rename_i k _
    have hl:look env k=.loc T0 o x:=he
    rw [he,←hl] at h
    exact agI (by simp only [eH,he,Od.slot,vM]) h
   ·simp [Rd.bh] at h
  ·simp [Rd.bh] at h
 case bin op x y=>
  rw [Rd.run_bind,dS] at h
  have h:=dC h
  rw [Rd.run_bind,dS] at h
  have h:=dC h
  unfold S1 at h
  split at h
  ·rename_i k m k' n hx hy
   rw [Rd.dy] at h
   split at h
   ·rename_i hk
    simp only [step,hx,hy,if_pos hk]
    cases op
    case quo=>
     simp only [Rd.run_ite] at h ⊢
     split at h
     ·simp [Rd.bh] at h
     ·rename_i h0; cases h; rw [if_neg h0]
    case rem=>
     simp only [Rd.run_ite] at h ⊢
     split at h
     ·simp [Rd.bh] at h
     ·rename_i h0; cases h; rw [if_neg h0]
    all_goals
     simp only at h ⊢
     split at h
     ·rename_i b hb; cases h; first | rfl | (rw [hb])
     ·rename_i hb
      split at h
      ·rename_i r hr
       cases h
       first | (rw [hb]; simp only [hr,ah]; done) | (simp only [hr,ah]; done)
      ·simp [Rd.bh] at h
   ·simp [Rd.bh] at h
  ·rename_i s t hx hy
   simp only [step,hx,hy]
   cases op<;>simp only at h ⊢<;>first | (simp [Rd.bh] at h; done) | (cases h; rfl) | skip
   rw [Rd.run_ite] at h
   split at h
   ·rename_i h0; cases h; rw [if_pos h0]
   ·simp [Rd.bh] at h
  ·simp [Rd.bh] at h
 case rL neg T x y=>
  rw [Rd.run_bind,dS] at h
  have h:=dC h
  rw [Rd.run_bind,dS] at h
  have h:=dC h
  rw [Rd.run_bind,HD] at h
  obtain ⟨s,hs,h⟩:=av.1 h
  rw [Rd.run_bind,HD] at h
  obtain ⟨t,ht,h⟩:=av.1 h
  rw [Rd.run_bind,Rd.er] at h
  obtain ⟨s',hs',h⟩:=av.1 h
  rw [Rd.run_bind,Rd.er] at h
  obtain ⟨t',ht',h⟩:=av.1 h
  rw [Rd.run_bind,Rd.er] at h
  obtain ⟨f,hf,h⟩:=av.1 h
  cases h
  simp only [step,hs,ht,hs',ht',hf,ah]
 case shift l x y=>
  rw [Rd.run_bind,dS] at h
  have h:=dC h
  rw [Rd.run_bind,dS] at h
  have h:=dC h
  split at h
  ·rename_i k m k' n hx hy
   rw [Rd.run_ite] at h
   split at h
   ·rename_i hn; cases h; simp only [step,hx,hy,if_pos hn]
   ·simp [Rd.bh] at h
  ·simp [Rd.bh] at h
 case un op x=>
  rw [Rd.run_bind,dS] at h
  have h:=dC h
  rw [Rd.er] at h
  unfold ahW at h
  split at h
  ·rename_i hx _; cases h; simp only [step,hx]
  ·rename_i hx _; cases h; simp only [step,hx]
  ·simp at h
 case qP k x=>
  rw [Rd.run_bind,mZ] at h
  obtain ⟨q,hq,h⟩:=av.1 h
  cases h
  simp only [step,hq,ah]
 case fieldAddr S p a=>
  rw [Rd.run_bind,dS] at h
  have h:=dC h
  split at h
  ·rename_i T x he
   rw [Rd.run_bind,Rd.er] at h
   obtain ⟨x',hx',h⟩:=av.1 h
   rw [Rd.run_bind,Rd.er] at h
   obtain ⟨y,hy,h⟩:=av.1 h
   cases h
   simp only [step,he,hx',hy,ah]
  ·rename_i s q he
   rw [Rd.run_bind,Rd.run_get] at h
   have h:=dC h
   rw [Rd.er] at h
   unfold aer at h
   split at h
   ·rename_i T0 o x hl
    split at h
    ·rename_i h1; cases h; simp only [step,he,hl,if_pos h1]
    ·simp at h
   ·simp at h
  ·rename_i s q j r he
   rw [Rd.run_bind,uv] at h
   obtain ⟨hh,hhe,h⟩:=av.1 h
   first | rw [Rd.run_ite] at h | rw [Rd.dy] at h
   split at h
   ·rename_i h1; cases h; simp only [step,he,hhe,ah,if_pos h1]
   ·simp [Rd.bh] at h
  ·rename_i T0 o x he
   first | rw [Rd.run_ite] at h | rw [Rd.dy] at h
   split at h
   ·rename_i h1
    split at h
    ·cases h; simp only [step,he,if_pos h1,Od.slot,ah]
    ·simp [Rd.bh] at h
   ·simp [Rd.bh] at h
  ·simp [Rd.bh] at h
 case indexAddr T x ix=>
  rw [Rd.run_bind,mZ] at h
  obtain ⟨q,hq,h⟩:=av.1 h
  rw [Rd.run_bind,dS] at h
  have h:=dC h
  split at h
  ·rename_i T' xs he
   rw [Rd.run_bind,Rd.er] at h
   obtain ⟨y,hy,h⟩:=av.1 h
   first | rw [Rd.run_ite] at h | rw [Rd.dy] at h
   split at h
   ·rename_i h1; cases h; simp only [step,hq,he,hy,ah,if_pos h1]
   ·simp [Rd.bh] at h
  ·rename_i wr ed T' o xs he
   first | rw [Rd.run_ite] at h | rw [Rd.dy] at h
   split at h
   ·rename_i h0
    split at h
    ·first | rw [Rd.run_ite] at h | rw [Rd.dy] at h
     split at h
     ·rename_i h1; cases h; simp only [step,hq,he,ah,if_pos h1,if_pos h0,Od.slot]
     ·simp [Rd.bh] at h
    ·simp [Rd.bh] at h
   ·simp [Rd.bh] at h
  ·rename_i s p he
   rw [Rd.run_bind,uv] at h
   obtain ⟨hh,hhe,h⟩:=av.1 h
   first | rw [Rd.run_ite] at h | rw [Rd.dy] at h
   split at h
   ·rename_i h0
    first | rw [Rd.run_ite] at h | rw [Rd.dy] at h
    split at h
    ·rename_i h1; cases h; simp only [step,hq,he,hhe,ah,if_pos h1,if_pos h0]
    ·simp [Rd.bh] at h
   ·simp [Rd.bh] at h
  ·simp [Rd.bh] at h
 case CE n T x ix=>
  rw [Rd.run_bind,mZ] at h
  obtain ⟨q,hq,h⟩:=av.1 h
  rw [Rd.run_bind,dS] at h
  have h:=dC h
  split at h
  ·rename_i T' xs he
   rw [Rd.run_bind,Rd.er] at h
   obtain ⟨y,hy,h⟩:=av.1 h
   first | rw [Rd.run_ite] at h | rw [Rd.dy] at h
   split at h
   ·rename_i h1; cases h; simp only [step,hq,he,hy,ah,if_pos h1]
   ·simp [Rd.bh] at h
  ·rename_i s p he
   rw [Rd.run_bind,Rd.run_get] at h
   have h:=dC h
   unfold Dy at h
   split at h
   ·rename_i T0 o x hl
    rw [Rd.dy] at h
    split at h
    ·rename_i h0
     rw [Rd.run_ite] at h
     split at h
     ·rename_i h1; cases h; simp only [step,hq,he,ah,eH,hl,if_pos h0,if_pos h1]
     ·simp [Rd.bh] at h
    ·simp [Rd.bh] at h
   ·simp [Rd.bh] at h
  ·rename_i T0 o x he
   split at h
   ·rename_i k _ _
    have hl:look env k=.loc T0 o x:=he
    rw [he] at h
    simp only [Dy] at h
    rw [Rd.dy] at h
    split at h
    ·rename_i h0
     rw [Rd.run_ite] at h
     split at h
     ·rename_i h1; cases h; simp only [step,hq,he,ah,eH,Od.slot,vM,hl,if_pos h0,if_pos h1]
     ·simp [Rd.bh] at h
    ·simp [Rd.bh] at h
   ·simp [Rd.bh] at h
  ·simp [Rd.bh] at h
 case field S p x=>
  rw [Rd.run_bind,dS] at h
  have h:=dC h
  rw [Rd.run_bind,HD] at h
  obtain ⟨s,hs,h⟩:=av.1 h
  rw [Rd.run_bind,Rd.er] at h
  obtain ⟨y,hy,h⟩:=av.1 h
  rw [Rd.run_bind,Rd.er] at h
  obtain ⟨z,hz,h⟩:=av.1 h
  cases h
  simp only [step,hs,hy,hz,ah]
 case du x ix=>
  rw [Rd.run_bind,mZ] at h
  obtain ⟨q,hq,h⟩:=av.1 h
  rw [Rd.run_bind,Sh] at h
  obtain ⟨s,hs,h⟩:=av.1 h
  first | rw [Rd.run_ite] at h | rw [Rd.dy] at h
  split at h
  ·rename_i h1; cases h; simp only [step,hq,hs,ah,if_pos h1]
  ·simp [Rd.bh] at h
 case CD n T x ix=>
  rw [Rd.run_bind,mZ] at h
  obtain ⟨q,hq,h⟩:=av.1 h
  rw [Rd.run_bind,dS] at h
  have h:=dC h
  split at h
  ·rename_i T' xs he
   rw [Rd.run_bind,Rd.er] at h
   obtain ⟨y,hy,h⟩:=av.1 h
   first | rw [Rd.run_ite] at h | rw [Rd.dy] at h
   split at h
   ·rename_i h1; cases h; simp only [step,hq,he,hy,ah,if_pos h1]
   ·simp [Rd.bh] at h
  ·simp [Rd.bh] at h
 case gF x lo hi=>
  rw [Rd.run_bind,qm] at h
  obtain ⟨l,hl,h⟩:=av.1 h
  rw [Rd.run_bind,qm] at h
  obtain ⟨u,hu,h⟩:=av.1 h
  rw [Rd.run_bind,Sh] at h
  obtain ⟨s,hs,h⟩:=av.1 h
  first | rw [Rd.run_ite] at h | rw [Rd.dy] at h
  split at h
  ·rename_i h1; cases h; simp only [step,hl,hu,hs,ah,if_pos h1]
  ·simp [Rd.bh] at h
 case lY T x lo hi mx=>
  rw [Rd.run_bind,qm] at h
  obtain ⟨l,hl,h⟩:=av.1 h
  rw [Rd.run_bind,qm] at h
  obtain ⟨u,hu,h⟩:=av.1 h
  rw [Rd.run_bind,qm] at h
  obtain ⟨m,hm,h⟩:=av.1 h
  rw [Rd.run_bind,C9] at h
  obtain ⟨y,hy,h⟩:=av.1 h
  rw [Rd.run_bind,Rd.er] at h
  obtain ⟨xs,hxs,h⟩:=av.1 h
  first | rw [Rd.run_ite] at h | rw [Rd.dy] at h
  split at h
  ·rename_i h1; cases h; simp only [step,hl,hu,hm,CW hy,hxs,ah,if_pos h1]
  ·simp [Rd.bh] at h
 case mkSlice ed T lim l c=>
  rw [Rd.run_bind,mZ] at h
  obtain ⟨m,hm,h⟩:=av.1 h
  rw [Rd.run_bind,mZ] at h
  obtain ⟨n,hn,h⟩:=av.1 h
  first | rw [Rd.run_ite] at h | rw [Rd.dy] at h
  split at h
  ·rename_i h1
   first | rw [Rd.run_ite] at h | rw [Rd.dy] at h
   split at h
   ·rename_i h2; cases h
    obtain ⟨m1,m2⟩:=m
    obtain ⟨n1,n2⟩:=n
    simp only at h1 h2
    obtain ⟨rfl,rfl⟩:=h1
    simp only [step,HF hm,HF hn,if_pos h2]
   ·simp [Rd.bh] at h
  ·simp [Rd.bh] at h
 case cd x=>
  rw [Rd.run_bind,Sh] at h
  obtain ⟨s,hs,h⟩:=av.1 h
  cases h
  simp only [step,hs,ah]
 case b4 x=>
  rw [Rd.run_bind,dS] at h
  have h:=dC h
  rw [Rd.run_bind,HD] at h
  obtain ⟨s,hs,h⟩:=av.1 h
  simp only [step,hs,ah]
  split at h
  ·cases h; rfl
  ·simp [Rd.bh] at h
 case CM m=>cases h; rfl
 case mm mx x y=>
  rw [Rd.run_bind,mZ] at h
  obtain ⟨m,hm,h⟩:=av.1 h
  rw [Rd.run_bind,mZ] at h
  obtain ⟨n,hn,h⟩:=av.1 h
  first | rw [Rd.run_ite] at h | rw [Rd.dy] at h
  split at h
  ·rename_i h1
   cases h
   simp only [step,HF hm,HF hn,if_pos h1]
  ·simp [Rd.bh] at h
 case call f args=>
  rw [Rd.run_bind,te] at h
  obtain ⟨es,hes,h⟩:=av.1 h
  rw [Rd.run_bind,Rd.HW] at h
  obtain ⟨res,hres,h⟩:=av.1 h
  obtain ⟨rfl,h2⟩:=ahk h
  simp only [step,aH.eqn,hes,hres,ah,h2]
 case tl x args=>
  rw [Rd.run_bind,dS] at h
  have h:=dC h
  split at h
  ·rename_i A C g' he
   rw [Rd.run_bind,te] at h
   obtain ⟨es,hes,h⟩:=av.1 h
   rw [Rd.run_bind,Rd.er] at h
   obtain ⟨a,ha,h⟩:=av.1 h
   rw [Rd.run_bind,Rd.er] at h
   obtain ⟨r,hr,h⟩:=av.1 h
   first | rw [Rd.run_ite] at h | rw [Rd.dy] at h
   split at h
   ·rename_i h1; cases h; simp only [step,he,hes,ha,hr,ah,if_pos h1]
   ·simp [Rd.bh] at h
  ·rename_i f A C caps he
   rw [Rd.run_bind,te] at h
   obtain ⟨es,hes,h⟩:=av.1 h
   rw [Rd.run_bind,IY] at h
   obtain ⟨cs,hcs,h⟩:=av.1 h
   rw [Rd.run_bind,Rd.HW] at h
   obtain ⟨res,hres,h⟩:=av.1 h
   first | rw [Rd.run_ite] at h | rw [Rd.dy] at h
   split at h
   ·rename_i h1; cases h; simp only [step,aH.eqn,he,hes,hcs,hres,ah,if_pos h1]
   ·simp [Rd.bh] at h
  ·simp [Rd.bh] at h
 case extract k j=>
  rw [Rd.run_bind,Rd.run_get] at h
  have h:=dC h
  rw [Rd.er] at h
  unfold ael at h
  split at h
  ·rename_i es hk
   split at h
   ·rename_i T x hj; cases h; simp only [step,hk,hj]
   ·rename_i ed T o xs hj
    split at h
    ·rename_i ho; cases h; simp only [step,hk,hj,ho]; rfl
    ·simp at h
   ·simp at h
  ·simp at h
 case CN f A C caps=>
  rw [Rd.run_bind] at h
  obtain ⟨cs,hcs,h⟩:=av.1 h
  cases h
  obtain ⟨h1,rfl⟩:=adE _ _ hcs
  simp only [step,if_pos h1]
 all_goals simp [Rd.bh] at h
end
end
end Go.Fw
/- Soundness, part 1: laws on what memory shows of a value. -/
namespace Go.Fw
open Go Go.RowKit
def blocks (ob:OB):List Nat:=ob.map (·.1)
@[simp] theorem aiD:blocks []=[]:=rfl
@[simp] theorem mf (x:Nat×Nat) (l:OB):blocks (x::l)=x.1::blocks l:=rfl
@[simp] theorem eZ (a b:OB):blocks (a++b)=blocks a++blocks b:=by simp [blocks]
theorem aU.append {α:Type} {R:α→List Value→OB→Prop}:∀ {xs ys:List α} {v1 v2:List Value} {b1 b2:OB},aU R xs v1 b1→aU R ys v2 b2→aU R (xs++ys) (v1++v2) (b1++b2)
 | [],_,_,_,_,_,h,k=>by obtain ⟨rfl,rfl⟩:=h; exact k
 | x::xs,ys,_,v2,_,b2,h,k=>by
   obtain ⟨u1,u2,c1,c2,rfl,rfl,hr,ht⟩:=h
   exact ⟨u1,u2++v2,c1,c2++b2,by simp,by simp,hr,aU.append ht k⟩
theorem aU.imp {α:Type} {R S:α→List Value→OB→Prop}:∀ {xs:List α} {vs:List Value} {ob:OB},(∀ x v b,(∀ q∈b,q∈ob)→R x v b→S x v b)→aU R xs vs ob→aU S xs vs ob
 | [],_,_,_,h=>h
 | x::xs,_,_,f,h=>by
   obtain ⟨u1,u2,c1,c2,rfl,rfl,hr,ht⟩:=h
   exact ⟨u1,u2,c1,c2,rfl,rfl,f _ _ _ (fun q hq=>gJ _ hq) hr,aU.imp (fun x v b hb=>f x v b fun q hq=>iq _ (hb q hq)) ht⟩
theorem aU.length {α:Type} {R:α→List Value→OB→Prop} {n:Nat} (hl:∀ x v b,R x v b→v.length=n):∀ {xs:List α} {vs:List Value} {ob:OB},aU R xs vs ob→vs.length=xs.length * n
 | [],_,_,h=>by obtain ⟨rfl,rfl⟩:=h; simp
 | x::xs,_,_,h=>by
   obtain ⟨u1,u2,c1,c2,rfl,rfl,hr,ht⟩:=h
   rw [a8,hl _ _ _ hr,aU.length hl ht,List.length_cons,Nat.succ_mul]; omega
theorem aU.split {α:Type} {R:α→List Value→OB→Prop} {n:Nat} (hl:∀ x v b,R x v b→v.length=n):∀ {xs:List α} {vs:List Value} {ob:OB} (i:Nat) (d:α),aU R xs vs ob→i < xs.length→
  ∃ v1 v2 v3 b1 b2 b3,vs=v1++v2++v3∧ob=b1++b2++b3∧v1.length=i * n∧R (xs.getD i d) v2 b2∧
    ∀ y u c,R y u c→aU R (xs.set i y) (v1++u++v3) (b1++c++b3)
 | [],_,_,i,_,_,hi=>by simp at hi
 | x::xs,_,_,0,d,h,_=>by
   obtain ⟨u1,u2,c1,c2,rfl,rfl,hr,ht⟩:=h
   exact ⟨[],u1,u2,[],c1,c2,rfl,rfl,by simp,hr,fun y u c hy=>⟨u,u2,c,c2,by simp,by simp,hy,ht⟩⟩
 | x::xs,_,_,i+1,d,h,hi=>by
   obtain ⟨u1,u2,c1,c2,rfl,rfl,hr,ht⟩:=h
   obtain ⟨v1,v2,v3,b1,b2,b3,rfl,rfl,h1,h2,h3⟩:=aU.split hl i d ht (by simpa using hi)
   refine ⟨u1++v1,v2,v3,c1++b1,b2,b3,by simp,by simp,?_,by simpa using h2,?_⟩
   ·rw [a8,h1,hl _ _ _ hr,Nat.succ_mul]; omega
   ·intro y u c hy
    exact ⟨u1,v1++u++v3,c1,b1++c++b3,by simp,by simp,hr,h3 y u c hy⟩
theorem aU.nil {α:Type} {R:α→List Value→OB→Prop}:aU R ([]:List α) [] []:=⟨rfl,rfl⟩
theorem aU.one {α:Type} {R:α→List Value→OB→Prop} {x:α} {v:List Value} {b:OB} (h:R x v b):aU R [x] v b:=⟨v,[],b,[],by simp,by simp,h,rfl,rfl⟩
theorem b8.refl (B:Nat) (w:World):b8 B w w:=⟨Nat.le_refl _,fun _ _=>rfl⟩
theorem b8.trans {B:Nat} {a b c:World} (h:b8 B a b) (k:b8 B b c):b8 B a c:=⟨gv h.1 k.1,fun i hi=>(k.2 i hi).trans (h.2 i hi)⟩
theorem Flat.len (P:Program):∀ (T:Ty) {w:World} {G:Nat→Nat→Prop} {B:Nat} {o:aC} {x:den T} {vs:List Value} {ob:OB},Flat P T w G B o x vs ob→vs.length=aA T
 | .int k,_,_,_,_,_,_,_,h=>by unfold Flat at h; rw [h.1]; rfl
 | .bool,_,_,_,_,_,_,_,h=>by unfold Flat at h; rw [h.1]; rfl
 | .str,_,_,_,_,_,_,_,h=>by unfold Flat at h; rw [h.1]; rfl
 | .unit,_,_,_,_,_,_,_,h=>by unfold Flat at h; rw [h.1]; rfl
 | .pair A C,_,_,_,_,_,_,_,h=>by
   unfold Flat at h
   obtain ⟨v1,v2,b1,b2,rfl,rfl,h1,h2⟩:=h
   rw [a8,Flat.len P A h1,Flat.len P C h2]; rfl
 | .arr n T,_,_,_,_,_,_,_,h=>by
   unfold Flat at h
   rw [aU.length (fun x v b hx=>Flat.len P T hx) h.2,h.1]; rfl
 | .sl T,_,_,_,o,_,_,_,h=>by
   cases o<;>unfold Flat at h
   ·obtain ⟨_,A,c,rfl,_⟩:=h; rfl
   ·exact h.1
   ·obtain ⟨v,cells,ob',rfl,_⟩:=h; rfl
   ·obtain ⟨_,A,c,rfl,_⟩:=h; rfl
 | .fn A C,_,_,_,_,_,_,_,h=>by
   unfold Flat at h
   obtain ⟨_,_,f,caps,rfl,_⟩:=h; rfl
theorem vn {w:World} {B:Nat} {e:TypeId} {size:Nat} {v:Value} {n:Nat} {cells:List Value} (h:w.ownsRow B e size v n cells):jR w B e size v n cells:=by
 refine ⟨h.1,?_⟩
 rcases h.2 with h | ⟨g,cap,cur,h1,h2,h3,h4,h5,h6,h7⟩
 ·exact .inl h
 ·exact .inr ⟨g,cap,cur,e,(0,0),h1,h2,h3,h4,h5,h6,h7,fun _=>⟨rfl,rfl⟩,.inl rfl⟩
theorem jR.HP {w:World} {B:Nat} {e:TypeId} {size:Nat} {v:Value} {n:Nat} {cells:List Value} (h:jR w B e size v n cells) (he:e≠ny):w.ownsRow B e size v n cells:=by
 refine ⟨h.1,?_⟩
 rcases h.2 with h | ⟨g,cap,cur,e',fz,h1,h2,h3,h4,h5,h6,h7,h8,_⟩
 ·exact .inl h
 ·obtain ⟨rfl,rfl⟩:=h8 he
  exact .inr ⟨g,cap,cur,h1,h2,h3,h4,h5,h6,h7⟩
theorem jR.cells {w:World} {B:Nat} {e:TypeId} {size:Nat} {v:Value} {n:Nat} {xs:List Value} (h:jR w B e size v n xs) {g:Nat} (hg:v.ownBlock=some g):∀ j u,xs[j]?=some u→w.cell? ((⟨g,0,none⟩:Addr).add j)=some u:=by
 intro j u hu
 rcases h.2 with ⟨rfl,_⟩ | ⟨g',cap,cur,e',fz,rfl,_,hgg,_,_,_,htake,_,_⟩
 ·simp [Value.ownBlock] at hg
 ·simp [Value.ownBlock] at hg
  subst hg
  have hadd:(⟨g',0,none⟩:Addr).add j=⟨g',j,none⟩:=by unfold Addr.add; split<;>simp_all
  rw [hadd,cell_of_row w g' j cur e' fz hgg]
  rw [←htake,List.getElem?_take] at hu
  split at hu
  ·simpa using hu
  ·cases hu
theorem aAv {w w':World} {B:Nat} {e:TypeId} {size:Nat} {v:Value} {n:Nat} {cells:List Value} (h:jR w B e size v n cells) (hb:∀ g,v.ownBlock=some g→w'.heap[g]?=w.heap[g]?):jR w' B e size v n cells:=by
 refine ⟨h.1,?_⟩
 rcases h.2 with h | ⟨g,cap,cur,e',fz,rfl,h1,h2,h3⟩
 ·exact .inl h
 ·exact .inr ⟨g,cap,cur,e',fz,rfl,h1,by rw [hb g rfl]; exact h2,h3⟩
theorem sM {v:Value} {lim g:Nat} (h:v.ownBlock=some g):(g,lim)∈cf v lim:=by simp [cf,h]
theorem Flat.mono (P:Program):∀ (T:Ty) {w w':World} {G G':Nat→Nat→Prop} {B:Nat} {o:aC} {x:den T} {vs:List Value} {ob:OB},
  (∀ b i,b < w.heap.size→G b i→G' b i∧w'.cell? ⟨b,i,none⟩=w.cell? ⟨b,i,none⟩)→b8 B w w'→(∀ g∈blocks ob,w'.heap[g]?=w.heap[g]?)→
  Flat P T w G B o x vs ob→Flat P T w' G' B o x vs ob
 | .int k,_,_,_,_,_,_,_,_,_,_,_,_,h=>by unfold Flat at h ⊢; exact h
 | .bool,_,_,_,_,_,_,_,_,_,_,_,_,h=>by unfold Flat at h ⊢; exact h
 | .str,_,_,_,_,_,_,_,_,_,_,_,_,h=>by unfold Flat at h ⊢; exact h
 | .unit,_,_,_,_,_,_,_,_,_,_,_,_,h=>by unfold Flat at h ⊢; exact h
 | .pair A C,_,_,_,_,_,_,_,_,_,hG,hL,hO,h=>by
   unfold Flat at h ⊢
   obtain ⟨v1,v2,b1,b2,rfl,rfl,h1,h2⟩:=h
   exact ⟨v1,v2,b1,b2,rfl,rfl,Flat.mono P A hG hL (fun g hg=>hO g (by simp [hg])) h1,Flat.mono P C hG hL (fun g hg=>hO g (by simp [hg])) h2⟩
 | .arr n T,_,_,_,_,_,_,_,_,ob,hG,hL,hO,h=>by
   unfold Flat at h ⊢
   exact ⟨h.1,aU.imp (fun x v b hb hx=>Flat.mono P T hG hL (fun g hg=>hO g (by
    obtain ⟨q,hq,rfl⟩:=ew.1 hg
    exact ew.2 ⟨q,hb q hq,rfl⟩)) hx) h.2⟩
 | .sl T,w,w',G,G',B,o,xs,vs,ob,hG,hL,hO,h=>by
   have dT:∀ {ob:OB},(ob=[]∧∃ A c,vs=[.slice A xs.length c]∧xs.length≤c∧c≤maxLen∧
    (xs=[]∨∃ b off cells,A=some ⟨b,off,none⟩∧aU (Flat P T w G B .no) xs cells []∧∀ j v,cells[j]?=some v→w.cell? ⟨b,off+j,none⟩=some v∧G b (off+j)))→
    (ob=[]∧∃ A c,vs=[.slice A xs.length c]∧xs.length≤c∧c≤maxLen∧
    (xs=[]∨∃ b off cells,A=some ⟨b,off,none⟩∧aU (Flat P T w' G' B .no) xs cells []∧∀ j v,cells[j]?=some v→w'.cell? ⟨b,off+j,none⟩=some v∧G' b (off+j))):=by
    rintro ob ⟨h0,A,c,h1,h2,h3,h4⟩
    refine ⟨h0,A,c,h1,h2,h3,?_⟩
    rcases h4 with h4 | ⟨b,off,cells,h5,h6,h7⟩
    ·exact .inl h4
    ·refine .inr ⟨b,off,cells,h5,aU.imp (fun x v b' hb hx=>Flat.mono P T hG hL (fun g hg=>?_) hx) h6,fun j v hj=>?_⟩
     ·obtain ⟨q,hq,rfl⟩:=ew.1 hg
      exact absurd (hb q hq) (by simp)
     ·have hc:=h7 j v hj
      have hlt:b < w.heap.size:=World.block_lt_of_cell? w _ hc.1
      have hg:=hG b (off+j) hlt hc.2
      exact ⟨hg.2.trans hc.1,hg.1⟩
   cases o with
   | no=>unfold Flat at h ⊢; exact dT h
   | hole=>unfold Flat at h ⊢; exact h
   | pair a b=>unfold Flat at h ⊢; exact dT h
   | own wr e o=>
     unfold Flat at h ⊢
     obtain ⟨v,cells,ob',h1,h2,h3,rfl⟩:=h
     refine ⟨v,cells,ob',h1,aAv h2 (fun g hg=>hO g ?_),aU.imp (fun x v b hb hx=>Flat.mono P T hG hL (fun g hg=>hO g ?_) hx) h3,rfl⟩
     ·rw [eZ]; exact gJ _ (ew.2 ⟨_,sM hg,rfl⟩)
     ·obtain ⟨q,hq,rfl⟩:=ew.1 hg
      rw [eZ]; exact iq _ (ew.2 ⟨q,hb q hq,rfl⟩)
 | .fn A C,w,w',G,G',B,_,_,_,_,hG,hL,hO,h=>by
   unfold Flat at h ⊢
   obtain ⟨h0,hs,f,caps,h1,h2⟩:=h
   exact ⟨h0,hs,f,caps,h1,fun w'' G'' x vals hl=>h2 w'' G'' x vals (hL.trans hl)⟩
theorem aC.vk {o:aC} (h:o.pure=true):o.l.pure=true:=by cases o<;>simp_all [aC.pure,aC.l]
theorem aC.vl {o:aC} (h:o.pure=true):o.r.pure=true:=by cases o<;>simp_all [aC.pure,aC.r]
theorem Flat.pure (P:Program):∀ (T:Ty) {w:World} {G:Nat→Nat→Prop} {B:Nat} {o o':aC} {x:den T} {vs:List Value} {ob:OB},o.pure=true→o'.pure=true→Flat P T w G B o x vs ob→ob=[]∧Flat P T w G B o' x vs []
 | .int k,_,_,_,_,_,_,_,_,_,_,h=>by unfold Flat at h ⊢; exact ⟨h.2.2,h.1,h.2.1,rfl⟩
 | .bool,_,_,_,_,_,_,_,_,_,_,h=>by unfold Flat at h ⊢; exact ⟨h.2,h.1,rfl⟩
 | .str,_,_,_,_,_,_,_,_,_,_,h=>by unfold Flat at h ⊢; exact ⟨h.2.2,h.1,h.2.1,rfl⟩
 | .unit,_,_,_,_,_,_,_,_,_,_,h=>by unfold Flat at h ⊢; exact ⟨h.2,h.1,rfl⟩
 | .pair A C,_,_,_,_,_,_,_,_,ho,ho',h=>by
   unfold Flat at h ⊢
   obtain ⟨v1,v2,b1,b2,rfl,rfl,h1,h2⟩:=h
   obtain ⟨e1,k1⟩:=Flat.pure P A (aC.vk ho) (aC.vk ho') h1
   obtain ⟨e2,k2⟩:=Flat.pure P C (aC.vl ho) (aC.vl ho') h2
   exact ⟨by rw [e1,e2]; rfl,v1,v2,[],[],rfl,rfl,k1,k2⟩
 | .arr n T,w,G,B,_,_,_,_,_,ho,_,h=>by
   unfold Flat at h ⊢
   have key:∀ {xs:List (den T)} {vs:List Value} {ob:OB},aU (Flat P T w G B .no) xs vs ob→ob=[]∧aU (Flat P T w G B .no) xs vs []:=by
    intro xs
    induction xs with
    | nil=>rintro vs ob ⟨rfl,rfl⟩; exact ⟨rfl,rfl,rfl⟩
    | cons x xs ih=>
      rintro vs ob ⟨u1,u2,c1,c2,rfl,rfl,hr,ht⟩
      obtain ⟨rfl,hr⟩:=Flat.pure P T (o:=.no) (o':=.no) rfl rfl hr
      obtain ⟨rfl,ht⟩:=ih ht
      exact ⟨rfl,u1,u2,[],[],rfl,rfl,hr,ht⟩
   obtain ⟨h1,h2⟩:=h
   obtain ⟨e,h2⟩:=key h2
   exact ⟨e,h1,h2⟩
 | .sl T,_,_,_,o,o',_,_,_,ho,ho',h=>by
   cases o<;>cases o'<;>simp only [aC.pure,Bool.false_eq_true] at ho ho'<;>unfold Flat at h ⊢<;>exact ⟨h.1,rfl,h.2⟩
 | .fn A C,_,_,_,_,_,_,_,_,_,_,h=>by unfold Flat at h ⊢; exact ⟨h.1,rfl,h.2⟩
theorem aU.pure (P:Program) {T:Ty} {w:World} {G:Nat→Nat→Prop} {B:Nat} {o o':aC} (ho:o.pure=true) (ho':o'.pure=true):∀ {xs:List (den T)} {vs:List Value} {ob:OB},aU (Flat P T w G B o) xs vs ob→ob=[]∧aU (Flat P T w G B o') xs vs []
 | [],_,_,h=>by obtain ⟨rfl,rfl⟩:=h; exact ⟨rfl,rfl,rfl⟩
 | x::xs,_,_,h=>by
   obtain ⟨u1,u2,c1,c2,rfl,rfl,hr,ht⟩:=h
   obtain ⟨e1,k1⟩:=Flat.pure P T ho ho' hr
   obtain ⟨e2,k2⟩:=aU.pure P ho ho' ht
   exact ⟨by rw [e1,e2]; rfl,u1,u2,[],[],rfl,rfl,k1,k2⟩
theorem Flat.one (P:Program):∀ (T:Ty) {w:World} {G:Nat→Nat→Prop} {B:Nat} {o:aC} {x:den T} {vs:List Value} {ob:OB},o.whole=true→Flat P T w G B o x vs ob→∀ u∈vs,u.oneCell'=true
 | .int k,_,_,_,_,_,_,_,_,h=>by unfold Flat at h; rw [h.1]; simp [Value.oneCell']
 | .bool,_,_,_,_,_,_,_,_,h=>by unfold Flat at h; rw [h.1]; simp [Value.oneCell']
 | .str,_,_,_,_,_,_,_,_,h=>by unfold Flat at h; rw [h.1]; simp [Value.oneCell']
 | .unit,_,_,_,_,_,_,_,_,h=>by unfold Flat at h; rw [h.1]; simp
 | .pair A C,_,_,_,o,_,_,_,ho,h=>by
   unfold Flat at h
   obtain ⟨v1,v2,b1,b2,rfl,rfl,h1,h2⟩:=h
   intro u hu
   rcases eu.1 hu with hu | hu
   ·exact Flat.one P A (by cases o<;>simp_all [aC.whole,aC.l]) h1 u hu
   ·exact Flat.one P C (by cases o<;>simp_all [aC.whole,aC.r]) h2 u hu
 | .arr n T,w,G,B,_,_,_,_,_,h=>by
   unfold Flat at h
   have key:∀ {xs:List (den T)} {vs:List Value} {ob:OB},aU (Flat P T w G B .no) xs vs ob→∀ u∈vs,u.oneCell'=true:=by
    intro xs
    induction xs with
    | nil=>rintro vs ob ⟨rfl,rfl⟩; simp
    | cons x xs ih=>
      rintro vs ob ⟨u1,u2,c1,c2,rfl,rfl,hr,ht⟩ u hu
      rcases eu.1 hu with hu | hu
      ·exact Flat.one P T (o:=.no) rfl hr u hu
      ·exact ih ht u hu
   exact key h.2
 | .sl T,_,_,_,o,_,_,_,ho,h=>by
   cases o with
   | no=>unfold Flat at h; obtain ⟨_,A,c,rfl,_⟩:=h; simp [Value.oneCell']
   | hole=>simp [aC.whole] at ho
   | pair=>unfold Flat at h; obtain ⟨_,A,c,rfl,_⟩:=h; simp [Value.oneCell']
   | own wr e o=>
     unfold Flat at h
     obtain ⟨v,cells,ob',rfl,h2,_⟩:=h
     rcases h2.2 with h | ⟨g,cap,cur,_,_,rfl,_⟩
     ·rw [h.1]; simp [Value.oneCell']
     ·simp [Value.oneCell']
 | .fn A C,_,_,_,_,_,_,_,_,h=>by
   unfold Flat at h
   obtain ⟨_,_,f,caps,rfl,_⟩:=h; simp [Value.oneCell']
end Go.Fw
/- Soundness, part 2: parts of values; what a state of the machine says of memory. -/
namespace Go.Fw
open Go Go.RowKit
theorem tc:∀ p,ct .no p=.no
 | []=>rfl
 | .l::p=>tc p
 | .r::p=>tc p
 | .ix _::_=>rfl
theorem sU:∀ (p:Path) (a b:aC),a.pure=true→b.pure=true→(fD a p b).pure=true
 | [],_,_,_,h=>h
 | .l::p,a,b,ha,hb=>by simp only [fD,aC.pure,aB]; exact ⟨sU p _ _ (aC.vk ha) hb,aC.vl ha⟩
 | .r::p,a,b,ha,hb=>by simp only [fD,aC.pure,aB]; exact ⟨aC.vk ha,sU p _ _ (aC.vl ha) hb⟩
 | .ix _::_,_,_,ha,_=>ha
theorem En (T:Ty) (y:den T):bM T ⟨T,y⟩=some y:=by simp [bM]
theorem dJ {T:Ty} {y:TV} {z:den T} (h:bM T y=some z):y=⟨T,z⟩:=by
 obtain ⟨T',y⟩:=y
 simp only [bM] at h
 split at h
 ·rename_i e; subst e; simp at h; rw [h]
 ·exact absurd h (by simp)
theorem uu:∀ (p:Path) (T:Ty) {P:Program} {w:World} {G:Nat→Nat→Prop} {B:Nat} {o:aC} {x:den T} {vs:List Value} {ob:OB} {y:TV},Flat P T w G B o x vs ob→aN T p x=some y→dw T p=some y.1
 | [],T,_,_,_,_,_,_,_,_,_,_,h=>by simp only [aN,az] at h; subst h; cases T<;>rfl
 | .l::p,.pair A C,_,_,_,_,_,_,_,_,_,hF,h=>by
   unfold Flat at hF; obtain ⟨v1,v2,b1,b2,rfl,rfl,h1,h2⟩:=hF
   simp only [aN,dw] at h ⊢; exact uu p A h1 h
 | .r::p,.pair A C,_,_,_,_,_,_,_,_,_,hF,h=>by
   unfold Flat at hF; obtain ⟨v1,v2,b1,b2,rfl,rfl,h1,h2⟩:=hF
   simp only [aN,dw] at h ⊢; exact uu p C h2 h
 | .ix i::p,.arr n T,_,_,_,_,_,_,_,_,_,hF,h=>by
   unfold Flat at hF; obtain ⟨hn,hF⟩:=hF
   simp only [aN,dw] at h ⊢
   split at h
   ·rename_i hi
    obtain ⟨v1,v2,v3,b1,b2,b3,_,_,_,h2,_⟩:=aU.split (fun x v b hx=>Flat.len _ T hx) i (zero T) hF hi
    rw [if_pos (by omega)]; exact uu p T h2 h
   ·exact absurd h (by simp)
 | .l::_,.int _,_,_,_,_,_,_,_,_,_,_,h | .l::_,.bool,_,_,_,_,_,_,_,_,_,_,h | .l::_,.str,_,_,_,_,_,_,_,_,_,_,h | .l::_,.unit,_,_,_,_,_,_,_,_,_,_,h | .l::_,.sl _,_,_,_,_,_,_,_,_,_,_,h | .l::_,.arr _ _,_,_,_,_,_,_,_,_,_,_,h | .l::_,.fn _ _,_,_,_,_,_,_,_,_,_,_,h=>by simp [aN] at h
 | .r::_,.int _,_,_,_,_,_,_,_,_,_,_,h | .r::_,.bool,_,_,_,_,_,_,_,_,_,_,h | .r::_,.str,_,_,_,_,_,_,_,_,_,_,h | .r::_,.unit,_,_,_,_,_,_,_,_,_,_,h | .r::_,.sl _,_,_,_,_,_,_,_,_,_,_,h | .r::_,.arr _ _,_,_,_,_,_,_,_,_,_,_,h | .r::_,.fn _ _,_,_,_,_,_,_,_,_,_,_,h=>by simp [aN] at h
 | .ix _::_,.int _,_,_,_,_,_,_,_,_,_,_,h | .ix _::_,.bool,_,_,_,_,_,_,_,_,_,_,h | .ix _::_,.str,_,_,_,_,_,_,_,_,_,_,h | .ix _::_,.unit,_,_,_,_,_,_,_,_,_,_,h | .ix _::_,.sl _,_,_,_,_,_,_,_,_,_,_,h | .ix _::_,.pair _ _,_,_,_,_,_,_,_,_,_,_,h | .ix _::_,.fn _ _,_,_,_,_,_,_,_,_,_,_,h=>by simp [aN] at h
theorem Flat.lens (P:Program):∀ (p:Path) (T:Ty) {w:World} {G:Nat→Nat→Prop} {B:Nat} {o:aC} {x:den T} {vs:List Value} {ob:OB} {T':Ty} {y:den T'},Flat P T w G B o x vs ob→aN T p x=some ⟨T',y⟩→
  ∃ v1 v2 v3 b1 b2 b3,vs=v1++v2++v3∧ob=b1++b2++b3∧v1.length=bu T p∧Flat P T' w G B (ct o p) y v2 b2∧
    ∀ (o2:aC) (y2:den T') (u:List Value) (c:OB) (x2:den T),(dM p=true→o2.pure=true)→Flat P T' w G B o2 y2 u c→bz T p x ⟨T',y2⟩=some x2→Flat P T w G B (fD o p o2) x2 (v1++u++v3) (b1++c++b3)
 | [],T,w,G,B,o,x,vs,ob,T',y,hF,h=>by
   simp only [aN,az] at h
   obtain ⟨rfl,h⟩:=Sigma.mk.inj h
   rw [eq_of_heq h] at hF
   refine ⟨[],vs,[],[],ob,[],by simp,by simp,by cases T<;>rfl,hF,?_⟩
   intro o2 y2 u c x2 _ hy hs
   have hs':bM T ⟨T,y2⟩=some x2:=by cases T<;>exact hs
   rw [En,az] at hs'
   subst hs'
   simpa [fD] using hy
 | .l::p,.pair A C,w,G,B,o,x,vs,ob,T',y,hF,h=>by
   unfold Flat at hF; obtain ⟨u1,u2,c1,c2,rfl,rfl,h1,h2⟩:=hF
   simp only [aN] at h
   obtain ⟨v1,v2,v3,b1,b2,b3,rfl,rfl,hl,hF2,hset⟩:=Flat.lens P p A h1 h
   refine ⟨v1,v2,v3++u2,b1,b2,b3++c2,by simp,by simp,hl,hF2,?_⟩
   intro o2 y2 u c x2 hix hy hs
   simp only [bz,av,az] at hs
   obtain ⟨z,hz,rfl⟩:=hs
   unfold Flat
   exact ⟨v1++u++v3,u2,b1++c++b3,c2,by simp,by simp,hset o2 y2 u c z hix hy hz,h2⟩
 | .r::p,.pair A C,w,G,B,o,x,vs,ob,T',y,hF,h=>by
   have hlen:∀ {vs ob},Flat P A w G B o.l x.1 vs ob→vs.length=aA A:=fun h=>Flat.len P A h
   unfold Flat at hF; obtain ⟨u1,u2,c1,c2,rfl,rfl,h1,h2⟩:=hF
   simp only [aN] at h
   obtain ⟨v1,v2,v3,b1,b2,b3,rfl,rfl,hl,hF2,hset⟩:=Flat.lens P p C h2 h
   refine ⟨u1++v1,v2,v3,c1++b1,b2,b3,by simp,by simp,by rw [a8,hlen h1,hl]; rfl,hF2,?_⟩
   intro o2 y2 u c x2 hix hy hs
   simp only [bz,av,az] at hs
   obtain ⟨z,hz,rfl⟩:=hs
   unfold Flat
   exact ⟨u1,v1++u++v3,c1,b1++c++b3,by simp,by simp,h1,hset o2 y2 u c z hix hy hz⟩
 | .ix i::p,.arr n T,w,G,B,o,x,vs,ob,T',y,hF,h=>by
   unfold Flat at hF; obtain ⟨hn,hF⟩:=hF
   simp only [aN] at h
   split at h
   ·rename_i hi
    obtain ⟨u1,u2,u3,c1,c2,c3,rfl,rfl,hl1,hE,hst⟩:=aU.split (fun x v b hx=>Flat.len _ T hx) i (zero T) hF hi
    obtain ⟨v1,v2,v3,b1,b2,b3,rfl,rfl,hl,hF2,hset⟩:=Flat.lens P p T hE h
    rw [tc] at hF2
    refine ⟨u1++v1,v2,v3++u3,c1++b1,b2,b3++c3,by simp,by simp,by rw [a8,hl1,hl]; rfl,hF2,?_⟩
    intro o2 y2 u c x2 hix hy hs
    simp only [bz] at hs
    rw [if_pos hi] at hs
    simp only [av,az] at hs
    obtain ⟨z,hz,rfl⟩:=hs
    have ho2:=hix rfl
    have hnew:=hset o2 y2 u c z (fun _=>ho2) hy hz
    obtain ⟨e,hnew⟩:=Flat.pure P T (sU p .no o2 rfl ho2) (o':=.no) rfl hnew
    have hE2:=hst z (v1++u++v3) [] hnew
    unfold Flat
    refine ⟨by rw [List.length_set]; exact hn,?_⟩
    have e':c1++b1++c++(b3++c3)=c1++[]++c3:=by
     rw [show c1++b1++c++(b3++c3)=c1++(b1++c++b3)++c3 by simp,e]
    rw [e']
    simpa using hE2
   ·exact absurd h (by simp)
 | .l::_,.int _,_,_,_,_,_,_,_,_,_,_,h | .l::_,.bool,_,_,_,_,_,_,_,_,_,_,h | .l::_,.str,_,_,_,_,_,_,_,_,_,_,h | .l::_,.unit,_,_,_,_,_,_,_,_,_,_,h | .l::_,.sl _,_,_,_,_,_,_,_,_,_,_,h | .l::_,.arr _ _,_,_,_,_,_,_,_,_,_,_,h | .l::_,.fn _ _,_,_,_,_,_,_,_,_,_,_,h=>by simp [aN] at h
 | .r::_,.int _,_,_,_,_,_,_,_,_,_,_,h | .r::_,.bool,_,_,_,_,_,_,_,_,_,_,h | .r::_,.str,_,_,_,_,_,_,_,_,_,_,h | .r::_,.unit,_,_,_,_,_,_,_,_,_,_,h | .r::_,.sl _,_,_,_,_,_,_,_,_,_,_,h | .r::_,.arr _ _,_,_,_,_,_,_,_,_,_,_,h | .r::_,.fn _ _,_,_,_,_,_,_,_,_,_,_,h=>by simp [aN] at h
 | .ix _::_,.int _,_,_,_,_,_,_,_,_,_,_,h | .ix _::_,.bool,_,_,_,_,_,_,_,_,_,_,h | .ix _::_,.str,_,_,_,_,_,_,_,_,_,_,h | .ix _::_,.unit,_,_,_,_,_,_,_,_,_,_,h | .ix _::_,.sl _,_,_,_,_,_,_,_,_,_,_,h | .ix _::_,.pair _ _,_,_,_,_,_,_,_,_,_,_,h | .ix _::_,.fn _ _,_,_,_,_,_,_,_,_,_,_,h=>by simp [aN] at h
theorem vc:∀ (p q:Path) (T:Ty) {T':Ty},dw T p=some T'→bu T (p++q)=bu T p+bu T' q∧dw T (p++q)=dw T' q
 | [],q,T,T',h=>by
   have:T=T':=by cases T<;>simpa [dw] using h
   subst this
   have:bu T []=0:=by cases T<;>rfl
   simp [this]
 | .l::p,q,.pair A C,T',h=>by simp only [dw] at h; simp only [dQ,bu,dw]; exact vc p q A h
 | .r::p,q,.pair A C,T',h=>by
   simp only [dw] at h; simp only [dQ,bu,dw]
   have:=vc p q C h
   exact ⟨by rw [this.1]; omega,this.2⟩
 | .ix i::p,q,.arr n T,T',h=>by
   simp only [dw] at h; simp only [dQ,bu,dw]
   split at h
   ·rename_i hi
    have:=vc p q T h
    exact ⟨by rw [this.1]; omega,by rw [if_pos hi]; exact this.2⟩
   ·exact absurd h (by simp)
 | .l::_,_,.int _,_,h | .l::_,_,.bool,_,h | .l::_,_,.str,_,h | .l::_,_,.unit,_,h | .l::_,_,.sl _,_,h | .l::_,_,.arr _ _,_,h | .l::_,_,.fn _ _,_,h=>by simp [dw] at h
 | .r::_,_,.int _,_,h | .r::_,_,.bool,_,h | .r::_,_,.str,_,h | .r::_,_,.unit,_,h | .r::_,_,.sl _,_,h | .r::_,_,.arr _ _,_,h | .r::_,_,.fn _ _,_,h=>by simp [dw] at h
 | .ix _::_,_,.int _,_,h | .ix _::_,_,.bool,_,h | .ix _::_,_,.str,_,h | .ix _::_,_,.unit,_,h | .ix _::_,_,.sl _,_,h | .ix _::_,_,.pair _ _,_,h | .ix _::_,_,.fn _ _,_,h=>by simp [dw] at h
def b7 (w:World) (tm:Array Value) (env:Env) (s:Nat) (p:Path):Option Value:=
 match look env s with
 | .own .. =>match p with | []=>some (tm.getD s undef) | _=>none
 | .loc T _ _=>match tm.getD s undef with | .pointer (some a)=>w.cell? ⟨a.block,bu T p,none⟩ | _=>none
 | _=>none
def j0 (w:World) (B:Nat) (t e:TypeId) (s:List UInt8) (v:Value) (ob:OB):Prop:=
 ∃ b p u,v=.pointer (some ⟨b,0,none⟩)∧B≤b∧w.heap[b]?=some (.cells #[p,u] t (0,0))∧(p=.pointer none∨p=.pointer (some ⟨b,0,none⟩))∧w.ownsRow B e 1 u s.length (s.map fun c=>Value.int .u8 c.toNat)∧
   u.ownBlock≠some b∧ob=(b,0)::cf u 0
def cx (P:Program) (w:World) (G:Nat→Nat→Prop) (B:Nat) (tm:Array Value) (env:Env):E→Value→OB→Prop
 | .dead,_,ob=>ob=[]
 | .cn,v,ob=>v=undef∧ob=[]
 | .v T x,v,ob=>ob=[]∧∃ vs,Flat P T w G B .no x vs []∧v=ck T vs
 | .own wr e T o xs,v,ob=>Flat P (.sl T) w G B (.own wr e o) xs [v] ob
 | .loc T o x,v,ob=>∃ b cur e ob',v=.pointer (some ⟨b,0,none⟩)∧B≤b∧w.heap[b]?=some (.cells cur e (0,0))∧Flat P T w G B o x cur.toList ob'∧ob=(b,0)::ob'
 | .ref s p,v,ob=>ob=[]∧b7 w tm env s p=some v∧(bC env s p).isSome=true
 | .ptr s p,v,ob=>ob=[]∧∃ T o x b,look env s=.loc T o x∧tm.getD s undef=.pointer (some ⟨b,0,none⟩)∧(dw T p).isSome=true∧v=.pointer (some ⟨b,bu T p,none⟩)
 | .dk s p i q,v,ob=>ob=[]∧∃ h g n c,bC env s p=some h∧b7 w tm env s p=some (.slice (some ⟨g,0,none⟩) n c)∧i < h.xs.length∧(dw h.T q).isSome=true∧
   v=.pointer (some ⟨g,i * aA h.T+bu h.T q,none⟩)
 | .at T x,v,ob=>ob=[]∧∃ b off vs,v=.pointer (some ⟨b,off,none⟩)∧Flat P T w G B .no x vs []∧∀ j u,vs[j]?=some u→w.cell? ⟨b,off+j,none⟩=some u∧(b < B∨G b (off+j))
 | .cP _,_,_=>False
 | .dY _ _ _ _,_,_=>False
 | .nw T o x,v,ob=>ob=[]∧∃ vs,Flat P T w G B o x vs []∧v=ck T vs
 | .it s pos,v,ob=>∃ b,v=.pointer (some ⟨b,0,none⟩)∧B≤b∧w.heap[b]?=some (.stringIter ⟨⟨s⟩⟩ pos)∧s.length≤maxLen∧ob=[(b,0)]
 | .sb t e s,v,ob=>j0 w B t e s v ob∧s.length≤140737488355328
def dR (R:E→Value→OB→Prop):List E→List Value→OB→Prop
 | [],vs,ob=>vs=[]∧ob=[]
 | e::es,vs,ob=>∃ v r b1 b2,vs=v::r∧ob=b1++b2∧R e v b1∧dR R es r b2
def bL (P:Program) (w:World) (G:Nat→Nat→Prop) (B:Nat) (tm:Array Value) (env:Env):E→Value→OB→Prop
 | .cP es,v,ob=>(∀ e∈es,∀ s,leads s e=false)∧∃ vs,v=.tuple vs∧dR (cx P w G B tm env) es vs.toList ob
 | .dY f _ _ caps,v,ob=>ob=[]∧∃ cv,v=.func (.func f) #[] cv∧dR (cx P w G B tm env) caps cv.toList []
 | e,v,ob=>cx P w G B tm env e v ob
def Gd (B:Nat) (G0:Nat→Nat→Prop) (ob:Nat→OB) (b i:Nat):Prop:=
 (b < B∧G0 b i)∨(B≤b∧G0 b i∧∀ k lim,(b,lim)∈ob k→i < lim)
structure gp where
 tb:Nat
 has:Nat→Obj→Prop
 lt:∀ g o,has g o→g < tb
def gp.nil:gp:=⟨0,fun _ _=>False,fun _ _ h=>h.elim⟩
structure gp.ok (t:gp) (w:World):Prop where
 le:t.tb≤w.heap.size
 at_:∀ g o,t.has g o→w.heap[g]?=some o
theorem gp.ag3 (w:World):gp.nil.ok w:=⟨Nat.zero_le _,fun _ _ h=>h.elim⟩
structure dF where
 w:World
 x:Nat→Prop
 pin:Option Value
 r:Nat→Nat→Prop
 t:gp
def bH (W0:dF) (n k:Nat):Prop:=k < n∧(W0.pin=none∨k≠0)
structure ar (P:Program) (B:Nat) (G0:Nat→Nat→Prop) (W0:dF) (n:Nat) (env:Env) (tm:Array Value) (w:World) (ob:Nat→OB):Prop where
 rep:∀ k,bL P w (Gd B G0 ob) B tm env (look env k) (tm.getD k undef) (ob k)
 dist:∀ j k b,b∈blocks (ob j)→b∈blocks (ob k)→j=k
 nodup:∀ k,(blocks (ob k)).Nodup
 low:∀ k b,b∈blocks (ob k)→B≤b∧b < w.heap.size
 below:Below B W0.w w
 prot:∀ k b,b∈blocks (ob k)→¬ W0.x b
 same:∀ b,W0.x b→w.heap[b]?=W0.w.heap[b]?
 oldx:∀ b,W0.x b→b < w.heap.size
 free:∀ b i,B≤b→¬ W0.x b→G0 b i
 base:B≤w.heap.size
 size:tm.size=n
 pinned:∀ v,W0.pin=some v→tm.getD 0 undef=v
 kept:∀ b i,W0.r b i→b < w.heap.size∧Gd B G0 ob b i∧w.cell? ⟨b,i,none⟩=W0.w.cell? ⟨b,i,none⟩
 jT:W0.t.tb≤B∧W0.t.ok W0.w
theorem ar.qx {P:Program} {B:Nat} {G0:Nat→Nat→Prop} {W0:dF} {n:Nat} {env:Env} {tm:Array Value} {w:World} {ob:Nat→OB} (hC:ar P B G0 W0 n env tm w ob):W0.t.ok w:=
 ⟨gv hC.jT.1 hC.base,fun g o h=>by rw [hC.below.block g (eK (W0.t.lt g o h) hC.jT.1)]; exact hC.jT.2.at_ g o h⟩
theorem ar.aMA {P:Program} {B:Nat} {G0:Nat→Nat→Prop} {W0:dF} {n:Nat} {env:Env} {tm:Array Value} {w w':World} {ob:Nat→OB} (hC:ar P B G0 W0 n env tm w ob) (h:b8 B w w'):W0.t.ok w':=
 ⟨gv hC.qx.le h.1,fun g o hg=>by rw [h.2 g (eK (W0.t.lt g o hg) hC.jT.1)]; exact hC.qx.at_ g o hg⟩
end Go.Fw
