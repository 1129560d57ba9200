/- Own work: the value machine, part 1. -/
import Derived.WalkKit
import Derived.KernelRfl
set_option linter.unusedVariables false
set_option linter.unusedSimpArgs false
open Bool renaming and_eq_true → au, false_eq_true → dM
open List renaming replicate → iv, mem_append_left → fK, mem_append_right → gX, length_append → cF, mem_map → dA, mem_append → dn, cons_append → ir
open Nat renaming le_refl → cC, le_trans → dS, decEq → eI, lt_of_lt_of_le → dc
open Option renaming bind_eq_some_iff → aj, bind_assoc → mA, bind_some → al, map_some → pH
open Option.some renaming injEq → av
/- The abstract value machine, part 1: types of values, native values, what memory shows of them. -/
namespace Go.Fw
open Go Go.RowKit
inductive Ty where
 | int (k:IntKind) | bool | str | unit
 | sl (T:Ty) | pair (A B:Ty) | arr (n:Nat) (T:Ty)
 | fn (A B:Ty)
 | map (K V:Ty)
 deriving DecidableEq
abbrev den:Ty→Type
 | .int _=>Int
 | .bool=>Bool
 | .str=>List UInt8
 | .unit=>Unit
 | .sl T=>List (den T)
 | .pair A B=>den A×den B
 | .arr _ T=>List (den T)
 | .fn A B=>den A→Option (den B)
 | .map K V=>List (den K×den V)
def zero:(T:Ty)→den T
 | .int _=>(0:Int)
 | .bool=>false
 | .str=>([]:List UInt8)
 | .unit=>()
 | .sl _=> []
 | .pair A B=>(zero A,zero B)
 | .arr n T=>iv n (zero T)
 | .fn _ _=>fun _=>none
 | .map _ _=> []
def ax:Ty→Nat
 | .unit=>0
 | .pair A B=>ax A+ax B
 | .arr n T=>n * ax T
 | _=>1
def ca:Ty→Bool
 | .unit | .pair _ _ | .arr _ _=>true
 | _=>false
def cb:Ty→Bool
 | .sl _ | .fn _ _ | .map _ _=>false
 | .pair A B=>cb A&&cb B
 | .arr _ T=>cb T
 | _=>true
def dW:Ty→Bool
 | .fn _ _=>false
 | .sl T=>dW T
 | .pair A B=>dW A&&dW B
 | .arr _ T=>dW T
 | _=>true
inductive aw where
 | no
 | hole
 | own (wr:Bool) (e:TypeId) (o:aw)
 | pair (a b:aw)
 | mp
def aw.l:aw→aw | .pair a _=>a | _=>.no
def aw.r:aw→aw | .pair _ b=>b | _=>.no
abbrev OB:=List (Nat×Nat)
def aG {α:Type} (R:α→List Value→OB→Prop):List α→List Value→OB→Prop
 | [],vs,ob=>vs=[]∧ob=[]
 | x::xs,vs,ob=>∃ v1 v2 b1 b2,vs=v1++v2∧ob=b1++b2∧R x v1 b1∧aG R xs v2 b2
def dX {α:Type} (R:α→MapEntry→Prop):List α→List MapEntry→Prop
 | [],l=>l=[]
 | x::xs,l=>∃ m r,l=m::r∧R x m∧dX R xs r
def gi:TypeId:=4294967295
def nS (fz:Nat×Nat) (n:Nat):Prop:=fz=(0,0)∨n≤fz.1
def fH (w:World) (base:Nat) (e:TypeId) (size:Nat) (v:Value) (n:Nat) (xs:List Value):Prop:=
 xs.length=n * size∧
 ((v=.slice none 0 0∧n=0)∨
  ∃ g cap cur e' fz,v=.slice (some ⟨g,0,none⟩) n cap∧base≤g∧w.heap[g]?=some (.cells cur e' fz)∧n≤cap∧cap≤maxLen∧cur.size=cap * size∧cur.toList.take (n * size)=xs∧(e≠gi→e'=e∧fz=(0,0))∧nS fz cur.size)
def ft (k:IntKind) (n:Int):Prop:=k.min≤n∧n≤k.max
def a8 (T:Ty) (vs:List Value):Value:=if ca T then .agg vs.toArray else vs.headD undef
def bH (v:Value) (lim:Nat):OB:=match v.ownBlock with | some b=> [(b,lim)] | none=> []
def bO (B:Nat) (w w':World):Prop:=w.heap.size≤w'.heap.size∧∀ b,b < B→w'.heap[b]?=w.heap[b]?
structure Below (B:Nat) (w w':World):Prop where
 os:w'.os=w.os
 tape:w'.tape=w.tape
 output:w'.output=w.output
 size:w.heap.size≤w'.heap.size
 block:∀ k,k < B→w'.heap[k]?=w.heap[k]?
 drawn:w.drawn≤w'.drawn
theorem Below.ZM {B:Nat} {w w':World} (h:Below B w w'):Go.RowKit.Below B w w':=⟨h.os,h.tape,h.output,h.size,h.block⟩
theorem Below.refl (B:Nat) (w:World):Below B w w:=⟨rfl,rfl,rfl,cC _,fun _ _=>rfl,cC _⟩
theorem Below.trans {B:Nat} {a b c:World} (h:Below B a b) (k:Below B b c):Below B a c:=
 ⟨k.os.trans h.os,k.tape.trans h.tape,k.output.trans h.output,dS h.size k.size,fun i hi=>(k.block i hi).trans (h.block i hi),dS h.drawn k.drawn⟩
def fw (P : Program) (f : FuncId) : Prop := ∃ fn, P.funcs[f]? = some fn ∧ (fn.name == "runtime.NumGoroutine") = false ∧ fn.body.isNone = false
mutual
def Flat (P:Program):(T:Ty)→World→(Nat→Nat→Prop)→Nat→aw→den T→List Value→OB→Prop
 | .int k,_,_,_,_,n,vs,ob=>vs=[.int k n]∧ft k n∧ob=[]
 | .bool,_,_,_,_,b,vs,ob=>vs=[.bool b]∧ob=[]
 | .str,_,_,_,_,s,vs,ob=>vs=[.string ⟨⟨s⟩⟩]∧s.length≤maxLen∧ob=[]
 | .unit,_,_,_,_,_,vs,ob=>vs=[]∧ob=[]
 | .pair A C,w,G,B,o,x,vs,ob=>∃ v1 v2 b1 b2,vs=v1++v2∧ob=b1++b2∧Flat P A w G B o.l x.1 v1 b1∧Flat P C w G B o.r x.2 v2 b2
 | .arr n T,w,G,B,_,xs,vs,ob=>xs.length=n∧aG (Flat P T w G B .no) xs vs ob
 | .sl T,w,G,B,.own wr e o,xs,vs,ob=>∃ v cells ob',vs=[v]∧fH w B e (ax T) v xs.length cells∧aG (Flat P T w G B o) xs cells ob'∧
   ob=bH v (if wr then 0 else xs.length * ax T)++ob'
 | .sl _,_,_,_,.hole,_,vs,ob=>vs.length=1∧ob=[]
 | .sl T,w,G,B,_,xs,vs,ob=>ob=[]∧∃ A c,vs=[.slice A xs.length c]∧xs.length≤c∧c≤maxLen∧
   (xs=[]∨∃ b off cells,A=some ⟨b,off,none⟩∧aG (Flat P T w G B .no) xs cells []∧∀ j v,cells[j]?=some v→w.cell? ⟨b,off+j,none⟩=some v∧G b (off+j))
 | .map K V,w,G,B,.mp,xs,vs,ob=>cb K=true∧cb V=true∧∃ b ents clk,vs=[.map (some b)]∧B≤b∧w.heap[b]?=some (.map ents clk)∧ob=[(b,0)]∧
   dX (fun x m=>∃ ks us,Flat P K w G B .no x.1 ks []∧Flat P V w G B .no x.2 us []∧m.key=a8 K ks∧m.val=a8 V us) xs ents.toList
 | .map _ _,_,_,_,_,_,vs,ob=>ob=[]∧∃ r,vs=[.map r]
 | .fn A C,w,_,B,_,g,vs,ob=>ob=[]∧cb C=true∧∃ f caps,vs=[.func (.func f) #[] caps]∧
   ∀ (w':World) (G':Nat→Nat→Prop) (x:den A) (vals:List Value),bO B w w'→gU P A w' G' x vals→∀ r,g x=some r→
     fw P f∧Calls P f (vals.toArray++caps) w' (fun e w''=>∃ rs,Flat P C w'' G' B .no r rs []∧e=.returned (a8 C rs)∧Below w'.heap.size w' w'')
def gU (P:Program):(A:Ty)→World→(Nat→Nat→Prop)→den A→List Value→Prop
 | .pair A C,w,G,x,vals=>∃ v1 rest,Flat P A w G w.heap.size .no x.1 v1 []∧vals=a8 A v1::rest∧gU P C w G x.2 rest
 | .unit,_,_,_,vals=>vals=[]
 | _,_,_,_,_=>False
end
end Go.Fw
/- The abstract value machine, part 2: entries, operations, code. -/
namespace Go.Fw
open Go Go.RowKit
inductive St where
 | l | r | ix (i:Nat)
 deriving DecidableEq
abbrev Path:=List St
abbrev TV:=(T:Ty)×den T
def cH:Ty→Path→Option Ty
 | T,[]=>some T
 | .pair A _,.l::p=>cH A p
 | .pair _ B,.r::p=>cH B p
 | .arr n T,.ix i::p=>if i < n then cH T p else none
 | _,_=>none
def aZ:Ty→Path→Nat
 | .pair A _,.l::p=>aZ A p
 | .pair A B,.r::p=>ax A+aZ B p
 | .arr _ T,.ix i::p=>i * ax T+aZ T p
 | _,_=>0
def aE:(T:Ty)→Path→den T→Option TV
 | T,[],x=>some ⟨T,x⟩
 | .pair A _,.l::p,x=>aE A p x.1
 | .pair _ B,.r::p,x=>aE B p x.2
 | .arr _ T,.ix i::p,x=>if i < x.length then aE T p (x.getD i (zero T)) else none
 | _,_,_=>none
def ba (T:Ty) (y:TV):Option (den T):=if h:y.1=T then some (h▸y.2) else none
def aX:(T:Ty)→Path→den T→TV→Option (den T)
 | T,[],_,y=>ba T y
 | .pair A _,.l::p,x,y=>(aX A p x.1 y).bind fun z=>some (z,x.2)
 | .pair _ B,.r::p,x,y=>(aX B p x.2 y).bind fun z=>some (x.1,z)
 | .arr _ T,.ix i::p,x,y=>if i < x.length then (aX T p (x.getD i (zero T)) y).bind fun z=>some (x.set i z) else none
 | _,_,_,_=>none
def b7:aw→Path→aw
 | a,[]=>a
 | a,.l::p=>b7 a.l p
 | a,.r::p=>b7 a.r p
 | _,.ix _::_=>.no
def eC:aw→Path→aw→aw
 | _,[],b=>b
 | a,.l::p,b=>.pair (eC a.l p b) a.r
 | a,.r::p,b=>.pair a.l (eC a.r p b)
 | a,.ix _::_,_=>a
def pM {α:Type}:aw→List (Path×α)→aw
 | o,[]=>o
 | o,(p,_)::r=>pM (eC o p .no) r
def cm:Path→Bool
 | []=>false
 | .ix _::_=>true
 | _::p=>cm p
def aw.pure:aw→Bool
 | .no=>true
 | .pair a b=>a.pure&&b.pure
 | _=>false
def aw.whole:aw→Bool
 | .hole=>false
 | .pair a b=>a.whole&&b.whole
 | .own _ _ o=>o.whole
 | .no | .mp=>true
def aw.bj:aw→aw
 | .own _ e o=>.own false e o.bj
 | .pair a b=>.pair a.bj b.bj
 | a=>a
def aw.stays:aw→Bool
 | .own w _ o=>!w&&o.stays
 | .pair a b=>a.stays&&b.stays
 | _=>true
theorem aw.rU:∀ {o:aw},o.stays=true→o.bj=o
 | .own w e o,h=>by
   simp only [aw.stays,au,Bool.not_eq_true'] at h
   simp only [aw.bj,aw.rU h.2,h.1]
 | .pair a b,h=>by
   simp only [aw.stays,au] at h
   simp only [aw.bj,aw.rU h.1,aw.rU h.2]
 | .no,_ | .hole,_ | .mp,_=>rfl
inductive E where
 | dead
 | bB
 | v (T:Ty) (x:den T)
 | own (wr:Bool) (e:TypeId) (T:Ty) (o:aw) (xs:List (den T))
 | loc (T:Ty) (o:aw) (x:den T)
 | ref (s:Nat) (p:Path)
 | ptr (s:Nat) (p:Path)
 | cJ (s:Nat) (p:Path) (i:Nat) (q:Path)
 | at (T:Ty) (x:den T)
 | cx (es:List E)
 | cG (f:FuncId) (A C:Ty) (caps:List E)
 | it (s:List UInt8) (pos:Nat)
 | sb (t e:TypeId) (s:List UInt8)
 | nw (T:Ty) (o:aw) (x:den T)
 | nm (T:Ty) (o:aw) (x:den T)
abbrev Env:=List (Nat×E)
def look:Env→Nat→E
 | [],_=>.dead
 | (j,e)::r,k=>match eI j k with | .isTrue _=>e | .isFalse _=>look r k
def E.home:E→Bool
 | .own .. | .loc .. =>true
 | _=>false
def leads (s:Nat):E→Bool
 | .ref k _ | .ptr k _ | .cJ k _ _ _=>k==s
 | .cG _ _ _ caps=>caps.any fun | .ref k _ | .ptr k _ | .cJ k _ _ _=>k==s | _=>false
 | _=>false
def kill (s:Nat) (env:Env):Env:=env.map fun q=>if leads s q.2 then (q.1,.dead) else q
def er (s:Nat):E→Bool
 | .ptr _ _=>false
 | e=>leads s e
def iP (s:Nat) (env:Env):Env:=env.map fun q=>if er s q.2 then (q.1,.dead) else q
def rH (s d:Nat) (env:Env):Env:=env.map fun q=>match q.2 with
 | .ref k p=>if k==s then (q.1,.ref d p) else q
 | .cJ k p i r=>if k==s then (q.1,.cJ d p i r) else q
 | .cG f A C caps=>if leads s (.cG f A C caps) then (q.1,.dead) else q
 | _=>q
def put (env:Env) (k:Nat) (e:E):Env:=(k,if leads k e then .dead else e)::(if (look env k).home then kill k env else env)
def aH (env:Env) (k:Option Nat) (e:E):Env:=match k with | some k=>put env k e | none=>env
def freeze (env:Env) (s:Nat):Env:=
 match look env s with
 | .own _ e T o xs=>(s,.own false e T o.bj xs)::env
 | .loc T o x=>(match o.stays with | true=>env | false=>(s,.loc T o.bj x)::env)
 | _=>env
def rD:E→List Nat
 | .ref k _ | .ptr k _ | .cJ k _ _ _=> [k]
 | _=> []
def o9:E→List Nat
 | .cG _ _ _ caps=>caps.flatMap rD
 | e=>rD e
def oU (live:List Nat) (e:E):E:=match (o9 e).all fun s=>live.any fun k=>k==s with | true=>e | false=>.dead
def ah (live:List Nat) (env:Env):Env:=live.map fun k=>(k,oU live (look env k))
inductive Od where
 | t (k:Nat)
 | c (T:Ty) (x:den T)
 | nil (e:TypeId) (T:Ty)
 | fn (f:FuncId) (A C:Ty)
def aq (env:Env):Od→E
 | .t k=>look env k
 | .c T x=>.v T x
 | .nil e T=>.own true e T .no []
 | .fn f A C=>.cG f A C []
structure jr where
 wr:Bool
 e:TypeId
 T:Ty
 o:aw
 xs:List (den T)
def a6 (env:Env) (s:Nat) (p:Path):Option jr:=
 match look env s with
 | .own wr e T o xs=>match p with | []=>some ⟨wr,e,T,o,xs⟩ | _=>none
 | .loc T o x=>match b7 o p,aE T p x with
   | .own wr e o',some ⟨.sl T',xs⟩=>some ⟨wr,e,T',o',xs⟩
   | _,_=>none
 | _=>none
structure az where
 run:FuncId→List E→Option (List E)
 runK:{R:Type}→FuncId→List E→(List E→Option R)→Option R
 eqn:∀ {R:Type} (f:FuncId) (es:List E) (k:List E→Option R),runK f es k=(run f es).bind k
instance:CoeFun az (fun _=>FuncId→List E→Option (List E)):=⟨az.run⟩
def az.of (g:FuncId→List E→Option (List E)):az:=⟨g,fun f es k=>(g f es).bind k,fun _ _ _=>rfl⟩
def unpack:(A:Ty)→den A→List E
 | .pair A B,x=>.v A x.1::unpack B x.2
 | _,_=> []
def lN (C:Ty):List E→Option (den C)
 | [.v T x]=>ba C ⟨T,x⟩
 | _=>none
def cK (env:Env):E→Option E
 | .v T x=>some (.v T x)
 | .own _ _ T o xs=>if o.pure then some (.v (.sl T) xs) else none
 | .ref s p=>(a6 env s p).bind fun h=>if h.o.pure then some (.v (.sl h.T) h.xs) else none
 | .at T x=>some (.at T x)
 | .ptr s p=>match look env s with
   | .loc T o x=>if (b7 o p).whole then (aE T p x).bind fun y=>some (.at y.1 y.2) else none
   | _=>none
 | .cJ s p i q=>(a6 env s p).bind fun h=>if h.o.pure&&decide (i < h.xs.length) then (aE h.T q (h.xs.getD i (zero h.T))).bind fun y=>some (.at y.1 y.2) else none
 | _=>none
def gL (env:Env):List E→Option (List E)
 | []=>some []
 | e::r=>(cK env e).bind fun x=>(gL env r).bind fun y=>some (x::y)
def cP (env:Env) (e:E):Option TV:=
 match e with
 | .v T x=>some ⟨T,x⟩
 | .own _ _ T o xs=>if o.pure then some ⟨.sl T,xs⟩ else none
 | .ref s p=>(a6 env s p).bind fun h=>if h.o.pure then some ⟨.sl h.T,h.xs⟩ else none
 | _=>none
def jg (cl:az) (env:Env) (f:FuncId) (A C:Ty) (caps:List E):Option E:=
 if cb C then (gL env caps).bind fun cs=>some (.v (.fn A C) fun x=>(cl f (unpack A x++cs)).bind (lN C)) else none
def eU (k:Od) (e:E):Option Nat:=
 match e with
 | .own .. =>match k with | .t k=>some k | _=>none
 | .ref s _ | .ptr s _ | .cJ s _ _ _=>some s
 | .loc .. =>match k with | .t k=>some k | _=>none
 | _=>none
def dL (env:Env) (k:Od):Option (Env×TV):=
 (cP env (aq env k)).bind fun y=>some (match eU k (aq env k) with | some s=>freeze env s | none=>env,y)
def ae {α:Type} (b:Bool) (x y:α):α:=match b with | true=>x | false=>y
def arith (op:BinOp) (k:IntKind) (x y:Int):Option Int:=
 match op with
 | .add=>some (k.wrap (x+y))
 | .sub=>some (k.wrap (x - y))
 | .mul=>some (k.wrap (x * y))
 | .and=>some (Go.bits .and k x y)
 | .or=>some (Go.bits .or k x y)
 | .xor=>some (Go.bits .xor k x y)
 | .andNot=>some (Go.bits .andNot k x y)
 | _=>none
def rS (l:Bool) (k:IntKind) (m n:Int):Int:=match l with
 | true=>k.wrap (m * 2 ^ (min n.toNat k.bits))
 | false=>m.fdiv (2 ^ (min n.toNat k.bits))
def zi (op:BinOp) (x y:Int):Option Bool:=
 match op with
 | .eql=>some (x==y)
 | .neq=>some (x != y)
 | .lss=>some (decide (x < y))
 | .leq=>some (decide (x≤y))
 | .gtr=>some (decide (x > y))
 | .geq=>some (decide (x≥y))
 | _=>none
end Go.Fw
/- The abstract value machine: operations whose order is open, read through a reader that fails on what is dead. -/
namespace Go.Fw
open Go Go.RowKit
def Sub (L L':Nat→E):Prop:=∀ k,L k=.dead∨L' k=L k
structure Rd (α:Type) where
 run:(Nat→E)→Option α
 runK:{R:Type}→(Nat→E)→(α→Option R)→Option R
 mono:∀ L L' x,Sub L L'→run L=some x→run L'=some x
 eqn:∀ {R:Type} (L:Nat→E) (k:α→Option R),runK L k=(run L).bind k
namespace Rd
def ok {α:Type} (x:α):Rd α:=⟨fun _=>some x,fun _ k=>k x,fun _ _ _ _ h=>h,fun _ _=>rfl⟩
def no {α:Type}:Rd α:=⟨fun _=>none,fun _ _=>none,fun _ _ _ _ h=>h,fun _ _=>rfl⟩
def of {α:Type} (x:Option α):Rd α:=⟨fun _=>x,fun _ k=>x.bind k,fun _ _ _ _ h=>h,fun _ _=>rfl⟩
def jL:E→Option E
 | .dead=>none
 | e=>some e
def get (k:Nat):Rd E:=⟨fun L=>jL (L k),fun L c=>(jL (L k)).bind c,fun L L' x hs h=>by
 rcases hs k with h1 | h1
 ·rw [h1] at h; simp [jL] at h
 ·rw [h1]; exact h,fun _ _=>rfl⟩
def bind {α β:Type} (a:Rd α) (f:α→Rd β):Rd β:=⟨fun L=>(a.run L).bind fun x=>(f x).run L,fun L k=>a.runK L fun x=>(f x).runK L k,fun L L' x hs h=>by
 obtain ⟨y,hy,h⟩:=aj.1 h
 exact aj.2 ⟨y,a.mono L L' y hs hy,(f y).mono L L' x hs h⟩,fun L k=>by
 rw [a.eqn,mA]; congr 1; funext x; exact (f x).eqn L k⟩
def ite {α:Type} (p:Prop) [Decidable p] (a b:Rd α):Rd α:=⟨fun L=>if p then a.run L else b.run L,fun L k=>if p then a.runK L k else b.runK L k,fun L L' x hs h=>by
 split
 ·rename_i hp; rw [if_pos hp] at h; exact a.mono L L' x hs h
 ·rename_i hp; rw [if_neg hp] at h; exact b.mono L L' x hs h,fun L k=>by
 split
 ·exact a.eqn L k
 ·exact b.eqn L k⟩
def br {α:Type} (q:Bool) (a b:Rd α):Rd α:=⟨fun L=>ae q (a.run L) (b.run L),fun L k=>ae q (a.runK L k) (b.runK L k),fun L L' x hs h=>by
 cases q
 ·exact b.mono L L' x hs h
 ·exact a.mono L L' x hs h,fun L k=>by
 cases q
 ·exact b.eqn L k
 ·exact a.eqn L k⟩
def call (cl:az) (f:FuncId) (es:List E):Rd (List E):=⟨fun _=>cl f es,fun _ k=>cl.runK f es k,fun _ _ _ _ h=>h,fun _ k=>cl.eqn f es k⟩
end Rd
def df:Od→Rd E
 | .t k=>.get k
 | .c T x=>.ok (.v T x)
 | .nil e T=>.ok (.own true e T .no [])
 | .fn f A C=>.ok (.cG f A C [])
def AB (e:E) (p:Path):Option jr:=
 match e with
 | .own wr e T o xs=>match p with | []=>some ⟨wr,e,T,o,xs⟩ | _=>none
 | .loc T o x=>match b7 o p,aE T p x with
   | .own wr e o',some ⟨.sl T',xs⟩=>some ⟨wr,e,T',o',xs⟩
   | _,_=>none
 | _=>none
def lq (s:Nat) (p:Path):Rd jr:=(Rd.get s).bind fun e=>.of (AB e p)
def JO (p:Path):E→Option E
 | .loc T o x=>if (b7 o p).whole then (aE T p x).bind fun y=>some (.at y.1 y.2) else none
 | _=>none
def w8:E→Rd E
 | .v T x=>.ok (.v T x)
 | .own _ _ T o xs=>.of (if o.pure then some (.v (.sl T) xs) else none)
 | .ref s p=>(lq s p).bind fun h=>.of (if h.o.pure then some (.v (.sl h.T) h.xs) else none)
 | .at T x=>.ok (.at T x)
 | .ptr s p=>(Rd.get s).bind fun e=>.of (JO p e)
 | .cJ s p i q=>(lq s p).bind fun h=>.of (if h.o.pure&&decide (i < h.xs.length) then (aE h.T q (h.xs.getD i (zero h.T))).bind fun y=>some (.at y.1 y.2) else none)
 | _=>.no
def pO:List E→Rd (List E)
 | []=>.ok []
 | e::r=>(w8 e).bind fun x=>(pO r).bind fun y=>.ok (x::y)
def vY:E→Rd TV
 | .v T x=>.ok ⟨T,x⟩
 | .own _ _ T o xs=>.of (if o.pure then some ⟨.sl T,xs⟩ else none)
 | .ref s p=>(lq s p).bind fun h=>.of (if h.o.pure then some ⟨.sl h.T,h.xs⟩ else none)
 | _=>.no
def zh (cl:az) (f:FuncId) (A C:Ty) (caps:List E):Rd E:=
 if cb C then (pO caps).bind fun cs=>.ok (.v (.fn A C) fun x=>(cl f (unpack A x++cs)).bind (lN C)) else .no
theorem dx (env:Env) (x:Od):(df x).run (look env)=Rd.jL (aq env x):=by
 cases x<;>rfl
theorem Yc (env:Env) (s:Nat) (p:Path):a6 env s p=AB (look env s) p:=by
 unfold a6 AB
 rfl
theorem qV (env:Env) (s:Nat) (p:Path):(lq s p).run (look env)=a6 env s p:=by
 rw [Yc]
 show (Rd.jL (look env s)).bind (fun e=>AB e p)=_
 cases look env s<;>rfl
theorem JR (env:Env) (e:E):(w8 e).run (look env)=cK env e:=by
 cases e<;>try rfl
 ·rename_i s p
  show ((lq s p).run (look env)).bind _=_
  rw [qV]; rfl
 ·rename_i s p
  show (Rd.jL (look env s)).bind (fun e=>JO p e)=_
  simp only [cK]
  cases look env s<;>rfl
 ·rename_i s p i q
  show ((lq s p).run (look env)).bind _=_
  rw [qV]; rfl
theorem BH (env:Env):∀ (es:List E),(pO es).run (look env)=gL env es
 | []=>rfl
 | e::r=>by
   show ((w8 e).run (look env)).bind (fun x=>((pO r).run (look env)).bind fun y=>some (x::y))=_
   rw [JR,BH env r]; rfl
theorem AG (env:Env) (e:E):(vY e).run (look env)=cP env e:=by
 cases e<;>try rfl
 rename_i s p
 show ((lq s p).run (look env)).bind _=_
 rw [qV]; rfl
theorem OR (cl:az) (env:Env) (f:FuncId) (A C:Ty) (caps:List E):(zh cl f A C caps).run (look env)=jg cl env f A C caps:=by
 unfold zh jg
 split
 ·show ((pO caps).run (look env)).bind _=_
  rw [BH]; rfl
 ·rfl
end Go.Fw
/- The abstract value machine, part 3: steps, code, calls. -/
namespace Go.Fw
open Go Go.RowKit
inductive py where
 | mv (x:Od)
 | ab (x:Od)
 | pick (c a b:Od)
 | alloc (T:Ty) (o:aw)
 | box (T:Ty) (x:Od)
 | build (T:Ty) (parts:List (Path×Od))
 | jx (T:Ty) (o:aw) (parts:List (Path×Od))
 | buildSlice (e:TypeId) (T:Ty) (parts:List Od)
 | load (T:Ty) (a:Od)
 | store (T:Ty) (a x:Od)
 | bin (op:BinOp) (x y:Od)
 | un (op:UnOp) (x:Od)
 | nu (k:IntKind) (x:Od)
 | fieldAddr (S:Ty) (p:Path) (a:Od)
 | indexAddr (T:Ty) (x i:Od)
 | v8 (n:Nat) (T:Ty) (x i:Od)
 | field (S:Ty) (p:Path) (x:Od)
 | dz (x i:Od)
 | v7 (n:Nat) (T:Ty) (x i:Od)
 | iX (x:Od) (lo hi:Option Od)
 | lK (T:Ty) (x:Od) (lo hi mx:Option Od)
 | mi (neg:Bool) (T:Ty) (x y:Od)
 | mkSlice (e:TypeId) (T:Ty) (lim:Nat) (len cap:Od)
 | append (e:TypeId) (T:Ty) (lim:Nat) (s x:Od)
 | bD (x:Od)
 | aV (x:Od)
 | wc (n:Nat)
 | mm (max:Bool) (x y:Od)
 | call (f:FuncId) (args:List Od)
 | mH (x:Od) (args:List Od)
 | extract (k:Nat) (i:Nat)
 | pa (f:FuncId) (A C:Ty) (caps:List Od)
 | A4 (x:Od)
 | we (k:Nat)
 | bad
 | iR (x:Od)
 | pv (x:Od)
 | toStr (x:Od)
 | sJ (f:FuncId) (args:List Od)
 | Fq (f:FuncId) (args:List Od)
 | cp (x:Od)
 | Jm (f:FuncId) (x:Od)
 | jZ (f:FuncId) (p:Od) (args:List Od)
 | wu (t e:TypeId)
 | gR (f:FuncId) (k:Nat) (x:Od)
 | iV (f:FuncId) (k:Nat)
 | shift (l:Bool) (x y:Od)
 | bN (f:FuncId) (x g:Od)
 | ib (f:FuncId) (x g:Od)
 | AU (K V:Ty)
 | xe (T:Ty) (p:Path) (k:Nat) (parts:List (Path×Od))
 | xd (T:Ty) (k:Nat)
 | AT (K V:Ty) (x y:Od)
 | AV (K V:Ty) (x y z:Od)
structure AI where
 dst:Option Nat
 op:py
 guard:Option (Nat×Bool):=none
abbrev cB (R:Type):=Env→Option R
def Od.slot:Od→Option Nat | .t k=>some k | _=>none
def jG:E→Option (IntKind×Int)
 | .v (.int k) n=>some (k,n)
 | _=>none
def l7:E→Option Bool
 | .v .bool b=>some b
 | _=>none
def lM:E→Option (List UInt8)
 | .v .str s=>some s
 | _=>none
def lC (env:Env):Option Od→Option (Option Int)
 | none=>some none
 | some x=>(jG (aq env x)).bind fun q=>some (some q.2)
def nT:E→E
 | .own _ e T o xs=>.own false e T o.bj xs
 | e=>e
def WH:E→E
 | .cx es=>.cx (es.map nT)
 | e=>nT e
def nU (d:Option Nat) (env:Env):Env:=match d,env with
 | some _,(k,e)::r=>(k,WH e)::r
 | _,env=>env
def eT (x:Od) (e:E):E:=
 match e with
 | .own .. =>match x with | .t k=>.ref k [] | _=>e
 | .loc .. =>match x with | .t k=>.ptr k [] | _=>e
 | .cx _=>.dead
 | .it _ _ | .sb _ _ _ | .nm _ _ _=>.dead
 | _=>e
def mU (env:Env) (d:Option Nat) (x:Od):Env:=
 match aq env x with
 | .cx es=>match x,d with
   | .t k,some d=>if k==d then env else (d,.cx es)::(k,.dead)::(if (look env d).home then kill d env else env)
   | _,_=>aH env d .dead
 | e=>aH env d (eT x e)
def assign (env:Env) (d:Nat) (x:Od):Env:=
 match aq env x with
 | .own wr e T o xs=>match x with
   | .t k=>if k==d then env else
     let env:=if (look env d).home then kill d env else env
     (d,.own wr e T o xs)::(k,.ref d [])::rH k d env
   | _=>put env d (.own wr e T o xs)
 | e=>put env d (eT x e)
def dK:(T:Ty)→Option (den T→den T→Bool)
 | .int _=>some fun x y=>x==y
 | .bool=>some fun x y=>x==y
 | .str=>some fun x y=>x==y
 | .unit=>some fun _ _=>true
 | .pair A B=>match dK A,dK B with
   | some f,some g=>some fun x y=>f x.1 y.1&&g x.2 y.2
   | _,_=>none
 | _=>none
def gM:(T:Ty)→den T→Env→List (Path×Od)→Option (Env×den T)
 | _,x,env,[]=>some (env,x)
 | T,x,env,(p,a)::r=>(dL env a).bind fun q=>(aX T p x q.2).bind fun y=>gM T y q.1 r
def mG (T:Ty):Env→List Od→Option (Env×List (den T))
 | env,[]=>some (env,[])
 | env,a::r=>(dL env a).bind fun q=>(ba T q.2).bind fun x=>(mG T q.1 r).bind fun z=>some (z.1,x::z.2)
def fp (cl:az) (env:Env):List Od→Option (List E)
 | []=>some []
 | a::r=>
   (match aq env a with
    | .loc T o x=>if o.whole then some (E.at T x) else none
    | .cG f A C caps=>jg cl env f A C caps
    | e=>cK env e).bind fun x=>(fp cl env r).bind fun y=>some (x::y)
def iO (env:Env):List Od→Env
 | []=>env
 | a::r=>iO (match eU a (aq env a) with | some s=>freeze env s | none=>env) r
def E.plain:E→Bool
 | .v T _=>cb T
 | .own _ _ T _ _=>cb T
 | _=>false
def ea:List E→E
 | [e]=>e
 | es=>.cx es
def tuple:(A:Ty)→List E→Option (den A)
 | .unit,[]=>some ()
 | .pair A B,.v T x::r=>(ba A ⟨T,x⟩).bind fun y=>(tuple B r).bind fun z=>some (y,z)
 | _,_=>none
variable {R:Type}
def dZ (env:Env) (y:Od):Option (Nat×Path):=
 match aq env y with
 | .ptr s p=>some (s,p)
 | .loc .. =>y.slot.map fun k=>(k,[])
 | _=>none
def placeOf (env:Env) (k0:Nat):Option (Nat×Path):=
 match look env k0 with
 | .own .. =>some (k0,[])
 | .ref k p=>some (k,p)
 | _=>none
def rW (env:Env) (k:Nat) (p:Path):Option Env:=
 match look env k with
 | .own .. =>some ((k,.dead)::kill k env)
 | .loc T0 o x0=>some ((k,.loc T0 (eC o p .hole) x0)::iP k env)
 | _=>none
def apart (d:Option Nat) (k:Nat):Bool:=match d with | some d=>!(d==k) | none=>false
def E.cap:E→Bool
 | .cx _ | .cG _ _ _ _ | .own .. | .it _ _ | .sb _ _ _ | .nm _ _ _=>false
 | _=>true
def wE:E→Option TV
 | .v T x=>some ⟨T,x⟩
 | _=>none
def pf (env:Env):Od→Option Nat
 | .t k=>match look env k with
   | .own .. =>some k
   | .ref s []=>some s
   | _=>none
 | _=>none
def pe:List E→Option TV
 | [.own _ _ T _ ys]=>some ⟨.sl T,ys⟩
 | _=>none
def jI (o:aw) (s:Nat) (env:Env):Env:=match o.pure with | true=>env | false=>iP s env
def rE:E→Bool
 | .v T _=>dW T
 | .dead=>true
 | _=>false
def AN (T:Ty):List E→Option (aw×den T×List E)
 | .loc T' o x::rs=>(match dW T with | true=>(ba T ⟨T',x⟩).bind fun x=>some (o,x,rs) | false=>none)
 | _=>none
def UN:List E→Option (List UInt8)
 | [.sb _ _ s]=>some s
 | _=>none
def Vl:List E→Option (List UInt8)
 | [.v .str s]=>some s
 | _=>none
def mn {α β:Type} (f:α→α→Bool) (z:β):List (α×β)→α→β×Bool
 | [],_=>(z,false)
 | e::r,k=>match f k e.1 with | true=>(e.2,true) | false=>mn f z r k
def ly {α β:Type} (f:α→α→Bool):List (α×β)→α→β→List (α×β)
 | [],k,v=> [(k,v)]
 | e::r,k,v=>match f k e.1 with | true=>(k,v)::r | false=>e::ly f r k v
def step (cl:az) (i:AI) (env:Env) (K:cB R):Option R:=
 match i.op with
 | .mv x=>K (mU env i.dst x)
 | .ab x=>match i.dst with | some d=>K (assign env d x) | none=>none
 | .pick c a b=>(l7 (aq env c)).bind fun q=>ae q (K (aH env i.dst (eT a (aq env a)))) (K (aH env i.dst (eT b (aq env b))))
 | .alloc T o=>K (aH env i.dst (.loc T o (zero T)))
 | .box T x=>(dL env x).bind fun q=>(ba T q.2).bind fun y=>K (aH q.1 i.dst (.loc T .no y))
 | .build T parts=>(gM T (zero T) env parts).bind fun q=>K (aH q.1 i.dst (.v T q.2))
 | .jx T o parts=>(gM T (zero T) env parts).bind fun q=>K (aH q.1 i.dst (.nw T (pM o parts) q.2))
 | .buildSlice e T parts=>(mG T env parts).bind fun q=>K (aH q.1 i.dst (.own true e T .no q.2))
 | .load T a=>match aq env a with
   | .at T' x=>(ba T ⟨T',x⟩).bind fun y=>K (aH env i.dst (.v T y))
   | .cJ s p j q=>(a6 env s p).bind fun h=>if j < h.xs.length then
     (if h.o.pure then (aE h.T q (h.xs.getD j (zero h.T))).bind fun z=>(ba T z).bind fun y=>K (aH env i.dst (.v T y)) else none) else none
   | _=>match dZ env a with
     | some (s,p)=>match look env s with
       | .loc T0 o x=>match b7 o p with
         | .own .. =>match aE T0 p x with
           | some ⟨.sl T',_⟩=>if T=.sl T' then K (aH env i.dst (.ref s p)) else none
           | _=>none
         | .mp=>match aE T0 p x with
           | some ⟨.map K' V',_⟩=>if T=.map K' V' then K (aH env i.dst (.ref s p)) else none
           | _=>none
         | b=>if b.whole then (aE T0 p x).bind fun z=>(ba T z).bind fun y=>
            K (aH (if b.pure then env else freeze env s) i.dst (.v T y)) else none
       | _=>none
     | none=>none
 | .store T a x=>match aq env a with
   | .cJ s p j q=>match look env s with
     | .own true e T0 o xs=>match p with
       | []=>(dL env x).bind fun y=>(ba T y.2).bind fun z=>if j < xs.length then
         (aX T0 q (xs.getD j (zero T0)) ⟨T,z⟩).bind fun u=>(match look y.1 s with | .own true .. =>some () | _=>none).bind fun _=>if o.pure then K ((s,.own true e T0 o (xs.set j u))::y.1) else none else none
       | _=>none
     | .loc .. =>(dL env x).bind fun y=>(ba T y.2).bind fun z=>match look y.1 s with
       | .loc T0 o x0=>(match b7 o p,aE T0 p x0 with
         | .own true _ o',some ⟨.sl T1,xs⟩=>if j < xs.length then (aX T1 q (xs.getD j (zero T1)) ⟨T,z⟩).bind fun u=>(aX T0 p x0 ⟨.sl T1,xs.set j u⟩).bind fun x1=>
           if o'.pure then K ((s,.loc T0 o x1)::y.1) else none else none
         | _,_=>none)
       | _=>none
     | _=>none
   | _=>match dZ env a with
     | some (s,p)=>match look env s with
       | .loc T0 o x0=>
         if (cb T) then
          (cP env (aq env x)).bind fun y=>(ba T y).bind fun z=>(aX T0 p x0 ⟨T,z⟩).bind fun x1=>K ((s,.loc T0 o x1)::env)
         else match aq env x with
         | .own wr e T1 o1 xs=>match x with
           | .t k=>(ba T ⟨.sl T1,xs⟩).bind fun z=>(aX T0 p x0 ⟨T,z⟩).bind fun x1=>match cm p with
             | true=>none
             | false=>K ((s,.loc T0 (eC o p (.own wr e o1)) x1)::(k,.ref s p)::iP s (kill k env))
           | _=>(ba T ⟨.sl T1,xs⟩).bind fun z=>(aX T0 p x0 ⟨T,z⟩).bind fun x1=>match cm p with
             | true=>none
             | false=>K ((s,.loc T0 (eC o p (.own wr e o1)) x1)::iP s env)
         | .nw T1 o1 x2=>(ba T ⟨T1,x2⟩).bind fun z=>(aX T0 p x0 ⟨T,z⟩).bind fun x1=>match cm p || !o1.whole with
           | true=>none
           | false=>K ((s,.loc T0 (eC o p o1) x1)::iP s env)
         | _=>(dL env x).bind fun y=>(ba T y.2).bind fun z=>match look y.1 s with
           | .loc T0 o x0=>(aX T0 p x0 ⟨T,z⟩).bind fun x1=>match (b7 o p).pure with
             | true=>K ((s,.loc T0 o x1)::y.1)
             | false=>K ((s,.loc T0 (eC o p .no) x1)::iP s y.1)
           | _=>none
       | _=>none
     | none=>none
 | .bin op x y=>match aq env x,aq env y with
   | .v (.int k) m,.v (.int k') n=>if k=k' then
     (match op with
      | .quo=>if n=0 then none else K (aH env i.dst (.v (.int k) (k.wrap (m.tdiv n))))
      | .rem=>if n=0 then none else K (aH env i.dst (.v (.int k) (m.tmod n)))
      | _=>match zi op m n with
        | some b=>K (aH env i.dst (.v .bool b))
        | none=>(arith op k m n).bind fun r=>K (aH env i.dst (.v (.int k) r))) else none
   | .v .str s,.v .str t=>match op with
     | .eql=>K (aH env i.dst (.v .bool (s==t)))
     | .neq=>K (aH env i.dst (.v .bool (s != t)))
     | .add=>if s.length+t.length≤140737488355328 then K (aH env i.dst (.v .str (s++t))) else none
     | .lss=>K (aH env i.dst (.v .bool (Op.bytesLess s t)))
     | .leq=>K (aH env i.dst (.v .bool (Op.bytesLess s t || s==t)))
     | .gtr=>K (aH env i.dst (.v .bool (!(Op.bytesLess s t || s==t))))
     | .geq=>K (aH env i.dst (.v .bool (!Op.bytesLess s t)))
     | _=>none
   | _,_=>none
 | .mi neg T x y=>(cP env (aq env x)).bind fun s=>(cP env (aq env y)).bind fun t=>(ba T s).bind fun s=>(ba T t).bind fun t=>(dK T).bind fun f=>
   K (aH env i.dst (.v .bool (if neg then !f s t else f s t)))
 | .un op x=>match op,aq env x with
   | .not,.v .bool b=>K (aH env i.dst (.v .bool (!b)))
   | .neg,.v (.int k) n=>K (aH env i.dst (.v (.int k) (k.wrap (0 - n))))
   | _,_=>none
 | .shift l x y=>match aq env x,aq env y with
   | .v (.int k) m,.v (.int _) n=>if 0≤n then K (aH env i.dst (.v (.int k) (rS l k m n))) else none
   | _,_=>none
 | .nu k x=>(jG (aq env x)).bind fun q=>K (aH env i.dst (.v (.int k) (k.wrap q.2)))
 | .fieldAddr S p a=>match aq env a with
   | .at T x=>(ba S ⟨T,x⟩).bind fun x=>(aE S p x).bind fun y=>K (aH env i.dst (.at y.1 y.2))
   | .ptr s q=>match look env s with
     | .loc T0 _ _=>if cH T0 q=some S then K (aH env i.dst (.ptr s (q++p))) else none
     | _=>none
   | .cJ s q j r=>(a6 env s q).bind fun h=>if cH h.T r=some S then K (aH env i.dst (.cJ s q j (r++p))) else none
   | .loc T0 _ _=>if T0=S then a.slot.bind fun k=>K (aH env i.dst (.ptr k p)) else none
   | _=>none
 | .indexAddr T x ix=>(jG (aq env ix)).bind fun q=>match aq env x with
   | .v T' xs=>(ba (.sl T) ⟨T',xs⟩).bind fun xs=>if 0≤q.2∧q.2 < (xs.length:Int) then K (aH env i.dst (.at T (xs.getD q.2.toNat (zero T)))) else none
   | .own _ _ T' _ xs=>if T'=T then x.slot.bind fun s=>if 0≤q.2∧q.2 < (xs.length:Int) then K (aH env i.dst (.cJ s [] q.2.toNat [])) else none else none
   | .ref s p=>(a6 env s p).bind fun h=>if h.T=T then if 0≤q.2∧q.2 < (h.xs.length:Int) then K (aH env i.dst (.cJ s p q.2.toNat [])) else none else none
   | _=>none
 | .v8 n T x ix=>(jG (aq env ix)).bind fun q=>match aq env x with
   | .at T' xs=>(ba (.arr n T) ⟨T',xs⟩).bind fun xs=>if 0≤q.2∧q.2 < (n:Int) then K (aH env i.dst (.at T (xs.getD q.2.toNat (zero T)))) else none
   | _=>match dZ env x with
     | some (s,p)=>match look env s with
       | .loc T0 _ _=>if cH T0 p=some (.arr n T) then if 0≤q.2∧q.2 < (n:Int) then K (aH env i.dst (.ptr s (p++[.ix q.2.toNat]))) else none else none
       | _=>none
     | none=>none
 | .field S p x=>(cP env (aq env x)).bind fun y=>(ba S y).bind fun y=>(aE S p y).bind fun z=>K (aH env i.dst (.v z.1 z.2))
 | .dz x ix=>(jG (aq env ix)).bind fun q=>(lM (aq env x)).bind fun s=>
   if 0≤q.2∧q.2 < (s.length:Int) then K (aH env i.dst (.v (.int .u8) ((s.getD q.2.toNat 0).toNat:Int))) else none
 | .v7 n T x ix=>(jG (aq env ix)).bind fun q=>match aq env x with
   | .v T' xs=>(ba (.arr n T) ⟨T',xs⟩).bind fun xs=>if 0≤q.2∧q.2 < (n:Int) then K (aH env i.dst (.v T (xs.getD q.2.toNat (zero T)))) else none
   | _=>none
 | .iX x lo hi=>(lC env lo).bind fun lo=>(lC env hi).bind fun hi=>(lM (aq env x)).bind fun s=>
   if 0≤lo.getD 0∧lo.getD 0≤hi.getD (s.length:Int)∧hi.getD (s.length:Int)≤(s.length:Int) then
    K (aH env i.dst (.v .str ((s.drop (lo.getD 0).toNat).take ((hi.getD (s.length:Int)).toNat - (lo.getD 0).toNat)))) else none
 | .lK T x lo hi mx=>(lC env lo).bind fun lo=>(lC env hi).bind fun hi=>(lC env mx).bind fun mx=>(dL env x).bind fun y=>(ba (.sl T) y.2).bind fun xs=>
   if 0≤lo.getD 0∧lo.getD 0≤hi.getD (xs.length:Int)∧hi.getD (xs.length:Int)≤mx.getD (xs.length:Int)∧mx.getD (xs.length:Int)≤(xs.length:Int) then
    K (aH y.1 i.dst (.v (.sl T) ((xs.drop (lo.getD 0).toNat).take ((hi.getD (xs.length:Int)).toNat - (lo.getD 0).toNat)))) else none
 | .mkSlice e T lim l c=>match aq env l,aq env c with
   | .v (.int .i64) m,.v (.int .i64) n=>if 0≤m∧m≤n∧n≤(lim:Int) then K (aH env i.dst (.own true e T .no (iv m.toNat (zero T)))) else none
   | _,_=>none
 | .append e T lim s x=>(dL env x).bind fun y=>(ba (.sl T) y.2).bind fun ys=>match s with
   | .nil e' _=>if e=e' then if ys.length≤lim then K (aH y.1 i.dst (.own true e T .no ys)) else none else none
   | .t k0=>(placeOf y.1 k0).bind fun q=>(a6 y.1 q.1 q.2).bind fun h=>(ba (.sl T) ⟨.sl h.T,h.xs⟩).bind fun xs=>(rW y.1 q.1 q.2).bind fun env2=>
     match apart i.dst q.1&&h.o.pure&&(h.e==e) with
     | true=>if xs.length+ys.length≤lim then K (aH env2 i.dst (.own h.wr e T .no (xs++ys))) else none
     | false=>none
   | _=>none
 | .bD x=>(lM (aq env x)).bind fun s=>K (aH env i.dst (.v (.int .i64) (s.length:Int)))
 | .aV x=>(cP env (aq env x)).bind fun y=>match y with
   | ⟨.sl _,xs⟩=>K (aH env i.dst (.v (.int .i64) (xs.length:Int)))
   | _=>none
 | .wc m=>K (aH env i.dst (.v (.int .i64) (m:Int)))
 | .mm mx x y=>match aq env x,aq env y with
   | .v (.int k) m,.v (.int k') n=>if k=k' then K (aH env i.dst (.v (.int k) (if mx then (if n > m then n else m) else (if n < m then n else m)))) else none
   | _,_=>none
 | .call f args=>(fp cl env args).bind fun as=>cl.runK f as fun res=>
   K (aH (if res.all E.plain then env else iO env args) i.dst (ea res))
 | .sJ f args=>(fp cl env args).bind fun as=>cl.runK f as fun res=>
   K (nU i.dst (aH (if res.all E.plain then env else iO env args) i.dst (ea res)))
 | .Fq f args=>(fp cl env args).bind fun as=>cl.runK f (.dead::as) fun res=>
   K (aH (if res.all E.plain then env else iO env args) i.dst (ea res))
 | .cp x=>(dL env x).bind fun q=>K (aH q.1 i.dst (.v q.2.1 q.2.2))
 | .Jm f x=>(pf env x).bind fun s=>match look env s with
   | .own true e T .no xs=>if cb T&&!(e==gi) then cl.runK f [.bB,.own true e T .no xs] fun res=>
     (pe res).bind fun y=>(ba (.sl T) y).bind fun ys=>K (aH ((s,.own true e T .no ys)::env) i.dst (.cx [])) else none
   | _=>none
 | .jZ f p args=>(dZ env p).bind fun q=>match q.2 with
   | []=>(fp cl env args).bind fun as=>match as.all rE&&apart i.dst q.1 with
     | true=>(match look (iO env args) q.1 with
       | .loc T o x=>cl.runK f (.loc T o x::as) fun res=>(AN T res).bind fun y=>
         K (aH ((q.1,.loc T y.1 y.2.1)::jI o q.1 (iO env args)) i.dst (ea y.2.2))
       | _=>none)
     | false=>none
   | _=>none
 | .AU K0 V0=>K (aH env i.dst (.nm (.map K0 V0) .mp []))
 | .xe T p k parts=>(gM T (zero T) env parts).bind fun q=>match look q.1 k with
   | .nm T' .mp x'=>(match cm p || !apart i.dst k with
     | false=>(aX T p q.2 ⟨T',x'⟩).bind fun y=>K (aH ((k,.dead)::q.1) i.dst (.nm T (eC .no p .mp) y))
     | true=>none)
   | _=>none
 | .xd T k=>match look env k with
   | .nm T' o x=>(ba T ⟨T',x⟩).bind fun y=>match apart i.dst k&&o.whole with
     | true=>K (aH ((k,.dead)::env) i.dst (.loc T o y))
     | false=>none
   | _=>none
 | .AT K0 V0 x y=>match aq env x with
   | .ref s p=>match look env s with
     | .loc T0 o x0=>match b7 o p with
       | .mp=>(aE T0 p x0).bind fun z=>(ba (.map K0 V0) z).bind fun xs=>(cP env (aq env y)).bind fun k=>(ba K0 k).bind fun k=>(dK K0).bind fun f=>
         K (aH env i.dst (.cx [.v V0 (mn f (zero V0) xs k).1,.v .bool (mn f (zero V0) xs k).2]))
       | _=>none
     | _=>none
   | _=>none
 | .AV K0 V0 x y z=>match aq env x with
   | .ref s p=>match look env s with
     | .loc T0 o x0=>match b7 o p with
       | .mp=>(aE T0 p x0).bind fun u=>(ba (.map K0 V0) u).bind fun xs=>(cP env (aq env y)).bind fun k=>(ba K0 k).bind fun k=>(cP env (aq env z)).bind fun v=>(ba V0 v).bind fun v=>(dK K0).bind fun f=>
         (aX T0 p x0 ⟨.map K0 V0,ly f xs k v⟩).bind fun x1=>K ((s,.loc T0 o x1)::env)
       | _=>none
     | _=>none
   | _=>none
 | .bN f x g=>match x with
   | .t s=>(match look env s,aq env g with
     | .own true e T .no xs,.cG fg A C caps=>(match (env.all fun q=>!leads s q.2)&&apart i.dst s&&!(e==gi) with
       | true=>(jg cl env fg A C caps).bind fun ge=>cl.runK f [.bB,.own true e T .no xs,ge] fun res=>
         (pe res).bind fun y=>(ba (.sl T) y).bind fun ys=>K (aH ((s,.dead)::env) i.dst (.own true e T .no ys))
       | false=>none)
     | _,_=>none)
   | _=>none
 | .ib f x g=>(pf env x).bind fun s=>match look env s,aq (kill s env) g with
   | .own true e T .no xs,.cG fg A C caps=>(match apart i.dst s&&!(e==gi) with
     | true=>(jg cl (kill s env) fg A C caps).bind fun ge=>cl.runK f [.bB,ge,.own true e T .no xs] fun res=>
       (pe res).bind fun y=>(ba (.sl T) y).bind fun ys=>K (aH ((s,.own true e T .no ys)::kill s env) i.dst .dead)
     | false=>none)
   | _,_=>none
 | .wu t e=>K (aH env i.dst (.sb t e []))
 | .gR f k x=>match look env k with
   | .sb t e s=>(match apart i.dst k with
     | true=>(lM (aq env x)).bind fun u=>cl.runK f [.bB,.sb t e s,.v .str u] fun res=>(UN res).bind fun s'=>K (aH ((k,.sb t e s')::env) i.dst .dead)
     | false=>none)
   | _=>none
 | .iV f k=>match look env k with
   | .sb t e s=>(match apart i.dst k with
     | true=>cl.runK f [.bB,.sb t e s] fun res=>(Vl res).bind fun u=>K (aH ((k,.dead)::env) i.dst (.v .str u))
     | false=>none)
   | _=>none
 | .mH x args=>match aq env x with
   | .v (.fn A C) g=>(fp cl env args).bind fun as=>(tuple A as).bind fun a=>(g a).bind fun r=>if cb C then K (aH env i.dst (.v C r)) else none
   | .cG f _ _ caps=>(fp cl env args).bind fun as=>(gL env caps).bind fun cs=>cl.runK f (as++cs) fun res=>
     if res.all E.plain then K (aH env i.dst (ea res)) else none
   | _=>none
 | .extract k j=>match look env k with
   | .cx es=>match es[j]? with
     | some e=>(match e with
       | .v T x=>K (aH env i.dst (.v T x))
       | .own wr e' T o xs=>match !wr&&o.pure with
         | true=>K (aH env i.dst (.v (.sl T) xs))
         | false=>K (aH ((k,.cx (es.set j .dead))::env) i.dst (.own wr e' T o xs))
       | _=>none)
     | none=>none
   | _=>none
 | .pa f A C caps=>if (caps.all fun a=>(aq env a).cap) then K (aH env i.dst (.cG f A C (caps.map fun a=>eT a (aq env a)))) else none
 | .bad=>none
 | .pv x=>(lM (aq env x)).bind fun s=>K (aH env i.dst (.own true gi (.int .u8) .no (s.map fun b=>(b.toNat:Int))))
 | .toStr x=>(cP env (aq env x)).bind fun y=>(ba (.sl (.int .u8)) y).bind fun xs=>K (aH env i.dst (.v .str (xs.map fun n=>UInt8.ofNat n.toNat)))
 | .iR x=>match aq env x with
   | .ptr .. | .cJ .. | .at .. | .loc .. =>K (aH env i.dst (eT x (aq env x)))
   | _=>none
 | .A4 x=>(lM (aq env x)).bind fun s=>K (aH env i.dst (.it s 0))
 | .we k=>match look env k with
   | .it s pos=>ae (decide (pos < s.length)) (K (aH ((k,.it s (pos+(Utf8.decode ⟨⟨s⟩⟩ pos).2))::env) i.dst (.cx [.v .bool true,.v (.int .i64) (pos:Int),.v (.int .i32) ((Utf8.decode ⟨⟨s⟩⟩ pos).1:Int)]))) (K (aH env i.dst (.cx [.v .bool false])))
   | _=>none
def vW (g:Option (Nat×Bool)) (env:Env) (yes no:cB R):Option R:=
 match g with
 | none=>yes env
 | some (s,pol)=>match look env s with
   | .v .bool b=>ae b ((if pol then yes else no) ((s,.v .bool true)::env)) ((if pol then no else yes) ((s,.v .bool false)::env))
   | .bB=>no env
   | _=>none
def ops (cl:az):List AI→Env→cB R→Option R
 | [],env,K=>K env
 | i::r,env,K=>vW i.guard env (fun env=>step cl i env (fun env=>ops cl r env K)) (fun env=>ops cl r (aH env i.dst .bB) K)
def TW (d:Nat) (e:E):E:=if leads d e then .dead else e
def one (d:Option Nat) (e:E):List (Nat×E):=match d with | some d=> [(d,TW d e)] | none=> []
def E.mR:E→Bool
 | .own .. | .loc .. | .cx _ | .dead | .it _ _ | .sb _ _ _ | .nm _ _ _=>false
 | _=>true
def IS (x:Od):Rd E:=(df x).bind fun e=>if e.mR then .ok e else .no
def OU (x:Od) (e:E):Option E:=
 match e with
 | .cx _ | .dead | .it _ _ | .sb _ _ _ | .nm _ _ _=>none
 | .own .. | .loc .. =>match x with | .t _=>some (eT x e) | _=>none
 | e=>some e
def sP (x:Od):Rd E:=(df x).bind fun e=>match OU x e with | some f=>.ok f | none=>.no
def jH (x:Od):Rd (IntKind×Int):=(df x).bind fun e=>.of (jG e)
def BN (x:Od):Rd Bool:=(df x).bind fun e=>.of (l7 e)
def wA (x:Od):Rd (List UInt8):=(df x).bind fun e=>.of (lM e)
def lD:Option Od→Rd (Option Int)
 | none=>.ok none
 | some x=>(jH x).bind fun q=>.ok (some q.2)
def pw (x:Od):Rd TV:=(df x).bind fun e=>.of (wE e)
def JW (op:BinOp) (a b:E):Rd E:=
 match a,b with
 | .v (.int k) m,.v (.int k') n=>if k=k' then
   (match op with
    | .quo=>.ite (n=0) .no (.ok (.v (.int k) (k.wrap (m.tdiv n))))
    | .rem=>.ite (n=0) .no (.ok (.v (.int k) (m.tmod n)))
    | _=>match zi op m n with
      | some b=>.ok (.v .bool b)
      | none=>match arith op k m n with
        | some r=>.ok (.v (.int k) r)
        | none=>.no) else .no
 | .v .str s,.v .str t=>match op with
   | .eql=>.ok (.v .bool (s==t))
   | .neq=>.ok (.v .bool (s != t))
   | .add=>.ite (s.length+t.length≤140737488355328) (.ok (.v .str (s++t))) .no
   | .lss=>.ok (.v .bool (Op.bytesLess s t))
   | .leq=>.ok (.v .bool (Op.bytesLess s t || s==t))
   | .gtr=>.ok (.v .bool (!(Op.bytesLess s t || s==t)))
   | .geq=>.ok (.v .bool (!Op.bytesLess s t))
   | _=>.no
 | _,_=>.no
def Vn (op:UnOp) (x:E):Option E:=
 match op,x with
 | .not,.v .bool b=>some (.v .bool (!b))
 | .neg,.v (.int k) n=>some (.v (.int k) (k.wrap (0 - n)))
 | _,_=>none
def I7 (x:Od):Rd ((Nat×Path)×E):=(df x).bind fun e=>match e with
 | .ptr s p=>(Rd.get s).bind fun f=>.ok ((s,p),f)
 | .loc .. =>match x with | .t k=>.ok ((k,[]),e) | _=>.no
 | _=>.no
def AO (T:Ty) (s:Nat) (p:Path):E→Rd E
 | .loc T0 o x=>match b7 o p with
   | .own .. =>match aE T0 p x with
     | some ⟨.sl T',_⟩=>if T=.sl T' then .ok (.ref s p) else .no
     | _=>.no
   | .mp=>match aE T0 p x with
     | some ⟨.map K' V',_⟩=>if T=.map K' V' then .ok (.ref s p) else .no
     | _=>.no
   | b=>if b.whole&&b.pure then (Rd.of ((aE T0 p x).bind fun z=>ba T z)).bind fun y=>.ok (.v T y) else .no
 | _=>.no
def TZ (T:Ty) (j:Nat) (q:Path) (h:jr):Rd E:=
 .ite (j < h.xs.length)
  (if h.o.pure then (Rd.of ((aE h.T q (h.xs.getD j (zero h.T))).bind fun z=>ba T z)).bind fun y=>.ok (.v T y) else .no) .no
def Pt (S:Ty) (s:Nat) (q p:Path):E→Option E
 | .loc T0 _ _=>if cH T0 q=some S then some (.ptr s (q++p)) else none
 | _=>none
def xb (n:Nat) (T:Ty) (i:Int) (s:Nat) (p:Path):E→Rd E
 | .loc T0 _ _=>if cH T0 p=some (.arr n T) then .ite (0≤i∧i < (n:Int)) (.ok (.ptr s (p++[.ix i.toNat]))) .no else .no
 | _=>.no
def pR:(T:Ty)→den T→List (Path×Od)→Rd (den T)
 | _,x,[]=>.ok x
 | T,x,(p,a)::r=>(pw a).bind fun q=>(Rd.of (aX T p x q)).bind fun y=>pR T y r
def sA (T:Ty):List Od→Rd (List (den T))
 | []=>.ok []
 | a::r=>(pw a).bind fun q=>(Rd.of (ba T q)).bind fun x=>(sA T r).bind fun z=>.ok (x::z)
def JP (cl:az):E→Rd E
 | .loc T o x=>if o.whole then .ok (E.at T x) else .no
 | .cG f A C caps=>zh cl f A C caps
 | e=>w8 e
def l6 (cl:az):List Od→Rd (List E)
 | []=>.ok []
 | a::r=>((df a).bind (JP cl)).bind fun x=>(l6 cl r).bind fun y=>.ok (x::y)
def Vi:E→Bool | .loc _ o _=>o.stays | _=>false
def qW:List Od→Rd Unit
 | []=>.ok ()
 | a::r=>(df a).bind fun e=>match eU a e with
   | none=>qW r
   | some s=>(Rd.get s).bind fun f=>match Vi f with | true=>qW r | false=>.no
def A2 (args:List Od) (res:List E):Rd E:=if res.all E.plain then .ok (ea res) else (qW args).bind fun _=>.ok (ea res)
def sK:List Od→Rd (List E)
 | []=>.ok []
 | a::r=>(df a).bind fun e=>if e.cap then (sK r).bind fun y=>.ok (eT a e::y) else .no
def Pp (j:Nat):E→Option E
 | .cx es=>match es[j]? with
   | some (.v T x)=>some (.v T x)
   | some (.own false _ T o xs)=>if o.pure then some (.v (.sl T) xs) else none
   | _=>none
 | _=>none
def rX (cl:az) (d:Option Nat):py→Rd E
 | .mv x=>sP x
 | .iR x=>(df x).bind fun e=>match e with
   | .ptr s p=>.ok (.ptr s p)
   | .cJ s p i q=>.ok (.cJ s p i q)
   | .at T y=>.ok (.at T y)
   | .loc .. =>match x with | .t k=>.ok (.ptr k []) | _=>.no
   | _=>.no
 | .ab x=>if d.isSome then IS x else .no
 | .pick c a b=>(BN c).bind fun q=>.br q (sP a) (sP b)
 | .alloc T o=>.ok (.loc T o (zero T))
 | .box T x=>(pw x).bind fun q=>(Rd.of (ba T q)).bind fun y=>.ok (.loc T .no y)
 | .build T parts=>(pR T (zero T) parts).bind fun y=>.ok (.v T y)
 | .jx T o parts=>(pR T (zero T) parts).bind fun y=>.ok (.nw T (pM o parts) y)
 | .buildSlice e T parts=>(sA T parts).bind fun y=>.ok (.own true e T .no y)
 | .load T a=>(df a).bind fun e=>match e with
   | .at T' x=>(Rd.of (ba T ⟨T',x⟩)).bind fun y=>.ok (.v T y)
   | .cJ s p j q=>(lq s p).bind fun h=>TZ T j q h
   | .ptr s p=>(Rd.get s).bind fun f=>AO T s p f
   | .loc .. =>match a with | .t k=>AO T k [] e | _=>.no
   | _=>.no
 | .bin op x y=>(df x).bind fun a=>(df y).bind fun b=>JW op a b
 | .mi neg T x y=>(df x).bind fun a=>(df y).bind fun b=>(vY a).bind fun s=>(vY b).bind fun t=>(Rd.of (ba T s)).bind fun s=>(Rd.of (ba T t)).bind fun t=>(Rd.of (dK T)).bind fun f=>
   .ok (.v .bool (if neg then !f s t else f s t))
 | .un op x=>(df x).bind fun a=>.of (Vn op a)
 | .shift l x y=>(df x).bind fun a=>(df y).bind fun b=>match a,b with
   | .v (.int k) m,.v (.int _) n=>.ite (0≤n) (.ok (.v (.int k) (rS l k m n))) .no
   | _,_=>.no
 | .nu k x=>(jH x).bind fun q=>.ok (.v (.int k) (k.wrap q.2))
 | .fieldAddr S p a=>(df a).bind fun e=>match e with
   | .at T x=>(Rd.of (ba S ⟨T,x⟩)).bind fun x=>(Rd.of (aE S p x)).bind fun y=>.ok (.at y.1 y.2)
   | .ptr s q=>(Rd.get s).bind fun f=>.of (Pt S s q p f)
   | .cJ s q j r=>(lq s q).bind fun h=>if cH h.T r=some S then .ok (.cJ s q j (r++p)) else .no
   | .loc T0 _ _=>if T0=S then match a with | .t k=>.ok (.ptr k p) | _=>.no else .no
   | _=>.no
 | .indexAddr T x ix=>(jH ix).bind fun q=>(df x).bind fun e=>match e with
   | .v T' xs=>(Rd.of (ba (.sl T) ⟨T',xs⟩)).bind fun xs=>.ite (0≤q.2∧q.2 < (xs.length:Int)) (.ok (.at T (xs.getD q.2.toNat (zero T)))) .no
   | .own _ _ T' _ xs=>if T'=T then match x with | .t s=>.ite (0≤q.2∧q.2 < (xs.length:Int)) (.ok (.cJ s [] q.2.toNat [])) .no | _=>.no else .no
   | .ref s p=>(lq s p).bind fun h=>if h.T=T then .ite (0≤q.2∧q.2 < (h.xs.length:Int)) (.ok (.cJ s p q.2.toNat [])) .no else .no
   | _=>.no
 | .v8 n T x ix=>(jH ix).bind fun q=>(df x).bind fun e=>match e with
   | .at T' xs=>(Rd.of (ba (.arr n T) ⟨T',xs⟩)).bind fun xs=>.ite (0≤q.2∧q.2 < (n:Int)) (.ok (.at T (xs.getD q.2.toNat (zero T)))) .no
   | .ptr s p=>(Rd.get s).bind fun f=>xb n T q.2 s p f
   | .loc .. =>match x with | .t k=>xb n T q.2 k [] e | _=>.no
   | _=>.no
 | .field S p x=>(df x).bind fun e=>(vY e).bind fun y=>(Rd.of (ba S y)).bind fun y=>(Rd.of (aE S p y)).bind fun z=>.ok (.v z.1 z.2)
 | .dz x ix=>(jH ix).bind fun q=>(wA x).bind fun s=>
   .ite (0≤q.2∧q.2 < (s.length:Int)) (.ok (.v (.int .u8) ((s.getD q.2.toNat 0).toNat:Int))) .no
 | .v7 n T x ix=>(jH ix).bind fun q=>(df x).bind fun e=>match e with
   | .v T' xs=>(Rd.of (ba (.arr n T) ⟨T',xs⟩)).bind fun xs=>.ite (0≤q.2∧q.2 < (n:Int)) (.ok (.v T (xs.getD q.2.toNat (zero T)))) .no
   | _=>.no
 | .iX x lo hi=>(lD lo).bind fun lo=>(lD hi).bind fun hi=>(wA x).bind fun s=>
   .ite (0≤lo.getD 0∧lo.getD 0≤hi.getD (s.length:Int)∧hi.getD (s.length:Int)≤(s.length:Int))
    (.ok (.v .str ((s.drop (lo.getD 0).toNat).take ((hi.getD (s.length:Int)).toNat - (lo.getD 0).toNat)))) .no
 | .lK T x lo hi mx=>(lD lo).bind fun lo=>(lD hi).bind fun hi=>(lD mx).bind fun mx=>(pw x).bind fun y=>(Rd.of (ba (.sl T) y)).bind fun xs=>
   .ite (0≤lo.getD 0∧lo.getD 0≤hi.getD (xs.length:Int)∧hi.getD (xs.length:Int)≤mx.getD (xs.length:Int)∧mx.getD (xs.length:Int)≤(xs.length:Int))
    (.ok (.v (.sl T) ((xs.drop (lo.getD 0).toNat).take ((hi.getD (xs.length:Int)).toNat - (lo.getD 0).toNat)))) .no
 | .mkSlice e T lim l c=>(jH l).bind fun m=>(jH c).bind fun n=>if m.1=.i64∧n.1=.i64 then .ite (0≤m.2∧m.2≤n.2∧n.2≤(lim:Int)) (.ok (.own true e T .no (iv m.2.toNat (zero T)))) .no else .no
 | .bD x=>(wA x).bind fun s=>.ok (.v (.int .i64) (s.length:Int))
 | .aV x=>(df x).bind fun e=>(vY e).bind fun y=>match y with
   | ⟨.sl _,xs⟩=>.ok (.v (.int .i64) (xs.length:Int))
   | _=>.no
 | .wc m=>.ok (.v (.int .i64) (m:Int))
 | .mm mx x y=>(jH x).bind fun m=>(jH y).bind fun n=>if m.1=n.1 then .ok (.v (.int m.1) (if mx then (if n.2 > m.2 then n.2 else m.2) else (if n.2 < m.2 then n.2 else m.2))) else .no
 | .call f args=>(l6 cl args).bind fun es=>(Rd.call cl f es).bind fun res=>A2 args res
 | .mH x args=>(df x).bind fun e=>match e with
   | .v (.fn A C) g=>(l6 cl args).bind fun es=>(Rd.of (tuple A es)).bind fun a=>(Rd.of (g a)).bind fun r=>if cb C then .ok (.v C r) else .no
   | .cG f _ _ caps=>(l6 cl args).bind fun es=>(pO caps).bind fun cs=>(Rd.call cl f (es++cs)).bind fun res=>if res.all E.plain then .ok (ea res) else .no
   | _=>.no
 | .extract k j=>(Rd.get k).bind fun e=>.of (Pp j e)
 | .pa f A C caps=>(sK caps).bind fun cs=>.ok (.cG f A C cs)
 | _=>.no
def Bd (T:Ty) (z:den T) (s:Nat) (p:Path):E→Rd (List (Nat×E))
 | .loc T0 o x0=>if cb T || (b7 o p).pure then (Rd.of (aX T0 p x0 ⟨T,z⟩)).bind fun x1=>.ok [(s,.loc T0 o x1)] else .no
 | _=>.no
def Vk (T:Ty) (z:den T) (s:Nat) (j:Nat) (q:Path):E→Rd (List (Nat×E))
 | .own true e T0 o xs=>.ite (j < xs.length) ((Rd.of (aX T0 q (xs.getD j (zero T0)) ⟨T,z⟩)).bind fun u=>if o.pure then .ok [(s,.own true e T0 o (xs.set j u))] else .no) .no
 | _=>.no
def UZ (T:Ty) {T':Ty} (xs:List (den T')) (lo hi mx:Option Od):Rd E:=
 (lD lo).bind fun lo=>(lD hi).bind fun hi=>(lD mx).bind fun mx=>(Rd.of (ba (.sl T) ⟨.sl T',xs⟩)).bind fun xs=>
   .ite (0≤lo.getD 0∧lo.getD 0≤hi.getD (xs.length:Int)∧hi.getD (xs.length:Int)≤mx.getD (xs.length:Int)∧mx.getD (xs.length:Int)≤(xs.length:Int))
    (.ok (.v (.sl T) ((xs.drop (lo.getD 0).toNat).take ((hi.getD (xs.length:Int)).toNat - (lo.getD 0).toNat)))) .no
def BF (d:Option Nat) (k0:Nat) (x:Od):Rd (TV×List (Nat×E)):=
 (df x).bind fun e=>match e with
  | .v T y=>.ok (⟨T,y⟩,[])
  | .own _ ed T o xs=>match x with
    | .t k=>if (!(k==k0))&&apart d k&&o.pure then .ok (⟨.sl T,xs⟩,[(k,.own false ed T o.bj xs)]) else .no
    | _=>.no
  | _=>.no
def I8 (d:Option Nat) (ch:List (Nat×E)) (x:Od):Rd (TV×List (Nat×E)):=
 (df x).bind fun e=>match e with
  | .v T y=>.ok (⟨T,y⟩,ch)
  | .own _ ed T o xs=>match x with
    | .t k=>if (ch.all fun q=>!(q.1==k))&&apart d k&&o.pure then .ok (⟨.sl T,xs⟩,(k,.own false ed T o.bj xs)::ch) else .no
    | _=>.no
  | _=>.no
def sB (d:Option Nat):(T:Ty)→den T→List (Nat×E)→List (Path×Od)→Rd (den T×List (Nat×E))
 | _,x,ch,[]=>.ok (x,ch)
 | T,x,ch,(p,a)::r=>(I8 d ch a).bind fun q=>(Rd.of (aX T p x q.1)).bind fun y=>sB d T y q.2 r
def GS:py→Option Nat
 | .append _ _ _ (.t k) _=>some k
 | .bN _ (.t k) _=>some k
 | _=>none
def fI (cl:az) (d:Option Nat):py→Rd (List (Nat×E))
 | .store T a x=>(pw x).bind fun y=>(Rd.of (ba T y)).bind fun z=>(df a).bind fun e=>match e with
   | .cJ s [] j q=>(Rd.get s).bind fun f=>Vk T z s j q f
   | .ptr s p=>(Rd.get s).bind fun f=>Bd T z s p f
   | .loc .. =>match a with | .t k=>Bd T z k [] e | _=>.no
   | _=>.no
 | .lK T x lo hi mx=>(df x).bind fun e=>match e with
   | .ref s p=>match p with
     | []=>(Rd.get s).bind fun f=>match f with
       | .own _ ed T' o xs=>if o.pure then (UZ T xs (T':=T') lo hi mx).bind fun v=>.ok (one d v++[(s,.own false ed T' o.bj xs)]) else .no
       | _=>.no
     | _=>.no
   | _=>(rX cl d (.lK T x lo hi mx)).bind fun e=>.ok (one d e)
 | .build T parts=>(sB d T (zero T) [] parts).bind fun q=>.ok (one d (.v T q.1)++q.2)
 | .cp x=>(df x).bind fun e=>match e with
   | .v T y=>.ok (one d (.v T y))
   | .own _ ed T o xs=>match x with
     | .t k=>if o.pure then .ok (one d (.v (.sl T) xs)++[(k,.own false ed T o.bj xs)]) else .no
     | _=>.no
   | _=>.no
 | .append e T lim s x=>match s with
   | .t k0=>(Rd.get k0).bind fun f=>match f with
     | .own wr e' T' o xs=>(BF d k0 x).bind fun q=>(Rd.of (ba (.sl T) q.1)).bind fun ys=>(Rd.of (ba (.sl T) ⟨.sl T',xs⟩)).bind fun xs=>
       if apart d k0&&o.pure&&(e'==e) then .ite (xs.length+ys.length≤lim) (.ok (one d (.own wr e T .no (xs++ys))++(k0,.dead)::q.2)) .no else .no
     | _=>.no
   | _=>.no
 | .bN f x g=>match x with
   | .t s=>(Rd.get s).bind fun e0=>match e0 with
     | .own true e T .no xs=>(df g).bind fun c=>match c with
       | .cG fg A C caps=>if apart d s&&!(e==gi) then (zh cl fg A C caps).bind fun ge=>(Rd.call cl f [.bB,.own true e T .no xs,ge]).bind fun res=>
         (Rd.of (pe res)).bind fun y=>(Rd.of (ba (.sl T) y)).bind fun ys=>.ok (one d (.own true e T .no ys)++[(s,.dead)]) else .no
       | _=>.no
     | _=>.no
   | _=>.no
 | .jZ f p args=>(l6 cl args).bind fun es=>(qW args).bind fun _=>(I7 p).bind fun q=>match q.1.2 with
   | []=>(match q.2 with
     | .loc T o x=>if es.all rE&&apart d q.1.1&&o.pure then (Rd.call cl f (.loc T o x::es)).bind fun res=>(Rd.of (AN T res)).bind fun y=>.ok (one d (ea y.2.2)++[(q.1.1,.loc T y.1 y.2.1)]) else .no
     | _=>.no)
   | _=>.no
 | .sJ f args=>(l6 cl args).bind fun es=>(Rd.call cl f es).bind fun res=>(A2 args res).bind fun e=>.ok (nU d (one d e))
 | .mv x=>(df x).bind fun e=>match e with
   | .cx es=>match x,d with
     | .t k,some d=>if k==d then .no else .ok [(d,.cx es),(k,.dead)]
     | _,_=>.no
   | _=>(rX cl d (.mv x)).bind fun e=>.ok (one d e)
 | op=>(rX cl d op).bind fun e=>.ok (one d e)
structure DI where
 ai:AI
 hide:List Nat
 wr:List Nat
 pre:List Nat
 piv:Bool:=false
 safe:List Nat:=[]
def fV (l:List Nat) (L:Nat→E):Nat→E:=fun k=>match l.any (fun j=>j==k) with | true=>.dead | false=>L k
def free (env:Env) (d:Option Nat):Bool:=match d with | some d=>!(look env d).home | none=>true
def mo (i:DI) (env:Env):Bool:=i.safe.all fun s=>env.all fun q=>!leads s q.2
def okW (i:DI) (env:Env) (δ:List (Nat×E)):Bool:=free env i.ai.dst&&(δ.all fun q=>i.wr.any fun k=>k==q.1)&&mo i (δ++env)
def gO (cl:az):List DI→Env→cB R→Option R
 | [],env,K=>K env
 | i::r,env,K=>
   let yes:=fun env'=>(fI cl i.ai.dst i.ai.op).runK (fV i.hide (look env)) fun δ=>match okW i env δ with
    | true=>gO cl r (δ++env') K
    | false=>none
   let nope:=fun env'=>match okW i env (one i.ai.dst .bB) with
    | true=>gO cl r (one i.ai.dst .bB++env') K
    | false=>none
   match i.piv with
   | true=>match mo i env with
     | true=>step cl i.ai env fun env'=>match mo i env' with
       | true=>gO cl r env' K
       | false=>none
     | false=>none
   | false=>match i.ai.guard with
     | none=>yes env
     | some (s,pol)=>match fV i.hide (look env) s with
       | .v .bool b=>ae b ((if pol then yes else nope) ((s,.v .bool true)::env)) ((if pol then nope else yes) ((s,.v .bool false)::env))
       | .bB=>nope env
       | _=>none
inductive AC where
 | skip
 | aa (live:List Nat) (l:List AI)
 | draw (live:List Nat) (l:List DI)
 | seq (a b:AC)
 | cond (c:Od) (x y:AC)
 | block (id:Nat) (b:AC)
 | loop (live:List Nat) (b:AC)
 | out (live:List Nat) (b:AC)
 | exit (id:Nat)
 | ret
inductive Ex where
 | normal | exit (id:Nat) | ret
abbrev KE (R:Type):=Ex→Env→Option R
def iter (live:List Nat) (body:Env→KE R→Option R) (K:KE R):Nat→Env→Option R
 | 0,_=>none
 | m+1,env=>body env fun e env=>match e with
   | .normal=>iter live body K m (ah live env)
   | .exit id=>K (.exit id) env
   | .ret=>K .ret env
def lJ (y:Env→Option R) (K:KE R):KE R:=fun e env=>match e with
 | .normal=>y env
 | .exit id=>K (.exit id) env
 | .ret=>K .ret env
def ko (id:Nat) (K:KE R):KE R:=fun e env=>match e with
 | .normal=>K .normal env
 | .exit j=>match eI j id with | .isTrue _=>K .normal env | .isFalse _=>K (.exit j) env
 | .ret=>K .ret env
def exec (cl:az) (N:Nat):AC→Env→KE R→Option R
 | .skip,env,K=>K .normal env
 | .aa live l,env,K=>ops cl l (ah live env) (K .normal)
 | .draw live l,env,K=>gO cl l (ah live env) (K .normal)
 | .seq a b,env,K=>exec cl N a env (lJ (fun env=>exec cl N b env K) K)
 | .cond c x y,env,K=>(l7 (aq env c)).bind fun q=>ae q (exec cl N x env K) (exec cl N y env K)
 | .block id b,env,K=>exec cl N b env (ko id K)
 | .loop live b,env,K=>iter live (fun env K=>exec cl N b env K) K N (ah live env)
 | .out live b,env,K=>exec cl N b env (fun e env=>K e (ah live env))
 | .exit id,env,K=>K (.exit id) env
 | .ret,env,K=>K .ret env
inductive RV where
 | t (k:Nat)
 | cell (k:Nat) (T:Ty)
 | p (k:Nat)
structure FD where
 nargs:Nat
 body:AC
 res:List RV
 lend:Bool:=false
def A3 (env:Env):RV→Option (E×List Nat)
 | .t k=>match look env k with
   | .v T x=>some (.v T x,[])
   | .own wr e T o xs=>if o.pure then some (.own wr e T o xs,[k]) else none
   | .ref s p=>(a6 env s p).bind fun h=>if h.o.pure then some (.own h.wr h.e h.T h.o h.xs,[s]) else none
   | _=>none
 | .cell k T=>match look env k with
   | .loc T' o x=>if o.whole then (ba T ⟨T',x⟩).bind fun y=>some (.v T y,if o.pure then [] else [k]) else none
   | _=>none
 | .p k=>match look env k with
   | .v T x=>some (.v T x,[])
   | .own _ _ T o xs=>if o.pure then some (.v (.sl T) xs,[k]) else none
   | .ref s p=>(a6 env s p).bind fun h=>if h.o.pure then some (.v (.sl h.T) h.xs,[s]) else none
   | _=>none
def rO (env:Env):List RV→Option (List E×List Nat)
 | []=>some ([],[])
 | r::rs=>(A3 env r).bind fun x=>(rO env rs).bind fun y=>some (x.1::y.1,x.2++y.2)
def distinct:List Nat→Bool
 | []=>true
 | x::r=>!r.any (· ==x)&&distinct r
def E.back:E→Bool
 | .v T _=>dW T
 | .own _ _ T o _=>dW T&&o.pure
 | _=>false
def lH (env:Env) (res:List RV) (ks:List Nat):Option (List E):=(rO env res).bind fun q=>match distinct (ks++q.2)&&q.1.all E.back with | true=>some q.1 | false=>none
def af (fd:FD):KE (List E):=fun e env=>match e with
 | .exit _=>none
 | _=>match fd.lend with
   | false=>lH env fd.res []
   | true=>match look env 0 with
     | .loc T o x=>(match dW T with | true=>(lH env fd.res [0]).bind fun l=>some (.loc T o x::l) | false=>none)
     | _=>none
def params:Nat→List E→Env
 | _,[]=> []
 | k,e::r=>(k,e)::params (k+1) r
abbrev Table:=FuncId→Option FD
abbrev lU:=FuncId→Option (List E→Option (List E))
def fQ:List E→Bool
 | .bB::_=>true
 | _=>false
def jF:List E→Bool
 | .loc _ _ _::_=>true
 | _=>false
def bt (tb:Table) (pr:lU) (N:Nat):Nat→az
 | 0=>.of fun _ _=>none
 | D+1=>.of fun f args=>match pr f with
   | some p=>p args
   | none=>match fQ args with
     | true=>none
     | false=>match tb f with
       | some fd=>match eI args.length fd.nargs with
         | .isTrue _=>(match fd.lend==jF args with
           | true=>exec (bt tb pr N D) N fd.body (params 0 args) (af fd)
           | false=>none)
         | .isFalse _=>none
       | none=>none
def recC (n:FuncId) (fd:FD) (N:Nat) (base:az):Nat→az
 | 0=>base
 | m+1=>.of fun f es=>match eI f n with
   | .isTrue _=>match fQ es with
     | true=>none
     | false=>match eI es.length fd.nargs with
       | .isTrue _=>(match fd.lend==jF es with
         | true=>exec (recC n fd N base m) N fd.body (params 0 es) (af fd)
         | false=>none)
       | .isFalse _=>none
   | .isFalse _=>base.run f es
end Go.Fw
/- A step, apart from what follows it. -/
namespace Go.Fw
open Go Go.RowKit
theorem We {α β:Type} (x:Option α) (f g:α→Option β) (h:∀ y,f y=g y):x.bind f=x.bind g:=by cases x<;>simp [h]
set_option maxHeartbeats 1000000
theorem Jf (cl:az) (i:AI) (env:Env) {R:Type} (K:cB R):step cl i env K=(step cl i env (some:cB Env)).bind K:=by
 obtain ⟨d,op,g⟩:=i
 unfold step
 cases op<;>simp only [mA,al,az.eqn]
 case pick=>congr 1; funext q; cases q<;>rfl
 case we=>
  split
  ·rename_i s pos _; cases decide (pos < s.length)<;>rfl
  ·rfl
 all_goals first | rfl | skip
 all_goals repeat' first | rfl | (refine We _ _ _ fun _=>?_) | split | (rw [mA])
 all_goals first | rfl | (simp_all [mA]; done) | skip
end Go.Fw
/- An operation only asks on: the count of what was asked never falls. -/
namespace Go.Fw
open Go Go.RowKit
theorem aqM {p:Program} {w w':World} {at_:Addr} {u:TypeId} {k:Addr} {v:Value} {atomic:Bool} {l:List Addr} (h:w.viewStore p at_ u k v atomic=.ok (w',l)):w'.drawn=w.drawn:=by
 unfold World.viewStore at h
 simp only [bind,Except.bind,pure,Except.pure,throw,throwThe,MonadExceptOf.throw] at h
 repeat' (first | (cases h; rfl) | contradiction | split at h)
theorem Wy {p:Program} {w w':World} {a:Addr} {v:Value} {atomic:Bool} {l:List Addr} (h:w.farStore p a v atomic=.ok (w',l)):w'.drawn=w.drawn:=by
 unfold World.farStore at h
 split at h
 ·split at h
  ·rename_i r hr
   cases h
   exact aqM hr
  ·cases h
 ·cases h
theorem BI {α:Type}:∀ (x:Ask α) (w:World),w.drawn≤(w.ask x).2.drawn
 | .done _,_=>cC _
 | .ask what range k,w=>by
   simp only [World.ask]
   split
   ·exact BI (k 0) w
   ·exact dS (Nat.le_succ _) (BI (k _) {w with drawn:=w.drawn+1})
theorem ake (w:World) (c:Sys):w.drawn≤(w.sys c).2.drawn:=by
 unfold World.sys
 have h:=BI (Kernel.perform c w.os) w
 split
 ·exact cC _
 ·rename_i h1
  rw [h1] at h
  exact h
theorem gQ {α:Type} {P:Program}:∀ (s:Sem α) (w:World) {v:α} {w':World},s.run P w=.ok v w'→w.drawn≤w'.drawn
 | .pure a,w,_,_,h=>by simp only [Sem.run] at h; cases h; exact cC _
 | .load m a k,w,_,_,h=>by
   simp only [Sem.run] at h
   split at h
   ·exact gQ (k _) w h
   ·split at h
    ·exact gQ (k _) w h
    ·cases h
 | .store m a v k,w,v0,w',h=>by
   have key:∀ r,(r=match w.cell? a with
     | some _ => if w.frozen? a then Result.halt (.unsupported (.unsafePointer "a write to bytes that a string shares")) w else k.run P (w.setCell a v)
     | none=>match w.farStore P a v (m==Mode.atomic) with
       | .ok (w,_)=>k.run P w
       | .error h=>.halt h w)→r=.ok v0 w'→w.drawn≤w'.drawn:=by
    intro r hr h
    rw [hr] at h
    split at h
    ·split at h
     ·cases h
     ·exact dS (Nat.le_of_eq (by rfl)) (gQ k (w.setCell a v) h)
    ·split at h
     ·rename_i hf
      rw [←Wy hf]
      exact gQ k _ h
     ·cases h
   cases v<;>simp only [Sem.run] at h<;>first | contradiction | exact key _ rfl h
 | .new o k,w,_,_,h=>by simp only [Sem.run] at h; exact gQ (k _) {w with heap:=w.heap.push o} h
 | .shape r k,w,_,_,h=>by simp only [Sem.run] at h; exact gQ (k _) w h
 | .freeze a n k,w,_,_,h=>by
   simp only [Sem.run] at h
   refine dS ?_ (gQ k _ h)
   unfold World.freeze
   split<;>exact cC _
 | .frozen a k,w,_,_,h=>by simp only [Sem.run] at h; exact gQ (k _) w h
 | .getObj r k,w,_,_,h=>by
   simp only [Sem.run] at h
   split at h
   ·cases h
   ·exact gQ (k _) w h
   ·cases h
 | .setObj r o k,w,_,_,h=>by
   simp only [Sem.run] at h
   split at h
   ·cases h
   ·exact gQ k {w with heap:=w.heap.setIfInBounds r o} h
   ·cases h
 | .choose q k,w,_,_,h=>by
   simp only [Sem.run] at h
   split at h
   ·exact gQ (k 0) w h
   ·exact dS (Nat.le_succ _) (gQ (k _) {w with drawn:=w.drawn+1} h)
 | .sys c k,w,_,_,h=>by simp only [Sem.run] at h; exact dS (ake w c) (gQ (k _) _ h)
 | .program k,w,_,_,h=>by simp only [Sem.run] at h; exact gQ (k _) w h
 | .mark _ k,w,_,_,h=>by simp only [Sem.run] at h; exact gQ k w h
 | .halt h,w,_,_,h'=>by simp only [Sem.run] at h'; cases h'
end Go.Fw
/- Soundness: an operation whose order is open does what 'step' does. -/
namespace Go.Fw
open Go Go.RowKit
theorem Rd.run_bind {α β:Type} (a:Rd α) (f:α→Rd β) (L:Nat→E):(a.bind f).run L=(a.run L).bind fun x=>(f x).run L:=rfl
theorem Rd.j9 {α:Type} (x:α) (L:Nat→E):(Rd.ok x).run L=some x:=rfl
theorem Rd.aT {α:Type} (L:Nat→E):(Rd.no:Rd α).run L=none:=rfl
theorem Rd.dC {α:Type} (x:Option α) (L:Nat→E):(Rd.of x).run L=x:=rfl
theorem Rd.run_get (k:Nat) (L:Nat→E):(Rd.get k).run L=Rd.jL (L k):=rfl
theorem Rd.cR {α:Type} {p:Prop} [Decidable p] (a b:Rd α) (L:Nat→E):(if p then a else b).run L=if p then a.run L else b.run L:=by split<;>rfl
theorem Rd.run_ite {α:Type} {p:Prop} [Decidable p] (a b:Rd α) (L:Nat→E):(Rd.ite p a b).run L=if p then a.run L else b.run L:=rfl
theorem Rd.aiP {α:Type} (q:Bool) (a b:Rd α) (L:Nat→E):(Rd.br q a b).run L=ae q (a.run L) (b.run L):=rfl
theorem Rd.wm (cl:az) (f:FuncId) (es:List E) (L:Nat→E):(Rd.call cl f es).run L=cl f es:=rfl
theorem arC {e f:E}:Rd.jL e=some f↔e=f∧e≠.dead:=by
 cases e<;>simp [Rd.jL]
theorem cQ {β:Type} {e:E} {f:E→Option β} {y:β}:(Rd.jL e).bind f=some y→f e=some y:=by
 cases e<;>simp [Rd.jL]
section
variable {cl:az} {env:Env} {R:Type}
theorem lx (x:Od):(jH x).run (look env)=jG (aq env x):=by
 unfold jH; rw [Rd.run_bind,dx]; cases aq env x<;>rfl
theorem Wi (x:Od):(BN x).run (look env)=l7 (aq env x):=by
 unfold BN; rw [Rd.run_bind,dx]; cases aq env x<;>rfl
theorem Jh (x:Od):(wA x).run (look env)=lM (aq env x):=by
 unfold wA; rw [Rd.run_bind,dx]; cases aq env x<;>rfl
theorem wF (x:Od):(pw x).run (look env)=wE (aq env x):=by
 unfold pw; rw [Rd.run_bind,dx]; cases aq env x<;>rfl
theorem AH {e:E} {q:IntKind×Int} (h:jG e=some q):e=.v (.int q.1) q.2:=by
 unfold jG at h
 split at h
 ·cases h; rfl
 ·simp at h
theorem mY (x:Option Od):(lD x).run (look env)=lC env x:=by
 cases x with
 | none=>rfl
 | some x=>unfold lD lC; rw [Rd.run_bind,lx]; rfl
theorem acY {x:Od} {e:E} (h:(IS x).run (look env)=some e):aq env x=e∧e.mR=true:=by
 unfold IS at h
 rw [Rd.run_bind,dx] at h
 have h:=cQ h
 simp only [Rd.cR,Rd.j9,Rd.aT] at h
 split at h
 ·rename_i hl; cases h; exact ⟨rfl,hl⟩
 ·simp at h
theorem OV {x:Od} {e:E} (h:(sP x).run (look env)=some e):eT x (aq env x)=e∧∀ es,aq env x≠.cx es:=by
 unfold sP at h
 rw [Rd.run_bind,dx] at h
 have h:=cQ h
 cases he:aq env x<;>rw [he] at h<;>simp only [OU] at h<;>first | (exfalso; simp [Rd.aT] at h; done) | skip
 all_goals first
  | (simp only [Rd.j9,av] at h; subst h; exact ⟨rfl,by simp⟩)
  | (cases x<;>simp only [Rd.j9,Rd.aT,av] at h<;>first | (subst h; exact ⟨rfl,by simp⟩) | (exfalso; simp at h; done))
theorem Vv {e:E} {y:TV} (h:wE e=some y):e=.v y.1 y.2:=by
 cases e<;>simp [wE] at h
 subst h; rfl
theorem wi {x:Od} {y:TV} (h:wE (aq env x)=some y):dL env x=some (env,y):=by
 have:=Vv h
 simp only [dL,this,cP,al,eU]
theorem afX {x:Od} {q:(Nat×Path)×E} (h:(I7 x).run (look env)=some q):dZ env x=some q.1∧look env q.1.1=q.2:=by
 unfold I7 at h
 rw [Rd.run_bind,dx] at h
 have h:=cQ h
 split at h
 ·rename_i s p he
  rw [Rd.run_bind,Rd.run_get] at h
  have h:=cQ h
  simp only [Rd.j9,av] at h
  subst h
  exact ⟨by unfold dZ; rw [he],rfl⟩
 ·rename_i T o y he
  split at h
  ·rename_i k
   simp only [Rd.j9,av] at h
   subst h
   exact ⟨by unfold dZ; rw [he]; rfl,rfl⟩
  ·simp [Rd.aT] at h
 ·simp [Rd.aT] at h
theorem pN:∀ (l:List Od),(l6 cl l).run (look env)=fp cl env l
 | []=>rfl
 | a::r=>by
   unfold l6 fp
   rw [Rd.run_bind,Rd.run_bind,dx]
   have e2:∀ x:E,(((l6 cl r).bind fun y=>Rd.ok (x::y)).run (look env))=(fp cl env r).bind fun y=>some (x::y):=by
    intro x; rw [Rd.run_bind,pN r]; rfl
   simp only [e2]
   congr 1
   cases he:aq env a<;>simp only [Rd.jL,al,Option.bind_none,JP]
   case dead=>rfl
   case loc T o x=>rw [Rd.cR]; rfl
   case cG f A C caps=>exact OR cl env f A C caps
   all_goals exact JR env _
theorem AF:∀ (l:List Od),(qW l).run (look env)=some ()→iO env l=env
 | [],_=>rfl
 | a::r,h=>by
   unfold qW at h
   rw [Rd.run_bind,dx] at h
   have h:=cQ h
   unfold iO
   split at h
   ·rename_i hn
    rw [hn]
    exact AF r h
   ·rename_i s hn
    rw [Rd.run_bind,Rd.run_get] at h
    have h:=cQ h
    split at h
    ·rename_i hs
     have:freeze env s=env:=by
      unfold freeze
      cases hl:look env s<;>rw [hl] at hs<;>simp only [Vi] at hs<;>first | contradiction | skip
      simp only [hs]
     simp only [hn,this]
     exact AF r h
    ·simp [Rd.aT] at h
theorem UG {args:List Od} {res:List E} {e:E} (h:(A2 args res).run (look env)=some e):e=ea res∧(if res.all E.plain then env else iO env args)=env:=by
 unfold A2 at h
 first | rw [Rd.run_ite] at h | rw [Rd.cR] at h
 split at h
 ·rename_i hp; cases h; exact ⟨rfl,if_pos hp⟩
 ·rename_i hp
  rw [Rd.run_bind] at h
  obtain ⟨_,hy,h⟩:=aj.1 h
  cases h
  exact ⟨rfl,by rw [if_neg hp]; exact AF args hy⟩
theorem OK:∀ (l:List Od) (cs:List E),(sK l).run (look env)=some cs→(l.all fun a=>(aq env a).cap)=true∧cs=l.map fun a=>eT a (aq env a)
 | [],cs,h=>by simp only [sK,Rd.j9,av] at h; subst h; exact ⟨rfl,rfl⟩
 | a::r,cs,h=>by
   unfold sK at h
   rw [Rd.run_bind,dx] at h
   have h:=cQ h
   first | rw [Rd.run_ite] at h | rw [Rd.cR] at h
   split at h
   ·rename_i hc
    rw [Rd.run_bind] at h
    obtain ⟨y,hy,h⟩:=aj.1 h
    obtain ⟨h1,rfl⟩:=OK r y hy
    simp only [Rd.j9,av] at h
    subst h
    exact ⟨by simp only [List.all_cons,hc,h1,Bool.and_true],rfl⟩
   ·simp [Rd.aT] at h
theorem BS:∀ (T:Ty) (x:den T) (l:List (Path×Od)) (y:den T),(pR T x l).run (look env)=some y→gM T x env l=some (env,y)
 | T,x,[],y,h=>by simp only [pR,Rd.j9,av] at h; subst h; simp [gM]
 | T,x,(p,a)::r,y,h=>by
   unfold pR at h
   rw [Rd.run_bind,wF] at h
   obtain ⟨q,hq,h⟩:=aj.1 h
   rw [Rd.run_bind,Rd.dC] at h
   obtain ⟨z,hz,h⟩:=aj.1 h
   unfold gM
   rw [wi hq]
   simp only [al,hz]
   exact BS T z r y h
theorem JY (T:Ty):∀ (l:List Od) (y:List (den T)),(sA T l).run (look env)=some y→mG T env l=some (env,y)
 | [],y,h=>by simp only [sA,Rd.j9,av] at h; subst h; simp [mG]
 | a::r,y,h=>by
   unfold sA at h
   rw [Rd.run_bind,wF] at h
   obtain ⟨q,hq,h⟩:=aj.1 h
   rw [Rd.run_bind,Rd.dC] at h
   obtain ⟨z,hz,h⟩:=aj.1 h
   rw [Rd.run_bind] at h
   obtain ⟨u,hu,h⟩:=aj.1 h
   simp only [Rd.j9,av] at h
   subst h
   unfold mG
   rw [wi hq]
   simp only [al,hz]
   rw [JY T r u hu]
   rfl
theorem TX {x:Od} {e:E} (h:e.mR=true):eT x e=e:=by
 cases e<;>first | rfl | (exfalso; simp [E.mR] at h; done)
theorem TY {T:Ty} {a:Od} {d:Option Nat} {g:Option (Nat×Bool)} {s:Nat} {p:Path} {e:E} {K:cB R} (h0:dZ env a=some (s,p)) (h:(AO T s p (look env s)).run (look env)=some e):step cl ⟨d,.load T a,g⟩ env K=K (aH env d e):=by
 have h1:step cl ⟨d,.load T a,g⟩ env K=(match dZ env a with
   | some (s,p)=>match look env s with
     | .loc T0 o x=>match b7 o p with
       | .own .. =>match aE T0 p x with
         | some ⟨.sl T',_⟩=>if T=.sl T' then K (aH env d (.ref s p)) else none
         | _=>none
       | .mp=>match aE T0 p x with
         | some ⟨.map K' V',_⟩=>if T=.map K' V' then K (aH env d (.ref s p)) else none
         | _=>none
       | b=>if b.whole then (aE T0 p x).bind fun z=>(ba T z).bind fun y=>
          K (aH (if b.pure then env else freeze env s) d (.v T y)) else none
     | _=>none
   | none=>none):=by
  unfold dZ at h0
  cases he:aq env a<;>rw [he] at h0<;>first | (exfalso; simp at h0; done) | (simp only [step,he]; done) | (simp only [step,he]; rfl)
 rw [h1,h0]
 simp only
 cases hl:look env s<;>rw [hl] at h<;>simp only [AO,Rd.aT] at h<;>first | (exfalso; simp at h; done) | skip
 rename_i T0 o x
 simp only
 cases hb:b7 o p<;>rw [hb] at h<;>simp only at h ⊢
 case own wr e' o'=>
  split at h
  ·rename_i T' xs hg
   rw [Rd.cR] at h
   split at h
   ·rename_i h3; cases h; first | (rw [hg]; simp only; rw [if_pos h3]) | rw [if_pos h3]
   ·simp [Rd.aT] at h
  ·simp [Rd.aT] at h
 case mp=>
  split at h
  ·rename_i K' V' xs hg
   rw [Rd.cR] at h
   split at h
   ·rename_i h3; cases h; first | (rw [hg]; simp only; rw [if_pos h3]) | rw [if_pos h3]
   ·simp [Rd.aT] at h
  ·simp [Rd.aT] at h
 all_goals
  rw [Rd.cR] at h
  split at h
  ·rename_i hw
   simp only [au] at hw
   rw [Rd.run_bind,Rd.dC] at h
   obtain ⟨y,hy,h⟩:=aj.1 h
   obtain ⟨z,hz,hy⟩:=aj.1 hy
   cases h
   simp only [hw.1,hw.2,if_true,hz,hy,al]
  ·simp [Rd.aT] at h
section
variable {i:AI} {e:E} {K:cB R}
theorem arB {d:Option Nat} {x:Od} (h1:aq env x=e) (h2:e.mR=true):mU env d x=aH env d e:=by
 unfold mU
 rw [h1]
 have h3:=TX (x:=x) h2
 cases e<;>simp_all [E.mR]
theorem VZ {d:Nat} {x:Od} (h1:aq env x=e) (h2:e.mR=true):assign env d x=put env d e:=by
 unfold assign
 rw [h1]
 have h3:=TX (x:=x) h2
 cases e<;>simp_all [E.mR]
theorem aqK (h:(rX cl i.dst i.op).run (look env)=some e):step cl i env K=K (aH env i.dst e):=by
 obtain ⟨d,op,g⟩:=i
 cases op<;>simp only [rX] at h ⊢
 case mv x=>
  obtain ⟨h1,h2⟩:=OV h
  have:mU env d x=aH env d e:=by
   unfold mU
   split
   ·rename_i es he; exact absurd he (h2 es)
   ·rw [h1]
  simp only [step,this]
 case iR x=>
  rw [Rd.run_bind,dx] at h
  have h:=cQ h
  simp only [step]
  split at h
  ·rename_i he; cases h; rw [he]; rfl
  ·rename_i he; cases h; rw [he]; rfl
  ·rename_i he; cases h; rw [he]; rfl
  ·rename_i he
   split at h
   ·cases h; rw [he]; rfl
   ·simp [Rd.aT] at h
  ·simp [Rd.aT] at h
 case ab x=>
  first | rw [Rd.run_ite] at h | rw [Rd.cR] at h
  split at h
  ·obtain ⟨h1,h2⟩:=acY h
   cases d with
   | none=>simp at *
   | some d=>simp only [step,VZ h1 h2]; rfl
  ·simp [Rd.aT] at h
 case pick c a b=>
  rw [Rd.run_bind,Wi] at h
  obtain ⟨q,hq,h⟩:=aj.1 h
  simp only [step,hq,al]
  rw [Rd.aiP] at h
  cases q<;>(simp only [ae] at h ⊢; obtain ⟨h1,h2⟩:=OV h; rw [h1])
 case alloc T o=>cases h; rfl
 case box T x=>
  rw [Rd.run_bind,wF] at h
  obtain ⟨q,hq,h⟩:=aj.1 h
  rw [Rd.run_bind,Rd.dC] at h
  obtain ⟨y,hy,h⟩:=aj.1 h
  cases h
  simp only [step,wi hq,al,hy]
 case build T parts=>
  rw [Rd.run_bind] at h
  obtain ⟨y,hy,h⟩:=aj.1 h
  cases h
  simp only [step,BS _ _ _ _ hy,al]
 case jx T o parts=>
  rw [Rd.run_bind] at h
  obtain ⟨y,hy,h⟩:=aj.1 h
  cases h
  simp only [step,BS _ _ _ _ hy,al]
 case buildSlice ed T parts=>
  rw [Rd.run_bind] at h
  obtain ⟨y,hy,h⟩:=aj.1 h
  cases h
  simp only [step,JY _ _ _ hy,al]
 case load T a=>
  rw [Rd.run_bind,dx] at h
  have h:=cQ h
  split at h
  ·rename_i T' x he
   rw [Rd.run_bind,Rd.dC] at h
   obtain ⟨y,hy,h⟩:=aj.1 h
   cases h
   simp only [step,he,hy,al]
  ·rename_i s p j q he
   rw [Rd.run_bind,qV] at h
   obtain ⟨hh,hhe,h⟩:=aj.1 h
   simp only [step,he,hhe,al]
   simp only [TZ,Rd.run_ite] at h
   split at h
   ·rename_i h1
    rw [Rd.cR] at h
    split at h
    ·rename_i h2
     rw [Rd.run_bind,Rd.dC] at h
     obtain ⟨y,hy,h⟩:=aj.1 h
     obtain ⟨z,hz,hy⟩:=aj.1 hy
     cases h
     simp only [h1,h2,hz,hy,al,if_true]
    ·simp [Rd.aT] at h
   ·simp [Rd.aT] at h
  ·rename_i s p he
   rw [Rd.run_bind,Rd.run_get] at h
   exact TY (by simp only [dZ,he]) (cQ h)
  ·rename_i T0 o x he
   split at h
   ·rename_i k _
    have hl:look env k=.loc T0 o x:=he
    rw [he,←hl] at h
    exact TY (by simp only [dZ,he,Od.slot,pH]) h
   ·simp [Rd.aT] at h
  ·simp [Rd.aT] at h
 case bin op x y=>
  rw [Rd.run_bind,dx] at h
  have h:=cQ h
  rw [Rd.run_bind,dx] at h
  have h:=cQ h
  unfold JW at h
  split at h
  ·rename_i k m k' n hx hy
   rw [Rd.cR] at h
   split at h
   ·rename_i hk
    simp only [step,hx,hy,if_pos hk]
    cases op
    case quo=>
     simp only [Rd.run_ite] at h ⊢
     split at h
     ·simp [Rd.aT] at h
     ·rename_i h0; cases h; rw [if_neg h0]
    case rem=>
     simp only [Rd.run_ite] at h ⊢
     split at h
     ·simp [Rd.aT] at h
     ·rename_i h0; cases h; rw [if_neg h0]
    all_goals
     simp only at h ⊢
     split at h
     ·rename_i b hb; cases h; first | rfl | (rw [hb])
     ·rename_i hb
      split at h
      ·rename_i r hr
       cases h
       first | (rw [hb]; simp only [hr,al]; done) | (simp only [hr,al]; done)
      ·simp [Rd.aT] at h
   ·simp [Rd.aT] at h
  ·rename_i s t hx hy
   simp only [step,hx,hy]
   cases op<;>simp only at h ⊢<;>first | (simp [Rd.aT] at h; done) | (cases h; rfl) | skip
   rw [Rd.run_ite] at h
   split at h
   ·rename_i h0; cases h; rw [if_pos h0]
   ·simp [Rd.aT] at h
  ·simp [Rd.aT] at h
 case mi neg T x y=>
  rw [Rd.run_bind,dx] at h
  have h:=cQ h
  rw [Rd.run_bind,dx] at h
  have h:=cQ h
  rw [Rd.run_bind,AG] at h
  obtain ⟨s,hs,h⟩:=aj.1 h
  rw [Rd.run_bind,AG] at h
  obtain ⟨t,ht,h⟩:=aj.1 h
  rw [Rd.run_bind,Rd.dC] at h
  obtain ⟨s',hs',h⟩:=aj.1 h
  rw [Rd.run_bind,Rd.dC] at h
  obtain ⟨t',ht',h⟩:=aj.1 h
  rw [Rd.run_bind,Rd.dC] at h
  obtain ⟨f,hf,h⟩:=aj.1 h
  cases h
  simp only [step,hs,ht,hs',ht',hf,al]
 case shift l x y=>
  rw [Rd.run_bind,dx] at h
  have h:=cQ h
  rw [Rd.run_bind,dx] at h
  have h:=cQ h
  split at h
  ·rename_i k m k' n hx hy
   rw [Rd.run_ite] at h
   split at h
   ·rename_i hn; cases h; simp only [step,hx,hy,if_pos hn]
   ·simp [Rd.aT] at h
  ·simp [Rd.aT] at h
 case un op x=>
  rw [Rd.run_bind,dx] at h
  have h:=cQ h
  rw [Rd.dC] at h
  unfold Vn at h
  split at h
  ·rename_i hx _; cases h; simp only [step,hx]
  ·rename_i hx _; cases h; simp only [step,hx]
  ·simp at h
 case nu k x=>
  rw [Rd.run_bind,lx] at h
  obtain ⟨q,hq,h⟩:=aj.1 h
  cases h
  simp only [step,hq,al]
 case fieldAddr S p a=>
  rw [Rd.run_bind,dx] at h
  have h:=cQ h
  split at h
  ·rename_i T x he
   rw [Rd.run_bind,Rd.dC] at h
   obtain ⟨x',hx',h⟩:=aj.1 h
   rw [Rd.run_bind,Rd.dC] at h
   obtain ⟨y,hy,h⟩:=aj.1 h
   cases h
   simp only [step,he,hx',hy,al]
  ·rename_i s q he
   rw [Rd.run_bind,Rd.run_get] at h
   have h:=cQ h
   rw [Rd.dC] at h
   unfold Pt at h
   split at h
   ·rename_i T0 o x hl
    split at h
    ·rename_i h1; cases h; simp only [step,he,hl,if_pos h1]
    ·simp at h
   ·simp at h
  ·rename_i s q j r he
   rw [Rd.run_bind,qV] at h
   obtain ⟨hh,hhe,h⟩:=aj.1 h
   first | rw [Rd.run_ite] at h | rw [Rd.cR] at h
   split at h
   ·rename_i h1; cases h; simp only [step,he,hhe,al,if_pos h1]
   ·simp [Rd.aT] at h
  ·rename_i T0 o x he
   first | rw [Rd.run_ite] at h | rw [Rd.cR] at h
   split at h
   ·rename_i h1
    split at h
    ·cases h; simp only [step,he,if_pos h1,Od.slot,al]
    ·simp [Rd.aT] at h
   ·simp [Rd.aT] at h
  ·simp [Rd.aT] at h
 case indexAddr T x ix=>
  rw [Rd.run_bind,lx] at h
  obtain ⟨q,hq,h⟩:=aj.1 h
  rw [Rd.run_bind,dx] at h
  have h:=cQ h
  split at h
  ·rename_i T' xs he
   rw [Rd.run_bind,Rd.dC] at h
   obtain ⟨y,hy,h⟩:=aj.1 h
   first | rw [Rd.run_ite] at h | rw [Rd.cR] at h
   split at h
   ·rename_i h1; cases h; simp only [step,hq,he,hy,al,if_pos h1]
   ·simp [Rd.aT] at h
  ·rename_i wr ed T' o xs he
   first | rw [Rd.run_ite] at h | rw [Rd.cR] at h
   split at h
   ·rename_i h0
    split at h
    ·first | rw [Rd.run_ite] at h | rw [Rd.cR] at h
     split at h
     ·rename_i h1; cases h; simp only [step,hq,he,al,if_pos h1,if_pos h0,Od.slot]
     ·simp [Rd.aT] at h
    ·simp [Rd.aT] at h
   ·simp [Rd.aT] at h
  ·rename_i s p he
   rw [Rd.run_bind,qV] at h
   obtain ⟨hh,hhe,h⟩:=aj.1 h
   first | rw [Rd.run_ite] at h | rw [Rd.cR] at h
   split at h
   ·rename_i h0
    first | rw [Rd.run_ite] at h | rw [Rd.cR] at h
    split at h
    ·rename_i h1; cases h; simp only [step,hq,he,hhe,al,if_pos h1,if_pos h0]
    ·simp [Rd.aT] at h
   ·simp [Rd.aT] at h
  ·simp [Rd.aT] at h
 case v8 n T x ix=>
  rw [Rd.run_bind,lx] at h
  obtain ⟨q,hq,h⟩:=aj.1 h
  rw [Rd.run_bind,dx] at h
  have h:=cQ h
  split at h
  ·rename_i T' xs he
   rw [Rd.run_bind,Rd.dC] at h
   obtain ⟨y,hy,h⟩:=aj.1 h
   first | rw [Rd.run_ite] at h | rw [Rd.cR] at h
   split at h
   ·rename_i h1; cases h; simp only [step,hq,he,hy,al,if_pos h1]
   ·simp [Rd.aT] at h
  ·rename_i s p he
   rw [Rd.run_bind,Rd.run_get] at h
   have h:=cQ h
   unfold xb at h
   split at h
   ·rename_i T0 o x hl
    rw [Rd.cR] at h
    split at h
    ·rename_i h0
     rw [Rd.run_ite] at h
     split at h
     ·rename_i h1; cases h; simp only [step,hq,he,al,dZ,hl,if_pos h0,if_pos h1]
     ·simp [Rd.aT] at h
    ·simp [Rd.aT] at h
   ·simp [Rd.aT] at h
  ·rename_i T0 o x he
   split at h
   ·rename_i k _ _
    have hl:look env k=.loc T0 o x:=he
    rw [he] at h
    simp only [xb] at h
    rw [Rd.cR] at h
    split at h
    ·rename_i h0
     rw [Rd.run_ite] at h
     split at h
     ·rename_i h1; cases h; simp only [step,hq,he,al,dZ,Od.slot,pH,hl,if_pos h0,if_pos h1]
     ·simp [Rd.aT] at h
    ·simp [Rd.aT] at h
   ·simp [Rd.aT] at h
  ·simp [Rd.aT] at h
 case field S p x=>
  rw [Rd.run_bind,dx] at h
  have h:=cQ h
  rw [Rd.run_bind,AG] at h
  obtain ⟨s,hs,h⟩:=aj.1 h
  rw [Rd.run_bind,Rd.dC] at h
  obtain ⟨y,hy,h⟩:=aj.1 h
  rw [Rd.run_bind,Rd.dC] at h
  obtain ⟨z,hz,h⟩:=aj.1 h
  cases h
  simp only [step,hs,hy,hz,al]
 case dz x ix=>
  rw [Rd.run_bind,lx] at h
  obtain ⟨q,hq,h⟩:=aj.1 h
  rw [Rd.run_bind,Jh] at h
  obtain ⟨s,hs,h⟩:=aj.1 h
  first | rw [Rd.run_ite] at h | rw [Rd.cR] at h
  split at h
  ·rename_i h1; cases h; simp only [step,hq,hs,al,if_pos h1]
  ·simp [Rd.aT] at h
 case v7 n T x ix=>
  rw [Rd.run_bind,lx] at h
  obtain ⟨q,hq,h⟩:=aj.1 h
  rw [Rd.run_bind,dx] at h
  have h:=cQ h
  split at h
  ·rename_i T' xs he
   rw [Rd.run_bind,Rd.dC] at h
   obtain ⟨y,hy,h⟩:=aj.1 h
   first | rw [Rd.run_ite] at h | rw [Rd.cR] at h
   split at h
   ·rename_i h1; cases h; simp only [step,hq,he,hy,al,if_pos h1]
   ·simp [Rd.aT] at h
  ·simp [Rd.aT] at h
 case iX x lo hi=>
  rw [Rd.run_bind,mY] at h
  obtain ⟨l,hl,h⟩:=aj.1 h
  rw [Rd.run_bind,mY] at h
  obtain ⟨u,hu,h⟩:=aj.1 h
  rw [Rd.run_bind,Jh] at h
  obtain ⟨s,hs,h⟩:=aj.1 h
  first | rw [Rd.run_ite] at h | rw [Rd.cR] at h
  split at h
  ·rename_i h1; cases h; simp only [step,hl,hu,hs,al,if_pos h1]
  ·simp [Rd.aT] at h
 case lK T x lo hi mx=>
  rw [Rd.run_bind,mY] at h
  obtain ⟨l,hl,h⟩:=aj.1 h
  rw [Rd.run_bind,mY] at h
  obtain ⟨u,hu,h⟩:=aj.1 h
  rw [Rd.run_bind,mY] at h
  obtain ⟨m,hm,h⟩:=aj.1 h
  rw [Rd.run_bind,wF] at h
  obtain ⟨y,hy,h⟩:=aj.1 h
  rw [Rd.run_bind,Rd.dC] at h
  obtain ⟨xs,hxs,h⟩:=aj.1 h
  first | rw [Rd.run_ite] at h | rw [Rd.cR] at h
  split at h
  ·rename_i h1; cases h; simp only [step,hl,hu,hm,wi hy,hxs,al,if_pos h1]
  ·simp [Rd.aT] at h
 case mkSlice ed T lim l c=>
  rw [Rd.run_bind,lx] at h
  obtain ⟨m,hm,h⟩:=aj.1 h
  rw [Rd.run_bind,lx] at h
  obtain ⟨n,hn,h⟩:=aj.1 h
  first | rw [Rd.run_ite] at h | rw [Rd.cR] at h
  split at h
  ·rename_i h1
   first | rw [Rd.run_ite] at h | rw [Rd.cR] at h
   split at h
   ·rename_i h2; cases h
    obtain ⟨m1,m2⟩:=m
    obtain ⟨n1,n2⟩:=n
    simp only at h1 h2
    obtain ⟨rfl,rfl⟩:=h1
    simp only [step,AH hm,AH hn,if_pos h2]
   ·simp [Rd.aT] at h
  ·simp [Rd.aT] at h
 case bD x=>
  rw [Rd.run_bind,Jh] at h
  obtain ⟨s,hs,h⟩:=aj.1 h
  cases h
  simp only [step,hs,al]
 case aV x=>
  rw [Rd.run_bind,dx] at h
  have h:=cQ h
  rw [Rd.run_bind,AG] at h
  obtain ⟨s,hs,h⟩:=aj.1 h
  simp only [step,hs,al]
  split at h
  ·cases h; rfl
  ·simp [Rd.aT] at h
 case wc m=>cases h; rfl
 case mm mx x y=>
  rw [Rd.run_bind,lx] at h
  obtain ⟨m,hm,h⟩:=aj.1 h
  rw [Rd.run_bind,lx] at h
  obtain ⟨n,hn,h⟩:=aj.1 h
  first | rw [Rd.run_ite] at h | rw [Rd.cR] at h
  split at h
  ·rename_i h1
   cases h
   simp only [step,AH hm,AH hn,if_pos h1]
  ·simp [Rd.aT] at h
 case call f args=>
  rw [Rd.run_bind,pN] at h
  obtain ⟨es,hes,h⟩:=aj.1 h
  rw [Rd.run_bind,Rd.wm] at h
  obtain ⟨res,hres,h⟩:=aj.1 h
  obtain ⟨rfl,h2⟩:=UG h
  simp only [step,az.eqn,hes,hres,al,h2]
 case mH x args=>
  rw [Rd.run_bind,dx] at h
  have h:=cQ h
  split at h
  ·rename_i A C g' he
   rw [Rd.run_bind,pN] at h
   obtain ⟨es,hes,h⟩:=aj.1 h
   rw [Rd.run_bind,Rd.dC] at h
   obtain ⟨a,ha,h⟩:=aj.1 h
   rw [Rd.run_bind,Rd.dC] at h
   obtain ⟨r,hr,h⟩:=aj.1 h
   first | rw [Rd.run_ite] at h | rw [Rd.cR] at h
   split at h
   ·rename_i h1; cases h; simp only [step,he,hes,ha,hr,al,if_pos h1]
   ·simp [Rd.aT] at h
  ·rename_i f A C caps he
   rw [Rd.run_bind,pN] at h
   obtain ⟨es,hes,h⟩:=aj.1 h
   rw [Rd.run_bind,BH] at h
   obtain ⟨cs,hcs,h⟩:=aj.1 h
   rw [Rd.run_bind,Rd.wm] at h
   obtain ⟨res,hres,h⟩:=aj.1 h
   first | rw [Rd.run_ite] at h | rw [Rd.cR] at h
   split at h
   ·rename_i h1; cases h; simp only [step,az.eqn,he,hes,hcs,hres,al,if_pos h1]
   ·simp [Rd.aT] at h
  ·simp [Rd.aT] at h
 case extract k j=>
  rw [Rd.run_bind,Rd.run_get] at h
  have h:=cQ h
  rw [Rd.dC] at h
  unfold Pp at h
  split at h
  ·rename_i es hk
   split at h
   ·rename_i T x hj; cases h; simp only [step,hk,hj]
   ·rename_i ed T o xs hj
    split at h
    ·rename_i ho; cases h; simp only [step,hk,hj,ho]; rfl
    ·simp at h
   ·simp at h
  ·simp at h
 case pa f A C caps=>
  rw [Rd.run_bind] at h
  obtain ⟨cs,hcs,h⟩:=aj.1 h
  cases h
  obtain ⟨h1,rfl⟩:=OK _ _ hcs
  simp only [step,if_pos h1]
 all_goals simp [Rd.aT] at h
end
end
end Go.Fw
/- Soundness, part 1: laws on what memory shows of a value. -/
namespace Go.Fw
open Go Go.RowKit
def blocks (ob:OB):List Nat:=ob.map (·.1)
@[simp] theorem JX:blocks []=[]:=rfl
@[simp] theorem jf (x:Nat×Nat) (l:OB):blocks (x::l)=x.1::blocks l:=rfl
@[simp] theorem ez (a b:OB):blocks (a++b)=blocks a++blocks b:=by simp [blocks]
theorem aG.append {α:Type} {R:α→List Value→OB→Prop}:∀ {xs ys:List α} {v1 v2:List Value} {b1 b2:OB},aG R xs v1 b1→aG R ys v2 b2→aG R (xs++ys) (v1++v2) (b1++b2)
 | [],_,_,_,_,_,h,k=>by obtain ⟨rfl,rfl⟩:=h; exact k
 | x::xs,ys,_,v2,_,b2,h,k=>by
   obtain ⟨u1,u2,c1,c2,rfl,rfl,hr,ht⟩:=h
   exact ⟨u1,u2++v2,c1,c2++b2,by simp,by simp,hr,aG.append ht k⟩
theorem aG.imp {α:Type} {R S:α→List Value→OB→Prop}:∀ {xs:List α} {vs:List Value} {ob:OB},(∀ x v b,(∀ q∈b,q∈ob)→R x v b→S x v b)→aG R xs vs ob→aG S xs vs ob
 | [],_,_,_,h=>h
 | x::xs,_,_,f,h=>by
   obtain ⟨u1,u2,c1,c2,rfl,rfl,hr,ht⟩:=h
   exact ⟨u1,u2,c1,c2,rfl,rfl,f _ _ _ (fun q hq=>fK _ hq) hr,aG.imp (fun x v b hb=>f x v b fun q hq=>gX _ (hb q hq)) ht⟩
theorem aG.length {α:Type} {R:α→List Value→OB→Prop} {n:Nat} (hl:∀ x v b,R x v b→v.length=n):∀ {xs:List α} {vs:List Value} {ob:OB},aG R xs vs ob→vs.length=xs.length * n
 | [],_,_,h=>by obtain ⟨rfl,rfl⟩:=h; simp
 | x::xs,_,_,h=>by
   obtain ⟨u1,u2,c1,c2,rfl,rfl,hr,ht⟩:=h
   rw [cF,hl _ _ _ hr,aG.length hl ht,List.length_cons,Nat.succ_mul]; omega
theorem aG.split {α:Type} {R:α→List Value→OB→Prop} {n:Nat} (hl:∀ x v b,R x v b→v.length=n):∀ {xs:List α} {vs:List Value} {ob:OB} (i:Nat) (d:α),aG R xs vs ob→i < xs.length→
  ∃ v1 v2 v3 b1 b2 b3,vs=v1++v2++v3∧ob=b1++b2++b3∧v1.length=i * n∧R (xs.getD i d) v2 b2∧
    ∀ y u c,R y u c→aG R (xs.set i y) (v1++u++v3) (b1++c++b3)
 | [],_,_,i,_,_,hi=>by simp at hi
 | x::xs,_,_,0,d,h,_=>by
   obtain ⟨u1,u2,c1,c2,rfl,rfl,hr,ht⟩:=h
   exact ⟨[],u1,u2,[],c1,c2,rfl,rfl,by simp,hr,fun y u c hy=>⟨u,u2,c,c2,by simp,by simp,hy,ht⟩⟩
 | x::xs,_,_,i+1,d,h,hi=>by
   obtain ⟨u1,u2,c1,c2,rfl,rfl,hr,ht⟩:=h
   obtain ⟨v1,v2,v3,b1,b2,b3,rfl,rfl,h1,h2,h3⟩:=aG.split hl i d ht (by simpa using hi)
   refine ⟨u1++v1,v2,v3,c1++b1,b2,b3,by simp,by simp,?_,by simpa using h2,?_⟩
   ·rw [cF,h1,hl _ _ _ hr,Nat.succ_mul]; omega
   ·intro y u c hy
    exact ⟨u1,v1++u++v3,c1,b1++c++b3,by simp,by simp,hr,h3 y u c hy⟩
theorem aG.nil {α:Type} {R:α→List Value→OB→Prop}:aG R ([]:List α) [] []:=⟨rfl,rfl⟩
theorem aG.one {α:Type} {R:α→List Value→OB→Prop} {x:α} {v:List Value} {b:OB} (h:R x v b):aG R [x] v b:=⟨v,[],b,[],by simp,by simp,h,rfl,rfl⟩
theorem bO.refl (B:Nat) (w:World):bO B w w:=⟨cC _,fun _ _=>rfl⟩
theorem bO.trans {B:Nat} {a b c:World} (h:bO B a b) (k:bO B b c):bO B a c:=⟨dS h.1 k.1,fun i hi=>(k.2 i hi).trans (h.2 i hi)⟩
theorem Flat.len (P:Program):∀ (T:Ty) {w:World} {G:Nat→Nat→Prop} {B:Nat} {o:aw} {x:den T} {vs:List Value} {ob:OB},Flat P T w G B o x vs ob→vs.length=ax T
 | .int k,_,_,_,_,_,_,_,h=>by unfold Flat at h; rw [h.1]; rfl
 | .bool,_,_,_,_,_,_,_,h=>by unfold Flat at h; rw [h.1]; rfl
 | .str,_,_,_,_,_,_,_,h=>by unfold Flat at h; rw [h.1]; rfl
 | .unit,_,_,_,_,_,_,_,h=>by unfold Flat at h; rw [h.1]; rfl
 | .pair A C,_,_,_,_,_,_,_,h=>by
   unfold Flat at h
   obtain ⟨v1,v2,b1,b2,rfl,rfl,h1,h2⟩:=h
   rw [cF,Flat.len P A h1,Flat.len P C h2]; rfl
 | .arr n T,_,_,_,_,_,_,_,h=>by
   unfold Flat at h
   rw [aG.length (fun x v b hx=>Flat.len P T hx) h.2,h.1]; rfl
 | .sl T,_,_,_,o,_,_,_,h=>by
   cases o<;>unfold Flat at h
   ·obtain ⟨_,A,c,rfl,_⟩:=h; rfl
   ·exact h.1
   ·obtain ⟨v,cells,ob',rfl,_⟩:=h; rfl
   ·obtain ⟨_,A,c,rfl,_⟩:=h; rfl
   ·obtain ⟨_,A,c,rfl,_⟩:=h; rfl
 | .map K V,_,_,_,o,_,_,_,h=>by
   cases o<;>unfold Flat at h
   case mp=>obtain ⟨_,_,b,ents,clk,rfl,_⟩:=h; rfl
   all_goals (obtain ⟨_,r,rfl⟩:=h; rfl)
 | .fn A C,_,_,_,_,_,_,_,h=>by
   unfold Flat at h
   obtain ⟨_,_,f,caps,rfl,_⟩:=h; rfl
theorem dX.imp {α:Type} {R S:α→MapEntry→Prop} (f:∀ x m,R x m→S x m):∀ {xs:List α} {l:List MapEntry},dX R xs l→dX S xs l
 | [],_,h=>h
 | x::xs,_,h=>by
   obtain ⟨m,r,rfl,h1,h2⟩:=h
   exact ⟨m,r,rfl,f x m h1,dX.imp f h2⟩
theorem rP {w:World} {B:Nat} {e:TypeId} {size:Nat} {v:Value} {n:Nat} {cells:List Value} (h:w.ownsRow B e size v n cells):fH w B e size v n cells:=by
 refine ⟨h.1,?_⟩
 rcases h.2 with h | ⟨g,cap,cur,h1,h2,h3,h4,h5,h6,h7⟩
 ·exact .inl h
 ·exact .inr ⟨g,cap,cur,e,(0,0),h1,h2,h3,h4,h5,h6,h7,fun _=>⟨rfl,rfl⟩,.inl rfl⟩
theorem fH.AY {w:World} {B:Nat} {e:TypeId} {size:Nat} {v:Value} {n:Nat} {cells:List Value} (h:fH w B e size v n cells) (he:e≠gi):w.ownsRow B e size v n cells:=by
 refine ⟨h.1,?_⟩
 rcases h.2 with h | ⟨g,cap,cur,e',fz,h1,h2,h3,h4,h5,h6,h7,h8,_⟩
 ·exact .inl h
 ·obtain ⟨rfl,rfl⟩:=h8 he
  exact .inr ⟨g,cap,cur,h1,h2,h3,h4,h5,h6,h7⟩
theorem fH.cells {w:World} {B:Nat} {e:TypeId} {size:Nat} {v:Value} {n:Nat} {xs:List Value} (h:fH w B e size v n xs) {g:Nat} (hg:v.ownBlock=some g):∀ j u,xs[j]?=some u→w.cell? ((⟨g,0,none⟩:Addr).add j)=some u:=by
 intro j u hu
 rcases h.2 with ⟨rfl,_⟩ | ⟨g',cap,cur,e',fz,rfl,_,hgg,_,_,_,htake,_,_⟩
 ·simp [Value.ownBlock] at hg
 ·simp [Value.ownBlock] at hg
  subst hg
  have hadd:(⟨g',0,none⟩:Addr).add j=⟨g',j,none⟩:=by unfold Addr.add; split<;>simp_all
  rw [hadd,cell_of_row w g' j cur e' fz hgg]
  rw [←htake,List.getElem?_take] at hu
  split at hu
  ·simpa using hu
  ·cases hu
theorem aiL {w w':World} {B:Nat} {e:TypeId} {size:Nat} {v:Value} {n:Nat} {cells:List Value} (h:fH w B e size v n cells) (hb:∀ g,v.ownBlock=some g→w'.heap[g]?=w.heap[g]?):fH w' B e size v n cells:=by
 refine ⟨h.1,?_⟩
 rcases h.2 with h | ⟨g,cap,cur,e',fz,rfl,h1,h2,h3⟩
 ·exact .inl h
 ·exact .inr ⟨g,cap,cur,e',fz,rfl,h1,by rw [hb g rfl]; exact h2,h3⟩
theorem ji {v:Value} {lim g:Nat} (h:v.ownBlock=some g):(g,lim)∈bH v lim:=by simp [bH,h]
theorem Flat.mono (P:Program):∀ (T:Ty) {w w':World} {G G':Nat→Nat→Prop} {B:Nat} {o:aw} {x:den T} {vs:List Value} {ob:OB},
  (∀ b i,b < w.heap.size→G b i→G' b i∧w'.cell? ⟨b,i,none⟩=w.cell? ⟨b,i,none⟩)→bO B w w'→(∀ g∈blocks ob,w'.heap[g]?=w.heap[g]?)→
  Flat P T w G B o x vs ob→Flat P T w' G' B o x vs ob
 | .int k,_,_,_,_,_,_,_,_,_,_,_,_,h=>by unfold Flat at h ⊢; exact h
 | .bool,_,_,_,_,_,_,_,_,_,_,_,_,h=>by unfold Flat at h ⊢; exact h
 | .str,_,_,_,_,_,_,_,_,_,_,_,_,h=>by unfold Flat at h ⊢; exact h
 | .unit,_,_,_,_,_,_,_,_,_,_,_,_,h=>by unfold Flat at h ⊢; exact h
 | .pair A C,_,_,_,_,_,_,_,_,_,hG,hL,hO,h=>by
   unfold Flat at h ⊢
   obtain ⟨v1,v2,b1,b2,rfl,rfl,h1,h2⟩:=h
   exact ⟨v1,v2,b1,b2,rfl,rfl,Flat.mono P A hG hL (fun g hg=>hO g (by simp [hg])) h1,Flat.mono P C hG hL (fun g hg=>hO g (by simp [hg])) h2⟩
 | .arr n T,_,_,_,_,_,_,_,_,ob,hG,hL,hO,h=>by
   unfold Flat at h ⊢
   exact ⟨h.1,aG.imp (fun x v b hb hx=>Flat.mono P T hG hL (fun g hg=>hO g (by
    obtain ⟨q,hq,rfl⟩:=dA.1 hg
    exact dA.2 ⟨q,hb q hq,rfl⟩)) hx) h.2⟩
 | .sl T,w,w',G,G',B,o,xs,vs,ob,hG,hL,hO,h=>by
   have cP:∀ {ob:OB},(ob=[]∧∃ A c,vs=[.slice A xs.length c]∧xs.length≤c∧c≤maxLen∧
    (xs=[]∨∃ b off cells,A=some ⟨b,off,none⟩∧aG (Flat P T w G B .no) xs cells []∧∀ j v,cells[j]?=some v→w.cell? ⟨b,off+j,none⟩=some v∧G b (off+j)))→
    (ob=[]∧∃ A c,vs=[.slice A xs.length c]∧xs.length≤c∧c≤maxLen∧
    (xs=[]∨∃ b off cells,A=some ⟨b,off,none⟩∧aG (Flat P T w' G' B .no) xs cells []∧∀ j v,cells[j]?=some v→w'.cell? ⟨b,off+j,none⟩=some v∧G' b (off+j))):=by
    rintro ob ⟨h0,A,c,h1,h2,h3,h4⟩
    refine ⟨h0,A,c,h1,h2,h3,?_⟩
    rcases h4 with h4 | ⟨b,off,cells,h5,h6,h7⟩
    ·exact .inl h4
    ·refine .inr ⟨b,off,cells,h5,aG.imp (fun x v b' hb hx=>Flat.mono P T hG hL (fun g hg=>?_) hx) h6,fun j v hj=>?_⟩
     ·obtain ⟨q,hq,rfl⟩:=dA.1 hg
      exact absurd (hb q hq) (by simp)
     ·have hc:=h7 j v hj
      have hlt:b < w.heap.size:=World.block_lt_of_cell? w _ hc.1
      have hg:=hG b (off+j) hlt hc.2
      exact ⟨hg.2.trans hc.1,hg.1⟩
   cases o with
   | no=>unfold Flat at h ⊢; exact cP h
   | hole=>unfold Flat at h ⊢; exact h
   | pair a b=>unfold Flat at h ⊢; exact cP h
   | mp=>unfold Flat at h ⊢; exact cP h
   | own wr e o=>
     unfold Flat at h ⊢
     obtain ⟨v,cells,ob',h1,h2,h3,rfl⟩:=h
     refine ⟨v,cells,ob',h1,aiL h2 (fun g hg=>hO g ?_),aG.imp (fun x v b hb hx=>Flat.mono P T hG hL (fun g hg=>hO g ?_) hx) h3,rfl⟩
     ·rw [ez]; exact fK _ (dA.2 ⟨_,ji hg,rfl⟩)
     ·obtain ⟨q,hq,rfl⟩:=dA.1 hg
      rw [ez]; exact gX _ (dA.2 ⟨q,hb q hq,rfl⟩)
 | .map K V,w,w',G,G',B,o,xs,vs,ob,hG,hL,hO,h=>by
   cases o with
   | mp=>
     unfold Flat at h ⊢
     obtain ⟨h1,h2,b,ents,clk,h3,h4,h5,rfl,h6⟩:=h
     refine ⟨h1,h2,b,ents,clk,h3,h4,by rw [hO b (by simp [blocks])]; exact h5,rfl,dX.imp (fun x m=>?_) h6⟩
     rintro ⟨ks,us,k1,k2,k3⟩
     exact ⟨ks,us,Flat.mono P K hG hL (by simp [blocks]) k1,Flat.mono P V hG hL (by simp [blocks]) k2,k3⟩
   | no | hole | pair | own=>unfold Flat at h ⊢; exact h
 | .fn A C,w,w',G,G',B,_,_,_,_,hG,hL,hO,h=>by
   unfold Flat at h ⊢
   obtain ⟨h0,hs,f,caps,h1,h2⟩:=h
   exact ⟨h0,hs,f,caps,h1,fun w'' G'' x vals hl=>h2 w'' G'' x vals (hL.trans hl)⟩
theorem aw.rM {o:aw} (h:o.pure=true):o.l.pure=true:=by cases o<;>simp_all [aw.pure,aw.l]
theorem aw.rN {o:aw} (h:o.pure=true):o.r.pure=true:=by cases o<;>simp_all [aw.pure,aw.r]
theorem Flat.pure (P:Program):∀ (T:Ty) {w:World} {G:Nat→Nat→Prop} {B:Nat} {o o':aw} {x:den T} {vs:List Value} {ob:OB},o.pure=true→o'.pure=true→Flat P T w G B o x vs ob→ob=[]∧Flat P T w G B o' x vs []
 | .int k,_,_,_,_,_,_,_,_,_,_,h=>by unfold Flat at h ⊢; exact ⟨h.2.2,h.1,h.2.1,rfl⟩
 | .bool,_,_,_,_,_,_,_,_,_,_,h=>by unfold Flat at h ⊢; exact ⟨h.2,h.1,rfl⟩
 | .str,_,_,_,_,_,_,_,_,_,_,h=>by unfold Flat at h ⊢; exact ⟨h.2.2,h.1,h.2.1,rfl⟩
 | .unit,_,_,_,_,_,_,_,_,_,_,h=>by unfold Flat at h ⊢; exact ⟨h.2,h.1,rfl⟩
 | .pair A C,_,_,_,_,_,_,_,_,ho,ho',h=>by
   unfold Flat at h ⊢
   obtain ⟨v1,v2,b1,b2,rfl,rfl,h1,h2⟩:=h
   obtain ⟨e1,k1⟩:=Flat.pure P A (aw.rM ho) (aw.rM ho') h1
   obtain ⟨e2,k2⟩:=Flat.pure P C (aw.rN ho) (aw.rN ho') h2
   exact ⟨by rw [e1,e2]; rfl,v1,v2,[],[],rfl,rfl,k1,k2⟩
 | .arr n T,w,G,B,_,_,_,_,_,ho,_,h=>by
   unfold Flat at h ⊢
   have key:∀ {xs:List (den T)} {vs:List Value} {ob:OB},aG (Flat P T w G B .no) xs vs ob→ob=[]∧aG (Flat P T w G B .no) xs vs []:=by
    intro xs
    induction xs with
    | nil=>rintro vs ob ⟨rfl,rfl⟩; exact ⟨rfl,rfl,rfl⟩
    | cons x xs ih=>
      rintro vs ob ⟨u1,u2,c1,c2,rfl,rfl,hr,ht⟩
      obtain ⟨rfl,hr⟩:=Flat.pure P T (o:=.no) (o':=.no) rfl rfl hr
      obtain ⟨rfl,ht⟩:=ih ht
      exact ⟨rfl,u1,u2,[],[],rfl,rfl,hr,ht⟩
   obtain ⟨h1,h2⟩:=h
   obtain ⟨e,h2⟩:=key h2
   exact ⟨e,h1,h2⟩
 | .sl T,_,_,_,o,o',_,_,_,ho,ho',h=>by
   cases o<;>cases o'<;>simp only [aw.pure,dM] at ho ho'<;>unfold Flat at h ⊢<;>exact ⟨h.1,rfl,h.2⟩
 | .map K V,_,_,_,o,o',_,_,_,ho,ho',h=>by
   cases o<;>cases o'<;>simp only [aw.pure,dM] at ho ho'<;>unfold Flat at h ⊢<;>exact ⟨h.1,rfl,h.2⟩
 | .fn A C,_,_,_,_,_,_,_,_,_,_,h=>by unfold Flat at h ⊢; exact ⟨h.1,rfl,h.2⟩
theorem aG.pure (P:Program) {T:Ty} {w:World} {G:Nat→Nat→Prop} {B:Nat} {o o':aw} (ho:o.pure=true) (ho':o'.pure=true):∀ {xs:List (den T)} {vs:List Value} {ob:OB},aG (Flat P T w G B o) xs vs ob→ob=[]∧aG (Flat P T w G B o') xs vs []
 | [],_,_,h=>by obtain ⟨rfl,rfl⟩:=h; exact ⟨rfl,rfl,rfl⟩
 | x::xs,_,_,h=>by
   obtain ⟨u1,u2,c1,c2,rfl,rfl,hr,ht⟩:=h
   obtain ⟨e1,k1⟩:=Flat.pure P T ho ho' hr
   obtain ⟨e2,k2⟩:=aG.pure P ho ho' ht
   exact ⟨by rw [e1,e2]; rfl,u1,u2,[],[],rfl,rfl,k1,k2⟩
theorem Flat.one (P:Program):∀ (T:Ty) {w:World} {G:Nat→Nat→Prop} {B:Nat} {o:aw} {x:den T} {vs:List Value} {ob:OB},o.whole=true→Flat P T w G B o x vs ob→∀ u∈vs,u.oneCell'=true
 | .int k,_,_,_,_,_,_,_,_,h=>by unfold Flat at h; rw [h.1]; simp [Value.oneCell']
 | .bool,_,_,_,_,_,_,_,_,h=>by unfold Flat at h; rw [h.1]; simp [Value.oneCell']
 | .str,_,_,_,_,_,_,_,_,h=>by unfold Flat at h; rw [h.1]; simp [Value.oneCell']
 | .unit,_,_,_,_,_,_,_,_,h=>by unfold Flat at h; rw [h.1]; simp
 | .pair A C,_,_,_,o,_,_,_,ho,h=>by
   unfold Flat at h
   obtain ⟨v1,v2,b1,b2,rfl,rfl,h1,h2⟩:=h
   intro u hu
   rcases dn.1 hu with hu | hu
   ·exact Flat.one P A (by cases o<;>simp_all [aw.whole,aw.l]) h1 u hu
   ·exact Flat.one P C (by cases o<;>simp_all [aw.whole,aw.r]) h2 u hu
 | .arr n T,w,G,B,_,_,_,_,_,h=>by
   unfold Flat at h
   have key:∀ {xs:List (den T)} {vs:List Value} {ob:OB},aG (Flat P T w G B .no) xs vs ob→∀ u∈vs,u.oneCell'=true:=by
    intro xs
    induction xs with
    | nil=>rintro vs ob ⟨rfl,rfl⟩; simp
    | cons x xs ih=>
      rintro vs ob ⟨u1,u2,c1,c2,rfl,rfl,hr,ht⟩ u hu
      rcases dn.1 hu with hu | hu
      ·exact Flat.one P T (o:=.no) rfl hr u hu
      ·exact ih ht u hu
   exact key h.2
 | .sl T,_,_,_,o,_,_,_,ho,h=>by
   cases o with
   | no=>unfold Flat at h; obtain ⟨_,A,c,rfl,_⟩:=h; simp [Value.oneCell']
   | hole=>simp [aw.whole] at ho
   | pair=>unfold Flat at h; obtain ⟨_,A,c,rfl,_⟩:=h; simp [Value.oneCell']
   | mp=>unfold Flat at h; obtain ⟨_,A,c,rfl,_⟩:=h; simp [Value.oneCell']
   | own wr e o=>
     unfold Flat at h
     obtain ⟨v,cells,ob',rfl,h2,_⟩:=h
     rcases h2.2 with h | ⟨g,cap,cur,_,_,rfl,_⟩
     ·rw [h.1]; simp [Value.oneCell']
     ·simp [Value.oneCell']
 | .map K V,_,_,_,o,_,_,_,ho,h=>by
   cases o<;>unfold Flat at h
   case mp=>obtain ⟨_,_,b,ents,clk,rfl,_⟩:=h; simp [Value.oneCell']
   all_goals (obtain ⟨_,r,rfl⟩:=h; simp [Value.oneCell'])
 | .fn A C,_,_,_,_,_,_,_,_,h=>by
   unfold Flat at h
   obtain ⟨_,_,f,caps,rfl,_⟩:=h; simp [Value.oneCell']
end Go.Fw
/- Soundness, part 2: parts of values; what a state of the machine says of memory. -/
namespace Go.Fw
open Go Go.RowKit
theorem pK:∀ p,b7 .no p=.no
 | []=>rfl
 | .l::p=>pK p
 | .r::p=>pK p
 | .ix _::_=>rfl
theorem pq:∀ (p:Path) (a b:aw),a.pure=true→b.pure=true→(eC a p b).pure=true
 | [],_,_,_,h=>h
 | .l::p,a,b,ha,hb=>by simp only [eC,aw.pure,au]; exact ⟨pq p _ _ (aw.rM ha) hb,aw.rN ha⟩
 | .r::p,a,b,ha,hb=>by simp only [eC,aw.pure,au]; exact ⟨aw.rM ha,pq p _ _ (aw.rN ha) hb⟩
 | .ix _::_,_,_,ha,_=>ha
theorem ze (T:Ty) (y:den T):ba T ⟨T,y⟩=some y:=by simp [ba]
theorem cD {T:Ty} {y:TV} {z:den T} (h:ba T y=some z):y=⟨T,z⟩:=by
 obtain ⟨T',y⟩:=y
 simp only [ba] at h
 split at h
 ·rename_i e; subst e; simp at h; rw [h]
 ·exact absurd h (by simp)
theorem oR:∀ (p:Path) (T:Ty) {P:Program} {w:World} {G:Nat→Nat→Prop} {B:Nat} {o:aw} {x:den T} {vs:List Value} {ob:OB} {y:TV},Flat P T w G B o x vs ob→aE T p x=some y→cH T p=some y.1
 | [],T,_,_,_,_,_,_,_,_,_,_,h=>by simp only [aE,av] at h; subst h; cases T<;>rfl
 | .l::p,.pair A C,_,_,_,_,_,_,_,_,_,hF,h=>by
   unfold Flat at hF; obtain ⟨v1,v2,b1,b2,rfl,rfl,h1,h2⟩:=hF
   simp only [aE,cH] at h ⊢; exact oR p A h1 h
 | .r::p,.pair A C,_,_,_,_,_,_,_,_,_,hF,h=>by
   unfold Flat at hF; obtain ⟨v1,v2,b1,b2,rfl,rfl,h1,h2⟩:=hF
   simp only [aE,cH] at h ⊢; exact oR p C h2 h
 | .ix i::p,.arr n T,_,_,_,_,_,_,_,_,_,hF,h=>by
   unfold Flat at hF; obtain ⟨hn,hF⟩:=hF
   simp only [aE,cH] at h ⊢
   split at h
   ·rename_i hi
    obtain ⟨v1,v2,v3,b1,b2,b3,_,_,_,h2,_⟩:=aG.split (fun x v b hx=>Flat.len _ T hx) i (zero T) hF hi
    rw [if_pos (by omega)]; exact oR p T h2 h
   ·exact absurd h (by simp)
 | .l::_,.int _,_,_,_,_,_,_,_,_,_,_,h | .l::_,.bool,_,_,_,_,_,_,_,_,_,_,h | .l::_,.str,_,_,_,_,_,_,_,_,_,_,h | .l::_,.unit,_,_,_,_,_,_,_,_,_,_,h | .l::_,.sl _,_,_,_,_,_,_,_,_,_,_,h | .l::_,.arr _ _,_,_,_,_,_,_,_,_,_,_,h | .l::_,.fn _ _,_,_,_,_,_,_,_,_,_,_,h=>by simp [aE] at h
 | .r::_,.int _,_,_,_,_,_,_,_,_,_,_,h | .r::_,.bool,_,_,_,_,_,_,_,_,_,_,h | .r::_,.str,_,_,_,_,_,_,_,_,_,_,h | .r::_,.unit,_,_,_,_,_,_,_,_,_,_,h | .r::_,.sl _,_,_,_,_,_,_,_,_,_,_,h | .r::_,.arr _ _,_,_,_,_,_,_,_,_,_,_,h | .r::_,.fn _ _,_,_,_,_,_,_,_,_,_,_,h=>by simp [aE] at h
 | .ix _::_,.int _,_,_,_,_,_,_,_,_,_,_,h | .ix _::_,.bool,_,_,_,_,_,_,_,_,_,_,h | .ix _::_,.str,_,_,_,_,_,_,_,_,_,_,h | .ix _::_,.unit,_,_,_,_,_,_,_,_,_,_,h | .ix _::_,.sl _,_,_,_,_,_,_,_,_,_,_,h | .ix _::_,.pair _ _,_,_,_,_,_,_,_,_,_,_,h | .ix _::_,.fn _ _,_,_,_,_,_,_,_,_,_,_,h=>by simp [aE] at h
theorem Flat.lens (P:Program):∀ (p:Path) (T:Ty) {w:World} {G:Nat→Nat→Prop} {B:Nat} {o:aw} {x:den T} {vs:List Value} {ob:OB} {T':Ty} {y:den T'},Flat P T w G B o x vs ob→aE T p x=some ⟨T',y⟩→
  ∃ v1 v2 v3 b1 b2 b3,vs=v1++v2++v3∧ob=b1++b2++b3∧v1.length=aZ T p∧Flat P T' w G B (b7 o p) y v2 b2∧
    ∀ (o2:aw) (y2:den T') (u:List Value) (c:OB) (x2:den T),(cm p=true→o2.pure=true)→Flat P T' w G B o2 y2 u c→aX T p x ⟨T',y2⟩=some x2→Flat P T w G B (eC o p o2) x2 (v1++u++v3) (b1++c++b3)
 | [],T,w,G,B,o,x,vs,ob,T',y,hF,h=>by
   simp only [aE,av] at h
   obtain ⟨rfl,h⟩:=Sigma.mk.inj h
   rw [eq_of_heq h] at hF
   refine ⟨[],vs,[],[],ob,[],by simp,by simp,by cases T<;>rfl,hF,?_⟩
   intro o2 y2 u c x2 _ hy hs
   have hs':ba T ⟨T,y2⟩=some x2:=by cases T<;>exact hs
   rw [ze,av] at hs'
   subst hs'
   simpa [eC] using hy
 | .l::p,.pair A C,w,G,B,o,x,vs,ob,T',y,hF,h=>by
   unfold Flat at hF; obtain ⟨u1,u2,c1,c2,rfl,rfl,h1,h2⟩:=hF
   simp only [aE] at h
   obtain ⟨v1,v2,v3,b1,b2,b3,rfl,rfl,hl,hF2,hset⟩:=Flat.lens P p A h1 h
   refine ⟨v1,v2,v3++u2,b1,b2,b3++c2,by simp,by simp,hl,hF2,?_⟩
   intro o2 y2 u c x2 hix hy hs
   simp only [aX,aj,av] at hs
   obtain ⟨z,hz,rfl⟩:=hs
   unfold Flat
   exact ⟨v1++u++v3,u2,b1++c++b3,c2,by simp,by simp,hset o2 y2 u c z hix hy hz,h2⟩
 | .r::p,.pair A C,w,G,B,o,x,vs,ob,T',y,hF,h=>by
   have hlen:∀ {vs ob},Flat P A w G B o.l x.1 vs ob→vs.length=ax A:=fun h=>Flat.len P A h
   unfold Flat at hF; obtain ⟨u1,u2,c1,c2,rfl,rfl,h1,h2⟩:=hF
   simp only [aE] at h
   obtain ⟨v1,v2,v3,b1,b2,b3,rfl,rfl,hl,hF2,hset⟩:=Flat.lens P p C h2 h
   refine ⟨u1++v1,v2,v3,c1++b1,b2,b3,by simp,by simp,by rw [cF,hlen h1,hl]; rfl,hF2,?_⟩
   intro o2 y2 u c x2 hix hy hs
   simp only [aX,aj,av] at hs
   obtain ⟨z,hz,rfl⟩:=hs
   unfold Flat
   exact ⟨u1,v1++u++v3,c1,b1++c++b3,by simp,by simp,h1,hset o2 y2 u c z hix hy hz⟩
 | .ix i::p,.arr n T,w,G,B,o,x,vs,ob,T',y,hF,h=>by
   unfold Flat at hF; obtain ⟨hn,hF⟩:=hF
   simp only [aE] at h
   split at h
   ·rename_i hi
    obtain ⟨u1,u2,u3,c1,c2,c3,rfl,rfl,hl1,hE,hst⟩:=aG.split (fun x v b hx=>Flat.len _ T hx) i (zero T) hF hi
    obtain ⟨v1,v2,v3,b1,b2,b3,rfl,rfl,hl,hF2,hset⟩:=Flat.lens P p T hE h
    rw [pK] at hF2
    refine ⟨u1++v1,v2,v3++u3,c1++b1,b2,b3++c3,by simp,by simp,by rw [cF,hl1,hl]; rfl,hF2,?_⟩
    intro o2 y2 u c x2 hix hy hs
    simp only [aX] at hs
    rw [if_pos hi] at hs
    simp only [aj,av] at hs
    obtain ⟨z,hz,rfl⟩:=hs
    have ho2:=hix rfl
    have hnew:=hset o2 y2 u c z (fun _=>ho2) hy hz
    obtain ⟨e,hnew⟩:=Flat.pure P T (pq p .no o2 rfl ho2) (o':=.no) rfl hnew
    have hE2:=hst z (v1++u++v3) [] hnew
    unfold Flat
    refine ⟨by rw [List.length_set]; exact hn,?_⟩
    have e':c1++b1++c++(b3++c3)=c1++[]++c3:=by
     rw [show c1++b1++c++(b3++c3)=c1++(b1++c++b3)++c3 by simp,e]
    rw [e']
    simpa using hE2
   ·exact absurd h (by simp)
 | .l::_,.int _,_,_,_,_,_,_,_,_,_,_,h | .l::_,.bool,_,_,_,_,_,_,_,_,_,_,h | .l::_,.str,_,_,_,_,_,_,_,_,_,_,h | .l::_,.unit,_,_,_,_,_,_,_,_,_,_,h | .l::_,.sl _,_,_,_,_,_,_,_,_,_,_,h | .l::_,.arr _ _,_,_,_,_,_,_,_,_,_,_,h | .l::_,.fn _ _,_,_,_,_,_,_,_,_,_,_,h=>by simp [aE] at h
 | .r::_,.int _,_,_,_,_,_,_,_,_,_,_,h | .r::_,.bool,_,_,_,_,_,_,_,_,_,_,h | .r::_,.str,_,_,_,_,_,_,_,_,_,_,h | .r::_,.unit,_,_,_,_,_,_,_,_,_,_,h | .r::_,.sl _,_,_,_,_,_,_,_,_,_,_,h | .r::_,.arr _ _,_,_,_,_,_,_,_,_,_,_,h | .r::_,.fn _ _,_,_,_,_,_,_,_,_,_,_,h=>by simp [aE] at h
 | .ix _::_,.int _,_,_,_,_,_,_,_,_,_,_,h | .ix _::_,.bool,_,_,_,_,_,_,_,_,_,_,h | .ix _::_,.str,_,_,_,_,_,_,_,_,_,_,h | .ix _::_,.unit,_,_,_,_,_,_,_,_,_,_,h | .ix _::_,.sl _,_,_,_,_,_,_,_,_,_,_,h | .ix _::_,.pair _ _,_,_,_,_,_,_,_,_,_,_,h | .ix _::_,.fn _ _,_,_,_,_,_,_,_,_,_,_,h=>by simp [aE] at h
theorem rJ:∀ (p q:Path) (T:Ty) {T':Ty},cH T p=some T'→aZ T (p++q)=aZ T p+aZ T' q∧cH T (p++q)=cH T' q
 | [],q,T,T',h=>by
   have:T=T':=by cases T<;>simpa [cH] using h
   subst this
   have:aZ T []=0:=by cases T<;>rfl
   simp [this]
 | .l::p,q,.pair A C,T',h=>by simp only [cH] at h; simp only [ir,aZ,cH]; exact rJ p q A h
 | .r::p,q,.pair A C,T',h=>by
   simp only [cH] at h; simp only [ir,aZ,cH]
   have:=rJ p q C h
   exact ⟨by rw [this.1]; omega,this.2⟩
 | .ix i::p,q,.arr n T,T',h=>by
   simp only [cH] at h; simp only [ir,aZ,cH]
   split at h
   ·rename_i hi
    have:=rJ p q T h
    exact ⟨by rw [this.1]; omega,by rw [if_pos hi]; exact this.2⟩
   ·exact absurd h (by simp)
 | .l::_,_,.int _,_,h | .l::_,_,.bool,_,h | .l::_,_,.str,_,h | .l::_,_,.unit,_,h | .l::_,_,.sl _,_,h | .l::_,_,.arr _ _,_,h | .l::_,_,.fn _ _,_,h=>by simp [cH] at h
 | .r::_,_,.int _,_,h | .r::_,_,.bool,_,h | .r::_,_,.str,_,h | .r::_,_,.unit,_,h | .r::_,_,.sl _,_,h | .r::_,_,.arr _ _,_,h | .r::_,_,.fn _ _,_,h=>by simp [cH] at h
 | .ix _::_,_,.int _,_,h | .ix _::_,_,.bool,_,h | .ix _::_,_,.str,_,h | .ix _::_,_,.unit,_,h | .ix _::_,_,.sl _,_,h | .ix _::_,_,.pair _ _,_,h | .ix _::_,_,.fn _ _,_,h=>by simp [cH] at h
def bc (w:World) (tm:Array Value) (env:Env) (s:Nat) (p:Path):Option Value:=
 match look env s with
 | .own .. =>match p with | []=>some (tm.getD s undef) | _=>none
 | .loc T _ _=>match tm.getD s undef with | .pointer (some a)=>w.cell? ⟨a.block,aZ T p,none⟩ | _=>none
 | _=>none
def eo (env:Env) (s:Nat) (p:Path):Bool:=
 match look env s with
 | .loc T o x=>match b7 o p,aE T p x with
   | .mp,some ⟨.map _ _,_⟩=>true
   | _,_=>false
 | _=>false
def jc (w:World) (B:Nat) (t e:TypeId) (s:List UInt8) (v:Value) (ob:OB):Prop:=
 ∃ b p u,v=.pointer (some ⟨b,0,none⟩)∧B≤b∧w.heap[b]?=some (.cells #[p,u] t (0,0))∧(p=.pointer none∨p=.pointer (some ⟨b,0,none⟩))∧w.ownsRow B e 1 u s.length (s.map fun c=>Value.int .u8 c.toNat)∧
   u.ownBlock≠some b∧ob=(b,0)::bH u 0
def cn (P:Program) (w:World) (G:Nat→Nat→Prop) (B:Nat) (tm:Array Value) (env:Env):E→Value→OB→Prop
 | .dead,_,ob=>ob=[]
 | .bB,v,ob=>v=undef∧ob=[]
 | .v T x,v,ob=>ob=[]∧∃ vs,Flat P T w G B .no x vs []∧v=a8 T vs
 | .own wr e T o xs,v,ob=>Flat P (.sl T) w G B (.own wr e o) xs [v] ob
 | .loc T o x,v,ob=>∃ b cur e ob',v=.pointer (some ⟨b,0,none⟩)∧B≤b∧w.heap[b]?=some (.cells cur e (0,0))∧Flat P T w G B o x cur.toList ob'∧ob=(b,0)::ob'
 | .ref s p,v,ob=>ob=[]∧bc w tm env s p=some v∧((a6 env s p).isSome=true∨eo env s p=true)
 | .ptr s p,v,ob=>ob=[]∧∃ T o x b,look env s=.loc T o x∧tm.getD s undef=.pointer (some ⟨b,0,none⟩)∧(cH T p).isSome=true∧v=.pointer (some ⟨b,aZ T p,none⟩)
 | .cJ s p i q,v,ob=>ob=[]∧∃ h g n c,a6 env s p=some h∧bc w tm env s p=some (.slice (some ⟨g,0,none⟩) n c)∧i < h.xs.length∧(cH h.T q).isSome=true∧
   v=.pointer (some ⟨g,i * ax h.T+aZ h.T q,none⟩)
 | .at T x,v,ob=>ob=[]∧∃ b off vs,v=.pointer (some ⟨b,off,none⟩)∧Flat P T w G B .no x vs []∧∀ j u,vs[j]?=some u→w.cell? ⟨b,off+j,none⟩=some u∧(b < B∨G b (off+j))
 | .cx _,_,_=>False
 | .cG _ _ _ _,_,_=>False
 | .nw T o x,v,ob=>ob=[]∧∃ vs,Flat P T w G B o x vs []∧v=a8 T vs
 | .nm T o x,v,ob=>∃ vs,Flat P T w G B o x vs ob∧v=a8 T vs
 | .it s pos,v,ob=>∃ b,v=.pointer (some ⟨b,0,none⟩)∧B≤b∧w.heap[b]?=some (.stringIter ⟨⟨s⟩⟩ pos)∧s.length≤maxLen∧ob=[(b,0)]
 | .sb t e s,v,ob=>jc w B t e s v ob∧s.length≤140737488355328
def dB (R:E→Value→OB→Prop):List E→List Value→OB→Prop
 | [],vs,ob=>vs=[]∧ob=[]
 | e::es,vs,ob=>∃ v r b1 b2,vs=v::r∧ob=b1++b2∧R e v b1∧dB R es r b2
def bg (P:Program) (w:World) (G:Nat→Nat→Prop) (B:Nat) (tm:Array Value) (env:Env):E→Value→OB→Prop
 | .cx es,v,ob=>(∀ e∈es,∀ s,leads s e=false)∧∃ vs,v=.tuple vs∧dB (cn P w G B tm env) es vs.toList ob
 | .cG f _ _ caps,v,ob=>ob=[]∧∃ cv,v=.func (.func f) #[] cv∧dB (cn P w G B tm env) caps cv.toList []
 | e,v,ob=>cn P w G B tm env e v ob
def Gd (B:Nat) (G0:Nat→Nat→Prop) (ob:Nat→OB) (b i:Nat):Prop:=
 (b < B∧G0 b i)∨(B≤b∧G0 b i∧∀ k lim,(b,lim)∈ob k→i < lim)
structure fc where
 tb:Nat
 has:Nat→Obj→Prop
 lt:∀ g o,has g o→g < tb
def fc.nil:fc:=⟨0,fun _ _=>False,fun _ _ h=>h.elim⟩
structure fc.ok (t:fc) (w:World):Prop where
 le:t.tb≤w.heap.size
 at_:∀ g o,t.has g o→w.heap[g]?=some o
theorem fc.Ut (w:World):fc.nil.ok w:=⟨Nat.zero_le _,fun _ _ h=>h.elim⟩
structure cU where
 w:World
 x:Nat→Prop
 pin:Option Value
 r:Nat→Nat→Prop
 t:fc
def bf (W0:cU) (n k:Nat):Prop:=k < n∧(W0.pin=none∨k≠0)
structure ag (P:Program) (B:Nat) (G0:Nat→Nat→Prop) (W0:cU) (n:Nat) (env:Env) (tm:Array Value) (w:World) (ob:Nat→OB):Prop where
 rep:∀ k,bg P w (Gd B G0 ob) B tm env (look env k) (tm.getD k undef) (ob k)
 dist:∀ j k b,b∈blocks (ob j)→b∈blocks (ob k)→j=k
 nodup:∀ k,(blocks (ob k)).Nodup
 low:∀ k b,b∈blocks (ob k)→B≤b∧b < w.heap.size
 below:Below B W0.w w
 prot:∀ k b,b∈blocks (ob k)→¬ W0.x b
 same:∀ b,W0.x b→w.heap[b]?=W0.w.heap[b]?
 oldx:∀ b,W0.x b→b < w.heap.size
 free:∀ b i,B≤b→¬ W0.x b→G0 b i
 base:B≤w.heap.size
 size:tm.size=n
 pinned:∀ v,W0.pin=some v→tm.getD 0 undef=v
 kept:∀ b i,W0.r b i→b < w.heap.size∧Gd B G0 ob b i∧w.cell? ⟨b,i,none⟩=W0.w.cell? ⟨b,i,none⟩
 tab:W0.t.tb≤B∧W0.t.ok W0.w
theorem ag.nd {P:Program} {B:Nat} {G0:Nat→Nat→Prop} {W0:cU} {n:Nat} {env:Env} {tm:Array Value} {w:World} {ob:Nat→OB} (hC:ag P B G0 W0 n env tm w ob):W0.t.ok w:=
 ⟨dS hC.tab.1 hC.base,fun g o h=>by rw [hC.below.block g (dc (W0.t.lt g o h) hC.tab.1)]; exact hC.tab.2.at_ g o h⟩
theorem ag.aqp {P:Program} {B:Nat} {G0:Nat→Nat→Prop} {W0:cU} {n:Nat} {env:Env} {tm:Array Value} {w w':World} {ob:Nat→OB} (hC:ag P B G0 W0 n env tm w ob) (h:bO B w w'):W0.t.ok w':=
 ⟨dS hC.nd.le h.1,fun g o hg=>by rw [h.2 g (dc (W0.t.lt g o hg) hC.tab.1)]; exact hC.nd.at_ g o hg⟩
end Go.Fw
