/- Own work: the value machine, part 1. -/
import Derived.WalkKit
import Derived.KernelRfl
set_option linter.unusedVariables false
set_option linter.unusedSimpArgs false
open Bool renaming and_eq_true → au, false_eq_true → eo
open List renaming replicate → kd, mem_append_left → gp, mem_append_right → iK, length_append → cm, mem_map → dd, mem_append → dD, cons_append → jg
open Nat renaming le_refl → cE, le_trans → ep, decEq → fo, lt_of_lt_of_le → dK
open Option renaming bind_eq_some_iff → aq, bind_assoc → nG, bind_some → ar, map_some → oV
open Option.some renaming injEq → aw
/- The abstract value machine, part 1: types of values, native values, what memory shows of them. -/
namespace Go.Fw
open Go Go.RowKit
inductive Ty where
 | int (k:IntKind) | bool | str | unit
 | sl (T:Ty) | pair (A B:Ty) | arr (n:Nat) (T:Ty)
 | fn (A B:Ty)
 | map (K V:Ty)
 deriving DecidableEq
abbrev den:Ty→Type
 | .int _=>Int
 | .bool=>Bool
 | .str=>List UInt8
 | .unit=>Unit
 | .sl T=>List (den T)
 | .pair A B=>den A×den B
 | .arr _ T=>List (den T)
 | .fn A B=>den A→Option (den B)
 | .map K V=>List (den K×den V)
def zero:(T:Ty)→den T
 | .int _=>(0:Int)
 | .bool=>false
 | .str=>([]:List UInt8)
 | .unit=>()
 | .sl _=> []
 | .pair A B=>(zero A,zero B)
 | .arr n T=>kd n (zero T)
 | .fn _ _=>fun _=>none
 | .map _ _=> []
def ay:Ty→Nat
 | .unit=>0
 | .pair A B=>ay A+ay B
 | .arr n T=>n * ay T
 | _=>1
def cA:Ty→Bool
 | .unit | .pair _ _ | .arr _ _=>true
 | _=>false
def cB:Ty→Bool
 | .sl _ | .fn _ _ | .map _ _=>false
 | .pair A B=>cB A&&cB B
 | .arr _ T=>cB T
 | _=>true
def ej:Ty→Bool
 | .fn _ _=>false
 | .sl T=>ej T
 | .pair A B=>ej A&&ej B
 | .arr _ T=>ej T
 | _=>true
inductive ax where
 | no
 | hole
 | own (wr:Bool) (e:TypeId) (o:ax)
 | pair (a b:ax)
 | mp
def ax.l:ax→ax | .pair a _=>a | _=>.no
def ax.r:ax→ax | .pair _ b=>b | _=>.no
abbrev OB:=List (Nat×Nat)
def aL {α:Type} (R:α→List Value→OB→Prop):List α→List Value→OB→Prop
 | [],vs,ob=>vs=[]∧ob=[]
 | x::xs,vs,ob=>∃ v1 v2 b1 b2,vs=v1++v2∧ob=b1++b2∧R x v1 b1∧aL R xs v2 b2
def eF {α:Type} (R:α→MapEntry→Prop):List α→List MapEntry→Prop
 | [],l=>l=[]
 | x::xs,l=>∃ m r,l=m::r∧R x m∧eF R xs r
def gV:TypeId:=4294967295
def pF (fz:Nat×Nat) (n:Nat):Prop:=fz=(0,0)∨n≤fz.1
def gk (w:World) (base:Nat) (e:TypeId) (size:Nat) (v:Value) (n:Nat) (xs:List Value):Prop:=
 xs.length=n * size∧
 ((v=.slice none 0 0∧n=0)∨
  ∃ g cap cur e' fz,v=.slice (some ⟨g,0,none⟩) n cap∧base≤g∧w.heap[g]?=some (.cells cur e' fz)∧n≤cap∧cap≤maxLen∧cur.size=cap * size∧cur.toList.take (n * size)=xs∧(e≠gV→e'=e∧fz=(0,0))∧pF fz cur.size)
def fT (k:IntKind) (n:Int):Prop:=k.min≤n∧n≤k.max
def bh (T:Ty) (vs:List Value):Value:=if cA T then .agg vs.toArray else vs.headD undef
def bN (v:Value) (lim:Nat):OB:=match v.ownBlock with | some b=> [(b,lim)] | none=> []
def bV (B:Nat) (w w':World):Prop:=w.heap.size≤w'.heap.size∧∀ b,b < B→w'.heap[b]?=w.heap[b]?
structure Below (B:Nat) (w w':World):Prop where
 os:w'.os=w.os
 tape:w'.tape=w.tape
 output:w'.output=w.output
 size:w.heap.size≤w'.heap.size
 block:∀ k,k < B→w'.heap[k]?=w.heap[k]?
 drawn:w.drawn≤w'.drawn
theorem Below.kit {B:Nat} {w w':World} (h:Below B w w'):Go.RowKit.Below B w w':=⟨h.os,h.tape,h.output,h.size,h.block⟩
theorem Below.refl (B:Nat) (w:World):Below B w w:=⟨rfl,rfl,rfl,cE _,fun _ _=>rfl,cE _⟩
theorem Below.trans {B:Nat} {a b c:World} (h:Below B a b) (k:Below B b c):Below B a c:=
 ⟨k.os.trans h.os,k.tape.trans h.tape,k.output.trans h.output,ep h.size k.size,fun i hi=>(k.block i hi).trans (h.block i hi),ep h.drawn k.drawn⟩
def fi (P : Program) (f : FuncId) : Prop := ∃ fn, P.funcs[f]? = some fn ∧ (fn.name == "runtime.NumGoroutine") = false ∧ fn.body.isNone = false
mutual
def Flat (P:Program):(T:Ty)→World→(Nat→Nat→Prop)→Nat→ax→den T→List Value→OB→Prop
 | .int k,_,_,_,_,n,vs,ob=>vs=[.int k n]∧fT k n∧ob=[]
 | .bool,_,_,_,_,b,vs,ob=>vs=[.bool b]∧ob=[]
 | .str,_,_,_,_,s,vs,ob=>vs=[.string ⟨⟨s⟩⟩]∧s.length≤maxLen∧ob=[]
 | .unit,_,_,_,_,_,vs,ob=>vs=[]∧ob=[]
 | .pair A C,w,G,B,o,x,vs,ob=>∃ v1 v2 b1 b2,vs=v1++v2∧ob=b1++b2∧Flat P A w G B o.l x.1 v1 b1∧Flat P C w G B o.r x.2 v2 b2
 | .arr n T,w,G,B,_,xs,vs,ob=>xs.length=n∧aL (Flat P T w G B .no) xs vs ob
 | .sl T,w,G,B,.own wr e o,xs,vs,ob=>∃ v cells ob',vs=[v]∧gk w B e (ay T) v xs.length cells∧aL (Flat P T w G B o) xs cells ob'∧
   ob=bN v (if wr then 0 else xs.length * ay T)++ob'
 | .sl _,_,_,_,.hole,_,vs,ob=>vs.length=1∧ob=[]
 | .sl T,w,G,B,_,xs,vs,ob=>ob=[]∧∃ A c,vs=[.slice A xs.length c]∧xs.length≤c∧c≤maxLen∧
   (xs=[]∨∃ b off cells,A=some ⟨b,off,none⟩∧aL (Flat P T w G B .no) xs cells []∧∀ j v,cells[j]?=some v→w.cell? ⟨b,off+j,none⟩=some v∧G b (off+j))
 | .map K V,w,G,B,.mp,xs,vs,ob=>cB K=true∧cB V=true∧∃ b ents clk,vs=[.map (some b)]∧B≤b∧w.heap[b]?=some (.map ents clk)∧ob=[(b,0)]∧
   eF (fun x m=>∃ ks us,Flat P K w G B .no x.1 ks []∧Flat P V w G B .no x.2 us []∧m.key=bh K ks∧m.val=bh V us) xs ents.toList
 | .map _ _,_,_,_,_,_,vs,ob=>ob=[]∧∃ r,vs=[.map r]
 | .fn A C,w,_,B,_,g,vs,ob=>ob=[]∧cB C=true∧∃ f caps,vs=[.func (.func f) #[] caps]∧
   ∀ (w':World) (G':Nat→Nat→Prop) (x:den A) (vals:List Value),bV B w w'→iH P A w' G' x vals→∀ r,g x=some r→
     fi P f∧Calls P f (vals.toArray++caps) w' (fun e w''=>∃ rs,Flat P C w'' G' B .no r rs []∧e=.returned (bh C rs)∧Below w'.heap.size w' w'')
def iH (P:Program):(A:Ty)→World→(Nat→Nat→Prop)→den A→List Value→Prop
 | .pair A C,w,G,x,vals=>∃ v1 rest,Flat P A w G w.heap.size .no x.1 v1 []∧vals=bh A v1::rest∧iH P C w G x.2 rest
 | .unit,_,_,_,vals=>vals=[]
 | _,_,_,_,_=>False
end
end Go.Fw
/- The abstract value machine, part 2: entries, operations, code. -/
namespace Go.Fw
open Go Go.RowKit
inductive St where
 | l | r | ix (i:Nat)
 deriving DecidableEq
abbrev Path:=List St
abbrev TV:=(T:Ty)×den T
def cR:Ty→Path→Option Ty
 | T,[]=>some T
 | .pair A _,.l::p=>cR A p
 | .pair _ B,.r::p=>cR B p
 | .arr n T,.ix i::p=>if i < n then cR T p else none
 | _,_=>none
def a8:Ty→Path→Nat
 | .pair A _,.l::p=>a8 A p
 | .pair A B,.r::p=>ay A+a8 B p
 | .arr _ T,.ix i::p=>i * ay T+a8 T p
 | _,_=>0
def aH:(T:Ty)→Path→den T→Option TV
 | T,[],x=>some ⟨T,x⟩
 | .pair A _,.l::p,x=>aH A p x.1
 | .pair _ B,.r::p,x=>aH B p x.2
 | .arr _ T,.ix i::p,x=>if i < x.length then aH T p (x.getD i (zero T)) else none
 | _,_,_=>none
def bg (T:Ty) (y:TV):Option (den T):=if h:y.1=T then some (h▸y.2) else none
def a6:(T:Ty)→Path→den T→TV→Option (den T)
 | T,[],_,y=>bg T y
 | .pair A _,.l::p,x,y=>(a6 A p x.1 y).bind fun z=>some (z,x.2)
 | .pair _ B,.r::p,x,y=>(a6 B p x.2 y).bind fun z=>some (x.1,z)
 | .arr _ T,.ix i::p,x,y=>if i < x.length then (a6 T p (x.getD i (zero T)) y).bind fun z=>some (x.set i z) else none
 | _,_,_,_=>none
def cd:ax→Path→ax
 | a,[]=>a
 | a,.l::p=>cd a.l p
 | a,.r::p=>cd a.r p
 | _,.ix _::_=>.no
def fa:ax→Path→ax→ax
 | _,[],b=>b
 | a,.l::p,b=>.pair (fa a.l p b) a.r
 | a,.r::p,b=>.pair a.l (fa a.r p b)
 | a,.ix _::_,_=>a
def ru {α:Type}:ax→List (Path×α)→ax
 | o,[]=>o
 | o,(p,_)::r=>ru (fa o p .no) r
def cC:Path→Bool
 | []=>false
 | .ix _::_=>true
 | _::p=>cC p
def ax.pure:ax→Bool
 | .no=>true
 | .pair a b=>a.pure&&b.pure
 | _=>false
def ax.whole:ax→Bool
 | .hole=>false
 | .pair a b=>a.whole&&b.whole
 | .own _ _ o=>o.whole
 | .no | .mp=>true
def ax.bo:ax→ax
 | .own _ e o=>.own false e o.bo
 | .pair a b=>.pair a.bo b.bo
 | a=>a
def ax.stays:ax→Bool
 | .own w _ o=>!w&&o.stays
 | .pair a b=>a.stays&&b.stays
 | _=>true
theorem ax.tU:∀ {o:ax},o.stays=true→o.bo=o
 | .own w e o,h=>by
   simp only [ax.stays,au,Bool.not_eq_true'] at h
   simp only [ax.bo,ax.tU h.2,h.1]
 | .pair a b,h=>by
   simp only [ax.stays,au] at h
   simp only [ax.bo,ax.tU h.1,ax.tU h.2]
 | .no,_ | .hole,_ | .mp,_=>rfl
inductive E where
 | dead
 | bJ
 | v (T:Ty) (x:den T)
 | own (wr:Bool) (e:TypeId) (T:Ty) (o:ax) (xs:List (den T))
 | loc (T:Ty) (o:ax) (x:den T)
 | ref (s:Nat) (p:Path)
 | ptr (s:Nat) (p:Path)
 | cT (s:Nat) (p:Path) (i:Nat) (q:Path)
 | at (T:Ty) (x:den T)
 | cI (es:List E)
 | cP (f:FuncId) (A C:Ty) (caps:List E)
 | it (s:List UInt8) (pos:Nat)
 | sb (t e:TypeId) (s:List UInt8)
 | nw (T:Ty) (o:ax) (x:den T)
 | nm (T:Ty) (o:ax) (x:den T)
abbrev Env:=List (Nat×E)
def look:Env→Nat→E
 | [],_=>.dead
 | (j,e)::r,k=>match fo j k with | .isTrue _=>e | .isFalse _=>look r k
def E.home:E→Bool
 | .own .. | .loc .. =>true
 | _=>false
def leads (s:Nat):E→Bool
 | .ref k _ | .ptr k _ | .cT k _ _ _=>k==s
 | .cP _ _ _ caps=>caps.any fun | .ref k _ | .ptr k _ | .cT k _ _ _=>k==s | _=>false
 | _=>false
def kill (s:Nat) (env:Env):Env:=env.map fun q=>if leads s q.2 then (q.1,.dead) else q
def eS (s:Nat):E→Bool
 | .ptr _ _=>false
 | e=>leads s e
def jC (s:Nat) (env:Env):Env:=env.map fun q=>if eS s q.2 then (q.1,.dead) else q
def tG (s d:Nat) (env:Env):Env:=env.map fun q=>match q.2 with
 | .ref k p=>if k==s then (q.1,.ref d p) else q
 | .cT k p i r=>if k==s then (q.1,.cT d p i r) else q
 | .cP f A C caps=>if leads s (.cP f A C caps) then (q.1,.dead) else q
 | _=>q
def put (env:Env) (k:Nat) (e:E):Env:=(k,if leads k e then .dead else e)::(if (look env k).home then kill k env else env)
def aM (env:Env) (k:Option Nat) (e:E):Env:=match k with | some k=>put env k e | none=>env
def freeze (env:Env) (s:Nat):Env:=
 match look env s with
 | .own _ e T o xs=>(s,.own false e T o.bo xs)::env
 | .loc T o x=>(match o.stays with | true=>env | false=>(s,.loc T o.bo x)::env)
 | _=>env
def tA:E→List Nat
 | .ref k _ | .ptr k _ | .cT k _ _ _=> [k]
 | _=> []
def qF:E→List Nat
 | .cP _ _ _ caps=>caps.flatMap tA
 | e=>tA e
def qq (live:List Nat) (e:E):E:=match (qF e).all fun s=>live.any fun k=>k==s with | true=>e | false=>.dead
def aj (live:List Nat) (env:Env):Env:=live.map fun k=>(k,qq live (look env k))
inductive Od where
 | t (k:Nat)
 | c (T:Ty) (x:den T)
 | nil (e:TypeId) (T:Ty)
 | fn (f:FuncId) (A C:Ty)
def av (env:Env):Od→E
 | .t k=>look env k
 | .c T x=>.v T x
 | .nil e T=>.own true e T .no []
 | .fn f A C=>.cP f A C []
structure ka where
 wr:Bool
 e:TypeId
 T:Ty
 o:ax
 xs:List (den T)
def bc (env:Env) (s:Nat) (p:Path):Option ka:=
 match look env s with
 | .own wr e T o xs=>match p with | []=>some ⟨wr,e,T,o,xs⟩ | _=>none
 | .loc T o x=>match cd o p,aH T p x with
   | .own wr e o',some ⟨.sl T',xs⟩=>some ⟨wr,e,T',o',xs⟩
   | _,_=>none
 | _=>none
structure az where
 run:FuncId→List E→Option (List E)
 runK:{R:Type}→FuncId→List E→(List E→Option R)→Option R
 eqn:∀ {R:Type} (f:FuncId) (es:List E) (k:List E→Option R),runK f es k=(run f es).bind k
instance:CoeFun az (fun _=>FuncId→List E→Option (List E)):=⟨az.run⟩
def az.of (g:FuncId→List E→Option (List E)):az:=⟨g,fun f es k=>(g f es).bind k,fun _ _ _=>rfl⟩
def unpack:(A:Ty)→den A→List E
 | .pair A B,x=>.v A x.1::unpack B x.2
 | _,_=> []
def j7 (C:Ty):List E→Option (den C)
 | [.v T x]=>bg C ⟨T,x⟩
 | _=>none
def cU (env:Env):E→Option E
 | .v T x=>some (.v T x)
 | .own _ _ T o xs=>if o.pure then some (.v (.sl T) xs) else none
 | .ref s p=>(bc env s p).bind fun h=>if h.o.pure then some (.v (.sl h.T) h.xs) else none
 | .at T x=>some (.at T x)
 | .ptr s p=>match look env s with
   | .loc T o x=>if (cd o p).whole then (aH T p x).bind fun y=>some (.at y.1 y.2) else none
   | _=>none
 | .cT s p i q=>(bc env s p).bind fun h=>if h.o.pure&&decide (i < h.xs.length) then (aH h.T q (h.xs.getD i (zero h.T))).bind fun y=>some (.at y.1 y.2) else none
 | _=>none
def ik (env:Env):List E→Option (List E)
 | []=>some []
 | e::r=>(cU env e).bind fun x=>(ik env r).bind fun y=>some (x::y)
def cZ (env:Env) (e:E):Option TV:=
 match e with
 | .v T x=>some ⟨T,x⟩
 | .own _ _ T o xs=>if o.pure then some ⟨.sl T,xs⟩ else none
 | .ref s p=>(bc env s p).bind fun h=>if h.o.pure then some ⟨.sl h.T,h.xs⟩ else none
 | _=>none
def jV (cl:az) (env:Env) (f:FuncId) (A C:Ty) (caps:List E):Option E:=
 if cB C then (ik env caps).bind fun cs=>some (.v (.fn A C) fun x=>(cl f (unpack A x++cs)).bind (j7 C)) else none
def fD (k:Od) (e:E):Option Nat:=
 match e with
 | .own .. =>match k with | .t k=>some k | _=>none
 | .ref s _ | .ptr s _ | .cT s _ _ _=>some s
 | .loc .. =>match k with | .t k=>some k | _=>none
 | _=>none
def dZ (env:Env) (k:Od):Option (Env×TV):=
 (cZ env (av env k)).bind fun y=>some (match fD k (av env k) with | some s=>freeze env s | none=>env,y)
def ad {α:Type} (b:Bool) (x y:α):α:=match b with | true=>x | false=>y
def arith (op:BinOp) (k:IntKind) (x y:Int):Option Int:=
 match op with
 | .add=>some (k.wrap (x+y))
 | .sub=>some (k.wrap (x - y))
 | .mul=>some (k.wrap (x * y))
 | .and=>some (Go.bits .and k x y)
 | .or=>some (Go.bits .or k x y)
 | .xor=>some (Go.bits .xor k x y)
 | .andNot=>some (Go.bits .andNot k x y)
 | _=>none
def tQ (l:Bool) (k:IntKind) (m n:Int):Int:=match l with
 | true=>k.wrap (m * 2 ^ (min n.toNat k.bits))
 | false=>m.fdiv (2 ^ (min n.toNat k.bits))
def BO (op:BinOp) (x y:Int):Option Bool:=
 match op with
 | .eql=>some (x==y)
 | .neq=>some (x != y)
 | .lss=>some (decide (x < y))
 | .leq=>some (decide (x≤y))
 | .gtr=>some (decide (x > y))
 | .geq=>some (decide (x≥y))
 | _=>none
end Go.Fw
/- The abstract value machine: operations whose order is open, read through a reader that fails on what is dead. -/
namespace Go.Fw
open Go Go.RowKit
def Sub (L L':Nat→E):Prop:=∀ k,L k=.dead∨L' k=L k
structure Rd (α:Type) where
 run:(Nat→E)→Option α
 runK:{R:Type}→(Nat→E)→(α→Option R)→Option R
 mono:∀ L L' x,Sub L L'→run L=some x→run L'=some x
 eqn:∀ {R:Type} (L:Nat→E) (k:α→Option R),runK L k=(run L).bind k
namespace Rd
def ok {α:Type} (x:α):Rd α:=⟨fun _=>some x,fun _ k=>k x,fun _ _ _ _ h=>h,fun _ _=>rfl⟩
def no {α:Type}:Rd α:=⟨fun _=>none,fun _ _=>none,fun _ _ _ _ h=>h,fun _ _=>rfl⟩
def of {α:Type} (x:Option α):Rd α:=⟨fun _=>x,fun _ k=>x.bind k,fun _ _ _ _ h=>h,fun _ _=>rfl⟩
def kE:E→Option E
 | .dead=>none
 | e=>some e
def get (k:Nat):Rd E:=⟨fun L=>kE (L k),fun L c=>(kE (L k)).bind c,fun L L' x hs h=>by
 rcases hs k with h1 | h1
 ·rw [h1] at h; simp [kE] at h
 ·rw [h1]; exact h,fun _ _=>rfl⟩
def bind {α β:Type} (a:Rd α) (f:α→Rd β):Rd β:=⟨fun L=>(a.run L).bind fun x=>(f x).run L,fun L k=>a.runK L fun x=>(f x).runK L k,fun L L' x hs h=>by
 obtain ⟨y,hy,h⟩:=aq.1 h
 exact aq.2 ⟨y,a.mono L L' y hs hy,(f y).mono L L' x hs h⟩,fun L k=>by
 rw [a.eqn,nG]; congr 1; funext x; exact (f x).eqn L k⟩
def ite {α:Type} (p:Prop) [Decidable p] (a b:Rd α):Rd α:=⟨fun L=>if p then a.run L else b.run L,fun L k=>if p then a.runK L k else b.runK L k,fun L L' x hs h=>by
 split
 ·rename_i hp; rw [if_pos hp] at h; exact a.mono L L' x hs h
 ·rename_i hp; rw [if_neg hp] at h; exact b.mono L L' x hs h,fun L k=>by
 split
 ·exact a.eqn L k
 ·exact b.eqn L k⟩
def br {α:Type} (q:Bool) (a b:Rd α):Rd α:=⟨fun L=>ad q (a.run L) (b.run L),fun L k=>ad q (a.runK L k) (b.runK L k),fun L L' x hs h=>by
 cases q
 ·exact b.mono L L' x hs h
 ·exact a.mono L L' x hs h,fun L k=>by
 cases q
 ·exact b.eqn L k
 ·exact a.eqn L k⟩
def call (cl:az) (f:FuncId) (es:List E):Rd (List E):=⟨fun _=>cl f es,fun _ k=>cl.runK f es k,fun _ _ _ _ h=>h,fun _ k=>cl.eqn f es k⟩
end Rd
def dN:Od→Rd E
 | .t k=>.get k
 | .c T x=>.ok (.v T x)
 | .nil e T=>.ok (.own true e T .no [])
 | .fn f A C=>.ok (.cP f A C [])
def CW (e:E) (p:Path):Option ka:=
 match e with
 | .own wr e T o xs=>match p with | []=>some ⟨wr,e,T,o,xs⟩ | _=>none
 | .loc T o x=>match cd o p,aH T p x with
   | .own wr e o',some ⟨.sl T',xs⟩=>some ⟨wr,e,T',o',xs⟩
   | _,_=>none
 | _=>none
def mr (s:Nat) (p:Path):Rd ka:=(Rd.get s).bind fun e=>.of (CW e p)
def Mb (p:Path):E→Option E
 | .loc T o x=>if (cd o p).whole then (aH T p x).bind fun y=>some (.at y.1 y.2) else none
 | _=>none
def zZ:E→Rd E
 | .v T x=>.ok (.v T x)
 | .own _ _ T o xs=>.of (if o.pure then some (.v (.sl T) xs) else none)
 | .ref s p=>(mr s p).bind fun h=>.of (if h.o.pure then some (.v (.sl h.T) h.xs) else none)
 | .at T x=>.ok (.at T x)
 | .ptr s p=>(Rd.get s).bind fun e=>.of (Mb p e)
 | .cT s p i q=>(mr s p).bind fun h=>.of (if h.o.pure&&decide (i < h.xs.length) then (aH h.T q (h.xs.getD i (zero h.T))).bind fun y=>some (.at y.1 y.2) else none)
 | _=>.no
def rz:List E→Rd (List E)
 | []=>.ok []
 | e::r=>(zZ e).bind fun x=>(rz r).bind fun y=>.ok (x::y)
def yO:E→Rd TV
 | .v T x=>.ok ⟨T,x⟩
 | .own _ _ T o xs=>.of (if o.pure then some ⟨.sl T,xs⟩ else none)
 | .ref s p=>(mr s p).bind fun h=>.of (if h.o.pure then some ⟨.sl h.T,h.xs⟩ else none)
 | _=>.no
def BN (cl:az) (f:FuncId) (A C:Ty) (caps:List E):Rd E:=
 if cB C then (rz caps).bind fun cs=>.ok (.v (.fn A C) fun x=>(cl f (unpack A x++cs)).bind (j7 C)) else .no
theorem dU (env:Env) (x:Od):(dN x).run (look env)=Rd.kE (av env x):=by
 cases x<;>rfl
theorem ZF (env:Env) (s:Nat) (p:Path):bc env s p=CW (look env s) p:=by
 unfold bc CW
 rfl
theorem s6 (env:Env) (s:Nat) (p:Path):(mr s p).run (look env)=bc env s p:=by
 rw [ZF]
 show (Rd.kE (look env s)).bind (fun e=>CW e p)=_
 cases look env s<;>rfl
theorem Me (env:Env) (e:E):(zZ e).run (look env)=cU env e:=by
 cases e<;>try rfl
 ·rename_i s p
  show ((mr s p).run (look env)).bind _=_
  rw [s6]; rfl
 ·rename_i s p
  show (Rd.kE (look env s)).bind (fun e=>Mb p e)=_
  simp only [cU]
  cases look env s<;>rfl
 ·rename_i s p i q
  show ((mr s p).run (look env)).bind _=_
  rw [s6]; rfl
theorem D3 (env:Env):∀ (es:List E),(rz es).run (look env)=ik env es
 | []=>rfl
 | e::r=>by
   show ((zZ e).run (look env)).bind (fun x=>((rz r).run (look env)).bind fun y=>some (x::y))=_
   rw [Me,D3 env r]; rfl
theorem C0 (env:Env) (e:E):(yO e).run (look env)=cZ env e:=by
 cases e<;>try rfl
 rename_i s p
 show ((mr s p).run (look env)).bind _=_
 rw [s6]; rfl
theorem Q8 (cl:az) (env:Env) (f:FuncId) (A C:Ty) (caps:List E):(BN cl f A C caps).run (look env)=jV cl env f A C caps:=by
 unfold BN jV
 split
 ·show ((rz caps).run (look env)).bind _=_
  rw [D3]; rfl
 ·rfl
end Go.Fw
/- The abstract value machine, part 3: steps, code, calls. -/
namespace Go.Fw
open Go Go.RowKit
inductive qZ where
 | mv (x:Od)
 | ab (x:Od)
 | pick (c a b:Od)
 | alloc (T:Ty) (o:ax)
 | box (T:Ty) (x:Od)
 | build (T:Ty) (parts:List (Path×Od))
 | kh (T:Ty) (o:ax) (parts:List (Path×Od))
 | buildSlice (e:TypeId) (T:Ty) (parts:List Od)
 | load (T:Ty) (a:Od)
 | store (T:Ty) (a x:Od)
 | bin (op:BinOp) (x y:Od)
 | un (op:UnOp) (x:Od)
 | kN (k:IntKind) (x:Od)
 | fieldAddr (S:Ty) (p:Path) (a:Od)
 | indexAddr (T:Ty) (x i:Od)
 | yR (n:Nat) (T:Ty) (x i:Od)
 | field (S:Ty) (p:Path) (x:Od)
 | dV (x i:Od)
 | yQ (n:Nat) (T:Ty) (x i:Od)
 | jL (x:Od) (lo hi:Option Od)
 | kF (T:Ty) (x:Od) (lo hi mx:Option Od)
 | ni (neg:Bool) (T:Ty) (x y:Od)
 | mkSlice (e:TypeId) (T:Ty) (lim:Nat) (len cap:Od)
 | append (e:TypeId) (T:Ty) (lim:Nat) (s x:Od)
 | bQ (x:Od)
 | aX (x:Od)
 | yT (n:Nat)
 | mm (max:Bool) (x y:Od)
 | call (f:FuncId) (args:List Od)
 | nP (x:Od) (args:List Od)
 | extract (k:Nat) (i:Nat)
 | qH (f:FuncId) (A C:Ty) (caps:List Od)
 | Dn (x:Od)
 | dY (k:Nat)
 | bad
 | jF (x:Od)
 | qW (x:Od)
 | toStr (x:Od)
 | uN (f:FuncId) (args:List Od)
 | BJ (f:FuncId) (args:List Od)
 | cp (x:Od)
 | Dz (T:Ty) (a x:Od)
 | LA (f:FuncId) (x:Od)
 | kX (f:FuncId) (p:Od) (args:List Od)
 | zd (t e:TypeId)
 | iC (f:FuncId) (k:Nat) (x:Od)
 | jJ (f:FuncId) (k:Nat)
 | shift (l:Bool) (x y:Od)
 | bU (f:FuncId) (x g:Od)
 | iX (f:FuncId) (x g:Od)
 | De (K V:Ty)
 | Ac (T:Ty) (p:Path) (k:Nat) (parts:List (Path×Od))
 | Ab (T:Ty) (k:Nat)
 | Dd (K V:Ty) (x y:Od)
 | Df (K V:Ty) (x y z:Od)
structure AI where
 dst:Option Nat
 op:qZ
 guard:Option (Nat×Bool):=none
abbrev cM (R:Type):=Env→Option R
def Od.slot:Od→Option Nat | .t k=>some k | _=>none
def ky:E→Option (IntKind×Int)
 | .v (.int k) n=>some (k,n)
 | _=>none
def mY:E→Option Bool
 | .v .bool b=>some b
 | _=>none
def mK:E→Option (List UInt8)
 | .v .str s=>some s
 | _=>none
def mD (env:Env):Option Od→Option (Option Int)
 | none=>some none
 | some x=>(ky (av env x)).bind fun q=>some (some q.2)
def pG:E→E
 | .own _ e T o xs=>.own false e T o.bo xs
 | e=>e
def Yb:E→E
 | .cI es=>.cI (es.map pG)
 | e=>pG e
def pH (d:Option Nat) (env:Env):Env:=match d,env with
 | some _,(k,e)::r=>(k,Yb e)::r
 | _,env=>env
def fB (x:Od) (e:E):E:=
 match e with
 | .own .. =>match x with | .t k=>.ref k [] | _=>e
 | .loc .. =>match x with | .t k=>.ptr k [] | _=>e
 | .cI _=>.dead
 | .it _ _ | .sb _ _ _ | .nm _ _ _=>.dead
 | _=>e
def oB (env:Env) (d:Option Nat) (x:Od):Env:=
 match av env x with
 | .cI es=>match x,d with
   | .t k,some d=>if k==d then env else (d,.cI es)::(k,.dead)::(if (look env d).home then kill d env else env)
   | _,_=>aM env d .dead
 | e=>aM env d (fB x e)
def assign (env:Env) (d:Nat) (x:Od):Env:=
 match av env x with
 | .own wr e T o xs=>match x with
   | .t k=>if k==d then env else
     let env:=if (look env d).home then kill d env else env
     (d,.own wr e T o xs)::(k,.ref d [])::tG k d env
   | _=>put env d (.own wr e T o xs)
 | e=>put env d (fB x e)
def eg:(T:Ty)→Option (den T→den T→Bool)
 | .int _=>some fun x y=>x==y
 | .bool=>some fun x y=>x==y
 | .str=>some fun x y=>x==y
 | .unit=>some fun _ _=>true
 | .pair A B=>match eg A,eg B with
   | some f,some g=>some fun x y=>f x.1 y.1&&g x.2 y.2
   | _,_=>none
 | _=>none
def il:(T:Ty)→den T→Env→List (Path×Od)→Option (Env×den T)
 | _,x,env,[]=>some (env,x)
 | T,x,env,(p,a)::r=>(dZ env a).bind fun q=>(a6 T p x q.2).bind fun y=>il T y q.1 r
def nO (T:Ty):Env→List Od→Option (Env×List (den T))
 | env,[]=>some (env,[])
 | env,a::r=>(dZ env a).bind fun q=>(bg T q.2).bind fun x=>(nO T q.1 r).bind fun z=>some (z.1,x::z.2)
def fQ (cl:az) (env:Env):List Od→Option (List E)
 | []=>some []
 | a::r=>
   (match av env a with
    | .loc T o x=>if o.whole then some (E.at T x) else none
    | .cP f A C caps=>jV cl env f A C caps
    | e=>cU env e).bind fun x=>(fQ cl env r).bind fun y=>some (x::y)
def jr (env:Env):List Od→Env
 | []=>env
 | a::r=>jr (match fD a (av env a) with | some s=>freeze env s | none=>env) r
def E.plain:E→Bool
 | .v T _=>cB T
 | .own _ _ T _ _=>cB T
 | _=>false
def eH:List E→E
 | [e]=>e
 | es=>.cI es
def tuple:(A:Ty)→List E→Option (den A)
 | .unit,[]=>some ()
 | .pair A B,.v T x::r=>(bg A ⟨T,x⟩).bind fun y=>(tuple B r).bind fun z=>some (y,z)
 | _,_=>none
variable {R:Type}
def eB (env:Env) (y:Od):Option (Nat×Path):=
 match av env y with
 | .ptr s p=>some (s,p)
 | .loc .. =>y.slot.map fun k=>(k,[])
 | _=>none
def placeOf (env:Env) (k0:Nat):Option (Nat×Path):=
 match look env k0 with
 | .own .. =>some (k0,[])
 | .ref k p=>some (k,p)
 | _=>none
def tW (env:Env) (k:Nat) (p:Path):Option Env:=
 match look env k with
 | .own .. =>some ((k,.dead)::kill k env)
 | .loc T0 o x0=>some ((k,.loc T0 (fa o p .hole) x0)::jC k env)
 | _=>none
def apart (d:Option Nat) (k:Nat):Bool:=match d with | some d=>!(d==k) | none=>false
def E.cap:E→Bool
 | .cI _ | .cP _ _ _ _ | .own .. | .it _ _ | .sb _ _ _ | .nm _ _ _=>false
 | _=>true
def zp:E→Option TV
 | .v T x=>some ⟨T,x⟩
 | _=>none
def qO (env:Env):Od→Option Nat
 | .t k=>match look env k with
   | .own .. =>some k
   | .ref s []=>some s
   | _=>none
 | _=>none
def qN:List E→Option TV
 | [.own _ _ T _ ys]=>some ⟨.sl T,ys⟩
 | _=>none
def kA (o:ax) (s:Nat) (env:Env):Env:=match o.pure with | true=>env | false=>jC s env
def tB:E→Bool
 | .v T _=>ej T
 | .dead=>true
 | _=>false
def C7 (T:Ty):List E→Option (ax×den T×List E)
 | .loc T' o x::rs=>(match ej T with | true=>(bg T ⟨T',x⟩).bind fun x=>some (o,x,rs) | false=>none)
 | _=>none
def Wm:List E→Option (List UInt8)
 | [.sb _ _ s]=>some s
 | _=>none
def WN:List E→Option (List UInt8)
 | [.v .str s]=>some s
 | _=>none
def iA {α β:Type} (f:α→α→Bool) (z:β):List (α×β)→α→β×Bool
 | [],_=>(z,false)
 | e::r,k=>match f k e.1 with | true=>(e.2,true) | false=>iA f z r k
def ja {α β:Type} (f:α→α→Bool):List (α×β)→α→β→List (α×β)
 | [],k,v=> [(k,v)]
 | e::r,k,v=>match f k e.1 with | true=>(k,v)::r | false=>e::ja f r k v
def step (cl:az) (i:AI) (env:Env) (K:cM R):Option R:=
 match i.op with
 | .mv x=>K (oB env i.dst x)
 | .ab x=>match i.dst with | some d=>K (assign env d x) | none=>none
 | .pick c a b=>(mY (av env c)).bind fun q=>ad q (K (aM env i.dst (fB a (av env a)))) (K (aM env i.dst (fB b (av env b))))
 | .alloc T o=>K (aM env i.dst (.loc T o (zero T)))
 | .box T x=>(dZ env x).bind fun q=>(bg T q.2).bind fun y=>K (aM q.1 i.dst (.loc T .no y))
 | .build T parts=>(il T (zero T) env parts).bind fun q=>K (aM q.1 i.dst (.v T q.2))
 | .kh T o parts=>(il T (zero T) env parts).bind fun q=>K (aM q.1 i.dst (.nw T (ru o parts) q.2))
 | .buildSlice e T parts=>(nO T env parts).bind fun q=>K (aM q.1 i.dst (.own true e T .no q.2))
 | .load T a=>match av env a with
   | .at T' x=>(bg T ⟨T',x⟩).bind fun y=>K (aM env i.dst (.v T y))
   | .cT s p j q=>(bc env s p).bind fun h=>if j < h.xs.length then
     (if h.o.pure then (aH h.T q (h.xs.getD j (zero h.T))).bind fun z=>(bg T z).bind fun y=>K (aM env i.dst (.v T y)) else none) else none
   | _=>match eB env a with
     | some (s,p)=>match look env s with
       | .loc T0 o x=>match cd o p with
         | .own .. =>match aH T0 p x with
           | some ⟨.sl T',_⟩=>if T=.sl T' then K (aM env i.dst (.ref s p)) else none
           | _=>none
         | .mp=>match aH T0 p x with
           | some ⟨.map K' V',_⟩=>if T=.map K' V' then K (aM env i.dst (.ref s p)) else none
           | _=>none
         | b=>if b.whole then (aH T0 p x).bind fun z=>(bg T z).bind fun y=>
            K (aM (if b.pure then env else freeze env s) i.dst (.v T y)) else none
       | _=>none
     | none=>none
 | .store T a x=>match av env a with
   | .cT s p j q=>match look env s with
     | .own true e T0 o xs=>match p with
       | []=>(dZ env x).bind fun y=>(bg T y.2).bind fun z=>if j < xs.length then
         (a6 T0 q (xs.getD j (zero T0)) ⟨T,z⟩).bind fun u=>(match look y.1 s with | .own true .. =>some () | _=>none).bind fun _=>if o.pure then K ((s,.own true e T0 o (xs.set j u))::y.1) else none else none
       | _=>none
     | .loc .. =>(dZ env x).bind fun y=>(bg T y.2).bind fun z=>match look y.1 s with
       | .loc T0 o x0=>(match cd o p,aH T0 p x0 with
         | .own true _ o',some ⟨.sl T1,xs⟩=>if j < xs.length then (a6 T1 q (xs.getD j (zero T1)) ⟨T,z⟩).bind fun u=>(a6 T0 p x0 ⟨.sl T1,xs.set j u⟩).bind fun x1=>
           if o'.pure then K ((s,.loc T0 o x1)::y.1) else none else none
         | _,_=>none)
       | _=>none
     | _=>none
   | _=>match eB env a with
     | some (s,p)=>match look env s with
       | .loc T0 o x0=>
         if (cB T) then
          (cZ env (av env x)).bind fun y=>(bg T y).bind fun z=>(a6 T0 p x0 ⟨T,z⟩).bind fun x1=>K ((s,.loc T0 o x1)::env)
         else match av env x with
         | .own wr e T1 o1 xs=>match x with
           | .t k=>(bg T ⟨.sl T1,xs⟩).bind fun z=>(a6 T0 p x0 ⟨T,z⟩).bind fun x1=>match cC p with
             | true=>none
             | false=>K ((s,.loc T0 (fa o p (.own wr e o1)) x1)::(k,.ref s p)::jC s (kill k env))
           | _=>(bg T ⟨.sl T1,xs⟩).bind fun z=>(a6 T0 p x0 ⟨T,z⟩).bind fun x1=>match cC p with
             | true=>none
             | false=>K ((s,.loc T0 (fa o p (.own wr e o1)) x1)::jC s env)
         | .nw T1 o1 x2=>(bg T ⟨T1,x2⟩).bind fun z=>(a6 T0 p x0 ⟨T,z⟩).bind fun x1=>match cC p || !o1.whole with
           | true=>none
           | false=>K ((s,.loc T0 (fa o p o1) x1)::jC s env)
         | _=>(dZ env x).bind fun y=>(bg T y.2).bind fun z=>match look y.1 s with
           | .loc T0 o x0=>(a6 T0 p x0 ⟨T,z⟩).bind fun x1=>match (cd o p).pure with
             | true=>K ((s,.loc T0 o x1)::y.1)
             | false=>K ((s,.loc T0 (fa o p .no) x1)::jC s y.1)
           | _=>none
       | _=>none
     | none=>none
 | .bin op x y=>match av env x,av env y with
   | .v (.int k) m,.v (.int k') n=>if k=k' then
     (match op with
      | .quo=>if n=0 then none else K (aM env i.dst (.v (.int k) (k.wrap (m.tdiv n))))
      | .rem=>if n=0 then none else K (aM env i.dst (.v (.int k) (m.tmod n)))
      | _=>match BO op m n with
        | some b=>K (aM env i.dst (.v .bool b))
        | none=>(arith op k m n).bind fun r=>K (aM env i.dst (.v (.int k) r))) else none
   | .v .str s,.v .str t=>match op with
     | .eql=>K (aM env i.dst (.v .bool (s==t)))
     | .neq=>K (aM env i.dst (.v .bool (s != t)))
     | .add=>if s.length+t.length≤140737488355328 then K (aM env i.dst (.v .str (s++t))) else none
     | .lss=>K (aM env i.dst (.v .bool (Op.bytesLess s t)))
     | .leq=>K (aM env i.dst (.v .bool (Op.bytesLess s t || s==t)))
     | .gtr=>K (aM env i.dst (.v .bool (!(Op.bytesLess s t || s==t))))
     | .geq=>K (aM env i.dst (.v .bool (!Op.bytesLess s t)))
     | _=>none
   | _,_=>none
 | .ni neg T x y=>(cZ env (av env x)).bind fun s=>(cZ env (av env y)).bind fun t=>(bg T s).bind fun s=>(bg T t).bind fun t=>(eg T).bind fun f=>
   K (aM env i.dst (.v .bool (if neg then !f s t else f s t)))
 | .un op x=>match op,av env x with
   | .not,.v .bool b=>K (aM env i.dst (.v .bool (!b)))
   | .neg,.v (.int k) n=>K (aM env i.dst (.v (.int k) (k.wrap (0 - n))))
   | _,_=>none
 | .shift l x y=>match av env x,av env y with
   | .v (.int k) m,.v (.int _) n=>if 0≤n then K (aM env i.dst (.v (.int k) (tQ l k m n))) else none
   | _,_=>none
 | .kN k x=>(ky (av env x)).bind fun q=>K (aM env i.dst (.v (.int k) (k.wrap q.2)))
 | .fieldAddr S p a=>match av env a with
   | .at T x=>(bg S ⟨T,x⟩).bind fun x=>(aH S p x).bind fun y=>K (aM env i.dst (.at y.1 y.2))
   | .ptr s q=>match look env s with
     | .loc T0 _ _=>if cR T0 q=some S then K (aM env i.dst (.ptr s (q++p))) else none
     | _=>none
   | .cT s q j r=>(bc env s q).bind fun h=>if cR h.T r=some S then K (aM env i.dst (.cT s q j (r++p))) else none
   | .loc T0 _ _=>if T0=S then a.slot.bind fun k=>K (aM env i.dst (.ptr k p)) else none
   | _=>none
 | .indexAddr T x ix=>(ky (av env ix)).bind fun q=>match av env x with
   | .v T' xs=>(bg (.sl T) ⟨T',xs⟩).bind fun xs=>if 0≤q.2∧q.2 < (xs.length:Int) then K (aM env i.dst (.at T (xs.getD q.2.toNat (zero T)))) else none
   | .own _ _ T' _ xs=>if T'=T then x.slot.bind fun s=>if 0≤q.2∧q.2 < (xs.length:Int) then K (aM env i.dst (.cT s [] q.2.toNat [])) else none else none
   | .ref s p=>(bc env s p).bind fun h=>if h.T=T then if 0≤q.2∧q.2 < (h.xs.length:Int) then K (aM env i.dst (.cT s p q.2.toNat [])) else none else none
   | _=>none
 | .yR n T x ix=>(ky (av env ix)).bind fun q=>match av env x with
   | .at T' xs=>(bg (.arr n T) ⟨T',xs⟩).bind fun xs=>if 0≤q.2∧q.2 < (n:Int) then K (aM env i.dst (.at T (xs.getD q.2.toNat (zero T)))) else none
   | _=>match eB env x with
     | some (s,p)=>match look env s with
       | .loc T0 _ _=>if cR T0 p=some (.arr n T) then if 0≤q.2∧q.2 < (n:Int) then K (aM env i.dst (.ptr s (p++[.ix q.2.toNat]))) else none else none
       | _=>none
     | none=>none
 | .field S p x=>(cZ env (av env x)).bind fun y=>(bg S y).bind fun y=>(aH S p y).bind fun z=>K (aM env i.dst (.v z.1 z.2))
 | .dV x ix=>(ky (av env ix)).bind fun q=>(mK (av env x)).bind fun s=>
   if 0≤q.2∧q.2 < (s.length:Int) then K (aM env i.dst (.v (.int .u8) ((s.getD q.2.toNat 0).toNat:Int))) else none
 | .yQ n T x ix=>(ky (av env ix)).bind fun q=>match av env x with
   | .v T' xs=>(bg (.arr n T) ⟨T',xs⟩).bind fun xs=>if 0≤q.2∧q.2 < (n:Int) then K (aM env i.dst (.v T (xs.getD q.2.toNat (zero T)))) else none
   | _=>none
 | .jL x lo hi=>(mD env lo).bind fun lo=>(mD env hi).bind fun hi=>(mK (av env x)).bind fun s=>
   if 0≤lo.getD 0∧lo.getD 0≤hi.getD (s.length:Int)∧hi.getD (s.length:Int)≤(s.length:Int) then
    K (aM env i.dst (.v .str ((s.drop (lo.getD 0).toNat).take ((hi.getD (s.length:Int)).toNat - (lo.getD 0).toNat)))) else none
 | .kF T x lo hi mx=>(mD env lo).bind fun lo=>(mD env hi).bind fun hi=>(mD env mx).bind fun mx=>(dZ env x).bind fun y=>(bg (.sl T) y.2).bind fun xs=>
   if 0≤lo.getD 0∧lo.getD 0≤hi.getD (xs.length:Int)∧hi.getD (xs.length:Int)≤mx.getD (xs.length:Int)∧mx.getD (xs.length:Int)≤(xs.length:Int) then
    K (aM y.1 i.dst (.v (.sl T) ((xs.drop (lo.getD 0).toNat).take ((hi.getD (xs.length:Int)).toNat - (lo.getD 0).toNat)))) else none
 | .mkSlice e T lim l c=>match av env l,av env c with
   | .v (.int .i64) m,.v (.int .i64) n=>if 0≤m∧m≤n∧n≤(lim:Int) then K (aM env i.dst (.own true e T .no (kd m.toNat (zero T)))) else none
   | _,_=>none
 | .append e T lim s x=>(dZ env x).bind fun y=>(bg (.sl T) y.2).bind fun ys=>match s with
   | .nil e' _=>if e=e' then if ys.length≤lim then K (aM y.1 i.dst (.own true e T .no ys)) else none else none
   | .t k0=>(placeOf y.1 k0).bind fun q=>(bc y.1 q.1 q.2).bind fun h=>(bg (.sl T) ⟨.sl h.T,h.xs⟩).bind fun xs=>(tW y.1 q.1 q.2).bind fun env2=>
     match apart i.dst q.1&&h.o.pure&&(h.e==e) with
     | true=>if xs.length+ys.length≤lim then K (aM env2 i.dst (.own h.wr e T .no (xs++ys))) else none
     | false=>none
   | _=>none
 | .bQ x=>(mK (av env x)).bind fun s=>K (aM env i.dst (.v (.int .i64) (s.length:Int)))
 | .aX x=>(cZ env (av env x)).bind fun y=>match y with
   | ⟨.sl _,xs⟩=>K (aM env i.dst (.v (.int .i64) (xs.length:Int)))
   | _=>none
 | .yT m=>K (aM env i.dst (.v (.int .i64) (m:Int)))
 | .mm mx x y=>match av env x,av env y with
   | .v (.int k) m,.v (.int k') n=>if k=k' then K (aM env i.dst (.v (.int k) (if mx then (if n > m then n else m) else (if n < m then n else m)))) else none
   | _,_=>none
 | .call f args=>(fQ cl env args).bind fun as=>cl.runK f as fun res=>
   K (aM (if res.all E.plain then env else jr env args) i.dst (eH res))
 | .uN f args=>(fQ cl env args).bind fun as=>cl.runK f as fun res=>
   K (pH i.dst (aM (if res.all E.plain then env else jr env args) i.dst (eH res)))
 | .BJ f args=>(fQ cl env args).bind fun as=>cl.runK f (.dead::as) fun res=>
   K (aM (if res.all E.plain then env else jr env args) i.dst (eH res))
 | .Dz T a x=>match eB env a with
   | some (s,p)=>match look env s with
     | .loc .. =>(dZ env x).bind fun y=>(bg T y.2).bind fun z=>match look y.1 s with
       | .loc T0 o x0=>(a6 T0 p x0 ⟨T,z⟩).bind fun x1=>match (cd o p).pure with
         | true=>K ((s,.loc T0 o x1)::y.1)
         | false=>none
       | _=>none
     | _=>none
   | none=>none
 | .cp x=>(dZ env x).bind fun q=>K (aM q.1 i.dst (.v q.2.1 q.2.2))
 | .LA f x=>(qO env x).bind fun s=>match look env s with
   | .own true e T .no xs=>if cB T&&!(e==gV) then cl.runK f [.bJ,.own true e T .no xs] fun res=>
     (qN res).bind fun y=>(bg (.sl T) y).bind fun ys=>K (aM ((s,.own true e T .no ys)::env) i.dst (.cI [])) else none
   | _=>none
 | .kX f p args=>(eB env p).bind fun q=>match q.2 with
   | []=>(fQ cl env args).bind fun as=>match as.all tB&&apart i.dst q.1 with
     | true=>(match look (jr env args) q.1 with
       | .loc T o x=>cl.runK f (.loc T o x::as) fun res=>(C7 T res).bind fun y=>
         K (aM ((q.1,.loc T y.1 y.2.1)::kA o q.1 (jr env args)) i.dst (eH y.2.2))
       | _=>none)
     | false=>none
   | _=>none
 | .De K0 V0=>K (aM env i.dst (.nm (.map K0 V0) .mp []))
 | .Ac T p k parts=>(il T (zero T) env parts).bind fun q=>match look q.1 k with
   | .nm T' .mp x'=>(match cC p || !apart i.dst k with
     | false=>(a6 T p q.2 ⟨T',x'⟩).bind fun y=>K (aM ((k,.dead)::q.1) i.dst (.nm T (fa .no p .mp) y))
     | true=>none)
   | _=>none
 | .Ab T k=>match look env k with
   | .nm T' o x=>(bg T ⟨T',x⟩).bind fun y=>match apart i.dst k&&o.whole with
     | true=>K (aM ((k,.dead)::env) i.dst (.loc T o y))
     | false=>none
   | _=>none
 | .Dd K0 V0 x y=>match av env x with
   | .ref s p=>match look env s with
     | .loc T0 o x0=>match cd o p with
       | .mp=>(aH T0 p x0).bind fun z=>(bg (.map K0 V0) z).bind fun xs=>(cZ env (av env y)).bind fun k=>(bg K0 k).bind fun k=>(eg K0).bind fun f=>
         K (aM env i.dst (.cI [.v V0 (iA f (zero V0) xs k).1,.v .bool (iA f (zero V0) xs k).2]))
       | _=>none
     | _=>none
   | _=>none
 | .Df K0 V0 x y z=>match av env x with
   | .ref s p=>match look env s with
     | .loc T0 o x0=>match cd o p with
       | .mp=>(aH T0 p x0).bind fun u=>(bg (.map K0 V0) u).bind fun xs=>(cZ env (av env y)).bind fun k=>(bg K0 k).bind fun k=>(cZ env (av env z)).bind fun v=>(bg V0 v).bind fun v=>(eg K0).bind fun f=>
         (a6 T0 p x0 ⟨.map K0 V0,ja f xs k v⟩).bind fun x1=>K ((s,.loc T0 o x1)::env)
       | _=>none
     | _=>none
   | _=>none
 | .bU f x g=>match x with
   | .t s=>(match look env s,av env g with
     | .own true e T .no xs,.cP fg A C caps=>(match (env.all fun q=>!leads s q.2)&&apart i.dst s&&!(e==gV) with
       | true=>(jV cl env fg A C caps).bind fun ge=>cl.runK f [.bJ,.own true e T .no xs,ge] fun res=>
         (qN res).bind fun y=>(bg (.sl T) y).bind fun ys=>K (aM ((s,.dead)::env) i.dst (.own true e T .no ys))
       | false=>none)
     | _,_=>none)
   | _=>none
 | .iX f x g=>(qO env x).bind fun s=>match look env s,av (kill s env) g with
   | .own true e T .no xs,.cP fg A C caps=>(match apart i.dst s&&!(e==gV) with
     | true=>(jV cl (kill s env) fg A C caps).bind fun ge=>cl.runK f [.bJ,ge,.own true e T .no xs] fun res=>
       (qN res).bind fun y=>(bg (.sl T) y).bind fun ys=>K (aM ((s,.own true e T .no ys)::kill s env) i.dst .dead)
     | false=>none)
   | _,_=>none
 | .zd t e=>K (aM env i.dst (.sb t e []))
 | .iC f k x=>match look env k with
   | .sb t e s=>(match apart i.dst k with
     | true=>(mK (av env x)).bind fun u=>cl.runK f [.bJ,.sb t e s,.v .str u] fun res=>(Wm res).bind fun s'=>K (aM ((k,.sb t e s')::env) i.dst .dead)
     | false=>none)
   | _=>none
 | .jJ f k=>match look env k with
   | .sb t e s=>(match apart i.dst k with
     | true=>cl.runK f [.bJ,.sb t e s] fun res=>(WN res).bind fun u=>K (aM ((k,.dead)::env) i.dst (.v .str u))
     | false=>none)
   | _=>none
 | .nP x args=>match av env x with
   | .v (.fn A C) g=>(fQ cl env args).bind fun as=>(tuple A as).bind fun a=>(g a).bind fun r=>if cB C then K (aM env i.dst (.v C r)) else none
   | .cP f _ _ caps=>(fQ cl env args).bind fun as=>(ik env caps).bind fun cs=>cl.runK f (as++cs) fun res=>
     if res.all E.plain then K (aM env i.dst (eH res)) else none
   | _=>none
 | .extract k j=>match look env k with
   | .cI es=>match es[j]? with
     | some e=>(match e with
       | .v T x=>K (aM env i.dst (.v T x))
       | .own wr e' T o xs=>match !wr&&o.pure with
         | true=>K (aM env i.dst (.v (.sl T) xs))
         | false=>K (aM ((k,.cI (es.set j .dead))::env) i.dst (.own wr e' T o xs))
       | _=>none)
     | none=>none
   | _=>none
 | .qH f A C caps=>if (caps.all fun a=>(av env a).cap) then K (aM env i.dst (.cP f A C (caps.map fun a=>fB a (av env a)))) else none
 | .bad=>none
 | .qW x=>(mK (av env x)).bind fun s=>K (aM env i.dst (.own true gV (.int .u8) .no (s.map fun b=>(b.toNat:Int))))
 | .toStr x=>(cZ env (av env x)).bind fun y=>(bg (.sl (.int .u8)) y).bind fun xs=>K (aM env i.dst (.v .str (xs.map fun n=>UInt8.ofNat n.toNat)))
 | .jF x=>match av env x with
   | .ptr .. | .cT .. | .at .. | .loc .. =>K (aM env i.dst (fB x (av env x)))
   | _=>none
 | .Dn x=>(mK (av env x)).bind fun s=>K (aM env i.dst (.it s 0))
 | .dY k=>match look env k with
   | .it s pos=>ad (decide (pos < s.length)) (K (aM ((k,.it s (pos+(Utf8.decode ⟨⟨s⟩⟩ pos).2))::env) i.dst (.cI [.v .bool true,.v (.int .i64) (pos:Int),.v (.int .i32) ((Utf8.decode ⟨⟨s⟩⟩ pos).1:Int)]))) (K (aM env i.dst (.cI [.v .bool false])))
   | _=>none
def yL (g:Option (Nat×Bool)) (env:Env) (yes no:cM R):Option R:=
 match g with
 | none=>yes env
 | some (s,pol)=>match look env s with
   | .v .bool b=>ad b ((if pol then yes else no) ((s,.v .bool true)::env)) ((if pol then no else yes) ((s,.v .bool false)::env))
   | .bJ=>no env
   | _=>none
def ops (cl:az):List AI→Env→cM R→Option R
 | [],env,K=>K env
 | i::r,env,K=>yL i.guard env (fun env=>step cl i env (fun env=>ops cl r env K)) (fun env=>ops cl r (aM env i.dst .bJ) K)
def Vl (d:Nat) (e:E):E:=if leads d e then .dead else e
def one (d:Option Nat) (e:E):List (Nat×E):=match d with | some d=> [(d,Vl d e)] | none=> []
def E.oy:E→Bool
 | .own .. | .loc .. | .cI _ | .dead | .it _ _ | .sb _ _ _ | .nm _ _ _=>false
 | _=>true
def KY (x:Od):Rd E:=(dN x).bind fun e=>if e.oy then .ok e else .no
def Rf (x:Od) (e:E):Option E:=
 match e with
 | .cI _ | .dead | .it _ _ | .sb _ _ _ | .nm _ _ _=>none
 | .own .. | .loc .. =>match x with | .t _=>some (fB x e) | _=>none
 | e=>some e
def uT (x:Od):Rd E:=(dN x).bind fun e=>match Rf x e with | some f=>.ok f | none=>.no
def kz (x:Od):Rd (IntKind×Int):=(dN x).bind fun e=>.of (ky e)
def D8 (x:Od):Rd Bool:=(dN x).bind fun e=>.of (mY e)
def zk (x:Od):Rd (List UInt8):=(dN x).bind fun e=>.of (mK e)
def mE:Option Od→Rd (Option Int)
 | none=>.ok none
 | some x=>(kz x).bind fun q=>.ok (some q.2)
def qX (x:Od):Rd TV:=(dN x).bind fun e=>.of (zp e)
def Mk (op:BinOp) (a b:E):Rd E:=
 match a,b with
 | .v (.int k) m,.v (.int k') n=>if k=k' then
   (match op with
    | .quo=>.ite (n=0) .no (.ok (.v (.int k) (k.wrap (m.tdiv n))))
    | .rem=>.ite (n=0) .no (.ok (.v (.int k) (m.tmod n)))
    | _=>match BO op m n with
      | some b=>.ok (.v .bool b)
      | none=>match arith op k m n with
        | some r=>.ok (.v (.int k) r)
        | none=>.no) else .no
 | .v .str s,.v .str t=>match op with
   | .eql=>.ok (.v .bool (s==t))
   | .neq=>.ok (.v .bool (s != t))
   | .add=>.ite (s.length+t.length≤140737488355328) (.ok (.v .str (s++t))) .no
   | .lss=>.ok (.v .bool (Op.bytesLess s t))
   | .leq=>.ok (.v .bool (Op.bytesLess s t || s==t))
   | .gtr=>.ok (.v .bool (!(Op.bytesLess s t || s==t)))
   | .geq=>.ok (.v .bool (!Op.bytesLess s t))
   | _=>.no
 | _,_=>.no
def WS (op:UnOp) (x:E):Option E:=
 match op,x with
 | .not,.v .bool b=>some (.v .bool (!b))
 | .neg,.v (.int k) n=>some (.v (.int k) (k.wrap (0 - n)))
 | _,_=>none
def Lh (x:Od):Rd ((Nat×Path)×E):=(dN x).bind fun e=>match e with
 | .ptr s p=>(Rd.get s).bind fun f=>.ok ((s,p),f)
 | .loc .. =>match x with | .t k=>.ok ((k,[]),e) | _=>.no
 | _=>.no
def C8 (T:Ty) (s:Nat) (p:Path):E→Rd E
 | .loc T0 o x=>match cd o p with
   | .own .. =>match aH T0 p x with
     | some ⟨.sl T',_⟩=>if T=.sl T' then .ok (.ref s p) else .no
     | _=>.no
   | .mp=>match aH T0 p x with
     | some ⟨.map K' V',_⟩=>if T=.map K' V' then .ok (.ref s p) else .no
     | _=>.no
   | b=>if b.whole&&b.pure then (Rd.of ((aH T0 p x).bind fun z=>bg T z)).bind fun y=>.ok (.v T y) else .no
 | _=>.no
def Vr (T:Ty) (j:Nat) (q:Path) (h:ka):Rd E:=
 .ite (j < h.xs.length)
  (if h.o.pure then (Rd.of ((aH h.T q (h.xs.getD j (zero h.T))).bind fun z=>bg T z)).bind fun y=>.ok (.v T y) else .no) .no
def RT (S:Ty) (s:Nat) (q p:Path):E→Option E
 | .loc T0 _ _=>if cR T0 q=some S then some (.ptr s (q++p)) else none
 | _=>none
def z7 (n:Nat) (T:Ty) (i:Int) (s:Nat) (p:Path):E→Rd E
 | .loc T0 _ _=>if cR T0 p=some (.arr n T) then .ite (0≤i∧i < (n:Int)) (.ok (.ptr s (p++[.ix i.toNat]))) .no else .no
 | _=>.no
def rE:(T:Ty)→den T→List (Path×Od)→Rd (den T)
 | _,x,[]=>.ok x
 | T,x,(p,a)::r=>(qX a).bind fun q=>(Rd.of (a6 T p x q)).bind fun y=>rE T y r
def uF (T:Ty):List Od→Rd (List (den T))
 | []=>.ok []
 | a::r=>(qX a).bind fun q=>(Rd.of (bg T q)).bind fun x=>(uF T r).bind fun z=>.ok (x::z)
def Mc (cl:az):E→Rd E
 | .loc T o x=>if o.whole then .ok (E.at T x) else .no
 | .cP f A C caps=>BN cl f A C caps
 | e=>zZ e
def mX (cl:az):List Od→Rd (List E)
 | []=>.ok []
 | a::r=>((dN a).bind (Mc cl)).bind fun x=>(mX cl r).bind fun y=>.ok (x::y)
def WJ:E→Bool | .loc _ o _=>o.stays | _=>false
def s7:List Od→Rd Unit
 | []=>.ok ()
 | a::r=>(dN a).bind fun e=>match fD a e with
   | none=>s7 r
   | some s=>(Rd.get s).bind fun f=>match WJ f with | true=>s7 r | false=>.no
def Dl (args:List Od) (res:List E):Rd E:=if res.all E.plain then .ok (eH res) else (s7 args).bind fun _=>.ok (eH res)
def uO:List Od→Rd (List E)
 | []=>.ok []
 | a::r=>(dN a).bind fun e=>if e.cap then (uO r).bind fun y=>.ok (fB a e::y) else .no
def RO (j:Nat):E→Option E
 | .cI es=>match es[j]? with
   | some (.v T x)=>some (.v T x)
   | some (.own false _ T o xs)=>if o.pure then some (.v (.sl T) xs) else none
   | _=>none
 | _=>none
def tX (cl:az) (d:Option Nat):qZ→Rd E
 | .mv x=>uT x
 | .jF x=>(dN x).bind fun e=>match e with
   | .ptr s p=>.ok (.ptr s p)
   | .cT s p i q=>.ok (.cT s p i q)
   | .at T y=>.ok (.at T y)
   | .loc .. =>match x with | .t k=>.ok (.ptr k []) | _=>.no
   | _=>.no
 | .ab x=>if d.isSome then KY x else .no
 | .pick c a b=>(D8 c).bind fun q=>.br q (uT a) (uT b)
 | .alloc T o=>.ok (.loc T o (zero T))
 | .box T x=>(qX x).bind fun q=>(Rd.of (bg T q)).bind fun y=>.ok (.loc T .no y)
 | .build T parts=>(rE T (zero T) parts).bind fun y=>.ok (.v T y)
 | .kh T o parts=>(rE T (zero T) parts).bind fun y=>.ok (.nw T (ru o parts) y)
 | .buildSlice e T parts=>(uF T parts).bind fun y=>.ok (.own true e T .no y)
 | .load T a=>(dN a).bind fun e=>match e with
   | .at T' x=>(Rd.of (bg T ⟨T',x⟩)).bind fun y=>.ok (.v T y)
   | .cT s p j q=>(mr s p).bind fun h=>Vr T j q h
   | .ptr s p=>(Rd.get s).bind fun f=>C8 T s p f
   | .loc .. =>match a with | .t k=>C8 T k [] e | _=>.no
   | _=>.no
 | .bin op x y=>(dN x).bind fun a=>(dN y).bind fun b=>Mk op a b
 | .ni neg T x y=>(dN x).bind fun a=>(dN y).bind fun b=>(yO a).bind fun s=>(yO b).bind fun t=>(Rd.of (bg T s)).bind fun s=>(Rd.of (bg T t)).bind fun t=>(Rd.of (eg T)).bind fun f=>
   .ok (.v .bool (if neg then !f s t else f s t))
 | .un op x=>(dN x).bind fun a=>.of (WS op a)
 | .shift l x y=>(dN x).bind fun a=>(dN y).bind fun b=>match a,b with
   | .v (.int k) m,.v (.int _) n=>.ite (0≤n) (.ok (.v (.int k) (tQ l k m n))) .no
   | _,_=>.no
 | .kN k x=>(kz x).bind fun q=>.ok (.v (.int k) (k.wrap q.2))
 | .fieldAddr S p a=>(dN a).bind fun e=>match e with
   | .at T x=>(Rd.of (bg S ⟨T,x⟩)).bind fun x=>(Rd.of (aH S p x)).bind fun y=>.ok (.at y.1 y.2)
   | .ptr s q=>(Rd.get s).bind fun f=>.of (RT S s q p f)
   | .cT s q j r=>(mr s q).bind fun h=>if cR h.T r=some S then .ok (.cT s q j (r++p)) else .no
   | .loc T0 _ _=>if T0=S then match a with | .t k=>.ok (.ptr k p) | _=>.no else .no
   | _=>.no
 | .indexAddr T x ix=>(kz ix).bind fun q=>(dN x).bind fun e=>match e with
   | .v T' xs=>(Rd.of (bg (.sl T) ⟨T',xs⟩)).bind fun xs=>.ite (0≤q.2∧q.2 < (xs.length:Int)) (.ok (.at T (xs.getD q.2.toNat (zero T)))) .no
   | .own _ _ T' _ xs=>if T'=T then match x with | .t s=>.ite (0≤q.2∧q.2 < (xs.length:Int)) (.ok (.cT s [] q.2.toNat [])) .no | _=>.no else .no
   | .ref s p=>(mr s p).bind fun h=>if h.T=T then .ite (0≤q.2∧q.2 < (h.xs.length:Int)) (.ok (.cT s p q.2.toNat [])) .no else .no
   | _=>.no
 | .yR n T x ix=>(kz ix).bind fun q=>(dN x).bind fun e=>match e with
   | .at T' xs=>(Rd.of (bg (.arr n T) ⟨T',xs⟩)).bind fun xs=>.ite (0≤q.2∧q.2 < (n:Int)) (.ok (.at T (xs.getD q.2.toNat (zero T)))) .no
   | .ptr s p=>(Rd.get s).bind fun f=>z7 n T q.2 s p f
   | .loc .. =>match x with | .t k=>z7 n T q.2 k [] e | _=>.no
   | _=>.no
 | .field S p x=>(dN x).bind fun e=>(yO e).bind fun y=>(Rd.of (bg S y)).bind fun y=>(Rd.of (aH S p y)).bind fun z=>.ok (.v z.1 z.2)
 | .dV x ix=>(kz ix).bind fun q=>(zk x).bind fun s=>
   .ite (0≤q.2∧q.2 < (s.length:Int)) (.ok (.v (.int .u8) ((s.getD q.2.toNat 0).toNat:Int))) .no
 | .yQ n T x ix=>(kz ix).bind fun q=>(dN x).bind fun e=>match e with
   | .v T' xs=>(Rd.of (bg (.arr n T) ⟨T',xs⟩)).bind fun xs=>.ite (0≤q.2∧q.2 < (n:Int)) (.ok (.v T (xs.getD q.2.toNat (zero T)))) .no
   | _=>.no
 | .jL x lo hi=>(mE lo).bind fun lo=>(mE hi).bind fun hi=>(zk x).bind fun s=>
   .ite (0≤lo.getD 0∧lo.getD 0≤hi.getD (s.length:Int)∧hi.getD (s.length:Int)≤(s.length:Int))
    (.ok (.v .str ((s.drop (lo.getD 0).toNat).take ((hi.getD (s.length:Int)).toNat - (lo.getD 0).toNat)))) .no
 | .kF T x lo hi mx=>(mE lo).bind fun lo=>(mE hi).bind fun hi=>(mE mx).bind fun mx=>(qX x).bind fun y=>(Rd.of (bg (.sl T) y)).bind fun xs=>
   .ite (0≤lo.getD 0∧lo.getD 0≤hi.getD (xs.length:Int)∧hi.getD (xs.length:Int)≤mx.getD (xs.length:Int)∧mx.getD (xs.length:Int)≤(xs.length:Int))
    (.ok (.v (.sl T) ((xs.drop (lo.getD 0).toNat).take ((hi.getD (xs.length:Int)).toNat - (lo.getD 0).toNat)))) .no
 | .mkSlice e T lim l c=>(kz l).bind fun m=>(kz c).bind fun n=>if m.1=.i64∧n.1=.i64 then .ite (0≤m.2∧m.2≤n.2∧n.2≤(lim:Int)) (.ok (.own true e T .no (kd m.2.toNat (zero T)))) .no else .no
 | .bQ x=>(zk x).bind fun s=>.ok (.v (.int .i64) (s.length:Int))
 | .aX x=>(dN x).bind fun e=>(yO e).bind fun y=>match y with
   | ⟨.sl _,xs⟩=>.ok (.v (.int .i64) (xs.length:Int))
   | _=>.no
 | .yT m=>.ok (.v (.int .i64) (m:Int))
 | .mm mx x y=>(kz x).bind fun m=>(kz y).bind fun n=>if m.1=n.1 then .ok (.v (.int m.1) (if mx then (if n.2 > m.2 then n.2 else m.2) else (if n.2 < m.2 then n.2 else m.2))) else .no
 | .call f args=>(mX cl args).bind fun es=>(Rd.call cl f es).bind fun res=>Dl args res
 | .nP x args=>(dN x).bind fun e=>match e with
   | .v (.fn A C) g=>(mX cl args).bind fun es=>(Rd.of (tuple A es)).bind fun a=>(Rd.of (g a)).bind fun r=>if cB C then .ok (.v C r) else .no
   | .cP f _ _ caps=>(mX cl args).bind fun es=>(rz caps).bind fun cs=>(Rd.call cl f (es++cs)).bind fun res=>if res.all E.plain then .ok (eH res) else .no
   | _=>.no
 | .extract k j=>(Rd.get k).bind fun e=>.of (RO j e)
 | .qH f A C caps=>(uO caps).bind fun cs=>.ok (.cP f A C cs)
 | _=>.no
def Dx (T:Ty) (z:den T) (s:Nat) (p:Path):E→Rd (List (Nat×E))
 | .loc T0 o x0=>if cB T || (cd o p).pure then (Rd.of (a6 T0 p x0 ⟨T,z⟩)).bind fun x1=>.ok [(s,.loc T0 o x1)] else .no
 | _=>.no
def WL (T:Ty) (z:den T) (s:Nat) (j:Nat) (q:Path):E→Rd (List (Nat×E))
 | .own true e T0 o xs=>.ite (j < xs.length) ((Rd.of (a6 T0 q (xs.getD j (zero T0)) ⟨T,z⟩)).bind fun u=>if o.pure then .ok [(s,.own true e T0 o (xs.set j u))] else .no) .no
 | _=>.no
def Wx (T:Ty) {T':Ty} (xs:List (den T')) (lo hi mx:Option Od):Rd E:=
 (mE lo).bind fun lo=>(mE hi).bind fun hi=>(mE mx).bind fun mx=>(Rd.of (bg (.sl T) ⟨.sl T',xs⟩)).bind fun xs=>
   .ite (0≤lo.getD 0∧lo.getD 0≤hi.getD (xs.length:Int)∧hi.getD (xs.length:Int)≤mx.getD (xs.length:Int)∧mx.getD (xs.length:Int)≤(xs.length:Int))
    (.ok (.v (.sl T) ((xs.drop (lo.getD 0).toNat).take ((hi.getD (xs.length:Int)).toNat - (lo.getD 0).toNat)))) .no
def D1 (d:Option Nat) (k0:Nat) (x:Od):Rd (TV×List (Nat×E)):=
 (dN x).bind fun e=>match e with
  | .v T y=>.ok (⟨T,y⟩,[])
  | .own _ ed T o xs=>match x with
    | .t k=>if (!(k==k0))&&apart d k&&o.pure then .ok (⟨.sl T,xs⟩,[(k,.own false ed T o.bo xs)]) else .no
    | _=>.no
  | _=>.no
def Li (d:Option Nat) (ch:List (Nat×E)) (x:Od):Rd (TV×List (Nat×E)):=
 (dN x).bind fun e=>match e with
  | .v T y=>.ok (⟨T,y⟩,ch)
  | .own _ ed T o xs=>match x with
    | .t k=>if (ch.all fun q=>!(q.1==k))&&apart d k&&o.pure then .ok (⟨.sl T,xs⟩,(k,.own false ed T o.bo xs)::ch) else .no
    | _=>.no
  | _=>.no
def uG (d:Option Nat):(T:Ty)→den T→List (Nat×E)→List (Path×Od)→Rd (den T×List (Nat×E))
 | _,x,ch,[]=>.ok (x,ch)
 | T,x,ch,(p,a)::r=>(Li d ch a).bind fun q=>(Rd.of (a6 T p x q.1)).bind fun y=>uG d T y q.2 r
def Jc:qZ→Option Nat
 | .append _ _ _ (.t k) _=>some k
 | .bU _ (.t k) _=>some k
 | _=>none
def gm (cl:az) (d:Option Nat):qZ→Rd (List (Nat×E))
 | .store T a x=>(qX x).bind fun y=>(Rd.of (bg T y)).bind fun z=>(dN a).bind fun e=>match e with
   | .cT s [] j q=>(Rd.get s).bind fun f=>WL T z s j q f
   | .ptr s p=>(Rd.get s).bind fun f=>Dx T z s p f
   | .loc .. =>match a with | .t k=>Dx T z k [] e | _=>.no
   | _=>.no
 | .kF T x lo hi mx=>(dN x).bind fun e=>match e with
   | .ref s p=>match p with
     | []=>(Rd.get s).bind fun f=>match f with
       | .own _ ed T' o xs=>if o.pure then (Wx T xs (T':=T') lo hi mx).bind fun v=>.ok (one d v++[(s,.own false ed T' o.bo xs)]) else .no
       | _=>.no
     | _=>.no
   | _=>(tX cl d (.kF T x lo hi mx)).bind fun e=>.ok (one d e)
 | .build T parts=>(uG d T (zero T) [] parts).bind fun q=>.ok (one d (.v T q.1)++q.2)
 | .cp x=>(dN x).bind fun e=>match e with
   | .v T y=>.ok (one d (.v T y))
   | .own _ ed T o xs=>match x with
     | .t k=>if o.pure then .ok (one d (.v (.sl T) xs)++[(k,.own false ed T o.bo xs)]) else .no
     | _=>.no
   | _=>.no
 | .append e T lim s x=>match s with
   | .t k0=>(Rd.get k0).bind fun f=>match f with
     | .own wr e' T' o xs=>(D1 d k0 x).bind fun q=>(Rd.of (bg (.sl T) q.1)).bind fun ys=>(Rd.of (bg (.sl T) ⟨.sl T',xs⟩)).bind fun xs=>
       if apart d k0&&o.pure&&(e'==e) then .ite (xs.length+ys.length≤lim) (.ok (one d (.own wr e T .no (xs++ys))++(k0,.dead)::q.2)) .no else .no
     | _=>.no
   | _=>.no
 | .bU f x g=>match x with
   | .t s=>(Rd.get s).bind fun e0=>match e0 with
     | .own true e T .no xs=>(dN g).bind fun c=>match c with
       | .cP fg A C caps=>if apart d s&&!(e==gV) then (BN cl fg A C caps).bind fun ge=>(Rd.call cl f [.bJ,.own true e T .no xs,ge]).bind fun res=>
         (Rd.of (qN res)).bind fun y=>(Rd.of (bg (.sl T) y)).bind fun ys=>.ok (one d (.own true e T .no ys)++[(s,.dead)]) else .no
       | _=>.no
     | _=>.no
   | _=>.no
 | .kX f p args=>(mX cl args).bind fun es=>(s7 args).bind fun _=>(Lh p).bind fun q=>match q.1.2 with
   | []=>(match q.2 with
     | .loc T o x=>if es.all tB&&apart d q.1.1&&o.pure then (Rd.call cl f (.loc T o x::es)).bind fun res=>(Rd.of (C7 T res)).bind fun y=>.ok (one d (eH y.2.2)++[(q.1.1,.loc T y.1 y.2.1)]) else .no
     | _=>.no)
   | _=>.no
 | .uN f args=>(mX cl args).bind fun es=>(Rd.call cl f es).bind fun res=>(Dl args res).bind fun e=>.ok (pH d (one d e))
 | .mv x=>(dN x).bind fun e=>match e with
   | .cI es=>match x,d with
     | .t k,some d=>if k==d then .no else .ok [(d,.cI es),(k,.dead)]
     | _,_=>.no
   | _=>(tX cl d (.mv x)).bind fun e=>.ok (one d e)
 | op=>(tX cl d op).bind fun e=>.ok (one d e)
structure DI where
 ai:AI
 hide:List Nat
 wr:List Nat
 pre:List Nat
 piv:Bool:=false
 safe:List Nat:=[]
def gH (l:List Nat) (L:Nat→E):Nat→E:=fun k=>match l.any (fun j=>j==k) with | true=>.dead | false=>L k
def free (env:Env) (d:Option Nat):Bool:=match d with | some d=>!(look env d).home | none=>true
def nq (i:DI) (env:Env):Bool:=i.safe.all fun s=>env.all fun q=>!leads s q.2
def okW (i:DI) (env:Env) (δ:List (Nat×E)):Bool:=free env i.ai.dst&&(δ.all fun q=>i.wr.any fun k=>k==q.1)&&nq i (δ++env)
def iu (cl:az):List DI→Env→cM R→Option R
 | [],env,K=>K env
 | i::r,env,K=>
   let yes:=fun env'=>(gm cl i.ai.dst i.ai.op).runK (gH i.hide (look env)) fun δ=>match okW i env δ with
    | true=>iu cl r (δ++env') K
    | false=>none
   let nope:=fun env'=>match okW i env (one i.ai.dst .bJ) with
    | true=>iu cl r (one i.ai.dst .bJ++env') K
    | false=>none
   match i.piv with
   | true=>match nq i env with
     | true=>step cl i.ai env fun env'=>match nq i env' with
       | true=>iu cl r env' K
       | false=>none
     | false=>none
   | false=>match i.ai.guard with
     | none=>yes env
     | some (s,pol)=>match gH i.hide (look env) s with
       | .v .bool b=>ad b ((if pol then yes else nope) ((s,.v .bool true)::env)) ((if pol then nope else yes) ((s,.v .bool false)::env))
       | .bJ=>nope env
       | _=>none
inductive AC where
 | skip
 | aa (live:List Nat) (l:List AI)
 | draw (live:List Nat) (l:List DI)
 | seq (a b:AC)
 | cond (c:Od) (x y:AC)
 | block (id:Nat) (b:AC)
 | loop (live:List Nat) (b:AC)
 | out (live:List Nat) (b:AC)
 | exit (id:Nat)
 | ret
inductive Ex where
 | normal | exit (id:Nat) | ret
abbrev KE (R:Type):=Ex→Env→Option R
def iter (live:List Nat) (body:Env→KE R→Option R) (K:KE R):Nat→Env→Option R
 | 0,_=>none
 | m+1,env=>body env fun e env=>match e with
   | .normal=>iter live body K m (aj live env)
   | .exit id=>K (.exit id) env
   | .ret=>K .ret env
def mI (y:Env→Option R) (K:KE R):KE R:=fun e env=>match e with
 | .normal=>y env
 | .exit id=>K (.exit id) env
 | .ret=>K .ret env
def lu (id:Nat) (K:KE R):KE R:=fun e env=>match e with
 | .normal=>K .normal env
 | .exit j=>match fo j id with | .isTrue _=>K .normal env | .isFalse _=>K (.exit j) env
 | .ret=>K .ret env
def exec (cl:az) (N:Nat):AC→Env→KE R→Option R
 | .skip,env,K=>K .normal env
 | .aa live l,env,K=>ops cl l (aj live env) (K .normal)
 | .draw live l,env,K=>iu cl l (aj live env) (K .normal)
 | .seq a b,env,K=>exec cl N a env (mI (fun env=>exec cl N b env K) K)
 | .cond c x y,env,K=>(mY (av env c)).bind fun q=>ad q (exec cl N x env K) (exec cl N y env K)
 | .block id b,env,K=>exec cl N b env (lu id K)
 | .loop live b,env,K=>iter live (fun env K=>exec cl N b env K) K N (aj live env)
 | .out live b,env,K=>exec cl N b env (fun e env=>K e (aj live env))
 | .exit id,env,K=>K (.exit id) env
 | .ret,env,K=>K .ret env
inductive RV where
 | t (k:Nat)
 | cell (k:Nat) (T:Ty)
 | p (k:Nat)
structure FD where
 nargs:Nat
 body:AC
 res:List RV
 lend:Bool:=false
def Dm (env:Env):RV→Option (E×List Nat)
 | .t k=>match look env k with
   | .v T x=>some (.v T x,[])
   | .own wr e T o xs=>if o.pure then some (.own wr e T o xs,[k]) else none
   | .ref s p=>(bc env s p).bind fun h=>if h.o.pure then some (.own h.wr h.e h.T h.o h.xs,[s]) else none
   | _=>none
 | .cell k T=>match look env k with
   | .loc T' o x=>if o.whole then (bg T ⟨T',x⟩).bind fun y=>some (.v T y,if o.pure then [] else [k]) else none
   | _=>none
 | .p k=>match look env k with
   | .v T x=>some (.v T x,[])
   | .own _ _ T o xs=>if o.pure then some (.v (.sl T) xs,[k]) else none
   | .ref s p=>(bc env s p).bind fun h=>if h.o.pure then some (.v (.sl h.T) h.xs,[s]) else none
   | _=>none
def tM (env:Env):List RV→Option (List E×List Nat)
 | []=>some ([],[])
 | r::rs=>(Dm env r).bind fun x=>(tM env rs).bind fun y=>some (x.1::y.1,x.2++y.2)
def distinct:List Nat→Bool
 | []=>true
 | x::r=>!r.any (· ==x)&&distinct r
def E.back:E→Bool
 | .v T _=>ej T
 | .own _ _ T o _=>ej T&&o.pure
 | _=>false
def mG (env:Env) (res:List RV) (ks:List Nat):Option (List E):=(tM env res).bind fun q=>match distinct (ks++q.2)&&q.1.all E.back with | true=>some q.1 | false=>none
def ag (fd:FD):KE (List E):=fun e env=>match e with
 | .exit _=>none
 | _=>match fd.lend with
   | false=>mG env fd.res []
   | true=>match look env 0 with
     | .loc T o x=>(match ej T with | true=>(mG env fd.res [0]).bind fun l=>some (.loc T o x::l) | false=>none)
     | _=>none
def params:Nat→List E→Env
 | _,[]=> []
 | k,e::r=>(k,e)::params (k+1) r
abbrev Table:=FuncId→Option FD
abbrev mO:=FuncId→Option (List E→Option (List E))
def gz:List E→Bool
 | .bJ::_=>true
 | _=>false
def kx:List E→Bool
 | .loc _ _ _::_=>true
 | _=>false
def bD (tb:Table) (pr:mO) (N:Nat):Nat→az
 | 0=>.of fun _ _=>none
 | D+1=>.of fun f args=>match pr f with
   | some p=>p args
   | none=>match gz args with
     | true=>none
     | false=>match tb f with
       | some fd=>match fo args.length fd.nargs with
         | .isTrue _=>(match fd.lend==kx args with
           | true=>exec (bD tb pr N D) N fd.body (params 0 args) (ag fd)
           | false=>none)
         | .isFalse _=>none
       | none=>none
def recC (n:FuncId) (fd:FD) (N:Nat) (base:az):Nat→az
 | 0=>base
 | m+1=>.of fun f es=>match fo f n with
   | .isTrue _=>match gz es with
     | true=>none
     | false=>match fo es.length fd.nargs with
       | .isTrue _=>(match fd.lend==kx es with
         | true=>exec (recC n fd N base m) N fd.body (params 0 es) (ag fd)
         | false=>none)
       | .isFalse _=>none
   | .isFalse _=>base.run f es
end Go.Fw
/- A step, apart from what follows it. -/
namespace Go.Fw
open Go Go.RowKit
theorem XF {α β:Type} (x:Option α) (f g:α→Option β) (h:∀ y,f y=g y):x.bind f=x.bind g:=by cases x<;>simp [h]
set_option maxHeartbeats 1000000
theorem Lp (cl:az) (i:AI) (env:Env) {R:Type} (K:cM R):step cl i env K=(step cl i env (some:cM Env)).bind K:=by
 obtain ⟨d,op,g⟩:=i
 unfold step
 cases op<;>simp only [nG,ar,az.eqn]
 case pick=>congr 1; funext q; cases q<;>rfl
 case dY=>
  split
  ·rename_i s pos _; cases decide (pos < s.length)<;>rfl
  ·rfl
 all_goals first | rfl | skip
 all_goals repeat' first | rfl | (refine XF _ _ _ fun _=>?_) | split | (rw [nG])
 all_goals first | rfl | (simp_all [nG]; done) | skip
end Go.Fw
/- An operation only asks on: the count of what was asked never falls. -/
namespace Go.Fw
open Go Go.RowKit
theorem ast {p:Program} {w w':World} {at_:Addr} {u:TypeId} {k:Addr} {v:Value} {atomic:Bool} {l:List Addr} (h:w.viewStore p at_ u k v atomic=.ok (w',l)):w'.drawn=w.drawn:=by
 unfold World.viewStore at h
 simp only [bind,Except.bind,pure,Except.pure,throw,throwThe,MonadExceptOf.throw] at h
 repeat' (first | (cases h; rfl) | contradiction | split at h)
theorem X3 {p:Program} {w w':World} {a:Addr} {v:Value} {atomic:Bool} {l:List Addr} (h:w.farStore p a v atomic=.ok (w',l)):w'.drawn=w.drawn:=by
 unfold World.farStore at h
 split at h
 ·split at h
  ·rename_i r hr
   cases h
   exact ast hr
  ·cases h
 ·cases h
theorem D4 {α:Type}:∀ (x:Ask α) (w:World),w.drawn≤(w.ask x).2.drawn
 | .done _,_=>cE _
 | .ask what range k,w=>by
   simp only [World.ask]
   split
   ·exact D4 (k 0) w
   ·exact ep (Nat.le_succ _) (D4 (k _) {w with drawn:=w.drawn+1})
theorem alV (w:World) (c:Sys):w.drawn≤(w.sys c).2.drawn:=by
 unfold World.sys
 have h:=D4 (Kernel.perform c w.os) w
 split
 ·exact cE _
 ·rename_i h1
  rw [h1] at h
  exact h
theorem iB {α:Type} {P:Program}:∀ (s:Sem α) (w:World) {v:α} {w':World},s.run P w=.ok v w'→w.drawn≤w'.drawn
 | .pure a,w,_,_,h=>by simp only [Sem.run] at h; cases h; exact cE _
 | .load m a k,w,_,_,h=>by
   simp only [Sem.run] at h
   split at h
   ·exact iB (k _) w h
   ·split at h
    ·exact iB (k _) w h
    ·cases h
 | .store m a v k,w,v0,w',h=>by
   have key:∀ r,(r=match w.cell? a with
     | some _ => if w.frozen? a then Result.halt (.unsupported (.unsafePointer "a write to bytes that a string shares")) w else k.run P (w.setCell a v)
     | none=>match w.farStore P a v (m==Mode.atomic) with
       | .ok (w,_)=>k.run P w
       | .error h=>.halt h w)→r=.ok v0 w'→w.drawn≤w'.drawn:=by
    intro r hr h
    rw [hr] at h
    split at h
    ·split at h
     ·cases h
     ·exact ep (Nat.le_of_eq (by rfl)) (iB k (w.setCell a v) h)
    ·split at h
     ·rename_i hf
      rw [←X3 hf]
      exact iB k _ h
     ·cases h
   cases v<;>simp only [Sem.run] at h<;>first | contradiction | exact key _ rfl h
 | .new o k,w,_,_,h=>by simp only [Sem.run] at h; exact iB (k _) {w with heap:=w.heap.push o} h
 | .shape r k,w,_,_,h=>by simp only [Sem.run] at h; exact iB (k _) w h
 | .freeze a n k,w,_,_,h=>by
   simp only [Sem.run] at h
   refine ep ?_ (iB k _ h)
   unfold World.freeze
   split<;>exact cE _
 | .frozen a k,w,_,_,h=>by simp only [Sem.run] at h; exact iB (k _) w h
 | .getObj r k,w,_,_,h=>by
   simp only [Sem.run] at h
   split at h
   ·cases h
   ·exact iB (k _) w h
   ·cases h
 | .setObj r o k,w,_,_,h=>by
   simp only [Sem.run] at h
   split at h
   ·cases h
   ·exact iB k {w with heap:=w.heap.setIfInBounds r o} h
   ·cases h
 | .choose q k,w,_,_,h=>by
   simp only [Sem.run] at h
   split at h
   ·exact iB (k 0) w h
   ·exact ep (Nat.le_succ _) (iB (k _) {w with drawn:=w.drawn+1} h)
 | .sys c k,w,_,_,h=>by simp only [Sem.run] at h; exact ep (alV w c) (iB (k _) _ h)
 | .program k,w,_,_,h=>by simp only [Sem.run] at h; exact iB (k _) w h
 | .mark _ k,w,_,_,h=>by simp only [Sem.run] at h; exact iB k w h
 | .halt h,w,_,_,h'=>by simp only [Sem.run] at h'; cases h'
end Go.Fw
/- Soundness: an operation whose order is open does what 'step' does. -/
namespace Go.Fw
open Go Go.RowKit
theorem Rd.run_bind {α β:Type} (a:Rd α) (f:α→Rd β) (L:Nat→E):(a.bind f).run L=(a.run L).bind fun x=>(f x).run L:=rfl
theorem Rd.lb {α:Type} (x:α) (L:Nat→E):(Rd.ok x).run L=some x:=rfl
theorem Rd.aY {α:Type} (L:Nat→E):(Rd.no:Rd α).run L=none:=rfl
theorem Rd.ea {α:Type} (x:Option α) (L:Nat→E):(Rd.of x).run L=x:=rfl
theorem Rd.run_get (k:Nat) (L:Nat→E):(Rd.get k).run L=Rd.kE (L k):=rfl
theorem Rd.c7 {α:Type} {p:Prop} [Decidable p] (a b:Rd α) (L:Nat→E):(if p then a else b).run L=if p then a.run L else b.run L:=by split<;>rfl
theorem Rd.run_ite {α:Type} {p:Prop} [Decidable p] (a b:Rd α) (L:Nat→E):(Rd.ite p a b).run L=if p then a.run L else b.run L:=rfl
theorem Rd.aks {α:Type} (q:Bool) (a b:Rd α) (L:Nat→E):(Rd.br q a b).run L=ad q (a.run L) (b.run L):=rfl
theorem Rd.za (cl:az) (f:FuncId) (es:List E) (L:Nat→E):(Rd.call cl f es).run L=cl f es:=rfl
theorem ati {e f:E}:Rd.kE e=some f↔e=f∧e≠.dead:=by
 cases e<;>simp [Rd.kE]
theorem c6 {β:Type} {e:E} {f:E→Option β} {y:β}:(Rd.kE e).bind f=some y→f e=some y:=by
 cases e<;>simp [Rd.kE]
section
variable {cl:az} {env:Env} {R:Type}
theorem mz (x:Od):(kz x).run (look env)=ky (av env x):=by
 unfold kz; rw [Rd.run_bind,dU]; cases av env x<;>rfl
theorem XJ (x:Od):(D8 x).run (look env)=mY (av env x):=by
 unfold D8; rw [Rd.run_bind,dU]; cases av env x<;>rfl
theorem Lr (x:Od):(zk x).run (look env)=mK (av env x):=by
 unfold zk; rw [Rd.run_bind,dU]; cases av env x<;>rfl
theorem zq (x:Od):(qX x).run (look env)=zp (av env x):=by
 unfold qX; rw [Rd.run_bind,dU]; cases av env x<;>rfl
theorem C1 {e:E} {q:IntKind×Int} (h:ky e=some q):e=.v (.int q.1) q.2:=by
 unfold ky at h
 split at h
 ·cases h; rfl
 ·simp at h
theorem oH (x:Option Od):(mE x).run (look env)=mD env x:=by
 cases x with
 | none=>rfl
 | some x=>unfold mE mD; rw [Rd.run_bind,mz]; rfl
theorem aeH {x:Od} {e:E} (h:(KY x).run (look env)=some e):av env x=e∧e.oy=true:=by
 unfold KY at h
 rw [Rd.run_bind,dU] at h
 have h:=c6 h
 simp only [Rd.c7,Rd.lb,Rd.aY] at h
 split at h
 ·rename_i hl; cases h; exact ⟨rfl,hl⟩
 ·simp at h
theorem Rg {x:Od} {e:E} (h:(uT x).run (look env)=some e):fB x (av env x)=e∧∀ es,av env x≠.cI es:=by
 unfold uT at h
 rw [Rd.run_bind,dU] at h
 have h:=c6 h
 cases he:av env x<;>rw [he] at h<;>simp only [Rf] at h<;>first | (exfalso; simp [Rd.aY] at h; done) | skip
 all_goals first
  | (simp only [Rd.lb,aw] at h; subst h; exact ⟨rfl,by simp⟩)
  | (cases x<;>simp only [Rd.lb,Rd.aY,aw] at h<;>first | (subst h; exact ⟨rfl,by simp⟩) | (exfalso; simp at h; done))
theorem W2 {e:E} {y:TV} (h:zp e=some y):e=.v y.1 y.2:=by
 cases e<;>simp [zp] at h
 subst h; rfl
theorem yX {x:Od} {y:TV} (h:zp (av env x)=some y):dZ env x=some (env,y):=by
 have:=W2 h
 simp only [dZ,this,cZ,ar,fD]
theorem ahI {x:Od} {q:(Nat×Path)×E} (h:(Lh x).run (look env)=some q):eB env x=some q.1∧look env q.1.1=q.2:=by
 unfold Lh at h
 rw [Rd.run_bind,dU] at h
 have h:=c6 h
 split at h
 ·rename_i s p he
  rw [Rd.run_bind,Rd.run_get] at h
  have h:=c6 h
  simp only [Rd.lb,aw] at h
  subst h
  exact ⟨by unfold eB; rw [he],rfl⟩
 ·rename_i T o y he
  split at h
  ·rename_i k
   simp only [Rd.lb,aw] at h
   subst h
   exact ⟨by unfold eB; rw [he]; rfl,rfl⟩
  ·simp [Rd.aY] at h
 ·simp [Rd.aY] at h
theorem ry:∀ (l:List Od),(mX cl l).run (look env)=fQ cl env l
 | []=>rfl
 | a::r=>by
   unfold mX fQ
   rw [Rd.run_bind,Rd.run_bind,dU]
   have e2:∀ x:E,(((mX cl r).bind fun y=>Rd.ok (x::y)).run (look env))=(fQ cl env r).bind fun y=>some (x::y):=by
    intro x; rw [Rd.run_bind,ry r]; rfl
   simp only [e2]
   congr 1
   cases he:av env a<;>simp only [Rd.kE,ar,Option.bind_none,Mc]
   case dead=>rfl
   case loc T o x=>rw [Rd.c7]; rfl
   case cP f A C caps=>exact Q8 cl env f A C caps
   all_goals exact Me env _
theorem CZ:∀ (l:List Od),(s7 l).run (look env)=some ()→jr env l=env
 | [],_=>rfl
 | a::r,h=>by
   unfold s7 at h
   rw [Rd.run_bind,dU] at h
   have h:=c6 h
   unfold jr
   split at h
   ·rename_i hn
    rw [hn]
    exact CZ r h
   ·rename_i s hn
    rw [Rd.run_bind,Rd.run_get] at h
    have h:=c6 h
    split at h
    ·rename_i hs
     have:freeze env s=env:=by
      unfold freeze
      cases hl:look env s<;>rw [hl] at hs<;>simp only [WJ] at hs<;>first | contradiction | skip
      simp only [hs]
     simp only [hn,this]
     exact CZ r h
    ·simp [Rd.aY] at h
theorem Wf {args:List Od} {res:List E} {e:E} (h:(Dl args res).run (look env)=some e):e=eH res∧(if res.all E.plain then env else jr env args)=env:=by
 unfold Dl at h
 first | rw [Rd.run_ite] at h | rw [Rd.c7] at h
 split at h
 ·rename_i hp; cases h; exact ⟨rfl,if_pos hp⟩
 ·rename_i hp
  rw [Rd.run_bind] at h
  obtain ⟨_,hy,h⟩:=aq.1 h
  cases h
  exact ⟨rfl,by rw [if_neg hp]; exact CZ args hy⟩
theorem Q0:∀ (l:List Od) (cs:List E),(uO l).run (look env)=some cs→(l.all fun a=>(av env a).cap)=true∧cs=l.map fun a=>fB a (av env a)
 | [],cs,h=>by simp only [uO,Rd.lb,aw] at h; subst h; exact ⟨rfl,rfl⟩
 | a::r,cs,h=>by
   unfold uO at h
   rw [Rd.run_bind,dU] at h
   have h:=c6 h
   first | rw [Rd.run_ite] at h | rw [Rd.c7] at h
   split at h
   ·rename_i hc
    rw [Rd.run_bind] at h
    obtain ⟨y,hy,h⟩:=aq.1 h
    obtain ⟨h1,rfl⟩:=Q0 r y hy
    simp only [Rd.lb,aw] at h
    subst h
    exact ⟨by simp only [List.all_cons,hc,h1,Bool.and_true],rfl⟩
   ·simp [Rd.aY] at h
theorem Ed:∀ (T:Ty) (x:den T) (l:List (Path×Od)) (y:den T),(rE T x l).run (look env)=some y→il T x env l=some (env,y)
 | T,x,[],y,h=>by simp only [rE,Rd.lb,aw] at h; subst h; simp [il]
 | T,x,(p,a)::r,y,h=>by
   unfold rE at h
   rw [Rd.run_bind,zq] at h
   obtain ⟨q,hq,h⟩:=aq.1 h
   rw [Rd.run_bind,Rd.ea] at h
   obtain ⟨z,hz,h⟩:=aq.1 h
   unfold il
   rw [yX hq]
   simp only [ar,hz]
   exact Ed T z r y h
theorem Mm (T:Ty):∀ (l:List Od) (y:List (den T)),(uF T l).run (look env)=some y→nO T env l=some (env,y)
 | [],y,h=>by simp only [uF,Rd.lb,aw] at h; subst h; simp [nO]
 | a::r,y,h=>by
   unfold uF at h
   rw [Rd.run_bind,zq] at h
   obtain ⟨q,hq,h⟩:=aq.1 h
   rw [Rd.run_bind,Rd.ea] at h
   obtain ⟨z,hz,h⟩:=aq.1 h
   rw [Rd.run_bind] at h
   obtain ⟨u,hu,h⟩:=aq.1 h
   simp only [Rd.lb,aw] at h
   subst h
   unfold nO
   rw [yX hq]
   simp only [ar,hz]
   rw [Mm T r u hu]
   rfl
theorem Vp {x:Od} {e:E} (h:e.oy=true):fB x e=e:=by
 cases e<;>first | rfl | (exfalso; simp [E.oy] at h; done)
theorem Vq {T:Ty} {a:Od} {d:Option Nat} {g:Option (Nat×Bool)} {s:Nat} {p:Path} {e:E} {K:cM R} (h0:eB env a=some (s,p)) (h:(C8 T s p (look env s)).run (look env)=some e):step cl ⟨d,.load T a,g⟩ env K=K (aM env d e):=by
 have h1:step cl ⟨d,.load T a,g⟩ env K=(match eB env a with
   | some (s,p)=>match look env s with
     | .loc T0 o x=>match cd o p with
       | .own .. =>match aH T0 p x with
         | some ⟨.sl T',_⟩=>if T=.sl T' then K (aM env d (.ref s p)) else none
         | _=>none
       | .mp=>match aH T0 p x with
         | some ⟨.map K' V',_⟩=>if T=.map K' V' then K (aM env d (.ref s p)) else none
         | _=>none
       | b=>if b.whole then (aH T0 p x).bind fun z=>(bg T z).bind fun y=>
          K (aM (if b.pure then env else freeze env s) d (.v T y)) else none
     | _=>none
   | none=>none):=by
  unfold eB at h0
  cases he:av env a<;>rw [he] at h0<;>first | (exfalso; simp at h0; done) | (simp only [step,he]; done) | (simp only [step,he]; rfl)
 rw [h1,h0]
 simp only
 cases hl:look env s<;>rw [hl] at h<;>simp only [C8,Rd.aY] at h<;>first | (exfalso; simp at h; done) | skip
 rename_i T0 o x
 simp only
 cases hb:cd o p<;>rw [hb] at h<;>simp only at h ⊢
 case own wr e' o'=>
  split at h
  ·rename_i T' xs hg
   rw [Rd.c7] at h
   split at h
   ·rename_i h3; cases h; first | (rw [hg]; simp only; rw [if_pos h3]) | rw [if_pos h3]
   ·simp [Rd.aY] at h
  ·simp [Rd.aY] at h
 case mp=>
  split at h
  ·rename_i K' V' xs hg
   rw [Rd.c7] at h
   split at h
   ·rename_i h3; cases h; first | (rw [hg]; simp only; rw [if_pos h3]) | rw [if_pos h3]
   ·simp [Rd.aY] at h
  ·simp [Rd.aY] at h
 all_goals
  rw [Rd.c7] at h
  split at h
  ·rename_i hw
   simp only [au] at hw
   rw [Rd.run_bind,Rd.ea] at h
   obtain ⟨y,hy,h⟩:=aq.1 h
   obtain ⟨z,hz,hy⟩:=aq.1 hy
   cases h
   simp only [hw.1,hw.2,if_true,hz,hy,ar]
  ·simp [Rd.aY] at h
section
variable {i:AI} {e:E} {K:cM R}
theorem ath {d:Option Nat} {x:Od} (h1:av env x=e) (h2:e.oy=true):oB env d x=aM env d e:=by
 unfold oB
 rw [h1]
 have h3:=Vp (x:=x) h2
 cases e<;>simp_all [E.oy]
theorem XA {d:Nat} {x:Od} (h1:av env x=e) (h2:e.oy=true):assign env d x=put env d e:=by
 unfold assign
 rw [h1]
 have h3:=Vp (x:=x) h2
 cases e<;>simp_all [E.oy]
theorem asr (h:(tX cl i.dst i.op).run (look env)=some e):step cl i env K=K (aM env i.dst e):=by
 obtain ⟨d,op,g⟩:=i
 cases op<;>simp only [tX] at h ⊢
 case mv x=>
  obtain ⟨h1,h2⟩:=Rg h
  have:oB env d x=aM env d e:=by
   unfold oB
   split
   ·rename_i es he; exact absurd he (h2 es)
   ·rw [h1]
  simp only [step,this]
 case jF x=>
  rw [Rd.run_bind,dU] at h
  have h:=c6 h
  simp only [step]
  split at h
  ·rename_i he; cases h; rw [he]; rfl
  ·rename_i he; cases h; rw [he]; rfl
  ·rename_i he; cases h; rw [he]; rfl
  ·rename_i he
   split at h
   ·cases h; rw [he]; rfl
   ·simp [Rd.aY] at h
  ·simp [Rd.aY] at h
 case ab x=>
  first | rw [Rd.run_ite] at h | rw [Rd.c7] at h
  split at h
  ·obtain ⟨h1,h2⟩:=aeH h
   cases d with
   | none=>simp at *
   | some d=>simp only [step,XA h1 h2]; rfl
  ·simp [Rd.aY] at h
 case pick c a b=>
  rw [Rd.run_bind,XJ] at h
  obtain ⟨q,hq,h⟩:=aq.1 h
  simp only [step,hq,ar]
  rw [Rd.aks] at h
  cases q<;>(simp only [ad] at h ⊢; obtain ⟨h1,h2⟩:=Rg h; rw [h1])
 case alloc T o=>cases h; rfl
 case box T x=>
  rw [Rd.run_bind,zq] at h
  obtain ⟨q,hq,h⟩:=aq.1 h
  rw [Rd.run_bind,Rd.ea] at h
  obtain ⟨y,hy,h⟩:=aq.1 h
  cases h
  simp only [step,yX hq,ar,hy]
 case build T parts=>
  rw [Rd.run_bind] at h
  obtain ⟨y,hy,h⟩:=aq.1 h
  cases h
  simp only [step,Ed _ _ _ _ hy,ar]
 case kh T o parts=>
  rw [Rd.run_bind] at h
  obtain ⟨y,hy,h⟩:=aq.1 h
  cases h
  simp only [step,Ed _ _ _ _ hy,ar]
 case buildSlice ed T parts=>
  rw [Rd.run_bind] at h
  obtain ⟨y,hy,h⟩:=aq.1 h
  cases h
  simp only [step,Mm _ _ _ hy,ar]
 case load T a=>
  rw [Rd.run_bind,dU] at h
  have h:=c6 h
  split at h
  ·rename_i T' x he
   rw [Rd.run_bind,Rd.ea] at h
   obtain ⟨y,hy,h⟩:=aq.1 h
   cases h
   simp only [step,he,hy,ar]
  ·rename_i s p j q he
   rw [Rd.run_bind,s6] at h
   obtain ⟨hh,hhe,h⟩:=aq.1 h
   simp only [step,he,hhe,ar]
   simp only [Vr,Rd.run_ite] at h
   split at h
   ·rename_i h1
    rw [Rd.c7] at h
    split at h
    ·rename_i h2
     rw [Rd.run_bind,Rd.ea] at h
     obtain ⟨y,hy,h⟩:=aq.1 h
     obtain ⟨z,hz,hy⟩:=aq.1 hy
     cases h
     simp only [h1,h2,hz,hy,ar,if_true]
    ·simp [Rd.aY] at h
   ·simp [Rd.aY] at h
  ·rename_i s p he
   rw [Rd.run_bind,Rd.run_get] at h
   exact Vq (by simp only [eB,he]) (c6 h)
  ·rename_i T0 o x he
   split at h
   ·rename_i k _
    have hl:look env k=.loc T0 o x:=he
    rw [he,←hl] at h
    exact Vq (by simp only [eB,he,Od.slot,oV]) h
   ·simp [Rd.aY] at h
  ·simp [Rd.aY] at h
 case bin op x y=>
  rw [Rd.run_bind,dU] at h
  have h:=c6 h
  rw [Rd.run_bind,dU] at h
  have h:=c6 h
  unfold Mk at h
  split at h
  ·rename_i k m k' n hx hy
   rw [Rd.c7] at h
   split at h
   ·rename_i hk
    simp only [step,hx,hy,if_pos hk]
    cases op
    case quo=>
     simp only [Rd.run_ite] at h ⊢
     split at h
     ·simp [Rd.aY] at h
     ·rename_i h0; cases h; rw [if_neg h0]
    case rem=>
     simp only [Rd.run_ite] at h ⊢
     split at h
     ·simp [Rd.aY] at h
     ·rename_i h0; cases h; rw [if_neg h0]
    all_goals
     simp only at h ⊢
     split at h
     ·rename_i b hb; cases h; first | rfl | (rw [hb])
     ·rename_i hb
      split at h
      ·rename_i r hr
       cases h
       first | (rw [hb]; simp only [hr,ar]; done) | (simp only [hr,ar]; done)
      ·simp [Rd.aY] at h
   ·simp [Rd.aY] at h
  ·rename_i s t hx hy
   simp only [step,hx,hy]
   cases op<;>simp only at h ⊢<;>first | (simp [Rd.aY] at h; done) | (cases h; rfl) | skip
   rw [Rd.run_ite] at h
   split at h
   ·rename_i h0; cases h; rw [if_pos h0]
   ·simp [Rd.aY] at h
  ·simp [Rd.aY] at h
 case ni neg T x y=>
  rw [Rd.run_bind,dU] at h
  have h:=c6 h
  rw [Rd.run_bind,dU] at h
  have h:=c6 h
  rw [Rd.run_bind,C0] at h
  obtain ⟨s,hs,h⟩:=aq.1 h
  rw [Rd.run_bind,C0] at h
  obtain ⟨t,ht,h⟩:=aq.1 h
  rw [Rd.run_bind,Rd.ea] at h
  obtain ⟨s',hs',h⟩:=aq.1 h
  rw [Rd.run_bind,Rd.ea] at h
  obtain ⟨t',ht',h⟩:=aq.1 h
  rw [Rd.run_bind,Rd.ea] at h
  obtain ⟨f,hf,h⟩:=aq.1 h
  cases h
  simp only [step,hs,ht,hs',ht',hf,ar]
 case shift l x y=>
  rw [Rd.run_bind,dU] at h
  have h:=c6 h
  rw [Rd.run_bind,dU] at h
  have h:=c6 h
  split at h
  ·rename_i k m k' n hx hy
   rw [Rd.run_ite] at h
   split at h
   ·rename_i hn; cases h; simp only [step,hx,hy,if_pos hn]
   ·simp [Rd.aY] at h
  ·simp [Rd.aY] at h
 case un op x=>
  rw [Rd.run_bind,dU] at h
  have h:=c6 h
  rw [Rd.ea] at h
  unfold WS at h
  split at h
  ·rename_i hx _; cases h; simp only [step,hx]
  ·rename_i hx _; cases h; simp only [step,hx]
  ·simp at h
 case kN k x=>
  rw [Rd.run_bind,mz] at h
  obtain ⟨q,hq,h⟩:=aq.1 h
  cases h
  simp only [step,hq,ar]
 case fieldAddr S p a=>
  rw [Rd.run_bind,dU] at h
  have h:=c6 h
  split at h
  ·rename_i T x he
   rw [Rd.run_bind,Rd.ea] at h
   obtain ⟨x',hx',h⟩:=aq.1 h
   rw [Rd.run_bind,Rd.ea] at h
   obtain ⟨y,hy,h⟩:=aq.1 h
   cases h
   simp only [step,he,hx',hy,ar]
  ·rename_i s q he
   rw [Rd.run_bind,Rd.run_get] at h
   have h:=c6 h
   rw [Rd.ea] at h
   unfold RT at h
   split at h
   ·rename_i T0 o x hl
    split at h
    ·rename_i h1; cases h; simp only [step,he,hl,if_pos h1]
    ·simp at h
   ·simp at h
  ·rename_i s q j r he
   rw [Rd.run_bind,s6] at h
   obtain ⟨hh,hhe,h⟩:=aq.1 h
   first | rw [Rd.run_ite] at h | rw [Rd.c7] at h
   split at h
   ·rename_i h1; cases h; simp only [step,he,hhe,ar,if_pos h1]
   ·simp [Rd.aY] at h
  ·rename_i T0 o x he
   first | rw [Rd.run_ite] at h | rw [Rd.c7] at h
   split at h
   ·rename_i h1
    split at h
    ·cases h; simp only [step,he,if_pos h1,Od.slot,ar]
    ·simp [Rd.aY] at h
   ·simp [Rd.aY] at h
  ·simp [Rd.aY] at h
 case indexAddr T x ix=>
  rw [Rd.run_bind,mz] at h
  obtain ⟨q,hq,h⟩:=aq.1 h
  rw [Rd.run_bind,dU] at h
  have h:=c6 h
  split at h
  ·rename_i T' xs he
   rw [Rd.run_bind,Rd.ea] at h
   obtain ⟨y,hy,h⟩:=aq.1 h
   first | rw [Rd.run_ite] at h | rw [Rd.c7] at h
   split at h
   ·rename_i h1; cases h; simp only [step,hq,he,hy,ar,if_pos h1]
   ·simp [Rd.aY] at h
  ·rename_i wr ed T' o xs he
   first | rw [Rd.run_ite] at h | rw [Rd.c7] at h
   split at h
   ·rename_i h0
    split at h
    ·first | rw [Rd.run_ite] at h | rw [Rd.c7] at h
     split at h
     ·rename_i h1; cases h; simp only [step,hq,he,ar,if_pos h1,if_pos h0,Od.slot]
     ·simp [Rd.aY] at h
    ·simp [Rd.aY] at h
   ·simp [Rd.aY] at h
  ·rename_i s p he
   rw [Rd.run_bind,s6] at h
   obtain ⟨hh,hhe,h⟩:=aq.1 h
   first | rw [Rd.run_ite] at h | rw [Rd.c7] at h
   split at h
   ·rename_i h0
    first | rw [Rd.run_ite] at h | rw [Rd.c7] at h
    split at h
    ·rename_i h1; cases h; simp only [step,hq,he,hhe,ar,if_pos h1,if_pos h0]
    ·simp [Rd.aY] at h
   ·simp [Rd.aY] at h
  ·simp [Rd.aY] at h
 case yR n T x ix=>
  rw [Rd.run_bind,mz] at h
  obtain ⟨q,hq,h⟩:=aq.1 h
  rw [Rd.run_bind,dU] at h
  have h:=c6 h
  split at h
  ·rename_i T' xs he
   rw [Rd.run_bind,Rd.ea] at h
   obtain ⟨y,hy,h⟩:=aq.1 h
   first | rw [Rd.run_ite] at h | rw [Rd.c7] at h
   split at h
   ·rename_i h1; cases h; simp only [step,hq,he,hy,ar,if_pos h1]
   ·simp [Rd.aY] at h
  ·rename_i s p he
   rw [Rd.run_bind,Rd.run_get] at h
   have h:=c6 h
   unfold z7 at h
   split at h
   ·rename_i T0 o x hl
    rw [Rd.c7] at h
    split at h
    ·rename_i h0
     rw [Rd.run_ite] at h
     split at h
     ·rename_i h1; cases h; simp only [step,hq,he,ar,eB,hl,if_pos h0,if_pos h1]
     ·simp [Rd.aY] at h
    ·simp [Rd.aY] at h
   ·simp [Rd.aY] at h
  ·rename_i T0 o x he
   split at h
   ·rename_i k _ _
    have hl:look env k=.loc T0 o x:=he
    rw [he] at h
    simp only [z7] at h
    rw [Rd.c7] at h
    split at h
    ·rename_i h0
     rw [Rd.run_ite] at h
     split at h
     ·rename_i h1; cases h; simp only [step,hq,he,ar,eB,Od.slot,oV,hl,if_pos h0,if_pos h1]
     ·simp [Rd.aY] at h
    ·simp [Rd.aY] at h
   ·simp [Rd.aY] at h
  ·simp [Rd.aY] at h
 case field S p x=>
  rw [Rd.run_bind,dU] at h
  have h:=c6 h
  rw [Rd.run_bind,C0] at h
  obtain ⟨s,hs,h⟩:=aq.1 h
  rw [Rd.run_bind,Rd.ea] at h
  obtain ⟨y,hy,h⟩:=aq.1 h
  rw [Rd.run_bind,Rd.ea] at h
  obtain ⟨z,hz,h⟩:=aq.1 h
  cases h
  simp only [step,hs,hy,hz,ar]
 case dV x ix=>
  rw [Rd.run_bind,mz] at h
  obtain ⟨q,hq,h⟩:=aq.1 h
  rw [Rd.run_bind,Lr] at h
  obtain ⟨s,hs,h⟩:=aq.1 h
  first | rw [Rd.run_ite] at h | rw [Rd.c7] at h
  split at h
  ·rename_i h1; cases h; simp only [step,hq,hs,ar,if_pos h1]
  ·simp [Rd.aY] at h
 case yQ n T x ix=>
  rw [Rd.run_bind,mz] at h
  obtain ⟨q,hq,h⟩:=aq.1 h
  rw [Rd.run_bind,dU] at h
  have h:=c6 h
  split at h
  ·rename_i T' xs he
   rw [Rd.run_bind,Rd.ea] at h
   obtain ⟨y,hy,h⟩:=aq.1 h
   first | rw [Rd.run_ite] at h | rw [Rd.c7] at h
   split at h
   ·rename_i h1; cases h; simp only [step,hq,he,hy,ar,if_pos h1]
   ·simp [Rd.aY] at h
  ·simp [Rd.aY] at h
 case jL x lo hi=>
  rw [Rd.run_bind,oH] at h
  obtain ⟨l,hl,h⟩:=aq.1 h
  rw [Rd.run_bind,oH] at h
  obtain ⟨u,hu,h⟩:=aq.1 h
  rw [Rd.run_bind,Lr] at h
  obtain ⟨s,hs,h⟩:=aq.1 h
  first | rw [Rd.run_ite] at h | rw [Rd.c7] at h
  split at h
  ·rename_i h1; cases h; simp only [step,hl,hu,hs,ar,if_pos h1]
  ·simp [Rd.aY] at h
 case kF T x lo hi mx=>
  rw [Rd.run_bind,oH] at h
  obtain ⟨l,hl,h⟩:=aq.1 h
  rw [Rd.run_bind,oH] at h
  obtain ⟨u,hu,h⟩:=aq.1 h
  rw [Rd.run_bind,oH] at h
  obtain ⟨m,hm,h⟩:=aq.1 h
  rw [Rd.run_bind,zq] at h
  obtain ⟨y,hy,h⟩:=aq.1 h
  rw [Rd.run_bind,Rd.ea] at h
  obtain ⟨xs,hxs,h⟩:=aq.1 h
  first | rw [Rd.run_ite] at h | rw [Rd.c7] at h
  split at h
  ·rename_i h1; cases h; simp only [step,hl,hu,hm,yX hy,hxs,ar,if_pos h1]
  ·simp [Rd.aY] at h
 case mkSlice ed T lim l c=>
  rw [Rd.run_bind,mz] at h
  obtain ⟨m,hm,h⟩:=aq.1 h
  rw [Rd.run_bind,mz] at h
  obtain ⟨n,hn,h⟩:=aq.1 h
  first | rw [Rd.run_ite] at h | rw [Rd.c7] at h
  split at h
  ·rename_i h1
   first | rw [Rd.run_ite] at h | rw [Rd.c7] at h
   split at h
   ·rename_i h2; cases h
    obtain ⟨m1,m2⟩:=m
    obtain ⟨n1,n2⟩:=n
    simp only at h1 h2
    obtain ⟨rfl,rfl⟩:=h1
    simp only [step,C1 hm,C1 hn,if_pos h2]
   ·simp [Rd.aY] at h
  ·simp [Rd.aY] at h
 case bQ x=>
  rw [Rd.run_bind,Lr] at h
  obtain ⟨s,hs,h⟩:=aq.1 h
  cases h
  simp only [step,hs,ar]
 case aX x=>
  rw [Rd.run_bind,dU] at h
  have h:=c6 h
  rw [Rd.run_bind,C0] at h
  obtain ⟨s,hs,h⟩:=aq.1 h
  simp only [step,hs,ar]
  split at h
  ·cases h; rfl
  ·simp [Rd.aY] at h
 case yT m=>cases h; rfl
 case mm mx x y=>
  rw [Rd.run_bind,mz] at h
  obtain ⟨m,hm,h⟩:=aq.1 h
  rw [Rd.run_bind,mz] at h
  obtain ⟨n,hn,h⟩:=aq.1 h
  first | rw [Rd.run_ite] at h | rw [Rd.c7] at h
  split at h
  ·rename_i h1
   cases h
   simp only [step,C1 hm,C1 hn,if_pos h1]
  ·simp [Rd.aY] at h
 case call f args=>
  rw [Rd.run_bind,ry] at h
  obtain ⟨es,hes,h⟩:=aq.1 h
  rw [Rd.run_bind,Rd.za] at h
  obtain ⟨res,hres,h⟩:=aq.1 h
  obtain ⟨rfl,h2⟩:=Wf h
  simp only [step,az.eqn,hes,hres,ar,h2]
 case nP x args=>
  rw [Rd.run_bind,dU] at h
  have h:=c6 h
  split at h
  ·rename_i A C g' he
   rw [Rd.run_bind,ry] at h
   obtain ⟨es,hes,h⟩:=aq.1 h
   rw [Rd.run_bind,Rd.ea] at h
   obtain ⟨a,ha,h⟩:=aq.1 h
   rw [Rd.run_bind,Rd.ea] at h
   obtain ⟨r,hr,h⟩:=aq.1 h
   first | rw [Rd.run_ite] at h | rw [Rd.c7] at h
   split at h
   ·rename_i h1; cases h; simp only [step,he,hes,ha,hr,ar,if_pos h1]
   ·simp [Rd.aY] at h
  ·rename_i f A C caps he
   rw [Rd.run_bind,ry] at h
   obtain ⟨es,hes,h⟩:=aq.1 h
   rw [Rd.run_bind,D3] at h
   obtain ⟨cs,hcs,h⟩:=aq.1 h
   rw [Rd.run_bind,Rd.za] at h
   obtain ⟨res,hres,h⟩:=aq.1 h
   first | rw [Rd.run_ite] at h | rw [Rd.c7] at h
   split at h
   ·rename_i h1; cases h; simp only [step,az.eqn,he,hes,hcs,hres,ar,if_pos h1]
   ·simp [Rd.aY] at h
  ·simp [Rd.aY] at h
 case extract k j=>
  rw [Rd.run_bind,Rd.run_get] at h
  have h:=c6 h
  rw [Rd.ea] at h
  unfold RO at h
  split at h
  ·rename_i es hk
   split at h
   ·rename_i T x hj; cases h; simp only [step,hk,hj]
   ·rename_i ed T o xs hj
    split at h
    ·rename_i ho; cases h; simp only [step,hk,hj,ho]; rfl
    ·simp at h
   ·simp at h
  ·simp at h
 case qH f A C caps=>
  rw [Rd.run_bind] at h
  obtain ⟨cs,hcs,h⟩:=aq.1 h
  cases h
  obtain ⟨h1,rfl⟩:=Q0 _ _ hcs
  simp only [step,if_pos h1]
 all_goals simp [Rd.aY] at h
end
end
end Go.Fw
/- Soundness, part 1: laws on what memory shows of a value. -/
namespace Go.Fw
open Go Go.RowKit
def blocks (ob:OB):List Nat:=ob.map (·.1)
@[simp] theorem Ml:blocks []=[]:=rfl
@[simp] theorem jU (x:Nat×Nat) (l:OB):blocks (x::l)=x.1::blocks l:=rfl
@[simp] theorem eW (a b:OB):blocks (a++b)=blocks a++blocks b:=by simp [blocks]
theorem aL.append {α:Type} {R:α→List Value→OB→Prop}:∀ {xs ys:List α} {v1 v2:List Value} {b1 b2:OB},aL R xs v1 b1→aL R ys v2 b2→aL R (xs++ys) (v1++v2) (b1++b2)
 | [],_,_,_,_,_,h,k=>by obtain ⟨rfl,rfl⟩:=h; exact k
 | x::xs,ys,_,v2,_,b2,h,k=>by
   obtain ⟨u1,u2,c1,c2,rfl,rfl,hr,ht⟩:=h
   exact ⟨u1,u2++v2,c1,c2++b2,by simp,by simp,hr,aL.append ht k⟩
theorem aL.imp {α:Type} {R S:α→List Value→OB→Prop}:∀ {xs:List α} {vs:List Value} {ob:OB},(∀ x v b,(∀ q∈b,q∈ob)→R x v b→S x v b)→aL R xs vs ob→aL S xs vs ob
 | [],_,_,_,h=>h
 | x::xs,_,_,f,h=>by
   obtain ⟨u1,u2,c1,c2,rfl,rfl,hr,ht⟩:=h
   exact ⟨u1,u2,c1,c2,rfl,rfl,f _ _ _ (fun q hq=>gp _ hq) hr,aL.imp (fun x v b hb=>f x v b fun q hq=>iK _ (hb q hq)) ht⟩
theorem aL.length {α:Type} {R:α→List Value→OB→Prop} {n:Nat} (hl:∀ x v b,R x v b→v.length=n):∀ {xs:List α} {vs:List Value} {ob:OB},aL R xs vs ob→vs.length=xs.length * n
 | [],_,_,h=>by obtain ⟨rfl,rfl⟩:=h; simp
 | x::xs,_,_,h=>by
   obtain ⟨u1,u2,c1,c2,rfl,rfl,hr,ht⟩:=h
   rw [cm,hl _ _ _ hr,aL.length hl ht,List.length_cons,Nat.succ_mul]; omega
theorem aL.split {α:Type} {R:α→List Value→OB→Prop} {n:Nat} (hl:∀ x v b,R x v b→v.length=n):∀ {xs:List α} {vs:List Value} {ob:OB} (i:Nat) (d:α),aL R xs vs ob→i < xs.length→
  ∃ v1 v2 v3 b1 b2 b3,vs=v1++v2++v3∧ob=b1++b2++b3∧v1.length=i * n∧R (xs.getD i d) v2 b2∧
    ∀ y u c,R y u c→aL R (xs.set i y) (v1++u++v3) (b1++c++b3)
 | [],_,_,i,_,_,hi=>by simp at hi
 | x::xs,_,_,0,d,h,_=>by
   obtain ⟨u1,u2,c1,c2,rfl,rfl,hr,ht⟩:=h
   exact ⟨[],u1,u2,[],c1,c2,rfl,rfl,by simp,hr,fun y u c hy=>⟨u,u2,c,c2,by simp,by simp,hy,ht⟩⟩
 | x::xs,_,_,i+1,d,h,hi=>by
   obtain ⟨u1,u2,c1,c2,rfl,rfl,hr,ht⟩:=h
   obtain ⟨v1,v2,v3,b1,b2,b3,rfl,rfl,h1,h2,h3⟩:=aL.split hl i d ht (by simpa using hi)
   refine ⟨u1++v1,v2,v3,c1++b1,b2,b3,by simp,by simp,?_,by simpa using h2,?_⟩
   ·rw [cm,h1,hl _ _ _ hr,Nat.succ_mul]; omega
   ·intro y u c hy
    exact ⟨u1,v1++u++v3,c1,b1++c++b3,by simp,by simp,hr,h3 y u c hy⟩
theorem aL.nil {α:Type} {R:α→List Value→OB→Prop}:aL R ([]:List α) [] []:=⟨rfl,rfl⟩
theorem aL.one {α:Type} {R:α→List Value→OB→Prop} {x:α} {v:List Value} {b:OB} (h:R x v b):aL R [x] v b:=⟨v,[],b,[],by simp,by simp,h,rfl,rfl⟩
theorem bV.refl (B:Nat) (w:World):bV B w w:=⟨cE _,fun _ _=>rfl⟩
theorem bV.trans {B:Nat} {a b c:World} (h:bV B a b) (k:bV B b c):bV B a c:=⟨ep h.1 k.1,fun i hi=>(k.2 i hi).trans (h.2 i hi)⟩
theorem Flat.len (P:Program):∀ (T:Ty) {w:World} {G:Nat→Nat→Prop} {B:Nat} {o:ax} {x:den T} {vs:List Value} {ob:OB},Flat P T w G B o x vs ob→vs.length=ay T
 | .int k,_,_,_,_,_,_,_,h=>by unfold Flat at h; rw [h.1]; rfl
 | .bool,_,_,_,_,_,_,_,h=>by unfold Flat at h; rw [h.1]; rfl
 | .str,_,_,_,_,_,_,_,h=>by unfold Flat at h; rw [h.1]; rfl
 | .unit,_,_,_,_,_,_,_,h=>by unfold Flat at h; rw [h.1]; rfl
 | .pair A C,_,_,_,_,_,_,_,h=>by
   unfold Flat at h
   obtain ⟨v1,v2,b1,b2,rfl,rfl,h1,h2⟩:=h
   rw [cm,Flat.len P A h1,Flat.len P C h2]; rfl
 | .arr n T,_,_,_,_,_,_,_,h=>by
   unfold Flat at h
   rw [aL.length (fun x v b hx=>Flat.len P T hx) h.2,h.1]; rfl
 | .sl T,_,_,_,o,_,_,_,h=>by
   cases o<;>unfold Flat at h
   ·obtain ⟨_,A,c,rfl,_⟩:=h; rfl
   ·exact h.1
   ·obtain ⟨v,cells,ob',rfl,_⟩:=h; rfl
   ·obtain ⟨_,A,c,rfl,_⟩:=h; rfl
   ·obtain ⟨_,A,c,rfl,_⟩:=h; rfl
 | .map K V,_,_,_,o,_,_,_,h=>by
   cases o<;>unfold Flat at h
   case mp=>obtain ⟨_,_,b,ents,clk,rfl,_⟩:=h; rfl
   all_goals (obtain ⟨_,r,rfl⟩:=h; rfl)
 | .fn A C,_,_,_,_,_,_,_,h=>by
   unfold Flat at h
   obtain ⟨_,_,f,caps,rfl,_⟩:=h; rfl
theorem eF.imp {α:Type} {R S:α→MapEntry→Prop} (f:∀ x m,R x m→S x m):∀ {xs:List α} {l:List MapEntry},eF R xs l→eF S xs l
 | [],_,h=>h
 | x::xs,_,h=>by
   obtain ⟨m,r,rfl,h1,h2⟩:=h
   exact ⟨m,r,rfl,f x m h1,eF.imp f h2⟩
theorem tN {w:World} {B:Nat} {e:TypeId} {size:Nat} {v:Value} {n:Nat} {cells:List Value} (h:w.ownsRow B e size v n cells):gk w B e size v n cells:=by
 refine ⟨h.1,?_⟩
 rcases h.2 with h | ⟨g,cap,cur,h1,h2,h3,h4,h5,h6,h7⟩
 ·exact .inl h
 ·exact .inr ⟨g,cap,cur,e,(0,0),h1,h2,h3,h4,h5,h6,h7,fun _=>⟨rfl,rfl⟩,.inl rfl⟩
theorem gk.Di {w:World} {B:Nat} {e:TypeId} {size:Nat} {v:Value} {n:Nat} {cells:List Value} (h:gk w B e size v n cells) (he:e≠gV):w.ownsRow B e size v n cells:=by
 refine ⟨h.1,?_⟩
 rcases h.2 with h | ⟨g,cap,cur,e',fz,h1,h2,h3,h4,h5,h6,h7,h8,_⟩
 ·exact .inl h
 ·obtain ⟨rfl,rfl⟩:=h8 he
  exact .inr ⟨g,cap,cur,h1,h2,h3,h4,h5,h6,h7⟩
theorem gk.cells {w:World} {B:Nat} {e:TypeId} {size:Nat} {v:Value} {n:Nat} {xs:List Value} (h:gk w B e size v n xs) {g:Nat} (hg:v.ownBlock=some g):∀ j u,xs[j]?=some u→w.cell? ((⟨g,0,none⟩:Addr).add j)=some u:=by
 intro j u hu
 rcases h.2 with ⟨rfl,_⟩ | ⟨g',cap,cur,e',fz,rfl,_,hgg,_,_,_,htake,_,_⟩
 ·simp [Value.ownBlock] at hg
 ·simp [Value.ownBlock] at hg
  subst hg
  have hadd:(⟨g',0,none⟩:Addr).add j=⟨g',j,none⟩:=by unfold Addr.add; split<;>simp_all
  rw [hadd,cell_of_row w g' j cur e' fz hgg]
  rw [←htake,List.getElem?_take] at hu
  split at hu
  ·simpa using hu
  ·cases hu
theorem ako {w w':World} {B:Nat} {e:TypeId} {size:Nat} {v:Value} {n:Nat} {cells:List Value} (h:gk w B e size v n cells) (hb:∀ g,v.ownBlock=some g→w'.heap[g]?=w.heap[g]?):gk w' B e size v n cells:=by
 refine ⟨h.1,?_⟩
 rcases h.2 with h | ⟨g,cap,cur,e',fz,rfl,h1,h2,h3⟩
 ·exact .inl h
 ·exact .inr ⟨g,cap,cur,e',fz,rfl,h1,by rw [hb g rfl]; exact h2,h3⟩
theorem jY {v:Value} {lim g:Nat} (h:v.ownBlock=some g):(g,lim)∈bN v lim:=by simp [bN,h]
theorem Flat.mono (P:Program):∀ (T:Ty) {w w':World} {G G':Nat→Nat→Prop} {B:Nat} {o:ax} {x:den T} {vs:List Value} {ob:OB},
  (∀ b i,b < w.heap.size→G b i→G' b i∧w'.cell? ⟨b,i,none⟩=w.cell? ⟨b,i,none⟩)→bV B w w'→(∀ g∈blocks ob,w'.heap[g]?=w.heap[g]?)→
  Flat P T w G B o x vs ob→Flat P T w' G' B o x vs ob
 | .int k,_,_,_,_,_,_,_,_,_,_,_,_,h=>by unfold Flat at h ⊢; exact h
 | .bool,_,_,_,_,_,_,_,_,_,_,_,_,h=>by unfold Flat at h ⊢; exact h
 | .str,_,_,_,_,_,_,_,_,_,_,_,_,h=>by unfold Flat at h ⊢; exact h
 | .unit,_,_,_,_,_,_,_,_,_,_,_,_,h=>by unfold Flat at h ⊢; exact h
 | .pair A C,_,_,_,_,_,_,_,_,_,hG,hL,hO,h=>by
   unfold Flat at h ⊢
   obtain ⟨v1,v2,b1,b2,rfl,rfl,h1,h2⟩:=h
   exact ⟨v1,v2,b1,b2,rfl,rfl,Flat.mono P A hG hL (fun g hg=>hO g (by simp [hg])) h1,Flat.mono P C hG hL (fun g hg=>hO g (by simp [hg])) h2⟩
 | .arr n T,_,_,_,_,_,_,_,_,ob,hG,hL,hO,h=>by
   unfold Flat at h ⊢
   exact ⟨h.1,aL.imp (fun x v b hb hx=>Flat.mono P T hG hL (fun g hg=>hO g (by
    obtain ⟨q,hq,rfl⟩:=dd.1 hg
    exact dd.2 ⟨q,hb q hq,rfl⟩)) hx) h.2⟩
 | .sl T,w,w',G,G',B,o,xs,vs,ob,hG,hL,hO,h=>by
   have cZ:∀ {ob:OB},(ob=[]∧∃ A c,vs=[.slice A xs.length c]∧xs.length≤c∧c≤maxLen∧
    (xs=[]∨∃ b off cells,A=some ⟨b,off,none⟩∧aL (Flat P T w G B .no) xs cells []∧∀ j v,cells[j]?=some v→w.cell? ⟨b,off+j,none⟩=some v∧G b (off+j)))→
    (ob=[]∧∃ A c,vs=[.slice A xs.length c]∧xs.length≤c∧c≤maxLen∧
    (xs=[]∨∃ b off cells,A=some ⟨b,off,none⟩∧aL (Flat P T w' G' B .no) xs cells []∧∀ j v,cells[j]?=some v→w'.cell? ⟨b,off+j,none⟩=some v∧G' b (off+j))):=by
    rintro ob ⟨h0,A,c,h1,h2,h3,h4⟩
    refine ⟨h0,A,c,h1,h2,h3,?_⟩
    rcases h4 with h4 | ⟨b,off,cells,h5,h6,h7⟩
    ·exact .inl h4
    ·refine .inr ⟨b,off,cells,h5,aL.imp (fun x v b' hb hx=>Flat.mono P T hG hL (fun g hg=>?_) hx) h6,fun j v hj=>?_⟩
     ·obtain ⟨q,hq,rfl⟩:=dd.1 hg
      exact absurd (hb q hq) (by simp)
     ·have hc:=h7 j v hj
      have hlt:b < w.heap.size:=World.block_lt_of_cell? w _ hc.1
      have hg:=hG b (off+j) hlt hc.2
      exact ⟨hg.2.trans hc.1,hg.1⟩
   cases o with
   | no=>unfold Flat at h ⊢; exact cZ h
   | hole=>unfold Flat at h ⊢; exact h
   | pair a b=>unfold Flat at h ⊢; exact cZ h
   | mp=>unfold Flat at h ⊢; exact cZ h
   | own wr e o=>
     unfold Flat at h ⊢
     obtain ⟨v,cells,ob',h1,h2,h3,rfl⟩:=h
     refine ⟨v,cells,ob',h1,ako h2 (fun g hg=>hO g ?_),aL.imp (fun x v b hb hx=>Flat.mono P T hG hL (fun g hg=>hO g ?_) hx) h3,rfl⟩
     ·rw [eW]; exact gp _ (dd.2 ⟨_,jY hg,rfl⟩)
     ·obtain ⟨q,hq,rfl⟩:=dd.1 hg
      rw [eW]; exact iK _ (dd.2 ⟨q,hb q hq,rfl⟩)
 | .map K V,w,w',G,G',B,o,xs,vs,ob,hG,hL,hO,h=>by
   cases o with
   | mp=>
     unfold Flat at h ⊢
     obtain ⟨h1,h2,b,ents,clk,h3,h4,h5,rfl,h6⟩:=h
     refine ⟨h1,h2,b,ents,clk,h3,h4,by rw [hO b (by simp [blocks])]; exact h5,rfl,eF.imp (fun x m=>?_) h6⟩
     rintro ⟨ks,us,k1,k2,k3⟩
     exact ⟨ks,us,Flat.mono P K hG hL (by simp [blocks]) k1,Flat.mono P V hG hL (by simp [blocks]) k2,k3⟩
   | no | hole | pair | own=>unfold Flat at h ⊢; exact h
 | .fn A C,w,w',G,G',B,_,_,_,_,hG,hL,hO,h=>by
   unfold Flat at h ⊢
   obtain ⟨h0,hs,f,caps,h1,h2⟩:=h
   exact ⟨h0,hs,f,caps,h1,fun w'' G'' x vals hl=>h2 w'' G'' x vals (hL.trans hl)⟩
theorem ax.tK {o:ax} (h:o.pure=true):o.l.pure=true:=by cases o<;>simp_all [ax.pure,ax.l]
theorem ax.tL {o:ax} (h:o.pure=true):o.r.pure=true:=by cases o<;>simp_all [ax.pure,ax.r]
theorem Flat.pure (P:Program):∀ (T:Ty) {w:World} {G:Nat→Nat→Prop} {B:Nat} {o o':ax} {x:den T} {vs:List Value} {ob:OB},o.pure=true→o'.pure=true→Flat P T w G B o x vs ob→ob=[]∧Flat P T w G B o' x vs []
 | .int k,_,_,_,_,_,_,_,_,_,_,h=>by unfold Flat at h ⊢; exact ⟨h.2.2,h.1,h.2.1,rfl⟩
 | .bool,_,_,_,_,_,_,_,_,_,_,h=>by unfold Flat at h ⊢; exact ⟨h.2,h.1,rfl⟩
 | .str,_,_,_,_,_,_,_,_,_,_,h=>by unfold Flat at h ⊢; exact ⟨h.2.2,h.1,h.2.1,rfl⟩
 | .unit,_,_,_,_,_,_,_,_,_,_,h=>by unfold Flat at h ⊢; exact ⟨h.2,h.1,rfl⟩
 | .pair A C,_,_,_,_,_,_,_,_,ho,ho',h=>by
   unfold Flat at h ⊢
   obtain ⟨v1,v2,b1,b2,rfl,rfl,h1,h2⟩:=h
   obtain ⟨e1,k1⟩:=Flat.pure P A (ax.tK ho) (ax.tK ho') h1
   obtain ⟨e2,k2⟩:=Flat.pure P C (ax.tL ho) (ax.tL ho') h2
   exact ⟨by rw [e1,e2]; rfl,v1,v2,[],[],rfl,rfl,k1,k2⟩
 | .arr n T,w,G,B,_,_,_,_,_,ho,_,h=>by
   unfold Flat at h ⊢
   have key:∀ {xs:List (den T)} {vs:List Value} {ob:OB},aL (Flat P T w G B .no) xs vs ob→ob=[]∧aL (Flat P T w G B .no) xs vs []:=by
    intro xs
    induction xs with
    | nil=>rintro vs ob ⟨rfl,rfl⟩; exact ⟨rfl,rfl,rfl⟩
    | cons x xs ih=>
      rintro vs ob ⟨u1,u2,c1,c2,rfl,rfl,hr,ht⟩
      obtain ⟨rfl,hr⟩:=Flat.pure P T (o:=.no) (o':=.no) rfl rfl hr
      obtain ⟨rfl,ht⟩:=ih ht
      exact ⟨rfl,u1,u2,[],[],rfl,rfl,hr,ht⟩
   obtain ⟨h1,h2⟩:=h
   obtain ⟨e,h2⟩:=key h2
   exact ⟨e,h1,h2⟩
 | .sl T,_,_,_,o,o',_,_,_,ho,ho',h=>by
   cases o<;>cases o'<;>simp only [ax.pure,eo] at ho ho'<;>unfold Flat at h ⊢<;>exact ⟨h.1,rfl,h.2⟩
 | .map K V,_,_,_,o,o',_,_,_,ho,ho',h=>by
   cases o<;>cases o'<;>simp only [ax.pure,eo] at ho ho'<;>unfold Flat at h ⊢<;>exact ⟨h.1,rfl,h.2⟩
 | .fn A C,_,_,_,_,_,_,_,_,_,_,h=>by unfold Flat at h ⊢; exact ⟨h.1,rfl,h.2⟩
theorem aL.pure (P:Program) {T:Ty} {w:World} {G:Nat→Nat→Prop} {B:Nat} {o o':ax} (ho:o.pure=true) (ho':o'.pure=true):∀ {xs:List (den T)} {vs:List Value} {ob:OB},aL (Flat P T w G B o) xs vs ob→ob=[]∧aL (Flat P T w G B o') xs vs []
 | [],_,_,h=>by obtain ⟨rfl,rfl⟩:=h; exact ⟨rfl,rfl,rfl⟩
 | x::xs,_,_,h=>by
   obtain ⟨u1,u2,c1,c2,rfl,rfl,hr,ht⟩:=h
   obtain ⟨e1,k1⟩:=Flat.pure P T ho ho' hr
   obtain ⟨e2,k2⟩:=aL.pure P ho ho' ht
   exact ⟨by rw [e1,e2]; rfl,u1,u2,[],[],rfl,rfl,k1,k2⟩
theorem Flat.one (P:Program):∀ (T:Ty) {w:World} {G:Nat→Nat→Prop} {B:Nat} {o:ax} {x:den T} {vs:List Value} {ob:OB},o.whole=true→Flat P T w G B o x vs ob→∀ u∈vs,u.oneCell'=true
 | .int k,_,_,_,_,_,_,_,_,h=>by unfold Flat at h; rw [h.1]; simp [Value.oneCell']
 | .bool,_,_,_,_,_,_,_,_,h=>by unfold Flat at h; rw [h.1]; simp [Value.oneCell']
 | .str,_,_,_,_,_,_,_,_,h=>by unfold Flat at h; rw [h.1]; simp [Value.oneCell']
 | .unit,_,_,_,_,_,_,_,_,h=>by unfold Flat at h; rw [h.1]; simp
 | .pair A C,_,_,_,o,_,_,_,ho,h=>by
   unfold Flat at h
   obtain ⟨v1,v2,b1,b2,rfl,rfl,h1,h2⟩:=h
   intro u hu
   rcases dD.1 hu with hu | hu
   ·exact Flat.one P A (by cases o<;>simp_all [ax.whole,ax.l]) h1 u hu
   ·exact Flat.one P C (by cases o<;>simp_all [ax.whole,ax.r]) h2 u hu
 | .arr n T,w,G,B,_,_,_,_,_,h=>by
   unfold Flat at h
   have key:∀ {xs:List (den T)} {vs:List Value} {ob:OB},aL (Flat P T w G B .no) xs vs ob→∀ u∈vs,u.oneCell'=true:=by
    intro xs
    induction xs with
    | nil=>rintro vs ob ⟨rfl,rfl⟩; simp
    | cons x xs ih=>
      rintro vs ob ⟨u1,u2,c1,c2,rfl,rfl,hr,ht⟩ u hu
      rcases dD.1 hu with hu | hu
      ·exact Flat.one P T (o:=.no) rfl hr u hu
      ·exact ih ht u hu
   exact key h.2
 | .sl T,_,_,_,o,_,_,_,ho,h=>by
   cases o with
   | no=>unfold Flat at h; obtain ⟨_,A,c,rfl,_⟩:=h; simp [Value.oneCell']
   | hole=>simp [ax.whole] at ho
   | pair=>unfold Flat at h; obtain ⟨_,A,c,rfl,_⟩:=h; simp [Value.oneCell']
   | mp=>unfold Flat at h; obtain ⟨_,A,c,rfl,_⟩:=h; simp [Value.oneCell']
   | own wr e o=>
     unfold Flat at h
     obtain ⟨v,cells,ob',rfl,h2,_⟩:=h
     rcases h2.2 with h | ⟨g,cap,cur,_,_,rfl,_⟩
     ·rw [h.1]; simp [Value.oneCell']
     ·simp [Value.oneCell']
 | .map K V,_,_,_,o,_,_,_,ho,h=>by
   cases o<;>unfold Flat at h
   case mp=>obtain ⟨_,_,b,ents,clk,rfl,_⟩:=h; simp [Value.oneCell']
   all_goals (obtain ⟨_,r,rfl⟩:=h; simp [Value.oneCell'])
 | .fn A C,_,_,_,_,_,_,_,_,h=>by
   unfold Flat at h
   obtain ⟨_,_,f,caps,rfl,_⟩:=h; simp [Value.oneCell']
end Go.Fw
/- Soundness, part 2: parts of values; what a state of the machine says of memory. -/
namespace Go.Fw
open Go Go.RowKit
theorem rp:∀ p,cd .no p=.no
 | []=>rfl
 | .l::p=>rp p
 | .r::p=>rp p
 | .ix _::_=>rfl
theorem qV:∀ (p:Path) (a b:ax),a.pure=true→b.pure=true→(fa a p b).pure=true
 | [],_,_,_,h=>h
 | .l::p,a,b,ha,hb=>by simp only [fa,ax.pure,au]; exact ⟨qV p _ _ (ax.tK ha) hb,ax.tL ha⟩
 | .r::p,a,b,ha,hb=>by simp only [fa,ax.pure,au]; exact ⟨ax.tK ha,qV p _ _ (ax.tL ha) hb⟩
 | .ix _::_,_,_,ha,_=>ha
theorem BK (T:Ty) (y:den T):bg T ⟨T,y⟩=some y:=by simp [bg]
theorem cL {T:Ty} {y:TV} {z:den T} (h:bg T y=some z):y=⟨T,z⟩:=by
 obtain ⟨T',y⟩:=y
 simp only [bg] at h
 split at h
 ·rename_i e; subst e; simp at h; rw [h]
 ·exact absurd h (by simp)
theorem qo:∀ (p:Path) (T:Ty) {P:Program} {w:World} {G:Nat→Nat→Prop} {B:Nat} {o:ax} {x:den T} {vs:List Value} {ob:OB} {y:TV},Flat P T w G B o x vs ob→aH T p x=some y→cR T p=some y.1
 | [],T,_,_,_,_,_,_,_,_,_,_,h=>by simp only [aH,aw] at h; subst h; cases T<;>rfl
 | .l::p,.pair A C,_,_,_,_,_,_,_,_,_,hF,h=>by
   unfold Flat at hF; obtain ⟨v1,v2,b1,b2,rfl,rfl,h1,h2⟩:=hF
   simp only [aH,cR] at h ⊢; exact qo p A h1 h
 | .r::p,.pair A C,_,_,_,_,_,_,_,_,_,hF,h=>by
   unfold Flat at hF; obtain ⟨v1,v2,b1,b2,rfl,rfl,h1,h2⟩:=hF
   simp only [aH,cR] at h ⊢; exact qo p C h2 h
 | .ix i::p,.arr n T,_,_,_,_,_,_,_,_,_,hF,h=>by
   unfold Flat at hF; obtain ⟨hn,hF⟩:=hF
   simp only [aH,cR] at h ⊢
   split at h
   ·rename_i hi
    obtain ⟨v1,v2,v3,b1,b2,b3,_,_,_,h2,_⟩:=aL.split (fun x v b hx=>Flat.len _ T hx) i (zero T) hF hi
    rw [if_pos (by omega)]; exact qo p T h2 h
   ·exact absurd h (by simp)
 | .l::_,.int _,_,_,_,_,_,_,_,_,_,_,h | .l::_,.bool,_,_,_,_,_,_,_,_,_,_,h | .l::_,.str,_,_,_,_,_,_,_,_,_,_,h | .l::_,.unit,_,_,_,_,_,_,_,_,_,_,h | .l::_,.sl _,_,_,_,_,_,_,_,_,_,_,h | .l::_,.arr _ _,_,_,_,_,_,_,_,_,_,_,h | .l::_,.fn _ _,_,_,_,_,_,_,_,_,_,_,h=>by simp [aH] at h
 | .r::_,.int _,_,_,_,_,_,_,_,_,_,_,h | .r::_,.bool,_,_,_,_,_,_,_,_,_,_,h | .r::_,.str,_,_,_,_,_,_,_,_,_,_,h | .r::_,.unit,_,_,_,_,_,_,_,_,_,_,h | .r::_,.sl _,_,_,_,_,_,_,_,_,_,_,h | .r::_,.arr _ _,_,_,_,_,_,_,_,_,_,_,h | .r::_,.fn _ _,_,_,_,_,_,_,_,_,_,_,h=>by simp [aH] at h
 | .ix _::_,.int _,_,_,_,_,_,_,_,_,_,_,h | .ix _::_,.bool,_,_,_,_,_,_,_,_,_,_,h | .ix _::_,.str,_,_,_,_,_,_,_,_,_,_,h | .ix _::_,.unit,_,_,_,_,_,_,_,_,_,_,h | .ix _::_,.sl _,_,_,_,_,_,_,_,_,_,_,h | .ix _::_,.pair _ _,_,_,_,_,_,_,_,_,_,_,h | .ix _::_,.fn _ _,_,_,_,_,_,_,_,_,_,_,h=>by simp [aH] at h
theorem Flat.lens (P:Program):∀ (p:Path) (T:Ty) {w:World} {G:Nat→Nat→Prop} {B:Nat} {o:ax} {x:den T} {vs:List Value} {ob:OB} {T':Ty} {y:den T'},Flat P T w G B o x vs ob→aH T p x=some ⟨T',y⟩→
  ∃ v1 v2 v3 b1 b2 b3,vs=v1++v2++v3∧ob=b1++b2++b3∧v1.length=a8 T p∧Flat P T' w G B (cd o p) y v2 b2∧
    ∀ (o2:ax) (y2:den T') (u:List Value) (c:OB) (x2:den T),(cC p=true→o2.pure=true)→Flat P T' w G B o2 y2 u c→a6 T p x ⟨T',y2⟩=some x2→Flat P T w G B (fa o p o2) x2 (v1++u++v3) (b1++c++b3)
 | [],T,w,G,B,o,x,vs,ob,T',y,hF,h=>by
   simp only [aH,aw] at h
   obtain ⟨rfl,h⟩:=Sigma.mk.inj h
   rw [eq_of_heq h] at hF
   refine ⟨[],vs,[],[],ob,[],by simp,by simp,by cases T<;>rfl,hF,?_⟩
   intro o2 y2 u c x2 _ hy hs
   have hs':bg T ⟨T,y2⟩=some x2:=by cases T<;>exact hs
   rw [BK,aw] at hs'
   subst hs'
   simpa [fa] using hy
 | .l::p,.pair A C,w,G,B,o,x,vs,ob,T',y,hF,h=>by
   unfold Flat at hF; obtain ⟨u1,u2,c1,c2,rfl,rfl,h1,h2⟩:=hF
   simp only [aH] at h
   obtain ⟨v1,v2,v3,b1,b2,b3,rfl,rfl,hl,hF2,hset⟩:=Flat.lens P p A h1 h
   refine ⟨v1,v2,v3++u2,b1,b2,b3++c2,by simp,by simp,hl,hF2,?_⟩
   intro o2 y2 u c x2 hix hy hs
   simp only [a6,aq,aw] at hs
   obtain ⟨z,hz,rfl⟩:=hs
   unfold Flat
   exact ⟨v1++u++v3,u2,b1++c++b3,c2,by simp,by simp,hset o2 y2 u c z hix hy hz,h2⟩
 | .r::p,.pair A C,w,G,B,o,x,vs,ob,T',y,hF,h=>by
   have hlen:∀ {vs ob},Flat P A w G B o.l x.1 vs ob→vs.length=ay A:=fun h=>Flat.len P A h
   unfold Flat at hF; obtain ⟨u1,u2,c1,c2,rfl,rfl,h1,h2⟩:=hF
   simp only [aH] at h
   obtain ⟨v1,v2,v3,b1,b2,b3,rfl,rfl,hl,hF2,hset⟩:=Flat.lens P p C h2 h
   refine ⟨u1++v1,v2,v3,c1++b1,b2,b3,by simp,by simp,by rw [cm,hlen h1,hl]; rfl,hF2,?_⟩
   intro o2 y2 u c x2 hix hy hs
   simp only [a6,aq,aw] at hs
   obtain ⟨z,hz,rfl⟩:=hs
   unfold Flat
   exact ⟨u1,v1++u++v3,c1,b1++c++b3,by simp,by simp,h1,hset o2 y2 u c z hix hy hz⟩
 | .ix i::p,.arr n T,w,G,B,o,x,vs,ob,T',y,hF,h=>by
   unfold Flat at hF; obtain ⟨hn,hF⟩:=hF
   simp only [aH] at h
   split at h
   ·rename_i hi
    obtain ⟨u1,u2,u3,c1,c2,c3,rfl,rfl,hl1,hE,hst⟩:=aL.split (fun x v b hx=>Flat.len _ T hx) i (zero T) hF hi
    obtain ⟨v1,v2,v3,b1,b2,b3,rfl,rfl,hl,hF2,hset⟩:=Flat.lens P p T hE h
    rw [rp] at hF2
    refine ⟨u1++v1,v2,v3++u3,c1++b1,b2,b3++c3,by simp,by simp,by rw [cm,hl1,hl]; rfl,hF2,?_⟩
    intro o2 y2 u c x2 hix hy hs
    simp only [a6] at hs
    rw [if_pos hi] at hs
    simp only [aq,aw] at hs
    obtain ⟨z,hz,rfl⟩:=hs
    have ho2:=hix rfl
    have hnew:=hset o2 y2 u c z (fun _=>ho2) hy hz
    obtain ⟨e,hnew⟩:=Flat.pure P T (qV p .no o2 rfl ho2) (o':=.no) rfl hnew
    have hE2:=hst z (v1++u++v3) [] hnew
    unfold Flat
    refine ⟨by rw [List.length_set]; exact hn,?_⟩
    have e':c1++b1++c++(b3++c3)=c1++[]++c3:=by
     rw [show c1++b1++c++(b3++c3)=c1++(b1++c++b3)++c3 by simp,e]
    rw [e']
    simpa using hE2
   ·exact absurd h (by simp)
 | .l::_,.int _,_,_,_,_,_,_,_,_,_,_,h | .l::_,.bool,_,_,_,_,_,_,_,_,_,_,h | .l::_,.str,_,_,_,_,_,_,_,_,_,_,h | .l::_,.unit,_,_,_,_,_,_,_,_,_,_,h | .l::_,.sl _,_,_,_,_,_,_,_,_,_,_,h | .l::_,.arr _ _,_,_,_,_,_,_,_,_,_,_,h | .l::_,.fn _ _,_,_,_,_,_,_,_,_,_,_,h=>by simp [aH] at h
 | .r::_,.int _,_,_,_,_,_,_,_,_,_,_,h | .r::_,.bool,_,_,_,_,_,_,_,_,_,_,h | .r::_,.str,_,_,_,_,_,_,_,_,_,_,h | .r::_,.unit,_,_,_,_,_,_,_,_,_,_,h | .r::_,.sl _,_,_,_,_,_,_,_,_,_,_,h | .r::_,.arr _ _,_,_,_,_,_,_,_,_,_,_,h | .r::_,.fn _ _,_,_,_,_,_,_,_,_,_,_,h=>by simp [aH] at h
 | .ix _::_,.int _,_,_,_,_,_,_,_,_,_,_,h | .ix _::_,.bool,_,_,_,_,_,_,_,_,_,_,h | .ix _::_,.str,_,_,_,_,_,_,_,_,_,_,h | .ix _::_,.unit,_,_,_,_,_,_,_,_,_,_,h | .ix _::_,.sl _,_,_,_,_,_,_,_,_,_,_,h | .ix _::_,.pair _ _,_,_,_,_,_,_,_,_,_,_,h | .ix _::_,.fn _ _,_,_,_,_,_,_,_,_,_,_,h=>by simp [aH] at h
theorem tH:∀ (p q:Path) (T:Ty) {T':Ty},cR T p=some T'→a8 T (p++q)=a8 T p+a8 T' q∧cR T (p++q)=cR T' q
 | [],q,T,T',h=>by
   have:T=T':=by cases T<;>simpa [cR] using h
   subst this
   have:a8 T []=0:=by cases T<;>rfl
   simp [this]
 | .l::p,q,.pair A C,T',h=>by simp only [cR] at h; simp only [jg,a8,cR]; exact tH p q A h
 | .r::p,q,.pair A C,T',h=>by
   simp only [cR] at h; simp only [jg,a8,cR]
   have:=tH p q C h
   exact ⟨by rw [this.1]; omega,this.2⟩
 | .ix i::p,q,.arr n T,T',h=>by
   simp only [cR] at h; simp only [jg,a8,cR]
   split at h
   ·rename_i hi
    have:=tH p q T h
    exact ⟨by rw [this.1]; omega,by rw [if_pos hi]; exact this.2⟩
   ·exact absurd h (by simp)
 | .l::_,_,.int _,_,h | .l::_,_,.bool,_,h | .l::_,_,.str,_,h | .l::_,_,.unit,_,h | .l::_,_,.sl _,_,h | .l::_,_,.arr _ _,_,h | .l::_,_,.fn _ _,_,h=>by simp [cR] at h
 | .r::_,_,.int _,_,h | .r::_,_,.bool,_,h | .r::_,_,.str,_,h | .r::_,_,.unit,_,h | .r::_,_,.sl _,_,h | .r::_,_,.arr _ _,_,h | .r::_,_,.fn _ _,_,h=>by simp [cR] at h
 | .ix _::_,_,.int _,_,h | .ix _::_,_,.bool,_,h | .ix _::_,_,.str,_,h | .ix _::_,_,.unit,_,h | .ix _::_,_,.sl _,_,h | .ix _::_,_,.pair _ _,_,h | .ix _::_,_,.fn _ _,_,h=>by simp [cR] at h
def bj (w:World) (tm:Array Value) (env:Env) (s:Nat) (p:Path):Option Value:=
 match look env s with
 | .own .. =>match p with | []=>some (tm.getD s undef) | _=>none
 | .loc T _ _=>match tm.getD s undef with | .pointer (some a)=>w.cell? ⟨a.block,a8 T p,none⟩ | _=>none
 | _=>none
def eP (env:Env) (s:Nat) (p:Path):Bool:=
 match look env s with
 | .loc T o x=>match cd o p,aH T p x with
   | .mp,some ⟨.map _ _,_⟩=>true
   | _,_=>false
 | _=>false
def jR (w:World) (B:Nat) (t e:TypeId) (s:List UInt8) (v:Value) (ob:OB):Prop:=
 ∃ b p u,v=.pointer (some ⟨b,0,none⟩)∧B≤b∧w.heap[b]?=some (.cells #[p,u] t (0,0))∧(p=.pointer none∨p=.pointer (some ⟨b,0,none⟩))∧w.ownsRow B e 1 u s.length (s.map fun c=>Value.int .u8 c.toNat)∧
   u.ownBlock≠some b∧ob=(b,0)::bN u 0
def cD (P:Program) (w:World) (G:Nat→Nat→Prop) (B:Nat) (tm:Array Value) (env:Env):E→Value→OB→Prop
 | .dead,_,ob=>ob=[]
 | .bJ,v,ob=>v=undef∧ob=[]
 | .v T x,v,ob=>ob=[]∧∃ vs,Flat P T w G B .no x vs []∧v=bh T vs
 | .own wr e T o xs,v,ob=>Flat P (.sl T) w G B (.own wr e o) xs [v] ob
 | .loc T o x,v,ob=>∃ b cur e ob',v=.pointer (some ⟨b,0,none⟩)∧B≤b∧w.heap[b]?=some (.cells cur e (0,0))∧Flat P T w G B o x cur.toList ob'∧ob=(b,0)::ob'
 | .ref s p,v,ob=>ob=[]∧bj w tm env s p=some v∧((bc env s p).isSome=true∨eP env s p=true)
 | .ptr s p,v,ob=>ob=[]∧∃ T o x b,look env s=.loc T o x∧tm.getD s undef=.pointer (some ⟨b,0,none⟩)∧(cR T p).isSome=true∧v=.pointer (some ⟨b,a8 T p,none⟩)
 | .cT s p i q,v,ob=>ob=[]∧∃ h g n c,bc env s p=some h∧bj w tm env s p=some (.slice (some ⟨g,0,none⟩) n c)∧i < h.xs.length∧(cR h.T q).isSome=true∧
   v=.pointer (some ⟨g,i * ay h.T+a8 h.T q,none⟩)
 | .at T x,v,ob=>ob=[]∧∃ b off vs,v=.pointer (some ⟨b,off,none⟩)∧Flat P T w G B .no x vs []∧∀ j u,vs[j]?=some u→w.cell? ⟨b,off+j,none⟩=some u∧(b < B∨G b (off+j))
 | .cI _,_,_=>False
 | .cP _ _ _ _,_,_=>False
 | .nw T o x,v,ob=>ob=[]∧∃ vs,Flat P T w G B o x vs []∧v=bh T vs
 | .nm T o x,v,ob=>∃ vs,Flat P T w G B o x vs ob∧v=bh T vs
 | .it s pos,v,ob=>∃ b,v=.pointer (some ⟨b,0,none⟩)∧B≤b∧w.heap[b]?=some (.stringIter ⟨⟨s⟩⟩ pos)∧s.length≤maxLen∧ob=[(b,0)]
 | .sb t e s,v,ob=>jR w B t e s v ob∧s.length≤140737488355328
def dX (R:E→Value→OB→Prop):List E→List Value→OB→Prop
 | [],vs,ob=>vs=[]∧ob=[]
 | e::es,vs,ob=>∃ v r b1 b2,vs=v::r∧ob=b1++b2∧R e v b1∧dX R es r b2
def bn (P:Program) (w:World) (G:Nat→Nat→Prop) (B:Nat) (tm:Array Value) (env:Env):E→Value→OB→Prop
 | .cI es,v,ob=>(∀ e∈es,∀ s,leads s e=false)∧∃ vs,v=.tuple vs∧dX (cD P w G B tm env) es vs.toList ob
 | .cP f _ _ caps,v,ob=>ob=[]∧∃ cv,v=.func (.func f) #[] cv∧dX (cD P w G B tm env) caps cv.toList []
 | e,v,ob=>cD P w G B tm env e v ob
def Gd (B:Nat) (G0:Nat→Nat→Prop) (ob:Nat→OB) (b i:Nat):Prop:=
 (b < B∧G0 b i)∨(B≤b∧G0 b i∧∀ k lim,(b,lim)∈ob k→i < lim)
structure fM where
 tb:Nat
 has:Nat→Obj→Prop
 lt:∀ g o,has g o→g < tb
def fM.nil:fM:=⟨0,fun _ _=>False,fun _ _ h=>h.elim⟩
structure fM.ok (t:fM) (w:World):Prop where
 le:t.tb≤w.heap.size
 at_:∀ g o,t.has g o→w.heap[g]?=some o
theorem fM.VV (w:World):fM.nil.ok w:=⟨Nat.zero_le _,fun _ _ h=>h.elim⟩
structure dc where
 w:World
 x:Nat→Prop
 pin:Option Value
 r:Nat→Nat→Prop
 t:fM
def bl (W0:dc) (n k:Nat):Prop:=k < n∧(W0.pin=none∨k≠0)
structure ah (P:Program) (B:Nat) (G0:Nat→Nat→Prop) (W0:dc) (n:Nat) (env:Env) (tm:Array Value) (w:World) (ob:Nat→OB):Prop where
 rep:∀ k,bn P w (Gd B G0 ob) B tm env (look env k) (tm.getD k undef) (ob k)
 dist:∀ j k b,b∈blocks (ob j)→b∈blocks (ob k)→j=k
 nodup:∀ k,(blocks (ob k)).Nodup
 low:∀ k b,b∈blocks (ob k)→B≤b∧b < w.heap.size
 below:Below B W0.w w
 prot:∀ k b,b∈blocks (ob k)→¬ W0.x b
 same:∀ b,W0.x b→w.heap[b]?=W0.w.heap[b]?
 oldx:∀ b,W0.x b→b < w.heap.size
 free:∀ b i,B≤b→¬ W0.x b→G0 b i
 base:B≤w.heap.size
 size:tm.size=n
 pinned:∀ v,W0.pin=some v→tm.getD 0 undef=v
 kept:∀ b i,W0.r b i→b < w.heap.size∧Gd B G0 ob b i∧w.cell? ⟨b,i,none⟩=W0.w.cell? ⟨b,i,none⟩
 tab:W0.t.tb≤B∧W0.t.ok W0.w
theorem ah.oM {P:Program} {B:Nat} {G0:Nat→Nat→Prop} {W0:dc} {n:Nat} {env:Env} {tm:Array Value} {w:World} {ob:Nat→OB} (hC:ah P B G0 W0 n env tm w ob):W0.t.ok w:=
 ⟨ep hC.tab.1 hC.base,fun g o h=>by rw [hC.below.block g (dK (W0.t.lt g o h) hC.tab.1)]; exact hC.tab.2.at_ g o h⟩
theorem ah.arZ {P:Program} {B:Nat} {G0:Nat→Nat→Prop} {W0:dc} {n:Nat} {env:Env} {tm:Array Value} {w w':World} {ob:Nat→OB} (hC:ah P B G0 W0 n env tm w ob) (h:bV B w w'):W0.t.ok w':=
 ⟨ep hC.oM.le h.1,fun g o hg=>by rw [h.2 g (dK (W0.t.lt g o hg) hC.tab.1)]; exact hC.oM.at_ g o hg⟩
end Go.Fw
