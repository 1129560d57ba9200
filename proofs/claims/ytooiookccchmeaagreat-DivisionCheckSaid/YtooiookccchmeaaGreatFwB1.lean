/- Own work: the value machine, part 1. -/
import Derived.WalkKit
import Derived.KernelRfl
set_option linter.unusedVariables false
set_option linter.unusedSimpArgs false
open Bool renaming and_eq_true → au, false_eq_true → ep
open List renaming replicate → gn, mem_append_left → gm, mem_append_right → iQ, length_append → b6, mem_map → dt, mem_append → dG, cons_append → jl
open Nat renaming le_refl → cP, le_trans → ew, decEq → fc, lt_of_lt_of_le → dL
open Option renaming bind_eq_some_iff → ak, bind_assoc → ny, bind_some → aq, map_some → qK
open Option.some renaming injEq → ax
/- The abstract value machine, part 1: types of values, native values, what memory shows of them. -/
namespace Go.Fw
open Go Go.RowKit
inductive Ty where
 | int (k:IntKind) | bool | str | unit
 | sl (T:Ty) | pair (A B:Ty) | arr (n:Nat) (T:Ty)
 | fn (A B:Ty)
 | map (K V:Ty)
 deriving DecidableEq
abbrev den:Ty→Type
 | .int _=>Int
 | .bool=>Bool
 | .str=>List UInt8
 | .unit=>Unit
 | .sl T=>List (den T)
 | .pair A B=>den A×den B
 | .arr _ T=>List (den T)
 | .fn A B=>den A→Option (den B)
 | .map K V=>List (den K×den V)
def zero:(T:Ty)→den T
 | .int _=>(0:Int)
 | .bool=>false
 | .str=>([]:List UInt8)
 | .unit=>()
 | .sl _=> []
 | .pair A B=>(zero A,zero B)
 | .arr n T=>gn n (zero T)
 | .fn _ _=>fun _=>none
 | .map _ _=> []
def az:Ty→Nat
 | .unit=>0
 | .pair A B=>az A+az B
 | .arr n T=>n * az T
 | _=>1
def cA:Ty→Bool
 | .unit | .pair _ _ | .arr _ _=>true
 | _=>false
def cD:Ty→Bool
 | .sl _ | .fn _ _ | .map _ _=>false
 | .pair A B=>cD A&&cD B
 | .arr _ T=>cD T
 | _=>true
def eA:Ty→Bool
 | .fn _ _=>false
 | .sl T=>eA T
 | .pair A B=>eA A&&eA B
 | .arr _ T=>eA T
 | _=>true
inductive ay where
 | no
 | hole
 | own (wr:Bool) (e:TypeId) (o:ay)
 | pair (a b:ay)
 | mp
def ay.l:ay→ay | .pair a _=>a | _=>.no
def ay.r:ay→ay | .pair _ b=>b | _=>.no
abbrev OB:=List (Nat×Nat)
def aL {α:Type} (R:α→List Value→OB→Prop):List α→List Value→OB→Prop
 | [],vs,ob=>vs=[]∧ob=[]
 | x::xs,vs,ob=>∃ v1 v2 b1 b2,vs=v1++v2∧ob=b1++b2∧R x v1 b1∧aL R xs v2 b2
def eB {α:Type} (R:α→MapEntry→Prop):List α→List MapEntry→Prop
 | [],l=>l=[]
 | x::xs,l=>∃ m r,l=m::r∧R x m∧eB R xs r
def gZ:TypeId:=4294967295
def pn (fz:Nat×Nat) (n:Nat):Prop:=fz=(0,0)∨n≤fz.1
def gg (w:World) (base:Nat) (e:TypeId) (size:Nat) (v:Value) (n:Nat) (xs:List Value):Prop:=
 xs.length=n * size∧
 ((v=.slice none 0 0∧n=0)∨
  ∃ g cap cur e' fz,v=.slice (some ⟨g,0,none⟩) n cap∧base≤g∧w.heap[g]?=some (.cells cur e' fz)∧n≤cap∧cap≤maxLen∧cur.size=cap * size∧cur.toList.take (n * size)=xs∧(e≠gZ→e'=e∧fz=(0,0))∧pn fz cur.size)
def fP (k:IntKind) (n:Int):Prop:=k.min≤n∧n≤k.max
def bl (T:Ty) (vs:List Value):Value:=if cA T then .agg vs.toArray else vs.headD undef
def bR (v:Value) (lim:Nat):OB:=match v.ownBlock with | some b=> [(b,lim)] | none=> []
def cc (B:Nat) (w w':World):Prop:=w.heap.size≤w'.heap.size∧∀ b,b < B→w'.heap[b]?=w.heap[b]?
structure Below (B:Nat) (w w':World):Prop where
 os:w'.os=w.os
 tape:w'.tape=w.tape
 output:w'.output=w.output
 size:w.heap.size≤w'.heap.size
 block:∀ k,k < B→w'.heap[k]?=w.heap[k]?
 drawn:w.drawn≤w'.drawn
theorem Below.kit {B:Nat} {w w':World} (h:Below B w w'):Go.RowKit.Below B w w':=⟨h.os,h.tape,h.output,h.size,h.block⟩
theorem Below.refl (B:Nat) (w:World):Below B w w:=⟨rfl,rfl,rfl,cP _,fun _ _=>rfl,cP _⟩
theorem Below.trans {B:Nat} {a b c:World} (h:Below B a b) (k:Below B b c):Below B a c:=
 ⟨k.os.trans h.os,k.tape.trans h.tape,k.output.trans h.output,ew h.size k.size,fun i hi=>(k.block i hi).trans (h.block i hi),ew h.drawn k.drawn⟩
def fT (P : Program) (f : FuncId) : Prop := ∃ fn, P.funcs[f]? = some fn ∧ (fn.name == "runtime.NumGoroutine") = false ∧ fn.body.isNone = false
mutual
def Flat (P:Program):(T:Ty)→World→(Nat→Nat→Prop)→Nat→ay→den T→List Value→OB→Prop
 | .int k,_,_,_,_,n,vs,ob=>vs=[.int k n]∧fP k n∧ob=[]
 | .bool,_,_,_,_,b,vs,ob=>vs=[.bool b]∧ob=[]
 | .str,_,_,_,_,s,vs,ob=>vs=[.string ⟨⟨s⟩⟩]∧s.length≤maxLen∧ob=[]
 | .unit,_,_,_,_,_,vs,ob=>vs=[]∧ob=[]
 | .pair A C,w,G,B,o,x,vs,ob=>∃ v1 v2 b1 b2,vs=v1++v2∧ob=b1++b2∧Flat P A w G B o.l x.1 v1 b1∧Flat P C w G B o.r x.2 v2 b2
 | .arr n T,w,G,B,_,xs,vs,ob=>xs.length=n∧aL (Flat P T w G B .no) xs vs ob
 | .sl T,w,G,B,.own wr e o,xs,vs,ob=>∃ v cells ob',vs=[v]∧gg w B e (az T) v xs.length cells∧aL (Flat P T w G B o) xs cells ob'∧
   ob=bR v (if wr then 0 else xs.length * az T)++ob'
 | .sl _,_,_,_,.hole,_,vs,ob=>vs.length=1∧ob=[]
 | .sl T,w,G,B,_,xs,vs,ob=>ob=[]∧∃ A c,vs=[.slice A xs.length c]∧xs.length≤c∧c≤maxLen∧
   (xs=[]∨∃ b off cells,A=some ⟨b,off,none⟩∧aL (Flat P T w G B .no) xs cells []∧∀ j v,cells[j]?=some v→w.cell? ⟨b,off+j,none⟩=some v∧G b (off+j))
 | .map K V,w,G,B,.mp,xs,vs,ob=>cD K=true∧cD V=true∧∃ b ents clk,vs=[.map (some b)]∧B≤b∧w.heap[b]?=some (.map ents clk)∧ob=[(b,0)]∧
   eB (fun x m=>∃ ks us,Flat P K w G B .no x.1 ks []∧Flat P V w G B .no x.2 us []∧m.key=bl K ks∧m.val=bl V us) xs ents.toList
 | .map _ _,_,_,_,_,_,vs,ob=>ob=[]∧∃ r,vs=[.map r]
 | .fn A C,w,_,B,_,g,vs,ob=>ob=[]∧cD C=true∧∃ f caps,vs=[.func (.func f) #[] caps]∧
   ∀ (w':World) (G':Nat→Nat→Prop) (x:den A) (vals:List Value),cc B w w'→iO P A w' G' x vals→∀ r,g x=some r→
     fT P f∧Calls P f (vals.toArray++caps) w' (fun e w''=>∃ rs,Flat P C w'' G' B .no r rs []∧e=.returned (bl C rs)∧Below w'.heap.size w' w'')
def iO (P:Program):(A:Ty)→World→(Nat→Nat→Prop)→den A→List Value→Prop
 | .pair A C,w,G,x,vals=>∃ v1 rest,Flat P A w G w.heap.size .no x.1 v1 []∧vals=bl A v1::rest∧iO P C w G x.2 rest
 | .unit,_,_,_,vals=>vals=[]
 | _,_,_,_,_=>False
end
end Go.Fw
/- The abstract value machine, part 2: entries, operations, code. -/
namespace Go.Fw
open Go Go.RowKit
inductive St where
 | l | r | ix (i:Nat)
 deriving DecidableEq
abbrev Path:=List St
abbrev TV:=(T:Ty)×den T
def cU:Ty→Path→Option Ty
 | T,[]=>some T
 | .pair A _,.l::p=>cU A p
 | .pair _ B,.r::p=>cU B p
 | .arr n T,.ix i::p=>if i < n then cU T p else none
 | _,_=>none
def bc:Ty→Path→Nat
 | .pair A _,.l::p=>bc A p
 | .pair A B,.r::p=>az A+bc B p
 | .arr _ T,.ix i::p=>i * az T+bc T p
 | _,_=>0
def aH:(T:Ty)→Path→den T→Option TV
 | T,[],x=>some ⟨T,x⟩
 | .pair A _,.l::p,x=>aH A p x.1
 | .pair _ B,.r::p,x=>aH B p x.2
 | .arr _ T,.ix i::p,x=>if i < x.length then aH T p (x.getD i (zero T)) else none
 | _,_,_=>none
def bm (T:Ty) (y:TV):Option (den T):=if h:y.1=T then some (h▸y.2) else none
def a7:(T:Ty)→Path→den T→TV→Option (den T)
 | T,[],_,y=>bm T y
 | .pair A _,.l::p,x,y=>(a7 A p x.1 y).bind fun z=>some (z,x.2)
 | .pair _ B,.r::p,x,y=>(a7 B p x.2 y).bind fun z=>some (x.1,z)
 | .arr _ T,.ix i::p,x,y=>if i < x.length then (a7 T p (x.getD i (zero T)) y).bind fun z=>some (x.set i z) else none
 | _,_,_,_=>none
def cm:ay→Path→ay
 | a,[]=>a
 | a,.l::p=>cm a.l p
 | a,.r::p=>cm a.r p
 | _,.ix _::_=>.no
def eU:ay→Path→ay→ay
 | _,[],b=>b
 | a,.l::p,b=>.pair (eU a.l p b) a.r
 | a,.r::p,b=>.pair a.l (eU a.r p b)
 | a,.ix _::_,_=>a
def qO {α:Type}:ay→List (Path×α)→ay
 | o,[]=>o
 | o,(p,_)::r=>qO (eU o p .no) r
def cF:Path→Bool
 | []=>false
 | .ix _::_=>true
 | _::p=>cF p
def ay.pure:ay→Bool
 | .no=>true
 | .pair a b=>a.pure&&b.pure
 | _=>false
def ay.whole:ay→Bool
 | .hole=>false
 | .pair a b=>a.whole&&b.whole
 | .own _ _ o=>o.whole
 | .no | .mp=>true
def ay.bu:ay→ay
 | .own _ e o=>.own false e o.bu
 | .pair a b=>.pair a.bu b.bu
 | a=>a
def ay.stays:ay→Bool
 | .own w _ o=>!w&&o.stays
 | .pair a b=>a.stays&&b.stays
 | _=>true
theorem ay.tN:∀ {o:ay},o.stays=true→o.bu=o
 | .own w e o,h=>by
   simp only [ay.stays,au,Bool.not_eq_true'] at h
   simp only [ay.bu,ay.tN h.2,h.1]
 | .pair a b,h=>by
   simp only [ay.stays,au] at h
   simp only [ay.bu,ay.tN h.1,ay.tN h.2]
 | .no,_ | .hole,_ | .mp,_=>rfl
inductive E where
 | dead
 | bJ
 | v (T:Ty) (x:den T)
 | own (wr:Bool) (e:TypeId) (T:Ty) (o:ay) (xs:List (den T))
 | loc (T:Ty) (o:ay) (x:den T)
 | ref (s:Nat) (p:Path)
 | ptr (s:Nat) (p:Path)
 | cZ (s:Nat) (p:Path) (i:Nat) (q:Path)
 | at (T:Ty) (x:den T)
 | cL (es:List E)
 | cT (f:FuncId) (A C:Ty) (caps:List E)
 | it (s:List UInt8) (pos:Nat)
 | sb (t e:TypeId) (s:List UInt8)
 | nw (T:Ty) (o:ay) (x:den T)
 | nm (T:Ty) (o:ay) (x:den T)
abbrev Env:=List (Nat×E)
def look:Env→Nat→E
 | [],_=>.dead
 | (j,e)::r,k=>match fc j k with | .isTrue _=>e | .isFalse _=>look r k
def E.home:E→Bool
 | .own .. | .loc .. =>true
 | _=>false
def leads (s:Nat):E→Bool
 | .ref k _ | .ptr k _ | .cZ k _ _ _=>k==s
 | .cT _ _ _ caps=>caps.any fun | .ref k _ | .ptr k _ | .cZ k _ _ _=>k==s | _=>false
 | _=>false
def kill (s:Nat) (env:Env):Env:=env.map fun q=>if leads s q.2 then (q.1,.dead) else q
def eM (s:Nat):E→Bool
 | .ptr _ _=>false
 | e=>leads s e
def jD (s:Nat) (env:Env):Env:=env.map fun q=>if eM s q.2 then (q.1,.dead) else q
def tv (s d:Nat) (env:Env):Env:=env.map fun q=>match q.2 with
 | .ref k p=>if k==s then (q.1,.ref d p) else q
 | .cZ k p i r=>if k==s then (q.1,.cZ d p i r) else q
 | .cT f A C caps=>if leads s (.cT f A C caps) then (q.1,.dead) else q
 | _=>q
def put (env:Env) (k:Nat) (e:E):Env:=(k,if leads k e then .dead else e)::(if (look env k).home then kill k env else env)
def aM (env:Env) (k:Option Nat) (e:E):Env:=match k with | some k=>put env k e | none=>env
def freeze (env:Env) (s:Nat):Env:=
 match look env s with
 | .own _ e T o xs=>(s,.own false e T o.bu xs)::env
 | .loc T o x=>(match o.stays with | true=>env | false=>(s,.loc T o.bu x)::env)
 | _=>env
def tp:E→List Nat
 | .ref k _ | .ptr k _ | .cZ k _ _ _=> [k]
 | _=> []
def qe:E→List Nat
 | .cT _ _ _ caps=>caps.flatMap tp
 | e=>tp e
def pX (live:List Nat) (e:E):E:=match (qe e).all fun s=>live.any fun k=>k==s with | true=>e | false=>.dead
def aj (live:List Nat) (env:Env):Env:=live.map fun k=>(k,pX live (look env k))
inductive Od where
 | t (k:Nat)
 | c (T:Ty) (x:den T)
 | nil (e:TypeId) (T:Ty)
 | fn (f:FuncId) (A C:Ty)
def aw (env:Env):Od→E
 | .t k=>look env k
 | .c T x=>.v T x
 | .nil e T=>.own true e T .no []
 | .fn f A C=>.cT f A C []
structure j8 where
 wr:Bool
 e:TypeId
 T:Ty
 o:ay
 xs:List (den T)
def bh (env:Env) (s:Nat) (p:Path):Option j8:=
 match look env s with
 | .own wr e T o xs=>match p with | []=>some ⟨wr,e,T,o,xs⟩ | _=>none
 | .loc T o x=>match cm o p,aH T p x with
   | .own wr e o',some ⟨.sl T',xs⟩=>some ⟨wr,e,T',o',xs⟩
   | _,_=>none
 | _=>none
structure aA where
 run:FuncId→List E→Option (List E)
 runK:{R:Type}→FuncId→List E→(List E→Option R)→Option R
 eqn:∀ {R:Type} (f:FuncId) (es:List E) (k:List E→Option R),runK f es k=(run f es).bind k
instance:CoeFun aA (fun _=>FuncId→List E→Option (List E)):=⟨aA.run⟩
def aA.of (g:FuncId→List E→Option (List E)):aA:=⟨g,fun f es k=>(g f es).bind k,fun _ _ _=>rfl⟩
def unpack:(A:Ty)→den A→List E
 | .pair A B,x=>.v A x.1::unpack B x.2
 | _,_=> []
def j0 (C:Ty):List E→Option (den C)
 | [.v T x]=>bm C ⟨T,x⟩
 | _=>none
def c4 (env:Env):E→Option E
 | .v T x=>some (.v T x)
 | .own _ _ T o xs=>if o.pure then some (.v (.sl T) xs) else none
 | .ref s p=>(bh env s p).bind fun h=>if h.o.pure then some (.v (.sl h.T) h.xs) else none
 | .at T x=>some (.at T x)
 | .ptr s p=>match look env s with
   | .loc T o x=>if (cm o p).whole then (aH T p x).bind fun y=>some (.at y.1 y.2) else none
   | _=>none
 | .cZ s p i q=>(bh env s p).bind fun h=>if h.o.pure&&decide (i < h.xs.length) then (aH h.T q (h.xs.getD i (zero h.T))).bind fun y=>some (.at y.1 y.2) else none
 | _=>none
def iB (env:Env):List E→Option (List E)
 | []=>some []
 | e::r=>(c4 env e).bind fun x=>(iB env r).bind fun y=>some (x::y)
def c9 (env:Env) (e:E):Option TV:=
 match e with
 | .v T x=>some ⟨T,x⟩
 | .own _ _ T o xs=>if o.pure then some ⟨.sl T,xs⟩ else none
 | .ref s p=>(bh env s p).bind fun h=>if h.o.pure then some ⟨.sl h.T,h.xs⟩ else none
 | _=>none
def jU (cl:aA) (env:Env) (f:FuncId) (A C:Ty) (caps:List E):Option E:=
 if cD C then (iB env caps).bind fun cs=>some (.v (.fn A C) fun x=>(cl f (unpack A x++cs)).bind (j0 C)) else none
def ft (k:Od) (e:E):Option Nat:=
 match e with
 | .own .. =>match k with | .t k=>some k | _=>none
 | .ref s _ | .ptr s _ | .cZ s _ _ _=>some s
 | .loc .. =>match k with | .t k=>some k | _=>none
 | _=>none
def eo (env:Env) (k:Od):Option (Env×TV):=
 (c9 env (aw env k)).bind fun y=>some (match ft k (aw env k) with | some s=>freeze env s | none=>env,y)
def ad {α:Type} (b:Bool) (x y:α):α:=match b with | true=>x | false=>y
def arith (op:BinOp) (k:IntKind) (x y:Int):Option Int:=
 match op with
 | .add=>some (k.wrap (x+y))
 | .sub=>some (k.wrap (x - y))
 | .mul=>some (k.wrap (x * y))
 | .and=>some (Go.bits .and k x y)
 | .or=>some (Go.bits .or k x y)
 | .xor=>some (Go.bits .xor k x y)
 | .andNot=>some (Go.bits .andNot k x y)
 | _=>none
def tJ (l:Bool) (k:IntKind) (m n:Int):Int:=match l with
 | true=>k.wrap (m * 2 ^ (min n.toNat k.bits))
 | false=>m.fdiv (2 ^ (min n.toNat k.bits))
def Cg (op:BinOp) (x y:Int):Option Bool:=
 match op with
 | .eql=>some (x==y)
 | .neq=>some (x != y)
 | .lss=>some (decide (x < y))
 | .leq=>some (decide (x≤y))
 | .gtr=>some (decide (x > y))
 | .geq=>some (decide (x≥y))
 | _=>none
end Go.Fw
/- The abstract value machine: operations whose order is open, read through a reader that fails on what is dead. -/
namespace Go.Fw
open Go Go.RowKit
def Sub (L L':Nat→E):Prop:=∀ k,L k=.dead∨L' k=L k
structure Rd (α:Type) where
 run:(Nat→E)→Option α
 runK:{R:Type}→(Nat→E)→(α→Option R)→Option R
 mono:∀ L L' x,Sub L L'→run L=some x→run L'=some x
 eqn:∀ {R:Type} (L:Nat→E) (k:α→Option R),runK L k=(run L).bind k
namespace Rd
def ok {α:Type} (x:α):Rd α:=⟨fun _=>some x,fun _ k=>k x,fun _ _ _ _ h=>h,fun _ _=>rfl⟩
def no {α:Type}:Rd α:=⟨fun _=>none,fun _ _=>none,fun _ _ _ _ h=>h,fun _ _=>rfl⟩
def of {α:Type} (x:Option α):Rd α:=⟨fun _=>x,fun _ k=>x.bind k,fun _ _ _ _ h=>h,fun _ _=>rfl⟩
def kz:E→Option E
 | .dead=>none
 | e=>some e
def get (k:Nat):Rd E:=⟨fun L=>kz (L k),fun L c=>(kz (L k)).bind c,fun L L' x hs h=>by
 rcases hs k with h1 | h1
 ·rw [h1] at h; simp [kz] at h
 ·rw [h1]; exact h,fun _ _=>rfl⟩
def bind {α β:Type} (a:Rd α) (f:α→Rd β):Rd β:=⟨fun L=>(a.run L).bind fun x=>(f x).run L,fun L k=>a.runK L fun x=>(f x).runK L k,fun L L' x hs h=>by
 obtain ⟨y,hy,h⟩:=ak.1 h
 exact ak.2 ⟨y,a.mono L L' y hs hy,(f y).mono L L' x hs h⟩,fun L k=>by
 rw [a.eqn,ny]; congr 1; funext x; exact (f x).eqn L k⟩
def ite {α:Type} (p:Prop) [Decidable p] (a b:Rd α):Rd α:=⟨fun L=>if p then a.run L else b.run L,fun L k=>if p then a.runK L k else b.runK L k,fun L L' x hs h=>by
 split
 ·rename_i hp; rw [if_pos hp] at h; exact a.mono L L' x hs h
 ·rename_i hp; rw [if_neg hp] at h; exact b.mono L L' x hs h,fun L k=>by
 split
 ·exact a.eqn L k
 ·exact b.eqn L k⟩
def br {α:Type} (q:Bool) (a b:Rd α):Rd α:=⟨fun L=>ad q (a.run L) (b.run L),fun L k=>ad q (a.runK L k) (b.runK L k),fun L L' x hs h=>by
 cases q
 ·exact b.mono L L' x hs h
 ·exact a.mono L L' x hs h,fun L k=>by
 cases q
 ·exact b.eqn L k
 ·exact a.eqn L k⟩
def call (cl:aA) (f:FuncId) (es:List E):Rd (List E):=⟨fun _=>cl f es,fun _ k=>cl.runK f es k,fun _ _ _ _ h=>h,fun _ k=>cl.eqn f es k⟩
end Rd
def dN:Od→Rd E
 | .t k=>.get k
 | .c T x=>.ok (.v T x)
 | .nil e T=>.ok (.own true e T .no [])
 | .fn f A C=>.ok (.cT f A C [])
def Dy (e:E) (p:Path):Option j8:=
 match e with
 | .own wr e T o xs=>match p with | []=>some ⟨wr,e,T,o,xs⟩ | _=>none
 | .loc T o x=>match cm o p,aH T p x with
   | .own wr e o',some ⟨.sl T',xs⟩=>some ⟨wr,e,T',o',xs⟩
   | _,_=>none
 | _=>none
def mi (s:Nat) (p:Path):Rd j8:=(Rd.get s).bind fun e=>.of (Dy e p)
def M7 (p:Path):E→Option E
 | .loc T o x=>if (cm o p).whole then (aH T p x).bind fun y=>some (.at y.1 y.2) else none
 | _=>none
def As:E→Rd E
 | .v T x=>.ok (.v T x)
 | .own _ _ T o xs=>.of (if o.pure then some (.v (.sl T) xs) else none)
 | .ref s p=>(mi s p).bind fun h=>.of (if h.o.pure then some (.v (.sl h.T) h.xs) else none)
 | .at T x=>.ok (.at T x)
 | .ptr s p=>(Rd.get s).bind fun e=>.of (M7 p e)
 | .cZ s p i q=>(mi s p).bind fun h=>.of (if h.o.pure&&decide (i < h.xs.length) then (aH h.T q (h.xs.getD i (zero h.T))).bind fun y=>some (.at y.1 y.2) else none)
 | _=>.no
def qQ:List E→Rd (List E)
 | []=>.ok []
 | e::r=>(As e).bind fun x=>(qQ r).bind fun y=>.ok (x::y)
def zl:E→Rd TV
 | .v T x=>.ok ⟨T,x⟩
 | .own _ _ T o xs=>.of (if o.pure then some ⟨.sl T,xs⟩ else none)
 | .ref s p=>(mi s p).bind fun h=>.of (if h.o.pure then some ⟨.sl h.T,h.xs⟩ else none)
 | _=>.no
def Cf (cl:aA) (f:FuncId) (A C:Ty) (caps:List E):Rd E:=
 if cD C then (qQ caps).bind fun cs=>.ok (.v (.fn A C) fun x=>(cl f (unpack A x++cs)).bind (j0 C)) else .no
theorem dU (env:Env) (x:Od):(dN x).run (look env)=Rd.kz (aw env x):=by
 cases x<;>rfl
theorem aaR (env:Env) (s:Nat) (p:Path):bh env s p=Dy (look env s) p:=by
 unfold bh Dy
 rfl
theorem sQ (env:Env) (s:Nat) (p:Path):(mi s p).run (look env)=bh env s p:=by
 rw [aaR]
 show (Rd.kz (look env s)).bind (fun e=>Dy e p)=_
 cases look env s<;>rfl
theorem Na (env:Env) (e:E):(As e).run (look env)=c4 env e:=by
 cases e<;>try rfl
 ·rename_i s p
  show ((mi s p).run (look env)).bind _=_
  rw [sQ]; rfl
 ·rename_i s p
  show (Rd.kz (look env s)).bind (fun e=>M7 p e)=_
  simp only [c4]
  cases look env s<;>rfl
 ·rename_i s p i q
  show ((mi s p).run (look env)).bind _=_
  rw [sQ]; rfl
theorem EE (env:Env):∀ (es:List E),(qQ es).run (look env)=iB env es
 | []=>rfl
 | e::r=>by
   show ((As e).run (look env)).bind (fun x=>((qQ r).run (look env)).bind fun y=>some (x::y))=_
   rw [Na,EE env r]; rfl
theorem DC (env:Env) (e:E):(zl e).run (look env)=c9 env e:=by
 cases e<;>try rfl
 rename_i s p
 show ((mi s p).run (look env)).bind _=_
 rw [sQ]; rfl
theorem Sk (cl:aA) (env:Env) (f:FuncId) (A C:Ty) (caps:List E):(Cf cl f A C caps).run (look env)=jU cl env f A C caps:=by
 unfold Cf jU
 split
 ·show ((qQ caps).run (look env)).bind _=_
  rw [EE]; rfl
 ·rfl
end Go.Fw
/- The abstract value machine, part 3: steps, code, calls. -/
namespace Go.Fw
open Go Go.RowKit
inductive qy where
 | mv (x:Od)
 | ab (x:Od)
 | pick (c a b:Od)
 | alloc (T:Ty) (o:ay)
 | box (T:Ty) (x:Od)
 | build (T:Ty) (parts:List (Path×Od))
 | kc (T:Ty) (o:ay) (parts:List (Path×Od))
 | buildSlice (e:TypeId) (T:Ty) (parts:List Od)
 | load (T:Ty) (a:Od)
 | store (T:Ty) (a x:Od)
 | bin (op:BinOp) (x y:Od)
 | un (op:UnOp) (x:Od)
 | oR (k:IntKind) (x:Od)
 | fieldAddr (S:Ty) (p:Path) (a:Od)
 | indexAddr (T:Ty) (x i:Od)
 | zp (n:Nat) (T:Ty) (x i:Od)
 | field (S:Ty) (p:Path) (x:Od)
 | dn (x i:Od)
 | zo (n:Nat) (T:Ty) (x i:Od)
 | jM (x:Od) (lo hi:Option Od)
 | mE (T:Ty) (x:Od) (lo hi mx:Option Od)
 | mh (neg:Bool) (T:Ty) (x y:Od)
 | mkSlice (e:TypeId) (T:Ty) (lim:Nat) (len cap:Od)
 | append (e:TypeId) (T:Ty) (lim:Nat) (s x:Od)
 | bH (x:Od)
 | aX (x:Od)
 | zt (n:Nat)
 | mm (max:Bool) (x y:Od)
 | call (f:FuncId) (args:List Od)
 | nI (x:Od) (args:List Od)
 | extract (k:Nat) (i:Nat)
 | qg (f:FuncId) (A C:Ty) (caps:List Od)
 | DZ (x:Od)
 | ea (k:Nat)
 | bad
 | jG (x:Od)
 | qv (x:Od)
 | toStr (x:Od)
 | uF (f:FuncId) (args:List Od)
 | II (f:FuncId) (args:List Od)
 | cp (x:Od)
 | MC (f:FuncId) (x:Od)
 | kS (f:FuncId) (p:Od) (args:List Od)
 | zF (t e:TypeId)
 | iK (f:FuncId) (k:Nat) (x:Od)
 | jK (f:FuncId) (k:Nat)
 | shift (l:Bool) (x y:Od)
 | cb (f:FuncId) (x g:Od)
 | jd (f:FuncId) (x g:Od)
 | DP (K V:Ty)
 | Az (T:Ty) (p:Path) (k:Nat) (parts:List (Path×Od))
 | Ay (T:Ty) (k:Nat)
 | DO (K V:Ty) (x y:Od)
 | DQ (K V:Ty) (x y z:Od)
structure AI where
 dst:Option Nat
 op:qy
 guard:Option (Nat×Bool):=none
abbrev cO (R:Type):=Env→Option R
def Od.slot:Od→Option Nat | .t k=>some k | _=>none
def kp:E→Option (IntKind×Int)
 | .v (.int k) n=>some (k,n)
 | _=>none
def mS:E→Option Bool
 | .v .bool b=>some b
 | _=>none
def mG:E→Option (List UInt8)
 | .v .str s=>some s
 | _=>none
def mw (env:Env):Option Od→Option (Option Int)
 | none=>some none
 | some x=>(kp (aw env x)).bind fun q=>some (some q.2)
def po:E→E
 | .own _ e T o xs=>.own false e T o.bu xs
 | e=>e
def Zj:E→E
 | .cL es=>.cL (es.map po)
 | e=>po e
def pq (d:Option Nat) (env:Env):Env:=match d,env with
 | some _,(k,e)::r=>(k,Zj e)::r
 | _,env=>env
def fr (x:Od) (e:E):E:=
 match e with
 | .own .. =>match x with | .t k=>.ref k [] | _=>e
 | .loc .. =>match x with | .t k=>.ptr k [] | _=>e
 | .cL _=>.dead
 | .it _ _ | .sb _ _ _ | .nm _ _ _=>.dead
 | _=>e
def ou (env:Env) (d:Option Nat) (x:Od):Env:=
 match aw env x with
 | .cL es=>match x,d with
   | .t k,some d=>if k==d then env else (d,.cL es)::(k,.dead)::(if (look env d).home then kill d env else env)
   | _,_=>aM env d .dead
 | e=>aM env d (fr x e)
def assign (env:Env) (d:Nat) (x:Od):Env:=
 match aw env x with
 | .own wr e T o xs=>match x with
   | .t k=>if k==d then env else
     let env:=if (look env d).home then kill d env else env
     (d,.own wr e T o xs)::(k,.ref d [])::tv k d env
   | _=>put env d (.own wr e T o xs)
 | e=>put env d (fr x e)
def ej:(T:Ty)→Option (den T→den T→Bool)
 | .int _=>some fun x y=>x==y
 | .bool=>some fun x y=>x==y
 | .str=>some fun x y=>x==y
 | .unit=>some fun _ _=>true
 | .pair A B=>match ej A,ej B with
   | some f,some g=>some fun x y=>f x.1 y.1&&g x.2 y.2
   | _,_=>none
 | _=>none
def iC:(T:Ty)→den T→Env→List (Path×Od)→Option (Env×den T)
 | _,x,env,[]=>some (env,x)
 | T,x,env,(p,a)::r=>(eo env a).bind fun q=>(a7 T p x q.2).bind fun y=>iC T y q.1 r
def nH (T:Ty):Env→List Od→Option (Env×List (den T))
 | env,[]=>some (env,[])
 | env,a::r=>(eo env a).bind fun q=>(bm T q.2).bind fun x=>(nH T q.1 r).bind fun z=>some (z.1,x::z.2)
def fM (cl:aA) (env:Env):List Od→Option (List E)
 | []=>some []
 | a::r=>
   (match aw env a with
    | .loc T o x=>if o.whole then some (E.at T x) else none
    | .cT f A C caps=>jU cl env f A C caps
    | e=>c4 env e).bind fun x=>(fM cl env r).bind fun y=>some (x::y)
def jC (env:Env):List Od→Env
 | []=>env
 | a::r=>jC (match ft a (aw env a) with | some s=>freeze env s | none=>env) r
def E.plain:E→Bool
 | .v T _=>cD T
 | .own _ _ T _ _=>cD T
 | _=>false
def eD:List E→E
 | [e]=>e
 | es=>.cL es
def tuple:(A:Ty)→List E→Option (den A)
 | .unit,[]=>some ()
 | .pair A B,.v T x::r=>(bm A ⟨T,x⟩).bind fun y=>(tuple B r).bind fun z=>some (y,z)
 | _,_=>none
variable {R:Type}
def eC (env:Env) (y:Od):Option (Nat×Path):=
 match aw env y with
 | .ptr s p=>some (s,p)
 | .loc .. =>y.slot.map fun k=>(k,[])
 | _=>none
def placeOf (env:Env) (k0:Nat):Option (Nat×Path):=
 match look env k0 with
 | .own .. =>some (k0,[])
 | .ref k p=>some (k,p)
 | _=>none
def tP (env:Env) (k:Nat) (p:Path):Option Env:=
 match look env k with
 | .own .. =>some ((k,.dead)::kill k env)
 | .loc T0 o x0=>some ((k,.loc T0 (eU o p .hole) x0)::jD k env)
 | _=>none
def apart (d:Option Nat) (k:Nat):Bool:=match d with | some d=>!(d==k) | none=>false
def E.cap:E→Bool
 | .cL _ | .cT _ _ _ _ | .own .. | .it _ _ | .sb _ _ _ | .nm _ _ _=>false
 | _=>true
def zP:E→Option TV
 | .v T x=>some ⟨T,x⟩
 | _=>none
def ql (env:Env):Od→Option Nat
 | .t k=>match look env k with
   | .own .. =>some k
   | .ref s []=>some s
   | _=>none
 | _=>none
def qk:List E→Option TV
 | [.own _ _ T _ ys]=>some ⟨.sl T,ys⟩
 | _=>none
def kr (o:ay) (s:Nat) (env:Env):Env:=match o.pure with | true=>env | false=>jD s env
def tq:E→Bool
 | .v T _=>eA T
 | .dead=>true
 | _=>false
def DJ (T:Ty):List E→Option (ay×den T×List E)
 | .loc T' o x::rs=>(match eA T with | true=>(bm T ⟨T',x⟩).bind fun x=>some (o,x,rs) | false=>none)
 | _=>none
def XB:List E→Option (List UInt8)
 | [.sb _ _ s]=>some s
 | _=>none
def X1:List E→Option (List UInt8)
 | [.v .str s]=>some s
 | _=>none
def iI {α β:Type} (f:α→α→Bool) (z:β):List (α×β)→α→β×Bool
 | [],_=>(z,false)
 | e::r,k=>match f k e.1 with | true=>(e.2,true) | false=>iI f z r k
def jf {α β:Type} (f:α→α→Bool):List (α×β)→α→β→List (α×β)
 | [],k,v=> [(k,v)]
 | e::r,k,v=>match f k e.1 with | true=>(k,v)::r | false=>e::jf f r k v
def step (cl:aA) (i:AI) (env:Env) (K:cO R):Option R:=
 match i.op with
 | .mv x=>K (ou env i.dst x)
 | .ab x=>match i.dst with | some d=>K (assign env d x) | none=>none
 | .pick c a b=>(mS (aw env c)).bind fun q=>ad q (K (aM env i.dst (fr a (aw env a)))) (K (aM env i.dst (fr b (aw env b))))
 | .alloc T o=>K (aM env i.dst (.loc T o (zero T)))
 | .box T x=>(eo env x).bind fun q=>(bm T q.2).bind fun y=>K (aM q.1 i.dst (.loc T .no y))
 | .build T parts=>(iC T (zero T) env parts).bind fun q=>K (aM q.1 i.dst (.v T q.2))
 | .kc T o parts=>(iC T (zero T) env parts).bind fun q=>K (aM q.1 i.dst (.nw T (qO o parts) q.2))
 | .buildSlice e T parts=>(nH T env parts).bind fun q=>K (aM q.1 i.dst (.own true e T .no q.2))
 | .load T a=>match aw env a with
   | .at T' x=>(bm T ⟨T',x⟩).bind fun y=>K (aM env i.dst (.v T y))
   | .cZ s p j q=>(bh env s p).bind fun h=>if j < h.xs.length then
     (if h.o.pure then (aH h.T q (h.xs.getD j (zero h.T))).bind fun z=>(bm T z).bind fun y=>K (aM env i.dst (.v T y)) else none) else none
   | _=>match eC env a with
     | some (s,p)=>match look env s with
       | .loc T0 o x=>match cm o p with
         | .own .. =>match aH T0 p x with
           | some ⟨.sl T',_⟩=>if T=.sl T' then K (aM env i.dst (.ref s p)) else none
           | _=>none
         | .mp=>match aH T0 p x with
           | some ⟨.map K' V',_⟩=>if T=.map K' V' then K (aM env i.dst (.ref s p)) else none
           | _=>none
         | b=>if b.whole then (aH T0 p x).bind fun z=>(bm T z).bind fun y=>
            K (aM (if b.pure then env else freeze env s) i.dst (.v T y)) else none
       | _=>none
     | none=>none
 | .store T a x=>match aw env a with
   | .cZ s p j q=>match look env s with
     | .own true e T0 o xs=>match p with
       | []=>(eo env x).bind fun y=>(bm T y.2).bind fun z=>if j < xs.length then
         (a7 T0 q (xs.getD j (zero T0)) ⟨T,z⟩).bind fun u=>(match look y.1 s with | .own true .. =>some () | _=>none).bind fun _=>if o.pure then K ((s,.own true e T0 o (xs.set j u))::y.1) else none else none
       | _=>none
     | .loc .. =>(eo env x).bind fun y=>(bm T y.2).bind fun z=>match look y.1 s with
       | .loc T0 o x0=>(match cm o p,aH T0 p x0 with
         | .own true _ o',some ⟨.sl T1,xs⟩=>if j < xs.length then (a7 T1 q (xs.getD j (zero T1)) ⟨T,z⟩).bind fun u=>(a7 T0 p x0 ⟨.sl T1,xs.set j u⟩).bind fun x1=>
           if o'.pure then K ((s,.loc T0 o x1)::y.1) else none else none
         | _,_=>none)
       | _=>none
     | _=>none
   | _=>match eC env a with
     | some (s,p)=>match look env s with
       | .loc T0 o x0=>
         if (cD T) then
          (c9 env (aw env x)).bind fun y=>(bm T y).bind fun z=>(a7 T0 p x0 ⟨T,z⟩).bind fun x1=>K ((s,.loc T0 o x1)::env)
         else match aw env x with
         | .own wr e T1 o1 xs=>match x with
           | .t k=>(bm T ⟨.sl T1,xs⟩).bind fun z=>(a7 T0 p x0 ⟨T,z⟩).bind fun x1=>match cF p with
             | true=>none
             | false=>K ((s,.loc T0 (eU o p (.own wr e o1)) x1)::(k,.ref s p)::jD s (kill k env))
           | _=>(bm T ⟨.sl T1,xs⟩).bind fun z=>(a7 T0 p x0 ⟨T,z⟩).bind fun x1=>match cF p with
             | true=>none
             | false=>K ((s,.loc T0 (eU o p (.own wr e o1)) x1)::jD s env)
         | .nw T1 o1 x2=>(bm T ⟨T1,x2⟩).bind fun z=>(a7 T0 p x0 ⟨T,z⟩).bind fun x1=>match cF p || !o1.whole with
           | true=>none
           | false=>K ((s,.loc T0 (eU o p o1) x1)::jD s env)
         | _=>(eo env x).bind fun y=>(bm T y.2).bind fun z=>match look y.1 s with
           | .loc T0 o x0=>(a7 T0 p x0 ⟨T,z⟩).bind fun x1=>match (cm o p).pure with
             | true=>K ((s,.loc T0 o x1)::y.1)
             | false=>K ((s,.loc T0 (eU o p .no) x1)::jD s y.1)
           | _=>none
       | _=>none
     | none=>none
 | .bin op x y=>match aw env x,aw env y with
   | .v (.int k) m,.v (.int k') n=>if k=k' then
     (match op with
      | .quo=>if n=0 then none else K (aM env i.dst (.v (.int k) (k.wrap (m.tdiv n))))
      | .rem=>if n=0 then none else K (aM env i.dst (.v (.int k) (m.tmod n)))
      | _=>match Cg op m n with
        | some b=>K (aM env i.dst (.v .bool b))
        | none=>(arith op k m n).bind fun r=>K (aM env i.dst (.v (.int k) r))) else none
   | .v .str s,.v .str t=>match op with
     | .eql=>K (aM env i.dst (.v .bool (s==t)))
     | .neq=>K (aM env i.dst (.v .bool (s != t)))
     | .add=>if s.length+t.length≤140737488355328 then K (aM env i.dst (.v .str (s++t))) else none
     | .lss=>K (aM env i.dst (.v .bool (Op.bytesLess s t)))
     | .leq=>K (aM env i.dst (.v .bool (Op.bytesLess s t || s==t)))
     | .gtr=>K (aM env i.dst (.v .bool (!(Op.bytesLess s t || s==t))))
     | .geq=>K (aM env i.dst (.v .bool (!Op.bytesLess s t)))
     | _=>none
   | _,_=>none
 | .mh neg T x y=>(c9 env (aw env x)).bind fun s=>(c9 env (aw env y)).bind fun t=>(bm T s).bind fun s=>(bm T t).bind fun t=>(ej T).bind fun f=>
   K (aM env i.dst (.v .bool (if neg then !f s t else f s t)))
 | .un op x=>match op,aw env x with
   | .not,.v .bool b=>K (aM env i.dst (.v .bool (!b)))
   | .neg,.v (.int k) n=>K (aM env i.dst (.v (.int k) (k.wrap (0 - n))))
   | _,_=>none
 | .shift l x y=>match aw env x,aw env y with
   | .v (.int k) m,.v (.int _) n=>if 0≤n then K (aM env i.dst (.v (.int k) (tJ l k m n))) else none
   | _,_=>none
 | .oR k x=>(kp (aw env x)).bind fun q=>K (aM env i.dst (.v (.int k) (k.wrap q.2)))
 | .fieldAddr S p a=>match aw env a with
   | .at T x=>(bm S ⟨T,x⟩).bind fun x=>(aH S p x).bind fun y=>K (aM env i.dst (.at y.1 y.2))
   | .ptr s q=>match look env s with
     | .loc T0 _ _=>if cU T0 q=some S then K (aM env i.dst (.ptr s (q++p))) else none
     | _=>none
   | .cZ s q j r=>(bh env s q).bind fun h=>if cU h.T r=some S then K (aM env i.dst (.cZ s q j (r++p))) else none
   | .loc T0 _ _=>if T0=S then a.slot.bind fun k=>K (aM env i.dst (.ptr k p)) else none
   | _=>none
 | .indexAddr T x ix=>(kp (aw env ix)).bind fun q=>match aw env x with
   | .v T' xs=>(bm (.sl T) ⟨T',xs⟩).bind fun xs=>if 0≤q.2∧q.2 < (xs.length:Int) then K (aM env i.dst (.at T (xs.getD q.2.toNat (zero T)))) else none
   | .own _ _ T' _ xs=>if T'=T then x.slot.bind fun s=>if 0≤q.2∧q.2 < (xs.length:Int) then K (aM env i.dst (.cZ s [] q.2.toNat [])) else none else none
   | .ref s p=>(bh env s p).bind fun h=>if h.T=T then if 0≤q.2∧q.2 < (h.xs.length:Int) then K (aM env i.dst (.cZ s p q.2.toNat [])) else none else none
   | _=>none
 | .zp n T x ix=>(kp (aw env ix)).bind fun q=>match aw env x with
   | .at T' xs=>(bm (.arr n T) ⟨T',xs⟩).bind fun xs=>if 0≤q.2∧q.2 < (n:Int) then K (aM env i.dst (.at T (xs.getD q.2.toNat (zero T)))) else none
   | _=>match eC env x with
     | some (s,p)=>match look env s with
       | .loc T0 _ _=>if cU T0 p=some (.arr n T) then if 0≤q.2∧q.2 < (n:Int) then K (aM env i.dst (.ptr s (p++[.ix q.2.toNat]))) else none else none
       | _=>none
     | none=>none
 | .field S p x=>(c9 env (aw env x)).bind fun y=>(bm S y).bind fun y=>(aH S p y).bind fun z=>K (aM env i.dst (.v z.1 z.2))
 | .dn x ix=>(kp (aw env ix)).bind fun q=>(mG (aw env x)).bind fun s=>
   if 0≤q.2∧q.2 < (s.length:Int) then K (aM env i.dst (.v (.int .u8) ((s.getD q.2.toNat 0).toNat:Int))) else none
 | .zo n T x ix=>(kp (aw env ix)).bind fun q=>match aw env x with
   | .v T' xs=>(bm (.arr n T) ⟨T',xs⟩).bind fun xs=>if 0≤q.2∧q.2 < (n:Int) then K (aM env i.dst (.v T (xs.getD q.2.toNat (zero T)))) else none
   | _=>none
 | .jM x lo hi=>(mw env lo).bind fun lo=>(mw env hi).bind fun hi=>(mG (aw env x)).bind fun s=>
   if 0≤lo.getD 0∧lo.getD 0≤hi.getD (s.length:Int)∧hi.getD (s.length:Int)≤(s.length:Int) then
    K (aM env i.dst (.v .str ((s.drop (lo.getD 0).toNat).take ((hi.getD (s.length:Int)).toNat - (lo.getD 0).toNat)))) else none
 | .mE T x lo hi mx=>(mw env lo).bind fun lo=>(mw env hi).bind fun hi=>(mw env mx).bind fun mx=>(eo env x).bind fun y=>(bm (.sl T) y.2).bind fun xs=>
   if 0≤lo.getD 0∧lo.getD 0≤hi.getD (xs.length:Int)∧hi.getD (xs.length:Int)≤mx.getD (xs.length:Int)∧mx.getD (xs.length:Int)≤(xs.length:Int) then
    K (aM y.1 i.dst (.v (.sl T) ((xs.drop (lo.getD 0).toNat).take ((hi.getD (xs.length:Int)).toNat - (lo.getD 0).toNat)))) else none
 | .mkSlice e T lim l c=>match aw env l,aw env c with
   | .v (.int .i64) m,.v (.int .i64) n=>if 0≤m∧m≤n∧n≤(lim:Int) then K (aM env i.dst (.own true e T .no (gn m.toNat (zero T)))) else none
   | _,_=>none
 | .append e T lim s x=>(eo env x).bind fun y=>(bm (.sl T) y.2).bind fun ys=>match s with
   | .nil e' _=>if e=e' then if ys.length≤lim then K (aM y.1 i.dst (.own true e T .no ys)) else none else none
   | .t k0=>(placeOf y.1 k0).bind fun q=>(bh y.1 q.1 q.2).bind fun h=>(bm (.sl T) ⟨.sl h.T,h.xs⟩).bind fun xs=>(tP y.1 q.1 q.2).bind fun env2=>
     match apart i.dst q.1&&h.o.pure&&(h.e==e) with
     | true=>if xs.length+ys.length≤lim then K (aM env2 i.dst (.own h.wr e T .no (xs++ys))) else none
     | false=>none
   | _=>none
 | .bH x=>(mG (aw env x)).bind fun s=>K (aM env i.dst (.v (.int .i64) (s.length:Int)))
 | .aX x=>(c9 env (aw env x)).bind fun y=>match y with
   | ⟨.sl _,xs⟩=>K (aM env i.dst (.v (.int .i64) (xs.length:Int)))
   | _=>none
 | .zt m=>K (aM env i.dst (.v (.int .i64) (m:Int)))
 | .mm mx x y=>match aw env x,aw env y with
   | .v (.int k) m,.v (.int k') n=>if k=k' then K (aM env i.dst (.v (.int k) (if mx then (if n > m then n else m) else (if n < m then n else m)))) else none
   | _,_=>none
 | .call f args=>(fM cl env args).bind fun as=>cl.runK f as fun res=>
   K (aM (if res.all E.plain then env else jC env args) i.dst (eD res))
 | .uF f args=>(fM cl env args).bind fun as=>cl.runK f as fun res=>
   K (pq i.dst (aM (if res.all E.plain then env else jC env args) i.dst (eD res)))
 | .II f args=>(fM cl env args).bind fun as=>cl.runK f (.dead::as) fun res=>
   K (aM (if res.all E.plain then env else jC env args) i.dst (eD res))
 | .cp x=>(eo env x).bind fun q=>K (aM q.1 i.dst (.v q.2.1 q.2.2))
 | .MC f x=>(ql env x).bind fun s=>match look env s with
   | .own true e T .no xs=>if cD T&&!(e==gZ) then cl.runK f [.bJ,.own true e T .no xs] fun res=>
     (qk res).bind fun y=>(bm (.sl T) y).bind fun ys=>K (aM ((s,.own true e T .no ys)::env) i.dst (.cL [])) else none
   | _=>none
 | .kS f p args=>(eC env p).bind fun q=>match q.2 with
   | []=>(fM cl env args).bind fun as=>match as.all tq&&apart i.dst q.1 with
     | true=>(match look (jC env args) q.1 with
       | .loc T o x=>cl.runK f (.loc T o x::as) fun res=>(DJ T res).bind fun y=>
         K (aM ((q.1,.loc T y.1 y.2.1)::kr o q.1 (jC env args)) i.dst (eD y.2.2))
       | _=>none)
     | false=>none
   | _=>none
 | .DP K0 V0=>K (aM env i.dst (.nm (.map K0 V0) .mp []))
 | .Az T p k parts=>(iC T (zero T) env parts).bind fun q=>match look q.1 k with
   | .nm T' .mp x'=>(match cF p || !apart i.dst k with
     | false=>(a7 T p q.2 ⟨T',x'⟩).bind fun y=>K (aM ((k,.dead)::q.1) i.dst (.nm T (eU .no p .mp) y))
     | true=>none)
   | _=>none
 | .Ay T k=>match look env k with
   | .nm T' o x=>(bm T ⟨T',x⟩).bind fun y=>match apart i.dst k&&o.whole with
     | true=>K (aM ((k,.dead)::env) i.dst (.loc T o y))
     | false=>none
   | _=>none
 | .DO K0 V0 x y=>match aw env x with
   | .ref s p=>match look env s with
     | .loc T0 o x0=>match cm o p with
       | .mp=>(aH T0 p x0).bind fun z=>(bm (.map K0 V0) z).bind fun xs=>(c9 env (aw env y)).bind fun k=>(bm K0 k).bind fun k=>(ej K0).bind fun f=>
         K (aM env i.dst (.cL [.v V0 (iI f (zero V0) xs k).1,.v .bool (iI f (zero V0) xs k).2]))
       | _=>none
     | _=>none
   | _=>none
 | .DQ K0 V0 x y z=>match aw env x with
   | .ref s p=>match look env s with
     | .loc T0 o x0=>match cm o p with
       | .mp=>(aH T0 p x0).bind fun u=>(bm (.map K0 V0) u).bind fun xs=>(c9 env (aw env y)).bind fun k=>(bm K0 k).bind fun k=>(c9 env (aw env z)).bind fun v=>(bm V0 v).bind fun v=>(ej K0).bind fun f=>
         (a7 T0 p x0 ⟨.map K0 V0,jf f xs k v⟩).bind fun x1=>K ((s,.loc T0 o x1)::env)
       | _=>none
     | _=>none
   | _=>none
 | .cb f x g=>match x with
   | .t s=>(match look env s,aw env g with
     | .own true e T .no xs,.cT fg A C caps=>(match (env.all fun q=>!leads s q.2)&&apart i.dst s&&!(e==gZ) with
       | true=>(jU cl env fg A C caps).bind fun ge=>cl.runK f [.bJ,.own true e T .no xs,ge] fun res=>
         (qk res).bind fun y=>(bm (.sl T) y).bind fun ys=>K (aM ((s,.dead)::env) i.dst (.own true e T .no ys))
       | false=>none)
     | _,_=>none)
   | _=>none
 | .jd f x g=>(ql env x).bind fun s=>match look env s,aw (kill s env) g with
   | .own true e T .no xs,.cT fg A C caps=>(match apart i.dst s&&!(e==gZ) with
     | true=>(jU cl (kill s env) fg A C caps).bind fun ge=>cl.runK f [.bJ,ge,.own true e T .no xs] fun res=>
       (qk res).bind fun y=>(bm (.sl T) y).bind fun ys=>K (aM ((s,.own true e T .no ys)::kill s env) i.dst .dead)
     | false=>none)
   | _,_=>none
 | .zF t e=>K (aM env i.dst (.sb t e []))
 | .iK f k x=>match look env k with
   | .sb t e s=>(match apart i.dst k with
     | true=>(mG (aw env x)).bind fun u=>cl.runK f [.bJ,.sb t e s,.v .str u] fun res=>(XB res).bind fun s'=>K (aM ((k,.sb t e s')::env) i.dst .dead)
     | false=>none)
   | _=>none
 | .jK f k=>match look env k with
   | .sb t e s=>(match apart i.dst k with
     | true=>cl.runK f [.bJ,.sb t e s] fun res=>(X1 res).bind fun u=>K (aM ((k,.dead)::env) i.dst (.v .str u))
     | false=>none)
   | _=>none
 | .nI x args=>match aw env x with
   | .v (.fn A C) g=>(fM cl env args).bind fun as=>(tuple A as).bind fun a=>(g a).bind fun r=>if cD C then K (aM env i.dst (.v C r)) else none
   | .cT f _ _ caps=>(fM cl env args).bind fun as=>(iB env caps).bind fun cs=>cl.runK f (as++cs) fun res=>
     if res.all E.plain then K (aM env i.dst (eD res)) else none
   | _=>none
 | .extract k j=>match look env k with
   | .cL es=>match es[j]? with
     | some e=>(match e with
       | .v T x=>K (aM env i.dst (.v T x))
       | .own wr e' T o xs=>match !wr&&o.pure with
         | true=>K (aM env i.dst (.v (.sl T) xs))
         | false=>K (aM ((k,.cL (es.set j .dead))::env) i.dst (.own wr e' T o xs))
       | _=>none)
     | none=>none
   | _=>none
 | .qg f A C caps=>if (caps.all fun a=>(aw env a).cap) then K (aM env i.dst (.cT f A C (caps.map fun a=>fr a (aw env a)))) else none
 | .bad=>none
 | .qv x=>(mG (aw env x)).bind fun s=>K (aM env i.dst (.own true gZ (.int .u8) .no (s.map fun b=>(b.toNat:Int))))
 | .toStr x=>(c9 env (aw env x)).bind fun y=>(bm (.sl (.int .u8)) y).bind fun xs=>K (aM env i.dst (.v .str (xs.map fun n=>UInt8.ofNat n.toNat)))
 | .jG x=>match aw env x with
   | .ptr .. | .cZ .. | .at .. | .loc .. =>K (aM env i.dst (fr x (aw env x)))
   | _=>none
 | .DZ x=>(mG (aw env x)).bind fun s=>K (aM env i.dst (.it s 0))
 | .ea k=>match look env k with
   | .it s pos=>ad (decide (pos < s.length)) (K (aM ((k,.it s (pos+(Utf8.decode ⟨⟨s⟩⟩ pos).2))::env) i.dst (.cL [.v .bool true,.v (.int .i64) (pos:Int),.v (.int .i32) ((Utf8.decode ⟨⟨s⟩⟩ pos).1:Int)]))) (K (aM env i.dst (.cL [.v .bool false])))
   | _=>none
def zi (g:Option (Nat×Bool)) (env:Env) (yes no:cO R):Option R:=
 match g with
 | none=>yes env
 | some (s,pol)=>match look env s with
   | .v .bool b=>ad b ((if pol then yes else no) ((s,.v .bool true)::env)) ((if pol then no else yes) ((s,.v .bool false)::env))
   | .bJ=>no env
   | _=>none
def ops (cl:aA):List AI→Env→cO R→Option R
 | [],env,K=>K env
 | i::r,env,K=>zi i.guard env (fun env=>step cl i env (fun env=>ops cl r env K)) (fun env=>ops cl r (aM env i.dst .bJ) K)
def WE (d:Nat) (e:E):E:=if leads d e then .dead else e
def one (d:Option Nat) (e:E):List (Nat×E):=match d with | some d=> [(d,WE d e)] | none=> []
def E.oj:E→Bool
 | .own .. | .loc .. | .cL _ | .dead | .it _ _ | .sb _ _ _ | .nm _ _ _=>false
 | _=>true
def L4 (x:Od):Rd E:=(dN x).bind fun e=>if e.oj then .ok e else .no
def Sr (x:Od) (e:E):Option E:=
 match e with
 | .cL _ | .dead | .it _ _ | .sb _ _ _ | .nm _ _ _=>none
 | .own .. | .loc .. =>match x with | .t _=>some (fr x e) | _=>none
 | e=>some e
def uL (x:Od):Rd E:=(dN x).bind fun e=>match Sr x e with | some f=>.ok f | none=>.no
def kq (x:Od):Rd (IntKind×Int):=(dN x).bind fun e=>.of (kp e)
def EJ (x:Od):Rd Bool:=(dN x).bind fun e=>.of (mS e)
def zL (x:Od):Rd (List UInt8):=(dN x).bind fun e=>.of (mG e)
def my:Option Od→Rd (Option Int)
 | none=>.ok none
 | some x=>(kq x).bind fun q=>.ok (some q.2)
def qw (x:Od):Rd TV:=(dN x).bind fun e=>.of (zP e)
def Ni (op:BinOp) (a b:E):Rd E:=
 match a,b with
 | .v (.int k) m,.v (.int k') n=>if k=k' then
   (match op with
    | .quo=>.ite (n=0) .no (.ok (.v (.int k) (k.wrap (m.tdiv n))))
    | .rem=>.ite (n=0) .no (.ok (.v (.int k) (m.tmod n)))
    | _=>match Cg op m n with
      | some b=>.ok (.v .bool b)
      | none=>match arith op k m n with
        | some r=>.ok (.v (.int k) r)
        | none=>.no) else .no
 | .v .str s,.v .str t=>match op with
   | .eql=>.ok (.v .bool (s==t))
   | .neq=>.ok (.v .bool (s != t))
   | .add=>.ite (s.length+t.length≤140737488355328) (.ok (.v .str (s++t))) .no
   | .lss=>.ok (.v .bool (Op.bytesLess s t))
   | .leq=>.ok (.v .bool (Op.bytesLess s t || s==t))
   | .gtr=>.ok (.v .bool (!(Op.bytesLess s t || s==t)))
   | .geq=>.ok (.v .bool (!Op.bytesLess s t))
   | _=>.no
 | _,_=>.no
def X4 (op:UnOp) (x:E):Option E:=
 match op,x with
 | .not,.v .bool b=>some (.v .bool (!b))
 | .neg,.v (.int k) n=>some (.v (.int k) (k.wrap (0 - n)))
 | _,_=>none
def Mn (x:Od):Rd ((Nat×Path)×E):=(dN x).bind fun e=>match e with
 | .ptr s p=>(Rd.get s).bind fun f=>.ok ((s,p),f)
 | .loc .. =>match x with | .t k=>.ok ((k,[]),e) | _=>.no
 | _=>.no
def DK (T:Ty) (s:Nat) (p:Path):E→Rd E
 | .loc T0 o x=>match cm o p with
   | .own .. =>match aH T0 p x with
     | some ⟨.sl T',_⟩=>if T=.sl T' then .ok (.ref s p) else .no
     | _=>.no
   | .mp=>match aH T0 p x with
     | some ⟨.map K' V',_⟩=>if T=.map K' V' then .ok (.ref s p) else .no
     | _=>.no
   | b=>if b.whole&&b.pure then (Rd.of ((aH T0 p x).bind fun z=>bm T z)).bind fun y=>.ok (.v T y) else .no
 | _=>.no
def WL (T:Ty) (j:Nat) (q:Path) (h:j8):Rd E:=
 .ite (j < h.xs.length)
  (if h.o.pure then (Rd.of ((aH h.T q (h.xs.getD j (zero h.T))).bind fun z=>bm T z)).bind fun y=>.ok (.v T y) else .no) .no
def Td (S:Ty) (s:Nat) (q p:Path):E→Option E
 | .loc T0 _ _=>if cU T0 q=some S then some (.ptr s (q++p)) else none
 | _=>none
def Av (n:Nat) (T:Ty) (i:Int) (s:Nat) (p:Path):E→Rd E
 | .loc T0 _ _=>if cU T0 p=some (.arr n T) then .ite (0≤i∧i < (n:Int)) (.ok (.ptr s (p++[.ix i.toNat]))) .no else .no
 | _=>.no
def qV:(T:Ty)→den T→List (Path×Od)→Rd (den T)
 | _,x,[]=>.ok x
 | T,x,(p,a)::r=>(qw a).bind fun q=>(Rd.of (a7 T p x q)).bind fun y=>qV T y r
def ux (T:Ty):List Od→Rd (List (den T))
 | []=>.ok []
 | a::r=>(qw a).bind fun q=>(Rd.of (bm T q)).bind fun x=>(ux T r).bind fun z=>.ok (x::z)
def M8 (cl:aA):E→Rd E
 | .loc T o x=>if o.whole then .ok (E.at T x) else .no
 | .cT f A C caps=>Cf cl f A C caps
 | e=>As e
def mQ (cl:aA):List Od→Rd (List E)
 | []=>.ok []
 | a::r=>((dN a).bind (M8 cl)).bind fun x=>(mQ cl r).bind fun y=>.ok (x::y)
def XY:E→Bool | .loc _ o _=>o.stays | _=>false
def sR:List Od→Rd Unit
 | []=>.ok ()
 | a::r=>(dN a).bind fun e=>match ft a e with
   | none=>sR r
   | some s=>(Rd.get s).bind fun f=>match XY f with | true=>sR r | false=>.no
def DX (args:List Od) (res:List E):Rd E:=if res.all E.plain then .ok (eD res) else (sR args).bind fun _=>.ok (eD res)
def uG:List Od→Rd (List E)
 | []=>.ok []
 | a::r=>(dN a).bind fun e=>if e.cap then (uG r).bind fun y=>.ok (fr a e::y) else .no
def S6 (j:Nat):E→Option E
 | .cL es=>match es[j]? with
   | some (.v T x)=>some (.v T x)
   | some (.own false _ T o xs)=>if o.pure then some (.v (.sl T) xs) else none
   | _=>none
 | _=>none
def tQ (cl:aA) (d:Option Nat):qy→Rd E
 | .mv x=>uL x
 | .jG x=>(dN x).bind fun e=>match e with
   | .ptr s p=>.ok (.ptr s p)
   | .cZ s p i q=>.ok (.cZ s p i q)
   | .at T y=>.ok (.at T y)
   | .loc .. =>match x with | .t k=>.ok (.ptr k []) | _=>.no
   | _=>.no
 | .ab x=>if d.isSome then L4 x else .no
 | .pick c a b=>(EJ c).bind fun q=>.br q (uL a) (uL b)
 | .alloc T o=>.ok (.loc T o (zero T))
 | .box T x=>(qw x).bind fun q=>(Rd.of (bm T q)).bind fun y=>.ok (.loc T .no y)
 | .build T parts=>(qV T (zero T) parts).bind fun y=>.ok (.v T y)
 | .kc T o parts=>(qV T (zero T) parts).bind fun y=>.ok (.nw T (qO o parts) y)
 | .buildSlice e T parts=>(ux T parts).bind fun y=>.ok (.own true e T .no y)
 | .load T a=>(dN a).bind fun e=>match e with
   | .at T' x=>(Rd.of (bm T ⟨T',x⟩)).bind fun y=>.ok (.v T y)
   | .cZ s p j q=>(mi s p).bind fun h=>WL T j q h
   | .ptr s p=>(Rd.get s).bind fun f=>DK T s p f
   | .loc .. =>match a with | .t k=>DK T k [] e | _=>.no
   | _=>.no
 | .bin op x y=>(dN x).bind fun a=>(dN y).bind fun b=>Ni op a b
 | .mh neg T x y=>(dN x).bind fun a=>(dN y).bind fun b=>(zl a).bind fun s=>(zl b).bind fun t=>(Rd.of (bm T s)).bind fun s=>(Rd.of (bm T t)).bind fun t=>(Rd.of (ej T)).bind fun f=>
   .ok (.v .bool (if neg then !f s t else f s t))
 | .un op x=>(dN x).bind fun a=>.of (X4 op a)
 | .shift l x y=>(dN x).bind fun a=>(dN y).bind fun b=>match a,b with
   | .v (.int k) m,.v (.int _) n=>.ite (0≤n) (.ok (.v (.int k) (tJ l k m n))) .no
   | _,_=>.no
 | .oR k x=>(kq x).bind fun q=>.ok (.v (.int k) (k.wrap q.2))
 | .fieldAddr S p a=>(dN a).bind fun e=>match e with
   | .at T x=>(Rd.of (bm S ⟨T,x⟩)).bind fun x=>(Rd.of (aH S p x)).bind fun y=>.ok (.at y.1 y.2)
   | .ptr s q=>(Rd.get s).bind fun f=>.of (Td S s q p f)
   | .cZ s q j r=>(mi s q).bind fun h=>if cU h.T r=some S then .ok (.cZ s q j (r++p)) else .no
   | .loc T0 _ _=>if T0=S then match a with | .t k=>.ok (.ptr k p) | _=>.no else .no
   | _=>.no
 | .indexAddr T x ix=>(kq ix).bind fun q=>(dN x).bind fun e=>match e with
   | .v T' xs=>(Rd.of (bm (.sl T) ⟨T',xs⟩)).bind fun xs=>.ite (0≤q.2∧q.2 < (xs.length:Int)) (.ok (.at T (xs.getD q.2.toNat (zero T)))) .no
   | .own _ _ T' _ xs=>if T'=T then match x with | .t s=>.ite (0≤q.2∧q.2 < (xs.length:Int)) (.ok (.cZ s [] q.2.toNat [])) .no | _=>.no else .no
   | .ref s p=>(mi s p).bind fun h=>if h.T=T then .ite (0≤q.2∧q.2 < (h.xs.length:Int)) (.ok (.cZ s p q.2.toNat [])) .no else .no
   | _=>.no
 | .zp n T x ix=>(kq ix).bind fun q=>(dN x).bind fun e=>match e with
   | .at T' xs=>(Rd.of (bm (.arr n T) ⟨T',xs⟩)).bind fun xs=>.ite (0≤q.2∧q.2 < (n:Int)) (.ok (.at T (xs.getD q.2.toNat (zero T)))) .no
   | .ptr s p=>(Rd.get s).bind fun f=>Av n T q.2 s p f
   | .loc .. =>match x with | .t k=>Av n T q.2 k [] e | _=>.no
   | _=>.no
 | .field S p x=>(dN x).bind fun e=>(zl e).bind fun y=>(Rd.of (bm S y)).bind fun y=>(Rd.of (aH S p y)).bind fun z=>.ok (.v z.1 z.2)
 | .dn x ix=>(kq ix).bind fun q=>(zL x).bind fun s=>
   .ite (0≤q.2∧q.2 < (s.length:Int)) (.ok (.v (.int .u8) ((s.getD q.2.toNat 0).toNat:Int))) .no
 | .zo n T x ix=>(kq ix).bind fun q=>(dN x).bind fun e=>match e with
   | .v T' xs=>(Rd.of (bm (.arr n T) ⟨T',xs⟩)).bind fun xs=>.ite (0≤q.2∧q.2 < (n:Int)) (.ok (.v T (xs.getD q.2.toNat (zero T)))) .no
   | _=>.no
 | .jM x lo hi=>(my lo).bind fun lo=>(my hi).bind fun hi=>(zL x).bind fun s=>
   .ite (0≤lo.getD 0∧lo.getD 0≤hi.getD (s.length:Int)∧hi.getD (s.length:Int)≤(s.length:Int))
    (.ok (.v .str ((s.drop (lo.getD 0).toNat).take ((hi.getD (s.length:Int)).toNat - (lo.getD 0).toNat)))) .no
 | .mE T x lo hi mx=>(my lo).bind fun lo=>(my hi).bind fun hi=>(my mx).bind fun mx=>(qw x).bind fun y=>(Rd.of (bm (.sl T) y)).bind fun xs=>
   .ite (0≤lo.getD 0∧lo.getD 0≤hi.getD (xs.length:Int)∧hi.getD (xs.length:Int)≤mx.getD (xs.length:Int)∧mx.getD (xs.length:Int)≤(xs.length:Int))
    (.ok (.v (.sl T) ((xs.drop (lo.getD 0).toNat).take ((hi.getD (xs.length:Int)).toNat - (lo.getD 0).toNat)))) .no
 | .mkSlice e T lim l c=>(kq l).bind fun m=>(kq c).bind fun n=>if m.1=.i64∧n.1=.i64 then .ite (0≤m.2∧m.2≤n.2∧n.2≤(lim:Int)) (.ok (.own true e T .no (gn m.2.toNat (zero T)))) .no else .no
 | .bH x=>(zL x).bind fun s=>.ok (.v (.int .i64) (s.length:Int))
 | .aX x=>(dN x).bind fun e=>(zl e).bind fun y=>match y with
   | ⟨.sl _,xs⟩=>.ok (.v (.int .i64) (xs.length:Int))
   | _=>.no
 | .zt m=>.ok (.v (.int .i64) (m:Int))
 | .mm mx x y=>(kq x).bind fun m=>(kq y).bind fun n=>if m.1=n.1 then .ok (.v (.int m.1) (if mx then (if n.2 > m.2 then n.2 else m.2) else (if n.2 < m.2 then n.2 else m.2))) else .no
 | .call f args=>(mQ cl args).bind fun es=>(Rd.call cl f es).bind fun res=>DX args res
 | .nI x args=>(dN x).bind fun e=>match e with
   | .v (.fn A C) g=>(mQ cl args).bind fun es=>(Rd.of (tuple A es)).bind fun a=>(Rd.of (g a)).bind fun r=>if cD C then .ok (.v C r) else .no
   | .cT f _ _ caps=>(mQ cl args).bind fun es=>(qQ caps).bind fun cs=>(Rd.call cl f (es++cs)).bind fun res=>if res.all E.plain then .ok (eD res) else .no
   | _=>.no
 | .extract k j=>(Rd.get k).bind fun e=>.of (S6 j e)
 | .qg f A C caps=>(uG caps).bind fun cs=>.ok (.cT f A C cs)
 | _=>.no
def D8 (T:Ty) (z:den T) (s:Nat) (p:Path):E→Rd (List (Nat×E))
 | .loc T0 o x0=>if cD T || (cm o p).pure then (Rd.of (a7 T0 p x0 ⟨T,z⟩)).bind fun x1=>.ok [(s,.loc T0 o x1)] else .no
 | _=>.no
def X0 (T:Ty) (z:den T) (s:Nat) (j:Nat) (q:Path):E→Rd (List (Nat×E))
 | .own true e T0 o xs=>.ite (j < xs.length) ((Rd.of (a7 T0 q (xs.getD j (zero T0)) ⟨T,z⟩)).bind fun u=>if o.pure then .ok [(s,.own true e T0 o (xs.set j u))] else .no) .no
 | _=>.no
def XN (T:Ty) {T':Ty} (xs:List (den T')) (lo hi mx:Option Od):Rd E:=
 (my lo).bind fun lo=>(my hi).bind fun hi=>(my mx).bind fun mx=>(Rd.of (bm (.sl T) ⟨.sl T',xs⟩)).bind fun xs=>
   .ite (0≤lo.getD 0∧lo.getD 0≤hi.getD (xs.length:Int)∧hi.getD (xs.length:Int)≤mx.getD (xs.length:Int)∧mx.getD (xs.length:Int)≤(xs.length:Int))
    (.ok (.v (.sl T) ((xs.drop (lo.getD 0).toNat).take ((hi.getD (xs.length:Int)).toNat - (lo.getD 0).toNat)))) .no
def EC (d:Option Nat) (k0:Nat) (x:Od):Rd (TV×List (Nat×E)):=
 (dN x).bind fun e=>match e with
  | .v T y=>.ok (⟨T,y⟩,[])
  | .own _ ed T o xs=>match x with
    | .t k=>if (!(k==k0))&&apart d k&&o.pure then .ok (⟨.sl T,xs⟩,[(k,.own false ed T o.bu xs)]) else .no
    | _=>.no
  | _=>.no
def Mo (d:Option Nat) (ch:List (Nat×E)) (x:Od):Rd (TV×List (Nat×E)):=
 (dN x).bind fun e=>match e with
  | .v T y=>.ok (⟨T,y⟩,ch)
  | .own _ ed T o xs=>match x with
    | .t k=>if (ch.all fun q=>!(q.1==k))&&apart d k&&o.pure then .ok (⟨.sl T,xs⟩,(k,.own false ed T o.bu xs)::ch) else .no
    | _=>.no
  | _=>.no
def uy (d:Option Nat):(T:Ty)→den T→List (Nat×E)→List (Path×Od)→Rd (den T×List (Nat×E))
 | _,x,ch,[]=>.ok (x,ch)
 | T,x,ch,(p,a)::r=>(Mo d ch a).bind fun q=>(Rd.of (a7 T p x q.1)).bind fun y=>uy d T y q.2 r
def J7:qy→Option Nat
 | .append _ _ _ (.t k) _=>some k
 | .cb _ (.t k) _=>some k
 | _=>none
def gi (cl:aA) (d:Option Nat):qy→Rd (List (Nat×E))
 | .store T a x=>(qw x).bind fun y=>(Rd.of (bm T y)).bind fun z=>(dN a).bind fun e=>match e with
   | .cZ s [] j q=>(Rd.get s).bind fun f=>X0 T z s j q f
   | .ptr s p=>(Rd.get s).bind fun f=>D8 T z s p f
   | .loc .. =>match a with | .t k=>D8 T z k [] e | _=>.no
   | _=>.no
 | .mE T x lo hi mx=>(dN x).bind fun e=>match e with
   | .ref s p=>match p with
     | []=>(Rd.get s).bind fun f=>match f with
       | .own _ ed T' o xs=>if o.pure then (XN T xs (T':=T') lo hi mx).bind fun v=>.ok (one d v++[(s,.own false ed T' o.bu xs)]) else .no
       | _=>.no
     | _=>.no
   | _=>(tQ cl d (.mE T x lo hi mx)).bind fun e=>.ok (one d e)
 | .build T parts=>(uy d T (zero T) [] parts).bind fun q=>.ok (one d (.v T q.1)++q.2)
 | .cp x=>(dN x).bind fun e=>match e with
   | .v T y=>.ok (one d (.v T y))
   | .own _ ed T o xs=>match x with
     | .t k=>if o.pure then .ok (one d (.v (.sl T) xs)++[(k,.own false ed T o.bu xs)]) else .no
     | _=>.no
   | _=>.no
 | .append e T lim s x=>match s with
   | .t k0=>(Rd.get k0).bind fun f=>match f with
     | .own wr e' T' o xs=>(EC d k0 x).bind fun q=>(Rd.of (bm (.sl T) q.1)).bind fun ys=>(Rd.of (bm (.sl T) ⟨.sl T',xs⟩)).bind fun xs=>
       if apart d k0&&o.pure&&(e'==e) then .ite (xs.length+ys.length≤lim) (.ok (one d (.own wr e T .no (xs++ys))++(k0,.dead)::q.2)) .no else .no
     | _=>.no
   | _=>.no
 | .cb f x g=>match x with
   | .t s=>(Rd.get s).bind fun e0=>match e0 with
     | .own true e T .no xs=>(dN g).bind fun c=>match c with
       | .cT fg A C caps=>if apart d s&&!(e==gZ) then (Cf cl fg A C caps).bind fun ge=>(Rd.call cl f [.bJ,.own true e T .no xs,ge]).bind fun res=>
         (Rd.of (qk res)).bind fun y=>(Rd.of (bm (.sl T) y)).bind fun ys=>.ok (one d (.own true e T .no ys)++[(s,.dead)]) else .no
       | _=>.no
     | _=>.no
   | _=>.no
 | .kS f p args=>(mQ cl args).bind fun es=>(sR args).bind fun _=>(Mn p).bind fun q=>match q.1.2 with
   | []=>(match q.2 with
     | .loc T o x=>if es.all tq&&apart d q.1.1&&o.pure then (Rd.call cl f (.loc T o x::es)).bind fun res=>(Rd.of (DJ T res)).bind fun y=>.ok (one d (eD y.2.2)++[(q.1.1,.loc T y.1 y.2.1)]) else .no
     | _=>.no)
   | _=>.no
 | .uF f args=>(mQ cl args).bind fun es=>(Rd.call cl f es).bind fun res=>(DX args res).bind fun e=>.ok (pq d (one d e))
 | .mv x=>(dN x).bind fun e=>match e with
   | .cL es=>match x,d with
     | .t k,some d=>if k==d then .no else .ok [(d,.cL es),(k,.dead)]
     | _,_=>.no
   | _=>(tQ cl d (.mv x)).bind fun e=>.ok (one d e)
 | op=>(tQ cl d op).bind fun e=>.ok (one d e)
structure DI where
 ai:AI
 hide:List Nat
 wr:List Nat
 pre:List Nat
 piv:Bool:=false
 safe:List Nat:=[]
def gJ (l:List Nat) (L:Nat→E):Nat→E:=fun k=>match l.any (fun j=>j==k) with | true=>.dead | false=>L k
def free (env:Env) (d:Option Nat):Bool:=match d with | some d=>!(look env d).home | none=>true
def ni (i:DI) (env:Env):Bool:=i.safe.all fun s=>env.all fun q=>!leads s q.2
def okW (i:DI) (env:Env) (δ:List (Nat×E)):Bool:=free env i.ai.dst&&(δ.all fun q=>i.wr.any fun k=>k==q.1)&&ni i (δ++env)
def iF (cl:aA):List DI→Env→cO R→Option R
 | [],env,K=>K env
 | i::r,env,K=>
   let yes:=fun env'=>(gi cl i.ai.dst i.ai.op).runK (gJ i.hide (look env)) fun δ=>match okW i env δ with
    | true=>iF cl r (δ++env') K
    | false=>none
   let nope:=fun env'=>match okW i env (one i.ai.dst .bJ) with
    | true=>iF cl r (one i.ai.dst .bJ++env') K
    | false=>none
   match i.piv with
   | true=>match ni i env with
     | true=>step cl i.ai env fun env'=>match ni i env' with
       | true=>iF cl r env' K
       | false=>none
     | false=>none
   | false=>match i.ai.guard with
     | none=>yes env
     | some (s,pol)=>match gJ i.hide (look env) s with
       | .v .bool b=>ad b ((if pol then yes else nope) ((s,.v .bool true)::env)) ((if pol then nope else yes) ((s,.v .bool false)::env))
       | .bJ=>nope env
       | _=>none
inductive AC where
 | skip
 | aa (live:List Nat) (l:List AI)
 | draw (live:List Nat) (l:List DI)
 | seq (a b:AC)
 | cond (c:Od) (x y:AC)
 | block (id:Nat) (b:AC)
 | loop (live:List Nat) (b:AC)
 | out (live:List Nat) (b:AC)
 | exit (id:Nat)
 | ret
inductive Ex where
 | normal | exit (id:Nat) | ret
abbrev KE (R:Type):=Ex→Env→Option R
def iter (live:List Nat) (body:Env→KE R→Option R) (K:KE R):Nat→Env→Option R
 | 0,_=>none
 | m+1,env=>body env fun e env=>match e with
   | .normal=>iter live body K m (aj live env)
   | .exit id=>K (.exit id) env
   | .ret=>K .ret env
def mD (y:Env→Option R) (K:KE R):KE R:=fun e env=>match e with
 | .normal=>y env
 | .exit id=>K (.exit id) env
 | .ret=>K .ret env
def lj (id:Nat) (K:KE R):KE R:=fun e env=>match e with
 | .normal=>K .normal env
 | .exit j=>match fc j id with | .isTrue _=>K .normal env | .isFalse _=>K (.exit j) env
 | .ret=>K .ret env
def exec (cl:aA) (N:Nat):AC→Env→KE R→Option R
 | .skip,env,K=>K .normal env
 | .aa live l,env,K=>ops cl l (aj live env) (K .normal)
 | .draw live l,env,K=>iF cl l (aj live env) (K .normal)
 | .seq a b,env,K=>exec cl N a env (mD (fun env=>exec cl N b env K) K)
 | .cond c x y,env,K=>(mS (aw env c)).bind fun q=>ad q (exec cl N x env K) (exec cl N y env K)
 | .block id b,env,K=>exec cl N b env (lj id K)
 | .loop live b,env,K=>iter live (fun env K=>exec cl N b env K) K N (aj live env)
 | .out live b,env,K=>exec cl N b env (fun e env=>K e (aj live env))
 | .exit id,env,K=>K (.exit id) env
 | .ret,env,K=>K .ret env
inductive RV where
 | t (k:Nat)
 | cell (k:Nat) (T:Ty)
 | p (k:Nat)
structure FD where
 nargs:Nat
 body:AC
 res:List RV
 lend:Bool:=false
def DY (env:Env):RV→Option (E×List Nat)
 | .t k=>match look env k with
   | .v T x=>some (.v T x,[])
   | .own wr e T o xs=>if o.pure then some (.own wr e T o xs,[k]) else none
   | .ref s p=>(bh env s p).bind fun h=>if h.o.pure then some (.own h.wr h.e h.T h.o h.xs,[s]) else none
   | _=>none
 | .cell k T=>match look env k with
   | .loc T' o x=>if o.whole then (bm T ⟨T',x⟩).bind fun y=>some (.v T y,if o.pure then [] else [k]) else none
   | _=>none
 | .p k=>match look env k with
   | .v T x=>some (.v T x,[])
   | .own _ _ T o xs=>if o.pure then some (.v (.sl T) xs,[k]) else none
   | .ref s p=>(bh env s p).bind fun h=>if h.o.pure then some (.v (.sl h.T) h.xs,[s]) else none
   | _=>none
def tF (env:Env):List RV→Option (List E×List Nat)
 | []=>some ([],[])
 | r::rs=>(DY env r).bind fun x=>(tF env rs).bind fun y=>some (x.1::y.1,x.2++y.2)
def distinct:List Nat→Bool
 | []=>true
 | x::r=>!r.any (· ==x)&&distinct r
def E.back:E→Bool
 | .v T _=>eA T
 | .own _ _ T o _=>eA T&&o.pure
 | _=>false
def mB (env:Env) (res:List RV) (ks:List Nat):Option (List E):=(tF env res).bind fun q=>match distinct (ks++q.2)&&q.1.all E.back with | true=>some q.1 | false=>none
def ag (fd:FD):KE (List E):=fun e env=>match e with
 | .exit _=>none
 | _=>match fd.lend with
   | false=>mB env fd.res []
   | true=>match look env 0 with
     | .loc T o x=>(match eA T with | true=>(mB env fd.res [0]).bind fun l=>some (.loc T o x::l) | false=>none)
     | _=>none
def params:Nat→List E→Env
 | _,[]=> []
 | k,e::r=>(k,e)::params (k+1) r
abbrev Table:=FuncId→Option FD
abbrev mK:=FuncId→Option (List E→Option (List E))
def gA:List E→Bool
 | .bJ::_=>true
 | _=>false
def ko:List E→Bool
 | .loc _ _ _::_=>true
 | _=>false
def bE (tb:Table) (pr:mK) (N:Nat):Nat→aA
 | 0=>.of fun _ _=>none
 | D+1=>.of fun f args=>match pr f with
   | some p=>p args
   | none=>match gA args with
     | true=>none
     | false=>match tb f with
       | some fd=>match fc args.length fd.nargs with
         | .isTrue _=>(match fd.lend==ko args with
           | true=>exec (bE tb pr N D) N fd.body (params 0 args) (ag fd)
           | false=>none)
         | .isFalse _=>none
       | none=>none
def recC (n:FuncId) (fd:FD) (N:Nat) (base:aA):Nat→aA
 | 0=>base
 | m+1=>.of fun f es=>match fc f n with
   | .isTrue _=>match gA es with
     | true=>none
     | false=>match fc es.length fd.nargs with
       | .isTrue _=>(match fd.lend==ko es with
         | true=>exec (recC n fd N base m) N fd.body (params 0 es) (ag fd)
         | false=>none)
       | .isFalse _=>none
   | .isFalse _=>base.run f es
end Go.Fw
/- A step, apart from what follows it. -/
namespace Go.Fw
open Go Go.RowKit
theorem YR {α β:Type} (x:Option α) (f g:α→Option β) (h:∀ y,f y=g y):x.bind f=x.bind g:=by cases x<;>simp [h]
set_option maxHeartbeats 1000000
theorem Mt (cl:aA) (i:AI) (env:Env) {R:Type} (K:cO R):step cl i env K=(step cl i env (some:cO Env)).bind K:=by
 obtain ⟨d,op,g⟩:=i
 unfold step
 cases op<;>simp only [ny,aq,aA.eqn]
 case pick=>congr 1; funext q; cases q<;>rfl
 case ea=>
  split
  ·rename_i s pos _; cases decide (pos < s.length)<;>rfl
  ·rfl
 all_goals first | rfl | skip
 all_goals repeat' first | rfl | (refine YR _ _ _ fun _=>?_) | split | (rw [ny])
 all_goals first | rfl | (simp_all [ny]; done) | skip
end Go.Fw
/- An operation only asks on: the count of what was asked never falls. -/
namespace Go.Fw
open Go Go.RowKit
theorem auP {p:Program} {w w':World} {at_:Addr} {u:TypeId} {k:Addr} {v:Value} {atomic:Bool} {l:List Addr} (h:w.viewStore p at_ u k v atomic=.ok (w',l)):w'.drawn=w.drawn:=by
 unfold World.viewStore at h
 simp only [bind,Except.bind,pure,Except.pure,throw,throwThe,MonadExceptOf.throw] at h
 repeat' (first | (cases h; rfl) | contradiction | split at h)
theorem Zc {p:Program} {w w':World} {a:Addr} {v:Value} {atomic:Bool} {l:List Addr} (h:w.farStore p a v atomic=.ok (w',l)):w'.drawn=w.drawn:=by
 unfold World.farStore at h
 split at h
 ·split at h
  ·rename_i r hr
   cases h
   exact auP hr
  ·cases h
 ·cases h
theorem EF {α:Type}:∀ (x:Ask α) (w:World),w.drawn≤(w.ask x).2.drawn
 | .done _,_=>cP _
 | .ask what range k,w=>by
   simp only [World.ask]
   split
   ·exact EF (k 0) w
   ·exact ew (Nat.le_succ _) (EF (k _) {w with drawn:=w.drawn+1})
theorem anU (w:World) (c:Sys):w.drawn≤(w.sys c).2.drawn:=by
 unfold World.sys
 have h:=EF (Kernel.perform c w.os) w
 split
 ·exact cP _
 ·rename_i h1
  rw [h1] at h
  exact h
theorem iJ {α:Type} {P:Program}:∀ (s:Sem α) (w:World) {v:α} {w':World},s.run P w=.ok v w'→w.drawn≤w'.drawn
 | .pure a,w,_,_,h=>by simp only [Sem.run] at h; cases h; exact cP _
 | .load m a k,w,_,_,h=>by
   simp only [Sem.run] at h
   split at h
   ·exact iJ (k _) w h
   ·split at h
    ·exact iJ (k _) w h
    ·cases h
 | .store m a v k,w,v0,w',h=>by
   have key:∀ r,(r=match w.cell? a with
     | some _ => if w.frozen? a then Result.halt (.unsupported (.unsafePointer "a write to bytes that a string shares")) w else k.run P (w.setCell a v)
     | none=>match w.farStore P a v (m==Mode.atomic) with
       | .ok (w,_)=>k.run P w
       | .error h=>.halt h w)→r=.ok v0 w'→w.drawn≤w'.drawn:=by
    intro r hr h
    rw [hr] at h
    split at h
    ·split at h
     ·cases h
     ·exact ew (Nat.le_of_eq (by rfl)) (iJ k (w.setCell a v) h)
    ·split at h
     ·rename_i hf
      rw [←Zc hf]
      exact iJ k _ h
     ·cases h
   cases v<;>simp only [Sem.run] at h<;>first | contradiction | exact key _ rfl h
 | .new o k,w,_,_,h=>by simp only [Sem.run] at h; exact iJ (k _) {w with heap:=w.heap.push o} h
 | .shape r k,w,_,_,h=>by simp only [Sem.run] at h; exact iJ (k _) w h
 | .freeze a n k,w,_,_,h=>by
   simp only [Sem.run] at h
   refine ew ?_ (iJ k _ h)
   unfold World.freeze
   split<;>exact cP _
 | .frozen a k,w,_,_,h=>by simp only [Sem.run] at h; exact iJ (k _) w h
 | .getObj r k,w,_,_,h=>by
   simp only [Sem.run] at h
   split at h
   ·cases h
   ·exact iJ (k _) w h
   ·cases h
 | .setObj r o k,w,_,_,h=>by
   simp only [Sem.run] at h
   split at h
   ·cases h
   ·exact iJ k {w with heap:=w.heap.setIfInBounds r o} h
   ·cases h
 | .choose q k,w,_,_,h=>by
   simp only [Sem.run] at h
   split at h
   ·exact iJ (k 0) w h
   ·exact ew (Nat.le_succ _) (iJ (k _) {w with drawn:=w.drawn+1} h)
 | .sys c k,w,_,_,h=>by simp only [Sem.run] at h; exact ew (anU w c) (iJ (k _) _ h)
 | .program k,w,_,_,h=>by simp only [Sem.run] at h; exact iJ (k _) w h
 | .mark _ k,w,_,_,h=>by simp only [Sem.run] at h; exact iJ k w h
 | .halt h,w,_,_,h'=>by simp only [Sem.run] at h'; cases h'
end Go.Fw
/- Soundness: an operation whose order is open does what 'step' does. -/
namespace Go.Fw
open Go Go.RowKit
theorem Rd.run_bind {α β:Type} (a:Rd α) (f:α→Rd β) (L:Nat→E):(a.bind f).run L=(a.run L).bind fun x=>(f x).run L:=rfl
theorem Rd.kW {α:Type} (x:α) (L:Nat→E):(Rd.ok x).run L=some x:=rfl
theorem Rd.aZ {α:Type} (L:Nat→E):(Rd.no:Rd α).run L=none:=rfl
theorem Rd.eb {α:Type} (x:Option α) (L:Nat→E):(Rd.of x).run L=x:=rfl
theorem Rd.run_get (k:Nat) (L:Nat→E):(Rd.get k).run L=Rd.kz (L k):=rfl
theorem Rd.db {α:Type} {p:Prop} [Decidable p] (a b:Rd α) (L:Nat→E):(if p then a else b).run L=if p then a.run L else b.run L:=by split<;>rfl
theorem Rd.run_ite {α:Type} {p:Prop} [Decidable p] (a b:Rd α) (L:Nat→E):(Rd.ite p a b).run L=if p then a.run L else b.run L:=rfl
theorem Rd.ams {α:Type} (q:Bool) (a b:Rd α) (L:Nat→E):(Rd.br q a b).run L=ad q (a.run L) (b.run L):=rfl
theorem Rd.zC (cl:aA) (f:FuncId) (es:List E) (L:Nat→E):(Rd.call cl f es).run L=cl f es:=rfl
theorem avD {e f:E}:Rd.kz e=some f↔e=f∧e≠.dead:=by
 cases e<;>simp [Rd.kz]
theorem da {β:Type} {e:E} {f:E→Option β} {y:β}:(Rd.kz e).bind f=some y→f e=some y:=by
 cases e<;>simp [Rd.kz]
section
variable {cl:aA} {env:Env} {R:Type}
theorem mo (x:Od):(kq x).run (look env)=kp (aw env x):=by
 unfold kq; rw [Rd.run_bind,dU]; cases aw env x<;>rfl
theorem YV (x:Od):(EJ x).run (look env)=mS (aw env x):=by
 unfold EJ; rw [Rd.run_bind,dU]; cases aw env x<;>rfl
theorem Mv (x:Od):(zL x).run (look env)=mG (aw env x):=by
 unfold zL; rw [Rd.run_bind,dU]; cases aw env x<;>rfl
theorem zQ (x:Od):(qw x).run (look env)=zP (aw env x):=by
 unfold qw; rw [Rd.run_bind,dU]; cases aw env x<;>rfl
theorem DD {e:E} {q:IntKind×Int} (h:kp e=some q):e=.v (.int q.1) q.2:=by
 unfold kp at h
 split at h
 ·cases h; rfl
 ·simp at h
theorem oy (x:Option Od):(my x).run (look env)=mw env x:=by
 cases x with
 | none=>rfl
 | some x=>unfold my mw; rw [Rd.run_bind,mo]; rfl
theorem af8 {x:Od} {e:E} (h:(L4 x).run (look env)=some e):aw env x=e∧e.oj=true:=by
 unfold L4 at h
 rw [Rd.run_bind,dU] at h
 have h:=da h
 simp only [Rd.db,Rd.kW,Rd.aZ] at h
 split at h
 ·rename_i hl; cases h; exact ⟨rfl,hl⟩
 ·simp at h
theorem Ss {x:Od} {e:E} (h:(uL x).run (look env)=some e):fr x (aw env x)=e∧∀ es,aw env x≠.cL es:=by
 unfold uL at h
 rw [Rd.run_bind,dU] at h
 have h:=da h
 cases he:aw env x<;>rw [he] at h<;>simp only [Sr] at h<;>first | (exfalso; simp [Rd.aZ] at h; done) | skip
 all_goals first
  | (simp only [Rd.kW,ax] at h; subst h; exact ⟨rfl,by simp⟩)
  | (cases x<;>simp only [Rd.kW,Rd.aZ,ax] at h<;>first | (subst h; exact ⟨rfl,by simp⟩) | (exfalso; simp at h; done))
theorem Yf {e:E} {y:TV} (h:zP e=some y):e=.v y.1 y.2:=by
 cases e<;>simp [zP] at h
 subst h; rfl
theorem zy {x:Od} {y:TV} (h:zP (aw env x)=some y):eo env x=some (env,y):=by
 have:=Yf h
 simp only [eo,this,c9,aq,ft]
theorem ajl {x:Od} {q:(Nat×Path)×E} (h:(Mn x).run (look env)=some q):eC env x=some q.1∧look env q.1.1=q.2:=by
 unfold Mn at h
 rw [Rd.run_bind,dU] at h
 have h:=da h
 split at h
 ·rename_i s p he
  rw [Rd.run_bind,Rd.run_get] at h
  have h:=da h
  simp only [Rd.kW,ax] at h
  subst h
  exact ⟨by unfold eC; rw [he],rfl⟩
 ·rename_i T o y he
  split at h
  ·rename_i k
   simp only [Rd.kW,ax] at h
   subst h
   exact ⟨by unfold eC; rw [he]; rfl,rfl⟩
  ·simp [Rd.aZ] at h
 ·simp [Rd.aZ] at h
theorem qP:∀ (l:List Od),(mQ cl l).run (look env)=fM cl env l
 | []=>rfl
 | a::r=>by
   unfold mQ fM
   rw [Rd.run_bind,Rd.run_bind,dU]
   have e2:∀ x:E,(((mQ cl r).bind fun y=>Rd.ok (x::y)).run (look env))=(fM cl env r).bind fun y=>some (x::y):=by
    intro x; rw [Rd.run_bind,qP r]; rfl
   simp only [e2]
   congr 1
   cases he:aw env a<;>simp only [Rd.kz,aq,Option.bind_none,M8]
   case dead=>rfl
   case loc T o x=>rw [Rd.db]; rfl
   case cT f A C caps=>exact Sk cl env f A C caps
   all_goals exact Na env _
theorem DB:∀ (l:List Od),(sR l).run (look env)=some ()→jC env l=env
 | [],_=>rfl
 | a::r,h=>by
   unfold sR at h
   rw [Rd.run_bind,dU] at h
   have h:=da h
   unfold jC
   split at h
   ·rename_i hn
    rw [hn]
    exact DB r h
   ·rename_i s hn
    rw [Rd.run_bind,Rd.run_get] at h
    have h:=da h
    split at h
    ·rename_i hs
     have:freeze env s=env:=by
      unfold freeze
      cases hl:look env s<;>rw [hl] at hs<;>simp only [XY] at hs<;>first | contradiction | skip
      simp only [hs]
     simp only [hn,this]
     exact DB r h
    ·simp [Rd.aZ] at h
theorem Xu {args:List Od} {res:List E} {e:E} (h:(DX args res).run (look env)=some e):e=eD res∧(if res.all E.plain then env else jC env args)=env:=by
 unfold DX at h
 first | rw [Rd.run_ite] at h | rw [Rd.db] at h
 split at h
 ·rename_i hp; cases h; exact ⟨rfl,if_pos hp⟩
 ·rename_i hp
  rw [Rd.run_bind] at h
  obtain ⟨_,hy,h⟩:=ak.1 h
  cases h
  exact ⟨rfl,by rw [if_neg hp]; exact DB args hy⟩
theorem Sc:∀ (l:List Od) (cs:List E),(uG l).run (look env)=some cs→(l.all fun a=>(aw env a).cap)=true∧cs=l.map fun a=>fr a (aw env a)
 | [],cs,h=>by simp only [uG,Rd.kW,ax] at h; subst h; exact ⟨rfl,rfl⟩
 | a::r,cs,h=>by
   unfold uG at h
   rw [Rd.run_bind,dU] at h
   have h:=da h
   first | rw [Rd.run_ite] at h | rw [Rd.db] at h
   split at h
   ·rename_i hc
    rw [Rd.run_bind] at h
    obtain ⟨y,hy,h⟩:=ak.1 h
    obtain ⟨h1,rfl⟩:=Sc r y hy
    simp only [Rd.kW,ax] at h
    subst h
    exact ⟨by simp only [List.all_cons,hc,h1,Bool.and_true],rfl⟩
   ·simp [Rd.aZ] at h
theorem EO:∀ (T:Ty) (x:den T) (l:List (Path×Od)) (y:den T),(qV T x l).run (look env)=some y→iC T x env l=some (env,y)
 | T,x,[],y,h=>by simp only [qV,Rd.kW,ax] at h; subst h; simp [iC]
 | T,x,(p,a)::r,y,h=>by
   unfold qV at h
   rw [Rd.run_bind,zQ] at h
   obtain ⟨q,hq,h⟩:=ak.1 h
   rw [Rd.run_bind,Rd.eb] at h
   obtain ⟨z,hz,h⟩:=ak.1 h
   unfold iC
   rw [zy hq]
   simp only [aq,hz]
   exact EO T z r y h
theorem Nk (T:Ty):∀ (l:List Od) (y:List (den T)),(ux T l).run (look env)=some y→nH T env l=some (env,y)
 | [],y,h=>by simp only [ux,Rd.kW,ax] at h; subst h; simp [nH]
 | a::r,y,h=>by
   unfold ux at h
   rw [Rd.run_bind,zQ] at h
   obtain ⟨q,hq,h⟩:=ak.1 h
   rw [Rd.run_bind,Rd.eb] at h
   obtain ⟨z,hz,h⟩:=ak.1 h
   rw [Rd.run_bind] at h
   obtain ⟨u,hu,h⟩:=ak.1 h
   simp only [Rd.kW,ax] at h
   subst h
   unfold nH
   rw [zy hq]
   simp only [aq,hz]
   rw [Nk T r u hu]
   rfl
theorem WJ {x:Od} {e:E} (h:e.oj=true):fr x e=e:=by
 cases e<;>first | rfl | (exfalso; simp [E.oj] at h; done)
theorem WK {T:Ty} {a:Od} {d:Option Nat} {g:Option (Nat×Bool)} {s:Nat} {p:Path} {e:E} {K:cO R} (h0:eC env a=some (s,p)) (h:(DK T s p (look env s)).run (look env)=some e):step cl ⟨d,.load T a,g⟩ env K=K (aM env d e):=by
 have h1:step cl ⟨d,.load T a,g⟩ env K=(match eC env a with
   | some (s,p)=>match look env s with
     | .loc T0 o x=>match cm o p with
       | .own .. =>match aH T0 p x with
         | some ⟨.sl T',_⟩=>if T=.sl T' then K (aM env d (.ref s p)) else none
         | _=>none
       | .mp=>match aH T0 p x with
         | some ⟨.map K' V',_⟩=>if T=.map K' V' then K (aM env d (.ref s p)) else none
         | _=>none
       | b=>if b.whole then (aH T0 p x).bind fun z=>(bm T z).bind fun y=>
          K (aM (if b.pure then env else freeze env s) d (.v T y)) else none
     | _=>none
   | none=>none):=by
  unfold eC at h0
  cases he:aw env a<;>rw [he] at h0<;>first | (exfalso; simp at h0; done) | (simp only [step,he]; done) | (simp only [step,he]; rfl)
 rw [h1,h0]
 simp only
 cases hl:look env s<;>rw [hl] at h<;>simp only [DK,Rd.aZ] at h<;>first | (exfalso; simp at h; done) | skip
 rename_i T0 o x
 simp only
 cases hb:cm o p<;>rw [hb] at h<;>simp only at h ⊢
 case own wr e' o'=>
  split at h
  ·rename_i T' xs hg
   rw [Rd.db] at h
   split at h
   ·rename_i h3; cases h; first | (rw [hg]; simp only; rw [if_pos h3]) | rw [if_pos h3]
   ·simp [Rd.aZ] at h
  ·simp [Rd.aZ] at h
 case mp=>
  split at h
  ·rename_i K' V' xs hg
   rw [Rd.db] at h
   split at h
   ·rename_i h3; cases h; first | (rw [hg]; simp only; rw [if_pos h3]) | rw [if_pos h3]
   ·simp [Rd.aZ] at h
  ·simp [Rd.aZ] at h
 all_goals
  rw [Rd.db] at h
  split at h
  ·rename_i hw
   simp only [au] at hw
   rw [Rd.run_bind,Rd.eb] at h
   obtain ⟨y,hy,h⟩:=ak.1 h
   obtain ⟨z,hz,hy⟩:=ak.1 hy
   cases h
   simp only [hw.1,hw.2,if_true,hz,hy,aq]
  ·simp [Rd.aZ] at h
section
variable {i:AI} {e:E} {K:cO R}
theorem avC {d:Option Nat} {x:Od} (h1:aw env x=e) (h2:e.oj=true):ou env d x=aM env d e:=by
 unfold ou
 rw [h1]
 have h3:=WJ (x:=x) h2
 cases e<;>simp_all [E.oj]
theorem YN {d:Nat} {x:Od} (h1:aw env x=e) (h2:e.oj=true):assign env d x=put env d e:=by
 unfold assign
 rw [h1]
 have h3:=WJ (x:=x) h2
 cases e<;>simp_all [E.oj]
theorem auN (h:(tQ cl i.dst i.op).run (look env)=some e):step cl i env K=K (aM env i.dst e):=by
 obtain ⟨d,op,g⟩:=i
 cases op<;>simp only [tQ] at h ⊢
 case mv x=>
  obtain ⟨h1,h2⟩:=Ss h
  have:ou env d x=aM env d e:=by
   unfold ou
   split
   ·rename_i es he; exact absurd he (h2 es)
   ·rw [h1]
  simp only [step,this]
 case jG x=>
  rw [Rd.run_bind,dU] at h
  have h:=da h
  simp only [step]
  split at h
  ·rename_i he; cases h; rw [he]; rfl
  ·rename_i he; cases h; rw [he]; rfl
  ·rename_i he; cases h; rw [he]; rfl
  ·rename_i he
   split at h
   ·cases h; rw [he]; rfl
   ·simp [Rd.aZ] at h
  ·simp [Rd.aZ] at h
 case ab x=>
  first | rw [Rd.run_ite] at h | rw [Rd.db] at h
  split at h
  ·obtain ⟨h1,h2⟩:=af8 h
   cases d with
   | none=>simp at *
   | some d=>simp only [step,YN h1 h2]; rfl
  ·simp [Rd.aZ] at h
 case pick c a b=>
  rw [Rd.run_bind,YV] at h
  obtain ⟨q,hq,h⟩:=ak.1 h
  simp only [step,hq,aq]
  rw [Rd.ams] at h
  cases q<;>(simp only [ad] at h ⊢; obtain ⟨h1,h2⟩:=Ss h; rw [h1])
 case alloc T o=>cases h; rfl
 case box T x=>
  rw [Rd.run_bind,zQ] at h
  obtain ⟨q,hq,h⟩:=ak.1 h
  rw [Rd.run_bind,Rd.eb] at h
  obtain ⟨y,hy,h⟩:=ak.1 h
  cases h
  simp only [step,zy hq,aq,hy]
 case build T parts=>
  rw [Rd.run_bind] at h
  obtain ⟨y,hy,h⟩:=ak.1 h
  cases h
  simp only [step,EO _ _ _ _ hy,aq]
 case kc T o parts=>
  rw [Rd.run_bind] at h
  obtain ⟨y,hy,h⟩:=ak.1 h
  cases h
  simp only [step,EO _ _ _ _ hy,aq]
 case buildSlice ed T parts=>
  rw [Rd.run_bind] at h
  obtain ⟨y,hy,h⟩:=ak.1 h
  cases h
  simp only [step,Nk _ _ _ hy,aq]
 case load T a=>
  rw [Rd.run_bind,dU] at h
  have h:=da h
  split at h
  ·rename_i T' x he
   rw [Rd.run_bind,Rd.eb] at h
   obtain ⟨y,hy,h⟩:=ak.1 h
   cases h
   simp only [step,he,hy,aq]
  ·rename_i s p j q he
   rw [Rd.run_bind,sQ] at h
   obtain ⟨hh,hhe,h⟩:=ak.1 h
   simp only [step,he,hhe,aq]
   simp only [WL,Rd.run_ite] at h
   split at h
   ·rename_i h1
    rw [Rd.db] at h
    split at h
    ·rename_i h2
     rw [Rd.run_bind,Rd.eb] at h
     obtain ⟨y,hy,h⟩:=ak.1 h
     obtain ⟨z,hz,hy⟩:=ak.1 hy
     cases h
     simp only [h1,h2,hz,hy,aq,if_true]
    ·simp [Rd.aZ] at h
   ·simp [Rd.aZ] at h
  ·rename_i s p he
   rw [Rd.run_bind,Rd.run_get] at h
   exact WK (by simp only [eC,he]) (da h)
  ·rename_i T0 o x he
   split at h
   ·rename_i k _
    have hl:look env k=.loc T0 o x:=he
    rw [he,←hl] at h
    exact WK (by simp only [eC,he,Od.slot,qK]) h
   ·simp [Rd.aZ] at h
  ·simp [Rd.aZ] at h
 case bin op x y=>
  rw [Rd.run_bind,dU] at h
  have h:=da h
  rw [Rd.run_bind,dU] at h
  have h:=da h
  unfold Ni at h
  split at h
  ·rename_i k m k' n hx hy
   rw [Rd.db] at h
   split at h
   ·rename_i hk
    simp only [step,hx,hy,if_pos hk]
    cases op
    case quo=>
     simp only [Rd.run_ite] at h ⊢
     split at h
     ·simp [Rd.aZ] at h
     ·rename_i h0; cases h; rw [if_neg h0]
    case rem=>
     simp only [Rd.run_ite] at h ⊢
     split at h
     ·simp [Rd.aZ] at h
     ·rename_i h0; cases h; rw [if_neg h0]
    all_goals
     simp only at h ⊢
     split at h
     ·rename_i b hb; cases h; first | rfl | (rw [hb])
     ·rename_i hb
      split at h
      ·rename_i r hr
       cases h
       first | (rw [hb]; simp only [hr,aq]; done) | (simp only [hr,aq]; done)
      ·simp [Rd.aZ] at h
   ·simp [Rd.aZ] at h
  ·rename_i s t hx hy
   simp only [step,hx,hy]
   cases op<;>simp only at h ⊢<;>first | (simp [Rd.aZ] at h; done) | (cases h; rfl) | skip
   rw [Rd.run_ite] at h
   split at h
   ·rename_i h0; cases h; rw [if_pos h0]
   ·simp [Rd.aZ] at h
  ·simp [Rd.aZ] at h
 case mh neg T x y=>
  rw [Rd.run_bind,dU] at h
  have h:=da h
  rw [Rd.run_bind,dU] at h
  have h:=da h
  rw [Rd.run_bind,DC] at h
  obtain ⟨s,hs,h⟩:=ak.1 h
  rw [Rd.run_bind,DC] at h
  obtain ⟨t,ht,h⟩:=ak.1 h
  rw [Rd.run_bind,Rd.eb] at h
  obtain ⟨s',hs',h⟩:=ak.1 h
  rw [Rd.run_bind,Rd.eb] at h
  obtain ⟨t',ht',h⟩:=ak.1 h
  rw [Rd.run_bind,Rd.eb] at h
  obtain ⟨f,hf,h⟩:=ak.1 h
  cases h
  simp only [step,hs,ht,hs',ht',hf,aq]
 case shift l x y=>
  rw [Rd.run_bind,dU] at h
  have h:=da h
  rw [Rd.run_bind,dU] at h
  have h:=da h
  split at h
  ·rename_i k m k' n hx hy
   rw [Rd.run_ite] at h
   split at h
   ·rename_i hn; cases h; simp only [step,hx,hy,if_pos hn]
   ·simp [Rd.aZ] at h
  ·simp [Rd.aZ] at h
 case un op x=>
  rw [Rd.run_bind,dU] at h
  have h:=da h
  rw [Rd.eb] at h
  unfold X4 at h
  split at h
  ·rename_i hx _; cases h; simp only [step,hx]
  ·rename_i hx _; cases h; simp only [step,hx]
  ·simp at h
 case oR k x=>
  rw [Rd.run_bind,mo] at h
  obtain ⟨q,hq,h⟩:=ak.1 h
  cases h
  simp only [step,hq,aq]
 case fieldAddr S p a=>
  rw [Rd.run_bind,dU] at h
  have h:=da h
  split at h
  ·rename_i T x he
   rw [Rd.run_bind,Rd.eb] at h
   obtain ⟨x',hx',h⟩:=ak.1 h
   rw [Rd.run_bind,Rd.eb] at h
   obtain ⟨y,hy,h⟩:=ak.1 h
   cases h
   simp only [step,he,hx',hy,aq]
  ·rename_i s q he
   rw [Rd.run_bind,Rd.run_get] at h
   have h:=da h
   rw [Rd.eb] at h
   unfold Td at h
   split at h
   ·rename_i T0 o x hl
    split at h
    ·rename_i h1; cases h; simp only [step,he,hl,if_pos h1]
    ·simp at h
   ·simp at h
  ·rename_i s q j r he
   rw [Rd.run_bind,sQ] at h
   obtain ⟨hh,hhe,h⟩:=ak.1 h
   first | rw [Rd.run_ite] at h | rw [Rd.db] at h
   split at h
   ·rename_i h1; cases h; simp only [step,he,hhe,aq,if_pos h1]
   ·simp [Rd.aZ] at h
  ·rename_i T0 o x he
   first | rw [Rd.run_ite] at h | rw [Rd.db] at h
   split at h
   ·rename_i h1
    split at h
    ·cases h; simp only [step,he,if_pos h1,Od.slot,aq]
    ·simp [Rd.aZ] at h
   ·simp [Rd.aZ] at h
  ·simp [Rd.aZ] at h
 case indexAddr T x ix=>
  rw [Rd.run_bind,mo] at h
  obtain ⟨q,hq,h⟩:=ak.1 h
  rw [Rd.run_bind,dU] at h
  have h:=da h
  split at h
  ·rename_i T' xs he
   rw [Rd.run_bind,Rd.eb] at h
   obtain ⟨y,hy,h⟩:=ak.1 h
   first | rw [Rd.run_ite] at h | rw [Rd.db] at h
   split at h
   ·rename_i h1; cases h; simp only [step,hq,he,hy,aq,if_pos h1]
   ·simp [Rd.aZ] at h
  ·rename_i wr ed T' o xs he
   first | rw [Rd.run_ite] at h | rw [Rd.db] at h
   split at h
   ·rename_i h0
    split at h
    ·first | rw [Rd.run_ite] at h | rw [Rd.db] at h
     split at h
     ·rename_i h1; cases h; simp only [step,hq,he,aq,if_pos h1,if_pos h0,Od.slot]
     ·simp [Rd.aZ] at h
    ·simp [Rd.aZ] at h
   ·simp [Rd.aZ] at h
  ·rename_i s p he
   rw [Rd.run_bind,sQ] at h
   obtain ⟨hh,hhe,h⟩:=ak.1 h
   first | rw [Rd.run_ite] at h | rw [Rd.db] at h
   split at h
   ·rename_i h0
    first | rw [Rd.run_ite] at h | rw [Rd.db] at h
    split at h
    ·rename_i h1; cases h; simp only [step,hq,he,hhe,aq,if_pos h1,if_pos h0]
    ·simp [Rd.aZ] at h
   ·simp [Rd.aZ] at h
  ·simp [Rd.aZ] at h
 case zp n T x ix=>
  rw [Rd.run_bind,mo] at h
  obtain ⟨q,hq,h⟩:=ak.1 h
  rw [Rd.run_bind,dU] at h
  have h:=da h
  split at h
  ·rename_i T' xs he
   rw [Rd.run_bind,Rd.eb] at h
   obtain ⟨y,hy,h⟩:=ak.1 h
   first | rw [Rd.run_ite] at h | rw [Rd.db] at h
   split at h
   ·rename_i h1; cases h; simp only [step,hq,he,hy,aq,if_pos h1]
   ·simp [Rd.aZ] at h
  ·rename_i s p he
   rw [Rd.run_bind,Rd.run_get] at h
   have h:=da h
   unfold Av at h
   split at h
   ·rename_i T0 o x hl
    rw [Rd.db] at h
    split at h
    ·rename_i h0
     rw [Rd.run_ite] at h
     split at h
     ·rename_i h1; cases h; simp only [step,hq,he,aq,eC,hl,if_pos h0,if_pos h1]
     ·simp [Rd.aZ] at h
    ·simp [Rd.aZ] at h
   ·simp [Rd.aZ] at h
  ·rename_i T0 o x he
   split at h
   ·rename_i k _ _
    have hl:look env k=.loc T0 o x:=he
    rw [he] at h
    simp only [Av] at h
    rw [Rd.db] at h
    split at h
    ·rename_i h0
     rw [Rd.run_ite] at h
     split at h
     ·rename_i h1; cases h; simp only [step,hq,he,aq,eC,Od.slot,qK,hl,if_pos h0,if_pos h1]
     ·simp [Rd.aZ] at h
    ·simp [Rd.aZ] at h
   ·simp [Rd.aZ] at h
  ·simp [Rd.aZ] at h
 case field S p x=>
  rw [Rd.run_bind,dU] at h
  have h:=da h
  rw [Rd.run_bind,DC] at h
  obtain ⟨s,hs,h⟩:=ak.1 h
  rw [Rd.run_bind,Rd.eb] at h
  obtain ⟨y,hy,h⟩:=ak.1 h
  rw [Rd.run_bind,Rd.eb] at h
  obtain ⟨z,hz,h⟩:=ak.1 h
  cases h
  simp only [step,hs,hy,hz,aq]
 case dn x ix=>
  rw [Rd.run_bind,mo] at h
  obtain ⟨q,hq,h⟩:=ak.1 h
  rw [Rd.run_bind,Mv] at h
  obtain ⟨s,hs,h⟩:=ak.1 h
  first | rw [Rd.run_ite] at h | rw [Rd.db] at h
  split at h
  ·rename_i h1; cases h; simp only [step,hq,hs,aq,if_pos h1]
  ·simp [Rd.aZ] at h
 case zo n T x ix=>
  rw [Rd.run_bind,mo] at h
  obtain ⟨q,hq,h⟩:=ak.1 h
  rw [Rd.run_bind,dU] at h
  have h:=da h
  split at h
  ·rename_i T' xs he
   rw [Rd.run_bind,Rd.eb] at h
   obtain ⟨y,hy,h⟩:=ak.1 h
   first | rw [Rd.run_ite] at h | rw [Rd.db] at h
   split at h
   ·rename_i h1; cases h; simp only [step,hq,he,hy,aq,if_pos h1]
   ·simp [Rd.aZ] at h
  ·simp [Rd.aZ] at h
 case jM x lo hi=>
  rw [Rd.run_bind,oy] at h
  obtain ⟨l,hl,h⟩:=ak.1 h
  rw [Rd.run_bind,oy] at h
  obtain ⟨u,hu,h⟩:=ak.1 h
  rw [Rd.run_bind,Mv] at h
  obtain ⟨s,hs,h⟩:=ak.1 h
  first | rw [Rd.run_ite] at h | rw [Rd.db] at h
  split at h
  ·rename_i h1; cases h; simp only [step,hl,hu,hs,aq,if_pos h1]
  ·simp [Rd.aZ] at h
 case mE T x lo hi mx=>
  rw [Rd.run_bind,oy] at h
  obtain ⟨l,hl,h⟩:=ak.1 h
  rw [Rd.run_bind,oy] at h
  obtain ⟨u,hu,h⟩:=ak.1 h
  rw [Rd.run_bind,oy] at h
  obtain ⟨m,hm,h⟩:=ak.1 h
  rw [Rd.run_bind,zQ] at h
  obtain ⟨y,hy,h⟩:=ak.1 h
  rw [Rd.run_bind,Rd.eb] at h
  obtain ⟨xs,hxs,h⟩:=ak.1 h
  first | rw [Rd.run_ite] at h | rw [Rd.db] at h
  split at h
  ·rename_i h1; cases h; simp only [step,hl,hu,hm,zy hy,hxs,aq,if_pos h1]
  ·simp [Rd.aZ] at h
 case mkSlice ed T lim l c=>
  rw [Rd.run_bind,mo] at h
  obtain ⟨m,hm,h⟩:=ak.1 h
  rw [Rd.run_bind,mo] at h
  obtain ⟨n,hn,h⟩:=ak.1 h
  first | rw [Rd.run_ite] at h | rw [Rd.db] at h
  split at h
  ·rename_i h1
   first | rw [Rd.run_ite] at h | rw [Rd.db] at h
   split at h
   ·rename_i h2; cases h
    obtain ⟨m1,m2⟩:=m
    obtain ⟨n1,n2⟩:=n
    simp only at h1 h2
    obtain ⟨rfl,rfl⟩:=h1
    simp only [step,DD hm,DD hn,if_pos h2]
   ·simp [Rd.aZ] at h
  ·simp [Rd.aZ] at h
 case bH x=>
  rw [Rd.run_bind,Mv] at h
  obtain ⟨s,hs,h⟩:=ak.1 h
  cases h
  simp only [step,hs,aq]
 case aX x=>
  rw [Rd.run_bind,dU] at h
  have h:=da h
  rw [Rd.run_bind,DC] at h
  obtain ⟨s,hs,h⟩:=ak.1 h
  simp only [step,hs,aq]
  split at h
  ·cases h; rfl
  ·simp [Rd.aZ] at h
 case zt m=>cases h; rfl
 case mm mx x y=>
  rw [Rd.run_bind,mo] at h
  obtain ⟨m,hm,h⟩:=ak.1 h
  rw [Rd.run_bind,mo] at h
  obtain ⟨n,hn,h⟩:=ak.1 h
  first | rw [Rd.run_ite] at h | rw [Rd.db] at h
  split at h
  ·rename_i h1
   cases h
   simp only [step,DD hm,DD hn,if_pos h1]
  ·simp [Rd.aZ] at h
 case call f args=>
  rw [Rd.run_bind,qP] at h
  obtain ⟨es,hes,h⟩:=ak.1 h
  rw [Rd.run_bind,Rd.zC] at h
  obtain ⟨res,hres,h⟩:=ak.1 h
  obtain ⟨rfl,h2⟩:=Xu h
  simp only [step,aA.eqn,hes,hres,aq,h2]
 case nI x args=>
  rw [Rd.run_bind,dU] at h
  have h:=da h
  split at h
  ·rename_i A C g' he
   rw [Rd.run_bind,qP] at h
   obtain ⟨es,hes,h⟩:=ak.1 h
   rw [Rd.run_bind,Rd.eb] at h
   obtain ⟨a,ha,h⟩:=ak.1 h
   rw [Rd.run_bind,Rd.eb] at h
   obtain ⟨r,hr,h⟩:=ak.1 h
   first | rw [Rd.run_ite] at h | rw [Rd.db] at h
   split at h
   ·rename_i h1; cases h; simp only [step,he,hes,ha,hr,aq,if_pos h1]
   ·simp [Rd.aZ] at h
  ·rename_i f A C caps he
   rw [Rd.run_bind,qP] at h
   obtain ⟨es,hes,h⟩:=ak.1 h
   rw [Rd.run_bind,EE] at h
   obtain ⟨cs,hcs,h⟩:=ak.1 h
   rw [Rd.run_bind,Rd.zC] at h
   obtain ⟨res,hres,h⟩:=ak.1 h
   first | rw [Rd.run_ite] at h | rw [Rd.db] at h
   split at h
   ·rename_i h1; cases h; simp only [step,aA.eqn,he,hes,hcs,hres,aq,if_pos h1]
   ·simp [Rd.aZ] at h
  ·simp [Rd.aZ] at h
 case extract k j=>
  rw [Rd.run_bind,Rd.run_get] at h
  have h:=da h
  rw [Rd.eb] at h
  unfold S6 at h
  split at h
  ·rename_i es hk
   split at h
   ·rename_i T x hj; cases h; simp only [step,hk,hj]
   ·rename_i ed T o xs hj
    split at h
    ·rename_i ho; cases h; simp only [step,hk,hj,ho]; rfl
    ·simp at h
   ·simp at h
  ·simp at h
 case qg f A C caps=>
  rw [Rd.run_bind] at h
  obtain ⟨cs,hcs,h⟩:=ak.1 h
  cases h
  obtain ⟨h1,rfl⟩:=Sc _ _ hcs
  simp only [step,if_pos h1]
 all_goals simp [Rd.aZ] at h
end
end
end Go.Fw
/- Soundness, part 1: laws on what memory shows of a value. -/
namespace Go.Fw
open Go Go.RowKit
def blocks (ob:OB):List Nat:=ob.map (·.1)
@[simp] theorem Nj:blocks []=[]:=rfl
@[simp] theorem jT (x:Nat×Nat) (l:OB):blocks (x::l)=x.1::blocks l:=rfl
@[simp] theorem eR (a b:OB):blocks (a++b)=blocks a++blocks b:=by simp [blocks]
theorem aL.append {α:Type} {R:α→List Value→OB→Prop}:∀ {xs ys:List α} {v1 v2:List Value} {b1 b2:OB},aL R xs v1 b1→aL R ys v2 b2→aL R (xs++ys) (v1++v2) (b1++b2)
 | [],_,_,_,_,_,h,k=>by obtain ⟨rfl,rfl⟩:=h; exact k
 | x::xs,ys,_,v2,_,b2,h,k=>by
   obtain ⟨u1,u2,c1,c2,rfl,rfl,hr,ht⟩:=h
   exact ⟨u1,u2++v2,c1,c2++b2,by simp,by simp,hr,aL.append ht k⟩
theorem aL.imp {α:Type} {R S:α→List Value→OB→Prop}:∀ {xs:List α} {vs:List Value} {ob:OB},(∀ x v b,(∀ q∈b,q∈ob)→R x v b→S x v b)→aL R xs vs ob→aL S xs vs ob
 | [],_,_,_,h=>h
 | x::xs,_,_,f,h=>by
   obtain ⟨u1,u2,c1,c2,rfl,rfl,hr,ht⟩:=h
   exact ⟨u1,u2,c1,c2,rfl,rfl,f _ _ _ (fun q hq=>gm _ hq) hr,aL.imp (fun x v b hb=>f x v b fun q hq=>iQ _ (hb q hq)) ht⟩
theorem aL.length {α:Type} {R:α→List Value→OB→Prop} {n:Nat} (hl:∀ x v b,R x v b→v.length=n):∀ {xs:List α} {vs:List Value} {ob:OB},aL R xs vs ob→vs.length=xs.length * n
 | [],_,_,h=>by obtain ⟨rfl,rfl⟩:=h; simp
 | x::xs,_,_,h=>by
   obtain ⟨u1,u2,c1,c2,rfl,rfl,hr,ht⟩:=h
   rw [b6,hl _ _ _ hr,aL.length hl ht,List.length_cons,Nat.succ_mul]; omega
theorem aL.split {α:Type} {R:α→List Value→OB→Prop} {n:Nat} (hl:∀ x v b,R x v b→v.length=n):∀ {xs:List α} {vs:List Value} {ob:OB} (i:Nat) (d:α),aL R xs vs ob→i < xs.length→
  ∃ v1 v2 v3 b1 b2 b3,vs=v1++v2++v3∧ob=b1++b2++b3∧v1.length=i * n∧R (xs.getD i d) v2 b2∧
    ∀ y u c,R y u c→aL R (xs.set i y) (v1++u++v3) (b1++c++b3)
 | [],_,_,i,_,_,hi=>by simp at hi
 | x::xs,_,_,0,d,h,_=>by
   obtain ⟨u1,u2,c1,c2,rfl,rfl,hr,ht⟩:=h
   exact ⟨[],u1,u2,[],c1,c2,rfl,rfl,by simp,hr,fun y u c hy=>⟨u,u2,c,c2,by simp,by simp,hy,ht⟩⟩
 | x::xs,_,_,i+1,d,h,hi=>by
   obtain ⟨u1,u2,c1,c2,rfl,rfl,hr,ht⟩:=h
   obtain ⟨v1,v2,v3,b1,b2,b3,rfl,rfl,h1,h2,h3⟩:=aL.split hl i d ht (by simpa using hi)
   refine ⟨u1++v1,v2,v3,c1++b1,b2,b3,by simp,by simp,?_,by simpa using h2,?_⟩
   ·rw [b6,h1,hl _ _ _ hr,Nat.succ_mul]; omega
   ·intro y u c hy
    exact ⟨u1,v1++u++v3,c1,b1++c++b3,by simp,by simp,hr,h3 y u c hy⟩
theorem aL.nil {α:Type} {R:α→List Value→OB→Prop}:aL R ([]:List α) [] []:=⟨rfl,rfl⟩
theorem aL.one {α:Type} {R:α→List Value→OB→Prop} {x:α} {v:List Value} {b:OB} (h:R x v b):aL R [x] v b:=⟨v,[],b,[],by simp,by simp,h,rfl,rfl⟩
theorem cc.refl (B:Nat) (w:World):cc B w w:=⟨cP _,fun _ _=>rfl⟩
theorem cc.trans {B:Nat} {a b c:World} (h:cc B a b) (k:cc B b c):cc B a c:=⟨ew h.1 k.1,fun i hi=>(k.2 i hi).trans (h.2 i hi)⟩
theorem Flat.len (P:Program):∀ (T:Ty) {w:World} {G:Nat→Nat→Prop} {B:Nat} {o:ay} {x:den T} {vs:List Value} {ob:OB},Flat P T w G B o x vs ob→vs.length=az T
 | .int k,_,_,_,_,_,_,_,h=>by unfold Flat at h; rw [h.1]; rfl
 | .bool,_,_,_,_,_,_,_,h=>by unfold Flat at h; rw [h.1]; rfl
 | .str,_,_,_,_,_,_,_,h=>by unfold Flat at h; rw [h.1]; rfl
 | .unit,_,_,_,_,_,_,_,h=>by unfold Flat at h; rw [h.1]; rfl
 | .pair A C,_,_,_,_,_,_,_,h=>by
   unfold Flat at h
   obtain ⟨v1,v2,b1,b2,rfl,rfl,h1,h2⟩:=h
   rw [b6,Flat.len P A h1,Flat.len P C h2]; rfl
 | .arr n T,_,_,_,_,_,_,_,h=>by
   unfold Flat at h
   rw [aL.length (fun x v b hx=>Flat.len P T hx) h.2,h.1]; rfl
 | .sl T,_,_,_,o,_,_,_,h=>by
   cases o<;>unfold Flat at h
   ·obtain ⟨_,A,c,rfl,_⟩:=h; rfl
   ·exact h.1
   ·obtain ⟨v,cells,ob',rfl,_⟩:=h; rfl
   ·obtain ⟨_,A,c,rfl,_⟩:=h; rfl
   ·obtain ⟨_,A,c,rfl,_⟩:=h; rfl
 | .map K V,_,_,_,o,_,_,_,h=>by
   cases o<;>unfold Flat at h
   case mp=>obtain ⟨_,_,b,ents,clk,rfl,_⟩:=h; rfl
   all_goals (obtain ⟨_,r,rfl⟩:=h; rfl)
 | .fn A C,_,_,_,_,_,_,_,h=>by
   unfold Flat at h
   obtain ⟨_,_,f,caps,rfl,_⟩:=h; rfl
theorem eB.imp {α:Type} {R S:α→MapEntry→Prop} (f:∀ x m,R x m→S x m):∀ {xs:List α} {l:List MapEntry},eB R xs l→eB S xs l
 | [],_,h=>h
 | x::xs,_,h=>by
   obtain ⟨m,r,rfl,h1,h2⟩:=h
   exact ⟨m,r,rfl,f x m h1,eB.imp f h2⟩
theorem tG {w:World} {B:Nat} {e:TypeId} {size:Nat} {v:Value} {n:Nat} {cells:List Value} (h:w.ownsRow B e size v n cells):gg w B e size v n cells:=by
 refine ⟨h.1,?_⟩
 rcases h.2 with h | ⟨g,cap,cur,h1,h2,h3,h4,h5,h6,h7⟩
 ·exact .inl h
 ·exact .inr ⟨g,cap,cur,e,(0,0),h1,h2,h3,h4,h5,h6,h7,fun _=>⟨rfl,rfl⟩,.inl rfl⟩
theorem gg.DT {w:World} {B:Nat} {e:TypeId} {size:Nat} {v:Value} {n:Nat} {cells:List Value} (h:gg w B e size v n cells) (he:e≠gZ):w.ownsRow B e size v n cells:=by
 refine ⟨h.1,?_⟩
 rcases h.2 with h | ⟨g,cap,cur,e',fz,h1,h2,h3,h4,h5,h6,h7,h8,_⟩
 ·exact .inl h
 ·obtain ⟨rfl,rfl⟩:=h8 he
  exact .inr ⟨g,cap,cur,h1,h2,h3,h4,h5,h6,h7⟩
theorem gg.cells {w:World} {B:Nat} {e:TypeId} {size:Nat} {v:Value} {n:Nat} {xs:List Value} (h:gg w B e size v n xs) {g:Nat} (hg:v.ownBlock=some g):∀ j u,xs[j]?=some u→w.cell? ((⟨g,0,none⟩:Addr).add j)=some u:=by
 intro j u hu
 rcases h.2 with ⟨rfl,_⟩ | ⟨g',cap,cur,e',fz,rfl,_,hgg,_,_,_,htake,_,_⟩
 ·simp [Value.ownBlock] at hg
 ·simp [Value.ownBlock] at hg
  subst hg
  have hadd:(⟨g',0,none⟩:Addr).add j=⟨g',j,none⟩:=by unfold Addr.add; split<;>simp_all
  rw [hadd,cell_of_row w g' j cur e' fz hgg]
  rw [←htake,List.getElem?_take] at hu
  split at hu
  ·simpa using hu
  ·cases hu
theorem amo {w w':World} {B:Nat} {e:TypeId} {size:Nat} {v:Value} {n:Nat} {cells:List Value} (h:gg w B e size v n cells) (hb:∀ g,v.ownBlock=some g→w'.heap[g]?=w.heap[g]?):gg w' B e size v n cells:=by
 refine ⟨h.1,?_⟩
 rcases h.2 with h | ⟨g,cap,cur,e',fz,rfl,h1,h2,h3⟩
 ·exact .inl h
 ·exact .inr ⟨g,cap,cur,e',fz,rfl,h1,by rw [hb g rfl]; exact h2,h3⟩
theorem jX {v:Value} {lim g:Nat} (h:v.ownBlock=some g):(g,lim)∈bR v lim:=by simp [bR,h]
theorem Flat.mono (P:Program):∀ (T:Ty) {w w':World} {G G':Nat→Nat→Prop} {B:Nat} {o:ay} {x:den T} {vs:List Value} {ob:OB},
  (∀ b i,b < w.heap.size→G b i→G' b i∧w'.cell? ⟨b,i,none⟩=w.cell? ⟨b,i,none⟩)→cc B w w'→(∀ g∈blocks ob,w'.heap[g]?=w.heap[g]?)→
  Flat P T w G B o x vs ob→Flat P T w' G' B o x vs ob
 | .int k,_,_,_,_,_,_,_,_,_,_,_,_,h=>by unfold Flat at h ⊢; exact h
 | .bool,_,_,_,_,_,_,_,_,_,_,_,_,h=>by unfold Flat at h ⊢; exact h
 | .str,_,_,_,_,_,_,_,_,_,_,_,_,h=>by unfold Flat at h ⊢; exact h
 | .unit,_,_,_,_,_,_,_,_,_,_,_,_,h=>by unfold Flat at h ⊢; exact h
 | .pair A C,_,_,_,_,_,_,_,_,_,hG,hL,hO,h=>by
   unfold Flat at h ⊢
   obtain ⟨v1,v2,b1,b2,rfl,rfl,h1,h2⟩:=h
   exact ⟨v1,v2,b1,b2,rfl,rfl,Flat.mono P A hG hL (fun g hg=>hO g (by simp [hg])) h1,Flat.mono P C hG hL (fun g hg=>hO g (by simp [hg])) h2⟩
 | .arr n T,_,_,_,_,_,_,_,_,ob,hG,hL,hO,h=>by
   unfold Flat at h ⊢
   exact ⟨h.1,aL.imp (fun x v b hb hx=>Flat.mono P T hG hL (fun g hg=>hO g (by
    obtain ⟨q,hq,rfl⟩:=dt.1 hg
    exact dt.2 ⟨q,hb q hq,rfl⟩)) hx) h.2⟩
 | .sl T,w,w',G,G',B,o,xs,vs,ob,hG,hL,hO,h=>by
   have c9:∀ {ob:OB},(ob=[]∧∃ A c,vs=[.slice A xs.length c]∧xs.length≤c∧c≤maxLen∧
    (xs=[]∨∃ b off cells,A=some ⟨b,off,none⟩∧aL (Flat P T w G B .no) xs cells []∧∀ j v,cells[j]?=some v→w.cell? ⟨b,off+j,none⟩=some v∧G b (off+j)))→
    (ob=[]∧∃ A c,vs=[.slice A xs.length c]∧xs.length≤c∧c≤maxLen∧
    (xs=[]∨∃ b off cells,A=some ⟨b,off,none⟩∧aL (Flat P T w' G' B .no) xs cells []∧∀ j v,cells[j]?=some v→w'.cell? ⟨b,off+j,none⟩=some v∧G' b (off+j))):=by
    rintro ob ⟨h0,A,c,h1,h2,h3,h4⟩
    refine ⟨h0,A,c,h1,h2,h3,?_⟩
    rcases h4 with h4 | ⟨b,off,cells,h5,h6,h7⟩
    ·exact .inl h4
    ·refine .inr ⟨b,off,cells,h5,aL.imp (fun x v b' hb hx=>Flat.mono P T hG hL (fun g hg=>?_) hx) h6,fun j v hj=>?_⟩
     ·obtain ⟨q,hq,rfl⟩:=dt.1 hg
      exact absurd (hb q hq) (by simp)
     ·have hc:=h7 j v hj
      have hlt:b < w.heap.size:=World.block_lt_of_cell? w _ hc.1
      have hg:=hG b (off+j) hlt hc.2
      exact ⟨hg.2.trans hc.1,hg.1⟩
   cases o with
   | no=>unfold Flat at h ⊢; exact c9 h
   | hole=>unfold Flat at h ⊢; exact h
   | pair a b=>unfold Flat at h ⊢; exact c9 h
   | mp=>unfold Flat at h ⊢; exact c9 h
   | own wr e o=>
     unfold Flat at h ⊢
     obtain ⟨v,cells,ob',h1,h2,h3,rfl⟩:=h
     refine ⟨v,cells,ob',h1,amo h2 (fun g hg=>hO g ?_),aL.imp (fun x v b hb hx=>Flat.mono P T hG hL (fun g hg=>hO g ?_) hx) h3,rfl⟩
     ·rw [eR]; exact gm _ (dt.2 ⟨_,jX hg,rfl⟩)
     ·obtain ⟨q,hq,rfl⟩:=dt.1 hg
      rw [eR]; exact iQ _ (dt.2 ⟨q,hb q hq,rfl⟩)
 | .map K V,w,w',G,G',B,o,xs,vs,ob,hG,hL,hO,h=>by
   cases o with
   | mp=>
     unfold Flat at h ⊢
     obtain ⟨h1,h2,b,ents,clk,h3,h4,h5,rfl,h6⟩:=h
     refine ⟨h1,h2,b,ents,clk,h3,h4,by rw [hO b (by simp [blocks])]; exact h5,rfl,eB.imp (fun x m=>?_) h6⟩
     rintro ⟨ks,us,k1,k2,k3⟩
     exact ⟨ks,us,Flat.mono P K hG hL (by simp [blocks]) k1,Flat.mono P V hG hL (by simp [blocks]) k2,k3⟩
   | no | hole | pair | own=>unfold Flat at h ⊢; exact h
 | .fn A C,w,w',G,G',B,_,_,_,_,hG,hL,hO,h=>by
   unfold Flat at h ⊢
   obtain ⟨h0,hs,f,caps,h1,h2⟩:=h
   exact ⟨h0,hs,f,caps,h1,fun w'' G'' x vals hl=>h2 w'' G'' x vals (hL.trans hl)⟩
theorem ay.tC {o:ay} (h:o.pure=true):o.l.pure=true:=by cases o<;>simp_all [ay.pure,ay.l]
theorem ay.tD {o:ay} (h:o.pure=true):o.r.pure=true:=by cases o<;>simp_all [ay.pure,ay.r]
theorem Flat.pure (P:Program):∀ (T:Ty) {w:World} {G:Nat→Nat→Prop} {B:Nat} {o o':ay} {x:den T} {vs:List Value} {ob:OB},o.pure=true→o'.pure=true→Flat P T w G B o x vs ob→ob=[]∧Flat P T w G B o' x vs []
 | .int k,_,_,_,_,_,_,_,_,_,_,h=>by unfold Flat at h ⊢; exact ⟨h.2.2,h.1,h.2.1,rfl⟩
 | .bool,_,_,_,_,_,_,_,_,_,_,h=>by unfold Flat at h ⊢; exact ⟨h.2,h.1,rfl⟩
 | .str,_,_,_,_,_,_,_,_,_,_,h=>by unfold Flat at h ⊢; exact ⟨h.2.2,h.1,h.2.1,rfl⟩
 | .unit,_,_,_,_,_,_,_,_,_,_,h=>by unfold Flat at h ⊢; exact ⟨h.2,h.1,rfl⟩
 | .pair A C,_,_,_,_,_,_,_,_,ho,ho',h=>by
   unfold Flat at h ⊢
   obtain ⟨v1,v2,b1,b2,rfl,rfl,h1,h2⟩:=h
   obtain ⟨e1,k1⟩:=Flat.pure P A (ay.tC ho) (ay.tC ho') h1
   obtain ⟨e2,k2⟩:=Flat.pure P C (ay.tD ho) (ay.tD ho') h2
   exact ⟨by rw [e1,e2]; rfl,v1,v2,[],[],rfl,rfl,k1,k2⟩
 | .arr n T,w,G,B,_,_,_,_,_,ho,_,h=>by
   unfold Flat at h ⊢
   have key:∀ {xs:List (den T)} {vs:List Value} {ob:OB},aL (Flat P T w G B .no) xs vs ob→ob=[]∧aL (Flat P T w G B .no) xs vs []:=by
    intro xs
    induction xs with
    | nil=>rintro vs ob ⟨rfl,rfl⟩; exact ⟨rfl,rfl,rfl⟩
    | cons x xs ih=>
      rintro vs ob ⟨u1,u2,c1,c2,rfl,rfl,hr,ht⟩
      obtain ⟨rfl,hr⟩:=Flat.pure P T (o:=.no) (o':=.no) rfl rfl hr
      obtain ⟨rfl,ht⟩:=ih ht
      exact ⟨rfl,u1,u2,[],[],rfl,rfl,hr,ht⟩
   obtain ⟨h1,h2⟩:=h
   obtain ⟨e,h2⟩:=key h2
   exact ⟨e,h1,h2⟩
 | .sl T,_,_,_,o,o',_,_,_,ho,ho',h=>by
   cases o<;>cases o'<;>simp only [ay.pure,ep] at ho ho'<;>unfold Flat at h ⊢<;>exact ⟨h.1,rfl,h.2⟩
 | .map K V,_,_,_,o,o',_,_,_,ho,ho',h=>by
   cases o<;>cases o'<;>simp only [ay.pure,ep] at ho ho'<;>unfold Flat at h ⊢<;>exact ⟨h.1,rfl,h.2⟩
 | .fn A C,_,_,_,_,_,_,_,_,_,_,h=>by unfold Flat at h ⊢; exact ⟨h.1,rfl,h.2⟩
theorem aL.pure (P:Program) {T:Ty} {w:World} {G:Nat→Nat→Prop} {B:Nat} {o o':ay} (ho:o.pure=true) (ho':o'.pure=true):∀ {xs:List (den T)} {vs:List Value} {ob:OB},aL (Flat P T w G B o) xs vs ob→ob=[]∧aL (Flat P T w G B o') xs vs []
 | [],_,_,h=>by obtain ⟨rfl,rfl⟩:=h; exact ⟨rfl,rfl,rfl⟩
 | x::xs,_,_,h=>by
   obtain ⟨u1,u2,c1,c2,rfl,rfl,hr,ht⟩:=h
   obtain ⟨e1,k1⟩:=Flat.pure P T ho ho' hr
   obtain ⟨e2,k2⟩:=aL.pure P ho ho' ht
   exact ⟨by rw [e1,e2]; rfl,u1,u2,[],[],rfl,rfl,k1,k2⟩
theorem Flat.one (P:Program):∀ (T:Ty) {w:World} {G:Nat→Nat→Prop} {B:Nat} {o:ay} {x:den T} {vs:List Value} {ob:OB},o.whole=true→Flat P T w G B o x vs ob→∀ u∈vs,u.oneCell'=true
 | .int k,_,_,_,_,_,_,_,_,h=>by unfold Flat at h; rw [h.1]; simp [Value.oneCell']
 | .bool,_,_,_,_,_,_,_,_,h=>by unfold Flat at h; rw [h.1]; simp [Value.oneCell']
 | .str,_,_,_,_,_,_,_,_,h=>by unfold Flat at h; rw [h.1]; simp [Value.oneCell']
 | .unit,_,_,_,_,_,_,_,_,h=>by unfold Flat at h; rw [h.1]; simp
 | .pair A C,_,_,_,o,_,_,_,ho,h=>by
   unfold Flat at h
   obtain ⟨v1,v2,b1,b2,rfl,rfl,h1,h2⟩:=h
   intro u hu
   rcases dG.1 hu with hu | hu
   ·exact Flat.one P A (by cases o<;>simp_all [ay.whole,ay.l]) h1 u hu
   ·exact Flat.one P C (by cases o<;>simp_all [ay.whole,ay.r]) h2 u hu
 | .arr n T,w,G,B,_,_,_,_,_,h=>by
   unfold Flat at h
   have key:∀ {xs:List (den T)} {vs:List Value} {ob:OB},aL (Flat P T w G B .no) xs vs ob→∀ u∈vs,u.oneCell'=true:=by
    intro xs
    induction xs with
    | nil=>rintro vs ob ⟨rfl,rfl⟩; simp
    | cons x xs ih=>
      rintro vs ob ⟨u1,u2,c1,c2,rfl,rfl,hr,ht⟩ u hu
      rcases dG.1 hu with hu | hu
      ·exact Flat.one P T (o:=.no) rfl hr u hu
      ·exact ih ht u hu
   exact key h.2
 | .sl T,_,_,_,o,_,_,_,ho,h=>by
   cases o with
   | no=>unfold Flat at h; obtain ⟨_,A,c,rfl,_⟩:=h; simp [Value.oneCell']
   | hole=>simp [ay.whole] at ho
   | pair=>unfold Flat at h; obtain ⟨_,A,c,rfl,_⟩:=h; simp [Value.oneCell']
   | mp=>unfold Flat at h; obtain ⟨_,A,c,rfl,_⟩:=h; simp [Value.oneCell']
   | own wr e o=>
     unfold Flat at h
     obtain ⟨v,cells,ob',rfl,h2,_⟩:=h
     rcases h2.2 with h | ⟨g,cap,cur,_,_,rfl,_⟩
     ·rw [h.1]; simp [Value.oneCell']
     ·simp [Value.oneCell']
 | .map K V,_,_,_,o,_,_,_,ho,h=>by
   cases o<;>unfold Flat at h
   case mp=>obtain ⟨_,_,b,ents,clk,rfl,_⟩:=h; simp [Value.oneCell']
   all_goals (obtain ⟨_,r,rfl⟩:=h; simp [Value.oneCell'])
 | .fn A C,_,_,_,_,_,_,_,_,h=>by
   unfold Flat at h
   obtain ⟨_,_,f,caps,rfl,_⟩:=h; simp [Value.oneCell']
end Go.Fw
/- Soundness, part 2: parts of values; what a state of the machine says of memory. -/
namespace Go.Fw
open Go Go.RowKit
theorem qM:∀ p,cm .no p=.no
 | []=>rfl
 | .l::p=>qM p
 | .r::p=>qM p
 | .ix _::_=>rfl
theorem qu:∀ (p:Path) (a b:ay),a.pure=true→b.pure=true→(eU a p b).pure=true
 | [],_,_,_,h=>h
 | .l::p,a,b,ha,hb=>by simp only [eU,ay.pure,au]; exact ⟨qu p _ _ (ay.tC ha) hb,ay.tD ha⟩
 | .r::p,a,b,ha,hb=>by simp only [eU,ay.pure,au]; exact ⟨ay.tC ha,qu p _ _ (ay.tD ha) hb⟩
 | .ix _::_,_,_,ha,_=>ha
theorem Cc (T:Ty) (y:den T):bm T ⟨T,y⟩=some y:=by simp [bm]
theorem cQ {T:Ty} {y:TV} {z:den T} (h:bm T y=some z):y=⟨T,z⟩:=by
 obtain ⟨T',y⟩:=y
 simp only [bm] at h
 split at h
 ·rename_i e; subst e; simp at h; rw [h]
 ·exact absurd h (by simp)
theorem pV:∀ (p:Path) (T:Ty) {P:Program} {w:World} {G:Nat→Nat→Prop} {B:Nat} {o:ay} {x:den T} {vs:List Value} {ob:OB} {y:TV},Flat P T w G B o x vs ob→aH T p x=some y→cU T p=some y.1
 | [],T,_,_,_,_,_,_,_,_,_,_,h=>by simp only [aH,ax] at h; subst h; cases T<;>rfl
 | .l::p,.pair A C,_,_,_,_,_,_,_,_,_,hF,h=>by
   unfold Flat at hF; obtain ⟨v1,v2,b1,b2,rfl,rfl,h1,h2⟩:=hF
   simp only [aH,cU] at h ⊢; exact pV p A h1 h
 | .r::p,.pair A C,_,_,_,_,_,_,_,_,_,hF,h=>by
   unfold Flat at hF; obtain ⟨v1,v2,b1,b2,rfl,rfl,h1,h2⟩:=hF
   simp only [aH,cU] at h ⊢; exact pV p C h2 h
 | .ix i::p,.arr n T,_,_,_,_,_,_,_,_,_,hF,h=>by
   unfold Flat at hF; obtain ⟨hn,hF⟩:=hF
   simp only [aH,cU] at h ⊢
   split at h
   ·rename_i hi
    obtain ⟨v1,v2,v3,b1,b2,b3,_,_,_,h2,_⟩:=aL.split (fun x v b hx=>Flat.len _ T hx) i (zero T) hF hi
    rw [if_pos (by omega)]; exact pV p T h2 h
   ·exact absurd h (by simp)
 | .l::_,.int _,_,_,_,_,_,_,_,_,_,_,h | .l::_,.bool,_,_,_,_,_,_,_,_,_,_,h | .l::_,.str,_,_,_,_,_,_,_,_,_,_,h | .l::_,.unit,_,_,_,_,_,_,_,_,_,_,h | .l::_,.sl _,_,_,_,_,_,_,_,_,_,_,h | .l::_,.arr _ _,_,_,_,_,_,_,_,_,_,_,h | .l::_,.fn _ _,_,_,_,_,_,_,_,_,_,_,h=>by simp [aH] at h
 | .r::_,.int _,_,_,_,_,_,_,_,_,_,_,h | .r::_,.bool,_,_,_,_,_,_,_,_,_,_,h | .r::_,.str,_,_,_,_,_,_,_,_,_,_,h | .r::_,.unit,_,_,_,_,_,_,_,_,_,_,h | .r::_,.sl _,_,_,_,_,_,_,_,_,_,_,h | .r::_,.arr _ _,_,_,_,_,_,_,_,_,_,_,h | .r::_,.fn _ _,_,_,_,_,_,_,_,_,_,_,h=>by simp [aH] at h
 | .ix _::_,.int _,_,_,_,_,_,_,_,_,_,_,h | .ix _::_,.bool,_,_,_,_,_,_,_,_,_,_,h | .ix _::_,.str,_,_,_,_,_,_,_,_,_,_,h | .ix _::_,.unit,_,_,_,_,_,_,_,_,_,_,h | .ix _::_,.sl _,_,_,_,_,_,_,_,_,_,_,h | .ix _::_,.pair _ _,_,_,_,_,_,_,_,_,_,_,h | .ix _::_,.fn _ _,_,_,_,_,_,_,_,_,_,_,h=>by simp [aH] at h
theorem Flat.lens (P:Program):∀ (p:Path) (T:Ty) {w:World} {G:Nat→Nat→Prop} {B:Nat} {o:ay} {x:den T} {vs:List Value} {ob:OB} {T':Ty} {y:den T'},Flat P T w G B o x vs ob→aH T p x=some ⟨T',y⟩→
  ∃ v1 v2 v3 b1 b2 b3,vs=v1++v2++v3∧ob=b1++b2++b3∧v1.length=bc T p∧Flat P T' w G B (cm o p) y v2 b2∧
    ∀ (o2:ay) (y2:den T') (u:List Value) (c:OB) (x2:den T),(cF p=true→o2.pure=true)→Flat P T' w G B o2 y2 u c→a7 T p x ⟨T',y2⟩=some x2→Flat P T w G B (eU o p o2) x2 (v1++u++v3) (b1++c++b3)
 | [],T,w,G,B,o,x,vs,ob,T',y,hF,h=>by
   simp only [aH,ax] at h
   obtain ⟨rfl,h⟩:=Sigma.mk.inj h
   rw [eq_of_heq h] at hF
   refine ⟨[],vs,[],[],ob,[],by simp,by simp,by cases T<;>rfl,hF,?_⟩
   intro o2 y2 u c x2 _ hy hs
   have hs':bm T ⟨T,y2⟩=some x2:=by cases T<;>exact hs
   rw [Cc,ax] at hs'
   subst hs'
   simpa [eU] using hy
 | .l::p,.pair A C,w,G,B,o,x,vs,ob,T',y,hF,h=>by
   unfold Flat at hF; obtain ⟨u1,u2,c1,c2,rfl,rfl,h1,h2⟩:=hF
   simp only [aH] at h
   obtain ⟨v1,v2,v3,b1,b2,b3,rfl,rfl,hl,hF2,hset⟩:=Flat.lens P p A h1 h
   refine ⟨v1,v2,v3++u2,b1,b2,b3++c2,by simp,by simp,hl,hF2,?_⟩
   intro o2 y2 u c x2 hix hy hs
   simp only [a7,ak,ax] at hs
   obtain ⟨z,hz,rfl⟩:=hs
   unfold Flat
   exact ⟨v1++u++v3,u2,b1++c++b3,c2,by simp,by simp,hset o2 y2 u c z hix hy hz,h2⟩
 | .r::p,.pair A C,w,G,B,o,x,vs,ob,T',y,hF,h=>by
   have hlen:∀ {vs ob},Flat P A w G B o.l x.1 vs ob→vs.length=az A:=fun h=>Flat.len P A h
   unfold Flat at hF; obtain ⟨u1,u2,c1,c2,rfl,rfl,h1,h2⟩:=hF
   simp only [aH] at h
   obtain ⟨v1,v2,v3,b1,b2,b3,rfl,rfl,hl,hF2,hset⟩:=Flat.lens P p C h2 h
   refine ⟨u1++v1,v2,v3,c1++b1,b2,b3,by simp,by simp,by rw [b6,hlen h1,hl]; rfl,hF2,?_⟩
   intro o2 y2 u c x2 hix hy hs
   simp only [a7,ak,ax] at hs
   obtain ⟨z,hz,rfl⟩:=hs
   unfold Flat
   exact ⟨u1,v1++u++v3,c1,b1++c++b3,by simp,by simp,h1,hset o2 y2 u c z hix hy hz⟩
 | .ix i::p,.arr n T,w,G,B,o,x,vs,ob,T',y,hF,h=>by
   unfold Flat at hF; obtain ⟨hn,hF⟩:=hF
   simp only [aH] at h
   split at h
   ·rename_i hi
    obtain ⟨u1,u2,u3,c1,c2,c3,rfl,rfl,hl1,hE,hst⟩:=aL.split (fun x v b hx=>Flat.len _ T hx) i (zero T) hF hi
    obtain ⟨v1,v2,v3,b1,b2,b3,rfl,rfl,hl,hF2,hset⟩:=Flat.lens P p T hE h
    rw [qM] at hF2
    refine ⟨u1++v1,v2,v3++u3,c1++b1,b2,b3++c3,by simp,by simp,by rw [b6,hl1,hl]; rfl,hF2,?_⟩
    intro o2 y2 u c x2 hix hy hs
    simp only [a7] at hs
    rw [if_pos hi] at hs
    simp only [ak,ax] at hs
    obtain ⟨z,hz,rfl⟩:=hs
    have ho2:=hix rfl
    have hnew:=hset o2 y2 u c z (fun _=>ho2) hy hz
    obtain ⟨e,hnew⟩:=Flat.pure P T (qu p .no o2 rfl ho2) (o':=.no) rfl hnew
    have hE2:=hst z (v1++u++v3) [] hnew
    unfold Flat
    refine ⟨by rw [List.length_set]; exact hn,?_⟩
    have e':c1++b1++c++(b3++c3)=c1++[]++c3:=by
     rw [show c1++b1++c++(b3++c3)=c1++(b1++c++b3)++c3 by simp,e]
    rw [e']
    simpa using hE2
   ·exact absurd h (by simp)
 | .l::_,.int _,_,_,_,_,_,_,_,_,_,_,h | .l::_,.bool,_,_,_,_,_,_,_,_,_,_,h | .l::_,.str,_,_,_,_,_,_,_,_,_,_,h | .l::_,.unit,_,_,_,_,_,_,_,_,_,_,h | .l::_,.sl _,_,_,_,_,_,_,_,_,_,_,h | .l::_,.arr _ _,_,_,_,_,_,_,_,_,_,_,h | .l::_,.fn _ _,_,_,_,_,_,_,_,_,_,_,h=>by simp [aH] at h
 | .r::_,.int _,_,_,_,_,_,_,_,_,_,_,h | .r::_,.bool,_,_,_,_,_,_,_,_,_,_,h | .r::_,.str,_,_,_,_,_,_,_,_,_,_,h | .r::_,.unit,_,_,_,_,_,_,_,_,_,_,h | .r::_,.sl _,_,_,_,_,_,_,_,_,_,_,h | .r::_,.arr _ _,_,_,_,_,_,_,_,_,_,_,h | .r::_,.fn _ _,_,_,_,_,_,_,_,_,_,_,h=>by simp [aH] at h
 | .ix _::_,.int _,_,_,_,_,_,_,_,_,_,_,h | .ix _::_,.bool,_,_,_,_,_,_,_,_,_,_,h | .ix _::_,.str,_,_,_,_,_,_,_,_,_,_,h | .ix _::_,.unit,_,_,_,_,_,_,_,_,_,_,h | .ix _::_,.sl _,_,_,_,_,_,_,_,_,_,_,h | .ix _::_,.pair _ _,_,_,_,_,_,_,_,_,_,_,h | .ix _::_,.fn _ _,_,_,_,_,_,_,_,_,_,_,h=>by simp [aH] at h
theorem tz:∀ (p q:Path) (T:Ty) {T':Ty},cU T p=some T'→bc T (p++q)=bc T p+bc T' q∧cU T (p++q)=cU T' q
 | [],q,T,T',h=>by
   have:T=T':=by cases T<;>simpa [cU] using h
   subst this
   have:bc T []=0:=by cases T<;>rfl
   simp [this]
 | .l::p,q,.pair A C,T',h=>by simp only [cU] at h; simp only [jl,bc,cU]; exact tz p q A h
 | .r::p,q,.pair A C,T',h=>by
   simp only [cU] at h; simp only [jl,bc,cU]
   have:=tz p q C h
   exact ⟨by rw [this.1]; omega,this.2⟩
 | .ix i::p,q,.arr n T,T',h=>by
   simp only [cU] at h; simp only [jl,bc,cU]
   split at h
   ·rename_i hi
    have:=tz p q T h
    exact ⟨by rw [this.1]; omega,by rw [if_pos hi]; exact this.2⟩
   ·exact absurd h (by simp)
 | .l::_,_,.int _,_,h | .l::_,_,.bool,_,h | .l::_,_,.str,_,h | .l::_,_,.unit,_,h | .l::_,_,.sl _,_,h | .l::_,_,.arr _ _,_,h | .l::_,_,.fn _ _,_,h=>by simp [cU] at h
 | .r::_,_,.int _,_,h | .r::_,_,.bool,_,h | .r::_,_,.str,_,h | .r::_,_,.unit,_,h | .r::_,_,.sl _,_,h | .r::_,_,.arr _ _,_,h | .r::_,_,.fn _ _,_,h=>by simp [cU] at h
 | .ix _::_,_,.int _,_,h | .ix _::_,_,.bool,_,h | .ix _::_,_,.str,_,h | .ix _::_,_,.unit,_,h | .ix _::_,_,.sl _,_,h | .ix _::_,_,.pair _ _,_,h | .ix _::_,_,.fn _ _,_,h=>by simp [cU] at h
def bn (w:World) (tm:Array Value) (env:Env) (s:Nat) (p:Path):Option Value:=
 match look env s with
 | .own .. =>match p with | []=>some (tm.getD s undef) | _=>none
 | .loc T _ _=>match tm.getD s undef with | .pointer (some a)=>w.cell? ⟨a.block,bc T p,none⟩ | _=>none
 | _=>none
def eK (env:Env) (s:Nat) (p:Path):Bool:=
 match look env s with
 | .loc T o x=>match cm o p,aH T p x with
   | .mp,some ⟨.map _ _,_⟩=>true
   | _,_=>false
 | _=>false
def jQ (w:World) (B:Nat) (t e:TypeId) (s:List UInt8) (v:Value) (ob:OB):Prop:=
 ∃ b p u,v=.pointer (some ⟨b,0,none⟩)∧B≤b∧w.heap[b]?=some (.cells #[p,u] t (0,0))∧(p=.pointer none∨p=.pointer (some ⟨b,0,none⟩))∧w.ownsRow B e 1 u s.length (s.map fun c=>Value.int .u8 c.toNat)∧
   u.ownBlock≠some b∧ob=(b,0)::bR u 0
def cG (P:Program) (w:World) (G:Nat→Nat→Prop) (B:Nat) (tm:Array Value) (env:Env):E→Value→OB→Prop
 | .dead,_,ob=>ob=[]
 | .bJ,v,ob=>v=undef∧ob=[]
 | .v T x,v,ob=>ob=[]∧∃ vs,Flat P T w G B .no x vs []∧v=bl T vs
 | .own wr e T o xs,v,ob=>Flat P (.sl T) w G B (.own wr e o) xs [v] ob
 | .loc T o x,v,ob=>∃ b cur e ob',v=.pointer (some ⟨b,0,none⟩)∧B≤b∧w.heap[b]?=some (.cells cur e (0,0))∧Flat P T w G B o x cur.toList ob'∧ob=(b,0)::ob'
 | .ref s p,v,ob=>ob=[]∧bn w tm env s p=some v∧((bh env s p).isSome=true∨eK env s p=true)
 | .ptr s p,v,ob=>ob=[]∧∃ T o x b,look env s=.loc T o x∧tm.getD s undef=.pointer (some ⟨b,0,none⟩)∧(cU T p).isSome=true∧v=.pointer (some ⟨b,bc T p,none⟩)
 | .cZ s p i q,v,ob=>ob=[]∧∃ h g n c,bh env s p=some h∧bn w tm env s p=some (.slice (some ⟨g,0,none⟩) n c)∧i < h.xs.length∧(cU h.T q).isSome=true∧
   v=.pointer (some ⟨g,i * az h.T+bc h.T q,none⟩)
 | .at T x,v,ob=>ob=[]∧∃ b off vs,v=.pointer (some ⟨b,off,none⟩)∧Flat P T w G B .no x vs []∧∀ j u,vs[j]?=some u→w.cell? ⟨b,off+j,none⟩=some u∧(b < B∨G b (off+j))
 | .cL _,_,_=>False
 | .cT _ _ _ _,_,_=>False
 | .nw T o x,v,ob=>ob=[]∧∃ vs,Flat P T w G B o x vs []∧v=bl T vs
 | .nm T o x,v,ob=>∃ vs,Flat P T w G B o x vs ob∧v=bl T vs
 | .it s pos,v,ob=>∃ b,v=.pointer (some ⟨b,0,none⟩)∧B≤b∧w.heap[b]?=some (.stringIter ⟨⟨s⟩⟩ pos)∧s.length≤maxLen∧ob=[(b,0)]
 | .sb t e s,v,ob=>jQ w B t e s v ob∧s.length≤140737488355328
def dZ (R:E→Value→OB→Prop):List E→List Value→OB→Prop
 | [],vs,ob=>vs=[]∧ob=[]
 | e::es,vs,ob=>∃ v r b1 b2,vs=v::r∧ob=b1++b2∧R e v b1∧dZ R es r b2
def bt (P:Program) (w:World) (G:Nat→Nat→Prop) (B:Nat) (tm:Array Value) (env:Env):E→Value→OB→Prop
 | .cL es,v,ob=>(∀ e∈es,∀ s,leads s e=false)∧∃ vs,v=.tuple vs∧dZ (cG P w G B tm env) es vs.toList ob
 | .cT f _ _ caps,v,ob=>ob=[]∧∃ cv,v=.func (.func f) #[] cv∧dZ (cG P w G B tm env) caps cv.toList []
 | e,v,ob=>cG P w G B tm env e v ob
def Gd (B:Nat) (G0:Nat→Nat→Prop) (ob:Nat→OB) (b i:Nat):Prop:=
 (b < B∧G0 b i)∨(B≤b∧G0 b i∧∀ k lim,(b,lim)∈ob k→i < lim)
structure fI where
 tb:Nat
 has:Nat→Obj→Prop
 lt:∀ g o,has g o→g < tb
def fI.nil:fI:=⟨0,fun _ _=>False,fun _ _ h=>h.elim⟩
structure fI.ok (t:fI) (w:World):Prop where
 le:t.tb≤w.heap.size
 at_:∀ g o,t.has g o→w.heap[g]?=some o
theorem fI.Xi (w:World):fI.nil.ok w:=⟨Nat.zero_le _,fun _ _ h=>h.elim⟩
structure dp where
 w:World
 x:Nat→Prop
 pin:Option Value
 r:Nat→Nat→Prop
 t:fI
def bo (W0:dp) (n k:Nat):Prop:=k < n∧(W0.pin=none∨k≠0)
structure ah (P:Program) (B:Nat) (G0:Nat→Nat→Prop) (W0:dp) (n:Nat) (env:Env) (tm:Array Value) (w:World) (ob:Nat→OB):Prop where
 rep:∀ k,bt P w (Gd B G0 ob) B tm env (look env k) (tm.getD k undef) (ob k)
 dist:∀ j k b,b∈blocks (ob j)→b∈blocks (ob k)→j=k
 nodup:∀ k,(blocks (ob k)).Nodup
 low:∀ k b,b∈blocks (ob k)→B≤b∧b < w.heap.size
 below:Below B W0.w w
 prot:∀ k b,b∈blocks (ob k)→¬ W0.x b
 same:∀ b,W0.x b→w.heap[b]?=W0.w.heap[b]?
 oldx:∀ b,W0.x b→b < w.heap.size
 free:∀ b i,B≤b→¬ W0.x b→G0 b i
 base:B≤w.heap.size
 size:tm.size=n
 pinned:∀ v,W0.pin=some v→tm.getD 0 undef=v
 kept:∀ b i,W0.r b i→b < w.heap.size∧Gd B G0 ob b i∧w.cell? ⟨b,i,none⟩=W0.w.cell? ⟨b,i,none⟩
 tab:W0.t.tb≤B∧W0.t.ok W0.w
theorem ah.oC {P:Program} {B:Nat} {G0:Nat→Nat→Prop} {W0:dp} {n:Nat} {env:Env} {tm:Array Value} {w:World} {ob:Nat→OB} (hC:ah P B G0 W0 n env tm w ob):W0.t.ok w:=
 ⟨ew hC.tab.1 hC.base,fun g o h=>by rw [hC.below.block g (dL (W0.t.lt g o h) hC.tab.1)]; exact hC.tab.2.at_ g o h⟩
theorem ah.auh {P:Program} {B:Nat} {G0:Nat→Nat→Prop} {W0:dp} {n:Nat} {env:Env} {tm:Array Value} {w w':World} {ob:Nat→OB} (hC:ah P B G0 W0 n env tm w ob) (h:cc B w w'):W0.t.ok w':=
 ⟨ew hC.oC.le h.1,fun g o hg=>by rw [h.2 g (dL (W0.t.lt g o hg) hC.tab.1)]; exact hC.oC.at_ g o hg⟩
end Go.Fw
