/- Own work: the value machine, part 1. -/
import Derived.WalkKit
import Derived.KernelRfl
set_option linter.unusedVariables false
set_option linter.unusedSimpArgs false
open Bool renaming and_eq_true → au, false_eq_true → ew
open List renaming replicate → ka, mem_append_left → gp, mem_append_right → iI, length_append → cd, mem_map → df, mem_append → dv, cons_append → jf
open Nat renaming le_refl → cF, le_trans → ey, decEq → fq, lt_of_lt_of_le → dI
open Option renaming bind_eq_some_iff → aq, bind_assoc → nG, bind_some → ar, map_some → o4
open Option.some renaming injEq → aw
/- The abstract value machine, part 1: types of values, native values, what memory shows of them. -/
namespace Go.Fw
open Go Go.RowKit
inductive Ty where
 | int (k:IntKind) | bool | str | unit
 | sl (T:Ty) | pair (A B:Ty) | arr (n:Nat) (T:Ty)
 | fn (A B:Ty)
 | map (K V:Ty)
 deriving DecidableEq
abbrev den:Ty→Type
 | .int _=>Int
 | .bool=>Bool
 | .str=>List UInt8
 | .unit=>Unit
 | .sl T=>List (den T)
 | .pair A B=>den A×den B
 | .arr _ T=>List (den T)
 | .fn A B=>den A→Option (den B)
 | .map K V=>List (den K×den V)
def zero:(T:Ty)→den T
 | .int _=>(0:Int)
 | .bool=>false
 | .str=>([]:List UInt8)
 | .unit=>()
 | .sl _=> []
 | .pair A B=>(zero A,zero B)
 | .arr n T=>ka n (zero T)
 | .fn _ _=>fun _=>none
 | .map _ _=> []
def ay:Ty→Nat
 | .unit=>0
 | .pair A B=>ay A+ay B
 | .arr n T=>n * ay T
 | _=>1
def cA:Ty→Bool
 | .unit | .pair _ _ | .arr _ _=>true
 | _=>false
def cC:Ty→Bool
 | .sl _ | .fn _ _ | .map _ _=>false
 | .pair A B=>cC A&&cC B
 | .arr _ T=>cC T
 | _=>true
def eu:Ty→Bool
 | .fn _ _=>false
 | .sl T=>eu T
 | .pair A B=>eu A&&eu B
 | .arr _ T=>eu T
 | _=>true
inductive ax where
 | no
 | hole
 | own (wr:Bool) (e:TypeId) (o:ax)
 | pair (a b:ax)
 | mp
def ax.l:ax→ax | .pair a _=>a | _=>.no
def ax.r:ax→ax | .pair _ b=>b | _=>.no
abbrev OB:=List (Nat×Nat)
def aK {α:Type} (R:α→List Value→OB→Prop):List α→List Value→OB→Prop
 | [],vs,ob=>vs=[]∧ob=[]
 | x::xs,vs,ob=>∃ v1 v2 b1 b2,vs=v1++v2∧ob=b1++b2∧R x v1 b1∧aK R xs v2 b2
def eF {α:Type} (R:α→MapEntry→Prop):List α→List MapEntry→Prop
 | [],l=>l=[]
 | x::xs,l=>∃ m r,l=m::r∧R x m∧eF R xs r
def gU:TypeId:=4294967295
def pJ (fz:Nat×Nat) (n:Nat):Prop:=fz=(0,0)∨n≤fz.1
def gk (w:World) (base:Nat) (e:TypeId) (size:Nat) (v:Value) (n:Nat) (xs:List Value):Prop:=
 xs.length=n * size∧
 ((v=.slice none 0 0∧n=0)∨
  ∃ g cap cur e' fz,v=.slice (some ⟨g,0,none⟩) n cap∧base≤g∧w.heap[g]?=some (.cells cur e' fz)∧n≤cap∧cap≤maxLen∧cur.size=cap * size∧cur.toList.take (n * size)=xs∧(e≠gU→e'=e∧fz=(0,0))∧pJ fz cur.size)
def fU (k:IntKind) (n:Int):Prop:=k.min≤n∧n≤k.max
def bj (T:Ty) (vs:List Value):Value:=if cA T then .agg vs.toArray else vs.headD undef
def bI (v:Value) (lim:Nat):OB:=match v.ownBlock with | some b=> [(b,lim)] | none=> []
def bR (B:Nat) (w w':World):Prop:=w.heap.size≤w'.heap.size∧∀ b,b < B→w'.heap[b]?=w.heap[b]?
structure Below (B:Nat) (w w':World):Prop where
 os:w'.os=w.os
 tape:w'.tape=w.tape
 output:w'.output=w.output
 size:w.heap.size≤w'.heap.size
 block:∀ k,k < B→w'.heap[k]?=w.heap[k]?
 drawn:w.drawn≤w'.drawn
theorem Below.kit {B:Nat} {w w':World} (h:Below B w w'):Go.RowKit.Below B w w':=⟨h.os,h.tape,h.output,h.size,h.block⟩
theorem Below.refl (B:Nat) (w:World):Below B w w:=⟨rfl,rfl,rfl,cF _,fun _ _=>rfl,cF _⟩
theorem Below.trans {B:Nat} {a b c:World} (h:Below B a b) (k:Below B b c):Below B a c:=
 ⟨k.os.trans h.os,k.tape.trans h.tape,k.output.trans h.output,ey h.size k.size,fun i hi=>(k.block i hi).trans (h.block i hi),ey h.drawn k.drawn⟩
def fp (P : Program) (f : FuncId) : Prop := ∃ fn, P.funcs[f]? = some fn ∧ (fn.name == "runtime.NumGoroutine") = false ∧ fn.body.isNone = false
mutual
def Flat (P:Program):(T:Ty)→World→(Nat→Nat→Prop)→Nat→ax→den T→List Value→OB→Prop
 | .int k,_,_,_,_,n,vs,ob=>vs=[.int k n]∧fU k n∧ob=[]
 | .bool,_,_,_,_,b,vs,ob=>vs=[.bool b]∧ob=[]
 | .str,_,_,_,_,s,vs,ob=>vs=[.string ⟨⟨s⟩⟩]∧s.length≤maxLen∧ob=[]
 | .unit,_,_,_,_,_,vs,ob=>vs=[]∧ob=[]
 | .pair A C,w,G,B,o,x,vs,ob=>∃ v1 v2 b1 b2,vs=v1++v2∧ob=b1++b2∧Flat P A w G B o.l x.1 v1 b1∧Flat P C w G B o.r x.2 v2 b2
 | .arr n T,w,G,B,_,xs,vs,ob=>xs.length=n∧aK (Flat P T w G B .no) xs vs ob
 | .sl T,w,G,B,.own wr e o,xs,vs,ob=>∃ v cells ob',vs=[v]∧gk w B e (ay T) v xs.length cells∧aK (Flat P T w G B o) xs cells ob'∧
   ob=bI v (if wr then 0 else xs.length * ay T)++ob'
 | .sl _,_,_,_,.hole,_,vs,ob=>vs.length=1∧ob=[]
 | .sl T,w,G,B,_,xs,vs,ob=>ob=[]∧∃ A c,vs=[.slice A xs.length c]∧xs.length≤c∧c≤maxLen∧
   (xs=[]∨∃ b off cells,A=some ⟨b,off,none⟩∧aK (Flat P T w G B .no) xs cells []∧∀ j v,cells[j]?=some v→w.cell? ⟨b,off+j,none⟩=some v∧G b (off+j))
 | .map K V,w,G,B,.mp,xs,vs,ob=>cC K=true∧cC V=true∧∃ b ents clk,vs=[.map (some b)]∧B≤b∧w.heap[b]?=some (.map ents clk)∧ob=[(b,0)]∧
   eF (fun x m=>∃ ks us,Flat P K w G B .no x.1 ks []∧Flat P V w G B .no x.2 us []∧m.key=bj K ks∧m.val=bj V us) xs ents.toList
 | .map _ _,_,_,_,_,_,vs,ob=>ob=[]∧∃ r,vs=[.map r]
 | .fn A C,w,_,B,_,g,vs,ob=>ob=[]∧cC C=true∧∃ f caps,vs=[.func (.func f) #[] caps]∧
   ∀ (w':World) (G':Nat→Nat→Prop) (x:den A) (vals:List Value),bR B w w'→iF P A w' G' x vals→∀ r,g x=some r→
     fp P f∧Calls P f (vals.toArray++caps) w' (fun e w''=>∃ rs,Flat P C w'' G' B .no r rs []∧e=.returned (bj C rs)∧Below w'.heap.size w' w'')
def iF (P:Program):(A:Ty)→World→(Nat→Nat→Prop)→den A→List Value→Prop
 | .pair A C,w,G,x,vals=>∃ v1 rest,Flat P A w G w.heap.size .no x.1 v1 []∧vals=bj A v1::rest∧iF P C w G x.2 rest
 | .unit,_,_,_,vals=>vals=[]
 | _,_,_,_,_=>False
end
end Go.Fw
/- The abstract value machine, part 2: entries, operations, code. -/
namespace Go.Fw
open Go Go.RowKit
inductive St where
 | l | r | ix (i:Nat)
 deriving DecidableEq
abbrev Path:=List St
abbrev TV:=(T:Ty)×den T
def cT:Ty→Path→Option Ty
 | T,[]=>some T
 | .pair A _,.l::p=>cT A p
 | .pair _ B,.r::p=>cT B p
 | .arr n T,.ix i::p=>if i < n then cT T p else none
 | _,_=>none
def ba:Ty→Path→Nat
 | .pair A _,.l::p=>ba A p
 | .pair A B,.r::p=>ay A+ba B p
 | .arr _ T,.ix i::p=>i * ay T+ba T p
 | _,_=>0
def aH:(T:Ty)→Path→den T→Option TV
 | T,[],x=>some ⟨T,x⟩
 | .pair A _,.l::p,x=>aH A p x.1
 | .pair _ B,.r::p,x=>aH B p x.2
 | .arr _ T,.ix i::p,x=>if i < x.length then aH T p (x.getD i (zero T)) else none
 | _,_,_=>none
def bh (T:Ty) (y:TV):Option (den T):=if h:y.1=T then some (h▸y.2) else none
def a7:(T:Ty)→Path→den T→TV→Option (den T)
 | T,[],_,y=>bh T y
 | .pair A _,.l::p,x,y=>(a7 A p x.1 y).bind fun z=>some (z,x.2)
 | .pair _ B,.r::p,x,y=>(a7 B p x.2 y).bind fun z=>some (x.1,z)
 | .arr _ T,.ix i::p,x,y=>if i < x.length then (a7 T p (x.getD i (zero T)) y).bind fun z=>some (x.set i z) else none
 | _,_,_,_=>none
def bW:ax→Path→ax
 | a,[]=>a
 | a,.l::p=>bW a.l p
 | a,.r::p=>bW a.r p
 | _,.ix _::_=>.no
def fc:ax→Path→ax→ax
 | _,[],b=>b
 | a,.l::p,b=>.pair (fc a.l p b) a.r
 | a,.r::p,b=>.pair a.l (fc a.r p b)
 | a,.ix _::_,_=>a
def rh {α:Type}:ax→List (Path×α)→ax
 | o,[]=>o
 | o,(p,_)::r=>rh (fc o p .no) r
def cD:Path→Bool
 | []=>false
 | .ix _::_=>true
 | _::p=>cD p
def ax.pure:ax→Bool
 | .no=>true
 | .pair a b=>a.pure&&b.pure
 | _=>false
def ax.whole:ax→Bool
 | .hole=>false
 | .pair a b=>a.whole&&b.whole
 | .own _ _ o=>o.whole
 | .no | .mp=>true
def ax.bo:ax→ax
 | .own _ e o=>.own false e o.bo
 | .pair a b=>.pair a.bo b.bo
 | a=>a
def ax.stays:ax→Bool
 | .own w _ o=>!w&&o.stays
 | .pair a b=>a.stays&&b.stays
 | _=>true
theorem ax.tF:∀ {o:ax},o.stays=true→o.bo=o
 | .own w e o,h=>by
   simp only [ax.stays,au,Bool.not_eq_true'] at h
   simp only [ax.bo,ax.tF h.2,h.1]
 | .pair a b,h=>by
   simp only [ax.stays,au] at h
   simp only [ax.bo,ax.tF h.1,ax.tF h.2]
 | .no,_ | .hole,_ | .mp,_=>rfl
inductive E where
 | dead
 | bF
 | v (T:Ty) (x:den T)
 | own (wr:Bool) (e:TypeId) (T:Ty) (o:ax) (xs:List (den T))
 | loc (T:Ty) (o:ax) (x:den T)
 | ref (s:Nat) (p:Path)
 | ptr (s:Nat) (p:Path)
 | cV (s:Nat) (p:Path) (i:Nat) (q:Path)
 | at (T:Ty) (x:den T)
 | cJ (es:List E)
 | cS (f:FuncId) (A C:Ty) (caps:List E)
 | it (s:List UInt8) (pos:Nat)
 | sb (t e:TypeId) (s:List UInt8)
 | nw (T:Ty) (o:ax) (x:den T)
 | nm (T:Ty) (o:ax) (x:den T)
abbrev Env:=List (Nat×E)
def look:Env→Nat→E
 | [],_=>.dead
 | (j,e)::r,k=>match fq j k with | .isTrue _=>e | .isFalse _=>look r k
def E.home:E→Bool
 | .own .. | .loc .. =>true
 | _=>false
def leads (s:Nat):E→Bool
 | .ref k _ | .ptr k _ | .cV k _ _ _=>k==s
 | .cS _ _ _ caps=>caps.any fun | .ref k _ | .ptr k _ | .cV k _ _ _=>k==s | _=>false
 | _=>false
def kill (s:Nat) (env:Env):Env:=env.map fun q=>if leads s q.2 then (q.1,.dead) else q
def eU (s:Nat):E→Bool
 | .ptr _ _=>false
 | e=>leads s e
def jA (s:Nat) (env:Env):Env:=env.map fun q=>if eU s q.2 then (q.1,.dead) else q
def tp (s d:Nat) (env:Env):Env:=env.map fun q=>match q.2 with
 | .ref k p=>if k==s then (q.1,.ref d p) else q
 | .cV k p i r=>if k==s then (q.1,.cV d p i r) else q
 | .cS f A C caps=>if leads s (.cS f A C caps) then (q.1,.dead) else q
 | _=>q
def put (env:Env) (k:Nat) (e:E):Env:=(k,if leads k e then .dead else e)::(if (look env k).home then kill k env else env)
def aL (env:Env) (k:Option Nat) (e:E):Env:=match k with | some k=>put env k e | none=>env
def freeze (env:Env) (s:Nat):Env:=
 match look env s with
 | .own _ e T o xs=>(s,.own false e T o.bo xs)::env
 | .loc T o x=>(match o.stays with | true=>env | false=>(s,.loc T o.bo x)::env)
 | _=>env
def ti:E→List Nat
 | .ref k _ | .ptr k _ | .cV k _ _ _=> [k]
 | _=> []
def qx:E→List Nat
 | .cS _ _ _ caps=>caps.flatMap ti
 | e=>ti e
def qk (live:List Nat) (e:E):E:=match (qx e).all fun s=>live.any fun k=>k==s with | true=>e | false=>.dead
def aj (live:List Nat) (env:Env):Env:=live.map fun k=>(k,qk live (look env k))
inductive Od where
 | t (k:Nat)
 | c (T:Ty) (x:den T)
 | nil (e:TypeId) (T:Ty)
 | fn (f:FuncId) (A C:Ty)
def av (env:Env):Od→E
 | .t k=>look env k
 | .c T x=>.v T x
 | .nil e T=>.own true e T .no []
 | .fn f A C=>.cS f A C []
structure j8 where
 wr:Bool
 e:TypeId
 T:Ty
 o:ax
 xs:List (den T)
def bc (env:Env) (s:Nat) (p:Path):Option j8:=
 match look env s with
 | .own wr e T o xs=>match p with | []=>some ⟨wr,e,T,o,xs⟩ | _=>none
 | .loc T o x=>match bW o p,aH T p x with
   | .own wr e o',some ⟨.sl T',xs⟩=>some ⟨wr,e,T',o',xs⟩
   | _,_=>none
 | _=>none
structure az where
 run:FuncId→List E→Option (List E)
 runK:{R:Type}→FuncId→List E→(List E→Option R)→Option R
 eqn:∀ {R:Type} (f:FuncId) (es:List E) (k:List E→Option R),runK f es k=(run f es).bind k
instance:CoeFun az (fun _=>FuncId→List E→Option (List E)):=⟨az.run⟩
def az.of (g:FuncId→List E→Option (List E)):az:=⟨g,fun f es k=>(g f es).bind k,fun _ _ _=>rfl⟩
def unpack:(A:Ty)→den A→List E
 | .pair A B,x=>.v A x.1::unpack B x.2
 | _,_=> []
def jZ (C:Ty):List E→Option (den C)
 | [.v T x]=>bh C ⟨T,x⟩
 | _=>none
def cW (env:Env):E→Option E
 | .v T x=>some (.v T x)
 | .own _ _ T o xs=>if o.pure then some (.v (.sl T) xs) else none
 | .ref s p=>(bc env s p).bind fun h=>if h.o.pure then some (.v (.sl h.T) h.xs) else none
 | .at T x=>some (.at T x)
 | .ptr s p=>match look env s with
   | .loc T o x=>if (bW o p).whole then (aH T p x).bind fun y=>some (.at y.1 y.2) else none
   | _=>none
 | .cV s p i q=>(bc env s p).bind fun h=>if h.o.pure&&decide (i < h.xs.length) then (aH h.T q (h.xs.getD i (zero h.T))).bind fun y=>some (.at y.1 y.2) else none
 | _=>none
def ij (env:Env):List E→Option (List E)
 | []=>some []
 | e::r=>(cW env e).bind fun x=>(ij env r).bind fun y=>some (x::y)
def c7 (env:Env) (e:E):Option TV:=
 match e with
 | .v T x=>some ⟨T,x⟩
 | .own _ _ T o xs=>if o.pure then some ⟨.sl T,xs⟩ else none
 | .ref s p=>(bc env s p).bind fun h=>if h.o.pure then some ⟨.sl h.T,h.xs⟩ else none
 | _=>none
def jT (cl:az) (env:Env) (f:FuncId) (A C:Ty) (caps:List E):Option E:=
 if cC C then (ij env caps).bind fun cs=>some (.v (.fn A C) fun x=>(cl f (unpack A x++cs)).bind (jZ C)) else none
def fG (k:Od) (e:E):Option Nat:=
 match e with
 | .own .. =>match k with | .t k=>some k | _=>none
 | .ref s _ | .ptr s _ | .cV s _ _ _=>some s
 | .loc .. =>match k with | .t k=>some k | _=>none
 | _=>none
def eb (env:Env) (k:Od):Option (Env×TV):=
 (c7 env (av env k)).bind fun y=>some (match fG k (av env k) with | some s=>freeze env s | none=>env,y)
def ad {α:Type} (b:Bool) (x y:α):α:=match b with | true=>x | false=>y
def arith (op:BinOp) (k:IntKind) (x y:Int):Option Int:=
 match op with
 | .add=>some (k.wrap (x+y))
 | .sub=>some (k.wrap (x - y))
 | .mul=>some (k.wrap (x * y))
 | .and=>some (Go.bits .and k x y)
 | .or=>some (Go.bits .or k x y)
 | .xor=>some (Go.bits .xor k x y)
 | .andNot=>some (Go.bits .andNot k x y)
 | _=>none
def tB (l:Bool) (k:IntKind) (m n:Int):Int:=match l with
 | true=>k.wrap (m * 2 ^ (min n.toNat k.bits))
 | false=>m.fdiv (2 ^ (min n.toNat k.bits))
def Bm (op:BinOp) (x y:Int):Option Bool:=
 match op with
 | .eql=>some (x==y)
 | .neq=>some (x != y)
 | .lss=>some (decide (x < y))
 | .leq=>some (decide (x≤y))
 | .gtr=>some (decide (x > y))
 | .geq=>some (decide (x≥y))
 | _=>none
end Go.Fw
/- The abstract value machine: operations whose order is open, read through a reader that fails on what is dead. -/
namespace Go.Fw
open Go Go.RowKit
def Sub (L L':Nat→E):Prop:=∀ k,L k=.dead∨L' k=L k
structure Rd (α:Type) where
 run:(Nat→E)→Option α
 runK:{R:Type}→(Nat→E)→(α→Option R)→Option R
 mono:∀ L L' x,Sub L L'→run L=some x→run L'=some x
 eqn:∀ {R:Type} (L:Nat→E) (k:α→Option R),runK L k=(run L).bind k
namespace Rd
def ok {α:Type} (x:α):Rd α:=⟨fun _=>some x,fun _ k=>k x,fun _ _ _ _ h=>h,fun _ _=>rfl⟩
def no {α:Type}:Rd α:=⟨fun _=>none,fun _ _=>none,fun _ _ _ _ h=>h,fun _ _=>rfl⟩
def of {α:Type} (x:Option α):Rd α:=⟨fun _=>x,fun _ k=>x.bind k,fun _ _ _ _ h=>h,fun _ _=>rfl⟩
def kF:E→Option E
 | .dead=>none
 | e=>some e
def get (k:Nat):Rd E:=⟨fun L=>kF (L k),fun L c=>(kF (L k)).bind c,fun L L' x hs h=>by
 rcases hs k with h1 | h1
 ·rw [h1] at h; simp [kF] at h
 ·rw [h1]; exact h,fun _ _=>rfl⟩
def bind {α β:Type} (a:Rd α) (f:α→Rd β):Rd β:=⟨fun L=>(a.run L).bind fun x=>(f x).run L,fun L k=>a.runK L fun x=>(f x).runK L k,fun L L' x hs h=>by
 obtain ⟨y,hy,h⟩:=aq.1 h
 exact aq.2 ⟨y,a.mono L L' y hs hy,(f y).mono L L' x hs h⟩,fun L k=>by
 rw [a.eqn,nG]; congr 1; funext x; exact (f x).eqn L k⟩
def ite {α:Type} (p:Prop) [Decidable p] (a b:Rd α):Rd α:=⟨fun L=>if p then a.run L else b.run L,fun L k=>if p then a.runK L k else b.runK L k,fun L L' x hs h=>by
 split
 ·rename_i hp; rw [if_pos hp] at h; exact a.mono L L' x hs h
 ·rename_i hp; rw [if_neg hp] at h; exact b.mono L L' x hs h,fun L k=>by
 split
 ·exact a.eqn L k
 ·exact b.eqn L k⟩
def br {α:Type} (q:Bool) (a b:Rd α):Rd α:=⟨fun L=>ad q (a.run L) (b.run L),fun L k=>ad q (a.runK L k) (b.runK L k),fun L L' x hs h=>by
 cases q
 ·exact b.mono L L' x hs h
 ·exact a.mono L L' x hs h,fun L k=>by
 cases q
 ·exact b.eqn L k
 ·exact a.eqn L k⟩
def call (cl:az) (f:FuncId) (es:List E):Rd (List E):=⟨fun _=>cl f es,fun _ k=>cl.runK f es k,fun _ _ _ _ h=>h,fun _ k=>cl.eqn f es k⟩
end Rd
def dM:Od→Rd E
 | .t k=>.get k
 | .c T x=>.ok (.v T x)
 | .nil e T=>.ok (.own true e T .no [])
 | .fn f A C=>.ok (.cS f A C [])
def Ct (e:E) (p:Path):Option j8:=
 match e with
 | .own wr e T o xs=>match p with | []=>some ⟨wr,e,T,o,xs⟩ | _=>none
 | .loc T o x=>match bW o p,aH T p x with
   | .own wr e o',some ⟨.sl T',xs⟩=>some ⟨wr,e,T',o',xs⟩
   | _,_=>none
 | _=>none
def mo (s:Nat) (p:Path):Rd j8:=(Rd.get s).bind fun e=>.of (Ct e p)
def LM (p:Path):E→Option E
 | .loc T o x=>if (bW o p).whole then (aH T p x).bind fun y=>some (.at y.1 y.2) else none
 | _=>none
def zA:E→Rd E
 | .v T x=>.ok (.v T x)
 | .own _ _ T o xs=>.of (if o.pure then some (.v (.sl T) xs) else none)
 | .ref s p=>(mo s p).bind fun h=>.of (if h.o.pure then some (.v (.sl h.T) h.xs) else none)
 | .at T x=>.ok (.at T x)
 | .ptr s p=>(Rd.get s).bind fun e=>.of (LM p e)
 | .cV s p i q=>(mo s p).bind fun h=>.of (if h.o.pure&&decide (i < h.xs.length) then (aH h.T q (h.xs.getD i (zero h.T))).bind fun y=>some (.at y.1 y.2) else none)
 | _=>.no
def rj:List E→Rd (List E)
 | []=>.ok []
 | e::r=>(zA e).bind fun x=>(rj r).bind fun y=>.ok (x::y)
def yp:E→Rd TV
 | .v T x=>.ok ⟨T,x⟩
 | .own _ _ T o xs=>.of (if o.pure then some ⟨.sl T,xs⟩ else none)
 | .ref s p=>(mo s p).bind fun h=>.of (if h.o.pure then some ⟨.sl h.T,h.xs⟩ else none)
 | _=>.no
def Bl (cl:az) (f:FuncId) (A C:Ty) (caps:List E):Rd E:=
 if cC C then (rj caps).bind fun cs=>.ok (.v (.fn A C) fun x=>(cl f (unpack A x++cs)).bind (jZ C)) else .no
theorem dV (env:Env) (x:Od):(dM x).run (look env)=Rd.kF (av env x):=by
 cases x<;>rfl
theorem Ze (env:Env) (s:Nat) (p:Path):bc env s p=Ct (look env s) p:=by
 unfold bc Ct
 rfl
theorem sR (env:Env) (s:Nat) (p:Path):(mo s p).run (look env)=bc env s p:=by
 rw [Ze]
 show (Rd.kF (look env s)).bind (fun e=>Ct e p)=_
 cases look env s<;>rfl
theorem LP (env:Env) (e:E):(zA e).run (look env)=cW env e:=by
 cases e<;>try rfl
 ·rename_i s p
  show ((mo s p).run (look env)).bind _=_
  rw [sR]; rfl
 ·rename_i s p
  show (Rd.kF (look env s)).bind (fun e=>LM p e)=_
  simp only [cW]
  cases look env s<;>rfl
 ·rename_i s p i q
  show ((mo s p).run (look env)).bind _=_
  rw [sR]; rfl
theorem DB (env:Env):∀ (es:List E),(rj es).run (look env)=ij env es
 | []=>rfl
 | e::r=>by
   show ((zA e).run (look env)).bind (fun x=>((rj r).run (look env)).bind fun y=>some (x::y))=_
   rw [LP,DB env r]; rfl
theorem Cx (env:Env) (e:E):(yp e).run (look env)=c7 env e:=by
 cases e<;>try rfl
 rename_i s p
 show ((mo s p).run (look env)).bind _=_
 rw [sR]; rfl
theorem QB (cl:az) (env:Env) (f:FuncId) (A C:Ty) (caps:List E):(Bl cl f A C caps).run (look env)=jT cl env f A C caps:=by
 unfold Bl jT
 split
 ·show ((rj caps).run (look env)).bind _=_
  rw [DB]; rfl
 ·rfl
end Go.Fw
/- The abstract value machine, part 3: steps, code, calls. -/
namespace Go.Fw
open Go Go.RowKit
inductive qQ where
 | mv (x:Od)
 | ab (x:Od)
 | pick (c a b:Od)
 | alloc (T:Ty) (o:ax)
 | box (T:Ty) (x:Od)
 | build (T:Ty) (parts:List (Path×Od))
 | kh (T:Ty) (o:ax) (parts:List (Path×Od))
 | buildSlice (e:TypeId) (T:Ty) (parts:List Od)
 | load (T:Ty) (a:Od)
 | store (T:Ty) (a x:Od)
 | bin (op:BinOp) (x y:Od)
 | un (op:UnOp) (x:Od)
 | kM (k:IntKind) (x:Od)
 | fieldAddr (S:Ty) (p:Path) (a:Od)
 | indexAddr (T:Ty) (x i:Od)
 | yu (n:Nat) (T:Ty) (x i:Od)
 | field (S:Ty) (p:Path) (x:Od)
 | dX (x i:Od)
 | yr (n:Nat) (T:Ty) (x i:Od)
 | jK (x:Od) (lo hi:Option Od)
 | kG (T:Ty) (x:Od) (lo hi mx:Option Od)
 | nn (neg:Bool) (T:Ty) (x y:Od)
 | mkSlice (e:TypeId) (T:Ty) (lim:Nat) (len cap:Od)
 | append (e:TypeId) (T:Ty) (lim:Nat) (s x:Od)
 | bP (x:Od)
 | aZ (x:Od)
 | yx (n:Nat)
 | mm (max:Bool) (x y:Od)
 | call (f:FuncId) (args:List Od)
 | nP (x:Od) (args:List Od)
 | extract (k:Nat) (i:Nat)
 | qz (f:FuncId) (A C:Ty) (caps:List Od)
 | CT (x:Od)
 | ea (k:Nat)
 | bad
 | jE (x:Od)
 | qN (x:Od)
 | toStr (x:Od)
 | uv (f:FuncId) (args:List Od)
 | Hn (f:FuncId) (args:List Od)
 | cp (x:Od)
 | C4 (T:Ty) (a x:Od)
 | Lf (f:FuncId) (x:Od)
 | kT (f:FuncId) (p:Od) (args:List Od)
 | yH (t e:TypeId)
 | iC (f:FuncId) (k:Nat) (x:Od)
 | jI (f:FuncId) (k:Nat)
 | shift (l:Bool) (x y:Od)
 | bQ (f:FuncId) (x g:Od)
 | iV (f:FuncId) (x g:Od)
 | CK (K V:Ty)
 | zF (T:Ty) (p:Path) (k:Nat) (parts:List (Path×Od))
 | zE (T:Ty) (k:Nat)
 | CJ (K V:Ty) (x y:Od)
 | CL (K V:Ty) (x y z:Od)
structure AI where
 dst:Option Nat
 op:qQ
 guard:Option (Nat×Bool):=none
abbrev cN (R:Type):=Env→Option R
def Od.slot:Od→Option Nat | .t k=>some k | _=>none
def kz:E→Option (IntKind×Int)
 | .v (.int k) n=>some (k,n)
 | _=>none
def mY:E→Option Bool
 | .v .bool b=>some b
 | _=>none
def mJ:E→Option (List UInt8)
 | .v .str s=>some s
 | _=>none
def mB (env:Env):Option Od→Option (Option Int)
 | none=>some none
 | some x=>(kz (av env x)).bind fun q=>some (some q.2)
def pK:E→E
 | .own _ e T o xs=>.own false e T o.bo xs
 | e=>e
def XK:E→E
 | .cJ es=>.cJ (es.map pK)
 | e=>pK e
def pL (d:Option Nat) (env:Env):Env:=match d,env with
 | some _,(k,e)::r=>(k,XK e)::r
 | _,env=>env
def fF (x:Od) (e:E):E:=
 match e with
 | .own .. =>match x with | .t k=>.ref k [] | _=>e
 | .loc .. =>match x with | .t k=>.ptr k [] | _=>e
 | .cJ _=>.dead
 | .it _ _ | .sb _ _ _ | .nm _ _ _=>.dead
 | _=>e
def oD (env:Env) (d:Option Nat) (x:Od):Env:=
 match av env x with
 | .cJ es=>match x,d with
   | .t k,some d=>if k==d then env else (d,.cJ es)::(k,.dead)::(if (look env d).home then kill d env else env)
   | _,_=>aL env d .dead
 | e=>aL env d (fF x e)
def assign (env:Env) (d:Nat) (x:Od):Env:=
 match av env x with
 | .own wr e T o xs=>match x with
   | .t k=>if k==d then env else
     let env:=if (look env d).home then kill d env else env
     (d,.own wr e T o xs)::(k,.ref d [])::tp k d env
   | _=>put env d (.own wr e T o xs)
 | e=>put env d (fF x e)
def ep:(T:Ty)→Option (den T→den T→Bool)
 | .int _=>some fun x y=>x==y
 | .bool=>some fun x y=>x==y
 | .str=>some fun x y=>x==y
 | .unit=>some fun _ _=>true
 | .pair A B=>match ep A,ep B with
   | some f,some g=>some fun x y=>f x.1 y.1&&g x.2 y.2
   | _,_=>none
 | _=>none
def ik:(T:Ty)→den T→Env→List (Path×Od)→Option (Env×den T)
 | _,x,env,[]=>some (env,x)
 | T,x,env,(p,a)::r=>(eb env a).bind fun q=>(a7 T p x q.2).bind fun y=>ik T y q.1 r
def nO (T:Ty):Env→List Od→Option (Env×List (den T))
 | env,[]=>some (env,[])
 | env,a::r=>(eb env a).bind fun q=>(bh T q.2).bind fun x=>(nO T q.1 r).bind fun z=>some (z.1,x::z.2)
def fR (cl:az) (env:Env):List Od→Option (List E)
 | []=>some []
 | a::r=>
   (match av env a with
    | .loc T o x=>if o.whole then some (E.at T x) else none
    | .cS f A C caps=>jT cl env f A C caps
    | e=>cW env e).bind fun x=>(fR cl env r).bind fun y=>some (x::y)
def jo (env:Env):List Od→Env
 | []=>env
 | a::r=>jo (match fG a (av env a) with | some s=>freeze env s | none=>env) r
def E.plain:E→Bool
 | .v T _=>cC T
 | .own _ _ T _ _=>cC T
 | _=>false
def eH:List E→E
 | [e]=>e
 | es=>.cJ es
def tuple:(A:Ty)→List E→Option (den A)
 | .unit,[]=>some ()
 | .pair A B,.v T x::r=>(bh A ⟨T,x⟩).bind fun y=>(tuple B r).bind fun z=>some (y,z)
 | _,_=>none
variable {R:Type}
def eD (env:Env) (y:Od):Option (Nat×Path):=
 match av env y with
 | .ptr s p=>some (s,p)
 | .loc .. =>y.slot.map fun k=>(k,[])
 | _=>none
def placeOf (env:Env) (k0:Nat):Option (Nat×Path):=
 match look env k0 with
 | .own .. =>some (k0,[])
 | .ref k p=>some (k,p)
 | _=>none
def tH (env:Env) (k:Nat) (p:Path):Option Env:=
 match look env k with
 | .own .. =>some ((k,.dead)::kill k env)
 | .loc T0 o x0=>some ((k,.loc T0 (fc o p .hole) x0)::jA k env)
 | _=>none
def apart (d:Option Nat) (k:Nat):Bool:=match d with | some d=>!(d==k) | none=>false
def E.cap:E→Bool
 | .cJ _ | .cS _ _ _ _ | .own .. | .it _ _ | .sb _ _ _ | .nm _ _ _=>false
 | _=>true
def yR:E→Option TV
 | .v T x=>some ⟨T,x⟩
 | _=>none
def qF (env:Env):Od→Option Nat
 | .t k=>match look env k with
   | .own .. =>some k
   | .ref s []=>some s
   | _=>none
 | _=>none
def qE:List E→Option TV
 | [.own _ _ T _ ys]=>some ⟨.sl T,ys⟩
 | _=>none
def kB (o:ax) (s:Nat) (env:Env):Env:=match o.pure with | true=>env | false=>jA s env
def tj:E→Bool
 | .v T _=>eu T
 | .dead=>true
 | _=>false
def CD (T:Ty):List E→Option (ax×den T×List E)
 | .loc T' o x::rs=>(match eu T with | true=>(bh T ⟨T',x⟩).bind fun x=>some (o,x,rs) | false=>none)
 | _=>none
def VI:List E→Option (List UInt8)
 | [.sb _ _ s]=>some s
 | _=>none
def Wj:List E→Option (List UInt8)
 | [.v .str s]=>some s
 | _=>none
def iA {α β:Type} (f:α→α→Bool) (z:β):List (α×β)→α→β×Bool
 | [],_=>(z,false)
 | e::r,k=>match f k e.1 with | true=>(e.2,true) | false=>iA f z r k
def iY {α β:Type} (f:α→α→Bool):List (α×β)→α→β→List (α×β)
 | [],k,v=> [(k,v)]
 | e::r,k,v=>match f k e.1 with | true=>(k,v)::r | false=>e::iY f r k v
def step (cl:az) (i:AI) (env:Env) (K:cN R):Option R:=
 match i.op with
 | .mv x=>K (oD env i.dst x)
 | .ab x=>match i.dst with | some d=>K (assign env d x) | none=>none
 | .pick c a b=>(mY (av env c)).bind fun q=>ad q (K (aL env i.dst (fF a (av env a)))) (K (aL env i.dst (fF b (av env b))))
 | .alloc T o=>K (aL env i.dst (.loc T o (zero T)))
 | .box T x=>(eb env x).bind fun q=>(bh T q.2).bind fun y=>K (aL q.1 i.dst (.loc T .no y))
 | .build T parts=>(ik T (zero T) env parts).bind fun q=>K (aL q.1 i.dst (.v T q.2))
 | .kh T o parts=>(ik T (zero T) env parts).bind fun q=>K (aL q.1 i.dst (.nw T (rh o parts) q.2))
 | .buildSlice e T parts=>(nO T env parts).bind fun q=>K (aL q.1 i.dst (.own true e T .no q.2))
 | .load T a=>match av env a with
   | .at T' x=>(bh T ⟨T',x⟩).bind fun y=>K (aL env i.dst (.v T y))
   | .cV s p j q=>(bc env s p).bind fun h=>if j < h.xs.length then
     (if h.o.pure then (aH h.T q (h.xs.getD j (zero h.T))).bind fun z=>(bh T z).bind fun y=>K (aL env i.dst (.v T y)) else none) else none
   | _=>match eD env a with
     | some (s,p)=>match look env s with
       | .loc T0 o x=>match bW o p with
         | .own .. =>match aH T0 p x with
           | some ⟨.sl T',_⟩=>if T=.sl T' then K (aL env i.dst (.ref s p)) else none
           | _=>none
         | .mp=>match aH T0 p x with
           | some ⟨.map K' V',_⟩=>if T=.map K' V' then K (aL env i.dst (.ref s p)) else none
           | _=>none
         | b=>if b.whole then (aH T0 p x).bind fun z=>(bh T z).bind fun y=>
            K (aL (if b.pure then env else freeze env s) i.dst (.v T y)) else none
       | _=>none
     | none=>none
 | .store T a x=>match av env a with
   | .cV s p j q=>match look env s with
     | .own true e T0 o xs=>match p with
       | []=>(eb env x).bind fun y=>(bh T y.2).bind fun z=>if j < xs.length then
         (a7 T0 q (xs.getD j (zero T0)) ⟨T,z⟩).bind fun u=>(match look y.1 s with | .own true .. =>some () | _=>none).bind fun _=>if o.pure then K ((s,.own true e T0 o (xs.set j u))::y.1) else none else none
       | _=>none
     | .loc .. =>(eb env x).bind fun y=>(bh T y.2).bind fun z=>match look y.1 s with
       | .loc T0 o x0=>(match bW o p,aH T0 p x0 with
         | .own true _ o',some ⟨.sl T1,xs⟩=>if j < xs.length then (a7 T1 q (xs.getD j (zero T1)) ⟨T,z⟩).bind fun u=>(a7 T0 p x0 ⟨.sl T1,xs.set j u⟩).bind fun x1=>
           if o'.pure then K ((s,.loc T0 o x1)::y.1) else none else none
         | _,_=>none)
       | _=>none
     | _=>none
   | _=>match eD env a with
     | some (s,p)=>match look env s with
       | .loc T0 o x0=>
         if (cC T) then
          (c7 env (av env x)).bind fun y=>(bh T y).bind fun z=>(a7 T0 p x0 ⟨T,z⟩).bind fun x1=>K ((s,.loc T0 o x1)::env)
         else match av env x with
         | .own wr e T1 o1 xs=>match x with
           | .t k=>(bh T ⟨.sl T1,xs⟩).bind fun z=>(a7 T0 p x0 ⟨T,z⟩).bind fun x1=>match cD p with
             | true=>none
             | false=>K ((s,.loc T0 (fc o p (.own wr e o1)) x1)::(k,.ref s p)::jA s (kill k env))
           | _=>(bh T ⟨.sl T1,xs⟩).bind fun z=>(a7 T0 p x0 ⟨T,z⟩).bind fun x1=>match cD p with
             | true=>none
             | false=>K ((s,.loc T0 (fc o p (.own wr e o1)) x1)::jA s env)
         | .nw T1 o1 x2=>(bh T ⟨T1,x2⟩).bind fun z=>(a7 T0 p x0 ⟨T,z⟩).bind fun x1=>match cD p || !o1.whole with
           | true=>none
           | false=>K ((s,.loc T0 (fc o p o1) x1)::jA s env)
         | _=>(eb env x).bind fun y=>(bh T y.2).bind fun z=>match look y.1 s with
           | .loc T0 o x0=>(a7 T0 p x0 ⟨T,z⟩).bind fun x1=>match (bW o p).pure with
             | true=>K ((s,.loc T0 o x1)::y.1)
             | false=>K ((s,.loc T0 (fc o p .no) x1)::jA s y.1)
           | _=>none
       | _=>none
     | none=>none
 | .bin op x y=>match av env x,av env y with
   | .v (.int k) m,.v (.int k') n=>if k=k' then
     (match op with
      | .quo=>if n=0 then none else K (aL env i.dst (.v (.int k) (k.wrap (m.tdiv n))))
      | .rem=>if n=0 then none else K (aL env i.dst (.v (.int k) (m.tmod n)))
      | _=>match Bm op m n with
        | some b=>K (aL env i.dst (.v .bool b))
        | none=>(arith op k m n).bind fun r=>K (aL env i.dst (.v (.int k) r))) else none
   | .v .str s,.v .str t=>match op with
     | .eql=>K (aL env i.dst (.v .bool (s==t)))
     | .neq=>K (aL env i.dst (.v .bool (s != t)))
     | .add=>if s.length+t.length≤140737488355328 then K (aL env i.dst (.v .str (s++t))) else none
     | .lss=>K (aL env i.dst (.v .bool (Op.bytesLess s t)))
     | .leq=>K (aL env i.dst (.v .bool (Op.bytesLess s t || s==t)))
     | .gtr=>K (aL env i.dst (.v .bool (!(Op.bytesLess s t || s==t))))
     | .geq=>K (aL env i.dst (.v .bool (!Op.bytesLess s t)))
     | _=>none
   | _,_=>none
 | .nn neg T x y=>(c7 env (av env x)).bind fun s=>(c7 env (av env y)).bind fun t=>(bh T s).bind fun s=>(bh T t).bind fun t=>(ep T).bind fun f=>
   K (aL env i.dst (.v .bool (if neg then !f s t else f s t)))
 | .un op x=>match op,av env x with
   | .not,.v .bool b=>K (aL env i.dst (.v .bool (!b)))
   | .neg,.v (.int k) n=>K (aL env i.dst (.v (.int k) (k.wrap (0 - n))))
   | _,_=>none
 | .shift l x y=>match av env x,av env y with
   | .v (.int k) m,.v (.int _) n=>if 0≤n then K (aL env i.dst (.v (.int k) (tB l k m n))) else none
   | _,_=>none
 | .kM k x=>(kz (av env x)).bind fun q=>K (aL env i.dst (.v (.int k) (k.wrap q.2)))
 | .fieldAddr S p a=>match av env a with
   | .at T x=>(bh S ⟨T,x⟩).bind fun x=>(aH S p x).bind fun y=>K (aL env i.dst (.at y.1 y.2))
   | .ptr s q=>match look env s with
     | .loc T0 _ _=>if cT T0 q=some S then K (aL env i.dst (.ptr s (q++p))) else none
     | _=>none
   | .cV s q j r=>(bc env s q).bind fun h=>if cT h.T r=some S then K (aL env i.dst (.cV s q j (r++p))) else none
   | .loc T0 _ _=>if T0=S then a.slot.bind fun k=>K (aL env i.dst (.ptr k p)) else none
   | _=>none
 | .indexAddr T x ix=>(kz (av env ix)).bind fun q=>match av env x with
   | .v T' xs=>(bh (.sl T) ⟨T',xs⟩).bind fun xs=>if 0≤q.2∧q.2 < (xs.length:Int) then K (aL env i.dst (.at T (xs.getD q.2.toNat (zero T)))) else none
   | .own _ _ T' _ xs=>if T'=T then x.slot.bind fun s=>if 0≤q.2∧q.2 < (xs.length:Int) then K (aL env i.dst (.cV s [] q.2.toNat [])) else none else none
   | .ref s p=>(bc env s p).bind fun h=>if h.T=T then if 0≤q.2∧q.2 < (h.xs.length:Int) then K (aL env i.dst (.cV s p q.2.toNat [])) else none else none
   | _=>none
 | .yu n T x ix=>(kz (av env ix)).bind fun q=>match av env x with
   | .at T' xs=>(bh (.arr n T) ⟨T',xs⟩).bind fun xs=>if 0≤q.2∧q.2 < (n:Int) then K (aL env i.dst (.at T (xs.getD q.2.toNat (zero T)))) else none
   | _=>match eD env x with
     | some (s,p)=>match look env s with
       | .loc T0 _ _=>if cT T0 p=some (.arr n T) then if 0≤q.2∧q.2 < (n:Int) then K (aL env i.dst (.ptr s (p++[.ix q.2.toNat]))) else none else none
       | _=>none
     | none=>none
 | .field S p x=>(c7 env (av env x)).bind fun y=>(bh S y).bind fun y=>(aH S p y).bind fun z=>K (aL env i.dst (.v z.1 z.2))
 | .dX x ix=>(kz (av env ix)).bind fun q=>(mJ (av env x)).bind fun s=>
   if 0≤q.2∧q.2 < (s.length:Int) then K (aL env i.dst (.v (.int .u8) ((s.getD q.2.toNat 0).toNat:Int))) else none
 | .yr n T x ix=>(kz (av env ix)).bind fun q=>match av env x with
   | .v T' xs=>(bh (.arr n T) ⟨T',xs⟩).bind fun xs=>if 0≤q.2∧q.2 < (n:Int) then K (aL env i.dst (.v T (xs.getD q.2.toNat (zero T)))) else none
   | _=>none
 | .jK x lo hi=>(mB env lo).bind fun lo=>(mB env hi).bind fun hi=>(mJ (av env x)).bind fun s=>
   if 0≤lo.getD 0∧lo.getD 0≤hi.getD (s.length:Int)∧hi.getD (s.length:Int)≤(s.length:Int) then
    K (aL env i.dst (.v .str ((s.drop (lo.getD 0).toNat).take ((hi.getD (s.length:Int)).toNat - (lo.getD 0).toNat)))) else none
 | .kG T x lo hi mx=>(mB env lo).bind fun lo=>(mB env hi).bind fun hi=>(mB env mx).bind fun mx=>(eb env x).bind fun y=>(bh (.sl T) y.2).bind fun xs=>
   if 0≤lo.getD 0∧lo.getD 0≤hi.getD (xs.length:Int)∧hi.getD (xs.length:Int)≤mx.getD (xs.length:Int)∧mx.getD (xs.length:Int)≤(xs.length:Int) then
    K (aL y.1 i.dst (.v (.sl T) ((xs.drop (lo.getD 0).toNat).take ((hi.getD (xs.length:Int)).toNat - (lo.getD 0).toNat)))) else none
 | .mkSlice e T lim l c=>match av env l,av env c with
   | .v (.int .i64) m,.v (.int .i64) n=>if 0≤m∧m≤n∧n≤(lim:Int) then K (aL env i.dst (.own true e T .no (ka m.toNat (zero T)))) else none
   | _,_=>none
 | .append e T lim s x=>(eb env x).bind fun y=>(bh (.sl T) y.2).bind fun ys=>match s with
   | .nil e' _=>if e=e' then if ys.length≤lim then K (aL y.1 i.dst (.own true e T .no ys)) else none else none
   | .t k0=>(placeOf y.1 k0).bind fun q=>(bc y.1 q.1 q.2).bind fun h=>(bh (.sl T) ⟨.sl h.T,h.xs⟩).bind fun xs=>(tH y.1 q.1 q.2).bind fun env2=>
     match apart i.dst q.1&&h.o.pure&&(h.e==e) with
     | true=>if xs.length+ys.length≤lim then K (aL env2 i.dst (.own h.wr e T .no (xs++ys))) else none
     | false=>none
   | _=>none
 | .bP x=>(mJ (av env x)).bind fun s=>K (aL env i.dst (.v (.int .i64) (s.length:Int)))
 | .aZ x=>(c7 env (av env x)).bind fun y=>match y with
   | ⟨.sl _,xs⟩=>K (aL env i.dst (.v (.int .i64) (xs.length:Int)))
   | _=>none
 | .yx m=>K (aL env i.dst (.v (.int .i64) (m:Int)))
 | .mm mx x y=>match av env x,av env y with
   | .v (.int k) m,.v (.int k') n=>if k=k' then K (aL env i.dst (.v (.int k) (if mx then (if n > m then n else m) else (if n < m then n else m)))) else none
   | _,_=>none
 | .call f args=>(fR cl env args).bind fun as=>cl.runK f as fun res=>
   K (aL (if res.all E.plain then env else jo env args) i.dst (eH res))
 | .uv f args=>(fR cl env args).bind fun as=>cl.runK f as fun res=>
   K (pL i.dst (aL (if res.all E.plain then env else jo env args) i.dst (eH res)))
 | .Hn f args=>(fR cl env args).bind fun as=>cl.runK f (.dead::as) fun res=>
   K (aL (if res.all E.plain then env else jo env args) i.dst (eH res))
 | .C4 T a x=>match eD env a with
   | some (s,p)=>match look env s with
     | .loc .. =>(eb env x).bind fun y=>(bh T y.2).bind fun z=>match look y.1 s with
       | .loc T0 o x0=>(a7 T0 p x0 ⟨T,z⟩).bind fun x1=>match (bW o p).pure with
         | true=>K ((s,.loc T0 o x1)::y.1)
         | false=>none
       | _=>none
     | _=>none
   | none=>none
 | .cp x=>(eb env x).bind fun q=>K (aL q.1 i.dst (.v q.2.1 q.2.2))
 | .Lf f x=>(qF env x).bind fun s=>match look env s with
   | .own true e T .no xs=>if cC T&&!(e==gU) then cl.runK f [.bF,.own true e T .no xs] fun res=>
     (qE res).bind fun y=>(bh (.sl T) y).bind fun ys=>K (aL ((s,.own true e T .no ys)::env) i.dst (.cJ [])) else none
   | _=>none
 | .kT f p args=>(eD env p).bind fun q=>match q.2 with
   | []=>(fR cl env args).bind fun as=>match as.all tj&&apart i.dst q.1 with
     | true=>(match look (jo env args) q.1 with
       | .loc T o x=>cl.runK f (.loc T o x::as) fun res=>(CD T res).bind fun y=>
         K (aL ((q.1,.loc T y.1 y.2.1)::kB o q.1 (jo env args)) i.dst (eH y.2.2))
       | _=>none)
     | false=>none
   | _=>none
 | .CK K0 V0=>K (aL env i.dst (.nm (.map K0 V0) .mp []))
 | .zF T p k parts=>(ik T (zero T) env parts).bind fun q=>match look q.1 k with
   | .nm T' .mp x'=>(match cD p || !apart i.dst k with
     | false=>(a7 T p q.2 ⟨T',x'⟩).bind fun y=>K (aL ((k,.dead)::q.1) i.dst (.nm T (fc .no p .mp) y))
     | true=>none)
   | _=>none
 | .zE T k=>match look env k with
   | .nm T' o x=>(bh T ⟨T',x⟩).bind fun y=>match apart i.dst k&&o.whole with
     | true=>K (aL ((k,.dead)::env) i.dst (.loc T o y))
     | false=>none
   | _=>none
 | .CJ K0 V0 x y=>match av env x with
   | .ref s p=>match look env s with
     | .loc T0 o x0=>match bW o p with
       | .mp=>(aH T0 p x0).bind fun z=>(bh (.map K0 V0) z).bind fun xs=>(c7 env (av env y)).bind fun k=>(bh K0 k).bind fun k=>(ep K0).bind fun f=>
         K (aL env i.dst (.cJ [.v V0 (iA f (zero V0) xs k).1,.v .bool (iA f (zero V0) xs k).2]))
       | _=>none
     | _=>none
   | _=>none
 | .CL K0 V0 x y z=>match av env x with
   | .ref s p=>match look env s with
     | .loc T0 o x0=>match bW o p with
       | .mp=>(aH T0 p x0).bind fun u=>(bh (.map K0 V0) u).bind fun xs=>(c7 env (av env y)).bind fun k=>(bh K0 k).bind fun k=>(c7 env (av env z)).bind fun v=>(bh V0 v).bind fun v=>(ep K0).bind fun f=>
         (a7 T0 p x0 ⟨.map K0 V0,iY f xs k v⟩).bind fun x1=>K ((s,.loc T0 o x1)::env)
       | _=>none
     | _=>none
   | _=>none
 | .bQ f x g=>match x with
   | .t s=>(match look env s,av env g with
     | .own true e T .no xs,.cS fg A C caps=>(match (env.all fun q=>!leads s q.2)&&apart i.dst s&&!(e==gU) with
       | true=>(jT cl env fg A C caps).bind fun ge=>cl.runK f [.bF,.own true e T .no xs,ge] fun res=>
         (qE res).bind fun y=>(bh (.sl T) y).bind fun ys=>K (aL ((s,.dead)::env) i.dst (.own true e T .no ys))
       | false=>none)
     | _,_=>none)
   | _=>none
 | .iV f x g=>(qF env x).bind fun s=>match look env s,av (kill s env) g with
   | .own true e T .no xs,.cS fg A C caps=>(match apart i.dst s&&!(e==gU) with
     | true=>(jT cl (kill s env) fg A C caps).bind fun ge=>cl.runK f [.bF,ge,.own true e T .no xs] fun res=>
       (qE res).bind fun y=>(bh (.sl T) y).bind fun ys=>K (aL ((s,.own true e T .no ys)::kill s env) i.dst .dead)
     | false=>none)
   | _,_=>none
 | .yH t e=>K (aL env i.dst (.sb t e []))
 | .iC f k x=>match look env k with
   | .sb t e s=>(match apart i.dst k with
     | true=>(mJ (av env x)).bind fun u=>cl.runK f [.bF,.sb t e s,.v .str u] fun res=>(VI res).bind fun s'=>K (aL ((k,.sb t e s')::env) i.dst .dead)
     | false=>none)
   | _=>none
 | .jI f k=>match look env k with
   | .sb t e s=>(match apart i.dst k with
     | true=>cl.runK f [.bF,.sb t e s] fun res=>(Wj res).bind fun u=>K (aL ((k,.dead)::env) i.dst (.v .str u))
     | false=>none)
   | _=>none
 | .nP x args=>match av env x with
   | .v (.fn A C) g=>(fR cl env args).bind fun as=>(tuple A as).bind fun a=>(g a).bind fun r=>if cC C then K (aL env i.dst (.v C r)) else none
   | .cS f _ _ caps=>(fR cl env args).bind fun as=>(ij env caps).bind fun cs=>cl.runK f (as++cs) fun res=>
     if res.all E.plain then K (aL env i.dst (eH res)) else none
   | _=>none
 | .extract k j=>match look env k with
   | .cJ es=>match es[j]? with
     | some e=>(match e with
       | .v T x=>K (aL env i.dst (.v T x))
       | .own wr e' T o xs=>match !wr&&o.pure with
         | true=>K (aL env i.dst (.v (.sl T) xs))
         | false=>K (aL ((k,.cJ (es.set j .dead))::env) i.dst (.own wr e' T o xs))
       | _=>none)
     | none=>none
   | _=>none
 | .qz f A C caps=>if (caps.all fun a=>(av env a).cap) then K (aL env i.dst (.cS f A C (caps.map fun a=>fF a (av env a)))) else none
 | .bad=>none
 | .qN x=>(mJ (av env x)).bind fun s=>K (aL env i.dst (.own true gU (.int .u8) .no (s.map fun b=>(b.toNat:Int))))
 | .toStr x=>(c7 env (av env x)).bind fun y=>(bh (.sl (.int .u8)) y).bind fun xs=>K (aL env i.dst (.v .str (xs.map fun n=>UInt8.ofNat n.toNat)))
 | .jE x=>match av env x with
   | .ptr .. | .cV .. | .at .. | .loc .. =>K (aL env i.dst (fF x (av env x)))
   | _=>none
 | .CT x=>(mJ (av env x)).bind fun s=>K (aL env i.dst (.it s 0))
 | .ea k=>match look env k with
   | .it s pos=>ad (decide (pos < s.length)) (K (aL ((k,.it s (pos+(Utf8.decode ⟨⟨s⟩⟩ pos).2))::env) i.dst (.cJ [.v .bool true,.v (.int .i64) (pos:Int),.v (.int .i32) ((Utf8.decode ⟨⟨s⟩⟩ pos).1:Int)]))) (K (aL env i.dst (.cJ [.v .bool false])))
   | _=>none
def ym (g:Option (Nat×Bool)) (env:Env) (yes no:cN R):Option R:=
 match g with
 | none=>yes env
 | some (s,pol)=>match look env s with
   | .v .bool b=>ad b ((if pol then yes else no) ((s,.v .bool true)::env)) ((if pol then no else yes) ((s,.v .bool false)::env))
   | .bF=>no env
   | _=>none
def ops (cl:az):List AI→Env→cN R→Option R
 | [],env,K=>K env
 | i::r,env,K=>ym i.guard env (fun env=>step cl i env (fun env=>ops cl r env K)) (fun env=>ops cl r (aL env i.dst .bF) K)
def UB (d:Nat) (e:E):E:=if leads d e then .dead else e
def one (d:Option Nat) (e:E):List (Nat×E):=match d with | some d=> [(d,UB d e)] | none=> []
def E.oA:E→Bool
 | .own .. | .loc .. | .cJ _ | .dead | .it _ _ | .sb _ _ _ | .nm _ _ _=>false
 | _=>true
def KF (x:Od):Rd E:=(dM x).bind fun e=>if e.oA then .ok e else .no
def QH (x:Od) (e:E):Option E:=
 match e with
 | .cJ _ | .dead | .it _ _ | .sb _ _ _ | .nm _ _ _=>none
 | .own .. | .loc .. =>match x with | .t _=>some (fF x e) | _=>none
 | e=>some e
def uB (x:Od):Rd E:=(dM x).bind fun e=>match QH x e with | some f=>.ok f | none=>.no
def kA (x:Od):Rd (IntKind×Int):=(dM x).bind fun e=>.of (kz e)
def DG (x:Od):Rd Bool:=(dM x).bind fun e=>.of (mY e)
def yN (x:Od):Rd (List UInt8):=(dM x).bind fun e=>.of (mJ e)
def mC:Option Od→Rd (Option Int)
 | none=>.ok none
 | some x=>(kA x).bind fun q=>.ok (some q.2)
def qO (x:Od):Rd TV:=(dM x).bind fun e=>.of (yR e)
def LW (op:BinOp) (a b:E):Rd E:=
 match a,b with
 | .v (.int k) m,.v (.int k') n=>if k=k' then
   (match op with
    | .quo=>.ite (n=0) .no (.ok (.v (.int k) (k.wrap (m.tdiv n))))
    | .rem=>.ite (n=0) .no (.ok (.v (.int k) (m.tmod n)))
    | _=>match Bm op m n with
      | some b=>.ok (.v .bool b)
      | none=>match arith op k m n with
        | some r=>.ok (.v (.int k) r)
        | none=>.no) else .no
 | .v .str s,.v .str t=>match op with
   | .eql=>.ok (.v .bool (s==t))
   | .neq=>.ok (.v .bool (s != t))
   | .add=>.ite (s.length+t.length≤140737488355328) (.ok (.v .str (s++t))) .no
   | .lss=>.ok (.v .bool (Op.bytesLess s t))
   | .leq=>.ok (.v .bool (Op.bytesLess s t || s==t))
   | .gtr=>.ok (.v .bool (!(Op.bytesLess s t || s==t)))
   | .geq=>.ok (.v .bool (!Op.bytesLess s t))
   | _=>.no
 | _,_=>.no
def Wm (op:UnOp) (x:E):Option E:=
 match op,x with
 | .not,.v .bool b=>some (.v .bool (!b))
 | .neg,.v (.int k) n=>some (.v (.int k) (k.wrap (0 - n)))
 | _,_=>none
def KW (x:Od):Rd ((Nat×Path)×E):=(dM x).bind fun e=>match e with
 | .ptr s p=>(Rd.get s).bind fun f=>.ok ((s,p),f)
 | .loc .. =>match x with | .t k=>.ok ((k,[]),e) | _=>.no
 | _=>.no
def CE (T:Ty) (s:Nat) (p:Path):E→Rd E
 | .loc T0 o x=>match bW o p with
   | .own .. =>match aH T0 p x with
     | some ⟨.sl T',_⟩=>if T=.sl T' then .ok (.ref s p) else .no
     | _=>.no
   | .mp=>match aH T0 p x with
     | some ⟨.map K' V',_⟩=>if T=.map K' V' then .ok (.ref s p) else .no
     | _=>.no
   | b=>if b.whole&&b.pure then (Rd.of ((aH T0 p x).bind fun z=>bh T z)).bind fun y=>.ok (.v T y) else .no
 | _=>.no
def UH (T:Ty) (j:Nat) (q:Path) (h:j8):Rd E:=
 .ite (j < h.xs.length)
  (if h.o.pure then (Rd.of ((aH h.T q (h.xs.getD j (zero h.T))).bind fun z=>bh T z)).bind fun y=>.ok (.v T y) else .no) .no
def Rj (S:Ty) (s:Nat) (q p:Path):E→Option E
 | .loc T0 _ _=>if cT T0 q=some S then some (.ptr s (q++p)) else none
 | _=>none
def zC (n:Nat) (T:Ty) (i:Int) (s:Nat) (p:Path):E→Rd E
 | .loc T0 _ _=>if cT T0 p=some (.arr n T) then .ite (0≤i∧i < (n:Int)) (.ok (.ptr s (p++[.ix i.toNat]))) .no else .no
 | _=>.no
def rq:(T:Ty)→den T→List (Path×Od)→Rd (den T)
 | _,x,[]=>.ok x
 | T,x,(p,a)::r=>(qO a).bind fun q=>(Rd.of (a7 T p x q)).bind fun y=>rq T y r
def ug (T:Ty):List Od→Rd (List (den T))
 | []=>.ok []
 | a::r=>(qO a).bind fun q=>(Rd.of (bh T q)).bind fun x=>(ug T r).bind fun z=>.ok (x::z)
def LN (cl:az):E→Rd E
 | .loc T o x=>if o.whole then .ok (E.at T x) else .no
 | .cS f A C caps=>Bl cl f A C caps
 | e=>zA e
def mX (cl:az):List Od→Rd (List E)
 | []=>.ok []
 | a::r=>((dM a).bind (LN cl)).bind fun x=>(mX cl r).bind fun y=>.ok (x::y)
def Wf:E→Bool | .loc _ o _=>o.stays | _=>false
def sS:List Od→Rd Unit
 | []=>.ok ()
 | a::r=>(dM a).bind fun e=>match fG a e with
   | none=>sS r
   | some s=>(Rd.get s).bind fun f=>match Wf f with | true=>sS r | false=>.no
def CR (args:List Od) (res:List E):Rd E:=if res.all E.plain then .ok (eH res) else (sS args).bind fun _=>.ok (eH res)
def uw:List Od→Rd (List E)
 | []=>.ok []
 | a::r=>(dM a).bind fun e=>if e.cap then (uw r).bind fun y=>.ok (fF a e::y) else .no
def Re (j:Nat):E→Option E
 | .cJ es=>match es[j]? with
   | some (.v T x)=>some (.v T x)
   | some (.own false _ T o xs)=>if o.pure then some (.v (.sl T) xs) else none
   | _=>none
 | _=>none
def tI (cl:az) (d:Option Nat):qQ→Rd E
 | .mv x=>uB x
 | .jE x=>(dM x).bind fun e=>match e with
   | .ptr s p=>.ok (.ptr s p)
   | .cV s p i q=>.ok (.cV s p i q)
   | .at T y=>.ok (.at T y)
   | .loc .. =>match x with | .t k=>.ok (.ptr k []) | _=>.no
   | _=>.no
 | .ab x=>if d.isSome then KF x else .no
 | .pick c a b=>(DG c).bind fun q=>.br q (uB a) (uB b)
 | .alloc T o=>.ok (.loc T o (zero T))
 | .box T x=>(qO x).bind fun q=>(Rd.of (bh T q)).bind fun y=>.ok (.loc T .no y)
 | .build T parts=>(rq T (zero T) parts).bind fun y=>.ok (.v T y)
 | .kh T o parts=>(rq T (zero T) parts).bind fun y=>.ok (.nw T (rh o parts) y)
 | .buildSlice e T parts=>(ug T parts).bind fun y=>.ok (.own true e T .no y)
 | .load T a=>(dM a).bind fun e=>match e with
   | .at T' x=>(Rd.of (bh T ⟨T',x⟩)).bind fun y=>.ok (.v T y)
   | .cV s p j q=>(mo s p).bind fun h=>UH T j q h
   | .ptr s p=>(Rd.get s).bind fun f=>CE T s p f
   | .loc .. =>match a with | .t k=>CE T k [] e | _=>.no
   | _=>.no
 | .bin op x y=>(dM x).bind fun a=>(dM y).bind fun b=>LW op a b
 | .nn neg T x y=>(dM x).bind fun a=>(dM y).bind fun b=>(yp a).bind fun s=>(yp b).bind fun t=>(Rd.of (bh T s)).bind fun s=>(Rd.of (bh T t)).bind fun t=>(Rd.of (ep T)).bind fun f=>
   .ok (.v .bool (if neg then !f s t else f s t))
 | .un op x=>(dM x).bind fun a=>.of (Wm op a)
 | .shift l x y=>(dM x).bind fun a=>(dM y).bind fun b=>match a,b with
   | .v (.int k) m,.v (.int _) n=>.ite (0≤n) (.ok (.v (.int k) (tB l k m n))) .no
   | _,_=>.no
 | .kM k x=>(kA x).bind fun q=>.ok (.v (.int k) (k.wrap q.2))
 | .fieldAddr S p a=>(dM a).bind fun e=>match e with
   | .at T x=>(Rd.of (bh S ⟨T,x⟩)).bind fun x=>(Rd.of (aH S p x)).bind fun y=>.ok (.at y.1 y.2)
   | .ptr s q=>(Rd.get s).bind fun f=>.of (Rj S s q p f)
   | .cV s q j r=>(mo s q).bind fun h=>if cT h.T r=some S then .ok (.cV s q j (r++p)) else .no
   | .loc T0 _ _=>if T0=S then match a with | .t k=>.ok (.ptr k p) | _=>.no else .no
   | _=>.no
 | .indexAddr T x ix=>(kA ix).bind fun q=>(dM x).bind fun e=>match e with
   | .v T' xs=>(Rd.of (bh (.sl T) ⟨T',xs⟩)).bind fun xs=>.ite (0≤q.2∧q.2 < (xs.length:Int)) (.ok (.at T (xs.getD q.2.toNat (zero T)))) .no
   | .own _ _ T' _ xs=>if T'=T then match x with | .t s=>.ite (0≤q.2∧q.2 < (xs.length:Int)) (.ok (.cV s [] q.2.toNat [])) .no | _=>.no else .no
   | .ref s p=>(mo s p).bind fun h=>if h.T=T then .ite (0≤q.2∧q.2 < (h.xs.length:Int)) (.ok (.cV s p q.2.toNat [])) .no else .no
   | _=>.no
 | .yu n T x ix=>(kA ix).bind fun q=>(dM x).bind fun e=>match e with
   | .at T' xs=>(Rd.of (bh (.arr n T) ⟨T',xs⟩)).bind fun xs=>.ite (0≤q.2∧q.2 < (n:Int)) (.ok (.at T (xs.getD q.2.toNat (zero T)))) .no
   | .ptr s p=>(Rd.get s).bind fun f=>zC n T q.2 s p f
   | .loc .. =>match x with | .t k=>zC n T q.2 k [] e | _=>.no
   | _=>.no
 | .field S p x=>(dM x).bind fun e=>(yp e).bind fun y=>(Rd.of (bh S y)).bind fun y=>(Rd.of (aH S p y)).bind fun z=>.ok (.v z.1 z.2)
 | .dX x ix=>(kA ix).bind fun q=>(yN x).bind fun s=>
   .ite (0≤q.2∧q.2 < (s.length:Int)) (.ok (.v (.int .u8) ((s.getD q.2.toNat 0).toNat:Int))) .no
 | .yr n T x ix=>(kA ix).bind fun q=>(dM x).bind fun e=>match e with
   | .v T' xs=>(Rd.of (bh (.arr n T) ⟨T',xs⟩)).bind fun xs=>.ite (0≤q.2∧q.2 < (n:Int)) (.ok (.v T (xs.getD q.2.toNat (zero T)))) .no
   | _=>.no
 | .jK x lo hi=>(mC lo).bind fun lo=>(mC hi).bind fun hi=>(yN x).bind fun s=>
   .ite (0≤lo.getD 0∧lo.getD 0≤hi.getD (s.length:Int)∧hi.getD (s.length:Int)≤(s.length:Int))
    (.ok (.v .str ((s.drop (lo.getD 0).toNat).take ((hi.getD (s.length:Int)).toNat - (lo.getD 0).toNat)))) .no
 | .kG T x lo hi mx=>(mC lo).bind fun lo=>(mC hi).bind fun hi=>(mC mx).bind fun mx=>(qO x).bind fun y=>(Rd.of (bh (.sl T) y)).bind fun xs=>
   .ite (0≤lo.getD 0∧lo.getD 0≤hi.getD (xs.length:Int)∧hi.getD (xs.length:Int)≤mx.getD (xs.length:Int)∧mx.getD (xs.length:Int)≤(xs.length:Int))
    (.ok (.v (.sl T) ((xs.drop (lo.getD 0).toNat).take ((hi.getD (xs.length:Int)).toNat - (lo.getD 0).toNat)))) .no
 | .mkSlice e T lim l c=>(kA l).bind fun m=>(kA c).bind fun n=>if m.1=.i64∧n.1=.i64 then .ite (0≤m.2∧m.2≤n.2∧n.2≤(lim:Int)) (.ok (.own true e T .no (ka m.2.toNat (zero T)))) .no else .no
 | .bP x=>(yN x).bind fun s=>.ok (.v (.int .i64) (s.length:Int))
 | .aZ x=>(dM x).bind fun e=>(yp e).bind fun y=>match y with
   | ⟨.sl _,xs⟩=>.ok (.v (.int .i64) (xs.length:Int))
   | _=>.no
 | .yx m=>.ok (.v (.int .i64) (m:Int))
 | .mm mx x y=>(kA x).bind fun m=>(kA y).bind fun n=>if m.1=n.1 then .ok (.v (.int m.1) (if mx then (if n.2 > m.2 then n.2 else m.2) else (if n.2 < m.2 then n.2 else m.2))) else .no
 | .call f args=>(mX cl args).bind fun es=>(Rd.call cl f es).bind fun res=>CR args res
 | .nP x args=>(dM x).bind fun e=>match e with
   | .v (.fn A C) g=>(mX cl args).bind fun es=>(Rd.of (tuple A es)).bind fun a=>(Rd.of (g a)).bind fun r=>if cC C then .ok (.v C r) else .no
   | .cS f _ _ caps=>(mX cl args).bind fun es=>(rj caps).bind fun cs=>(Rd.call cl f (es++cs)).bind fun res=>if res.all E.plain then .ok (eH res) else .no
   | _=>.no
 | .extract k j=>(Rd.get k).bind fun e=>.of (Re j e)
 | .qz f A C caps=>(uw caps).bind fun cs=>.ok (.cS f A C cs)
 | _=>.no
def C2 (T:Ty) (z:den T) (s:Nat) (p:Path):E→Rd (List (Nat×E))
 | .loc T0 o x0=>if cC T || (bW o p).pure then (Rd.of (a7 T0 p x0 ⟨T,z⟩)).bind fun x1=>.ok [(s,.loc T0 o x1)] else .no
 | _=>.no
def Wh (T:Ty) (z:den T) (s:Nat) (j:Nat) (q:Path):E→Rd (List (Nat×E))
 | .own true e T0 o xs=>.ite (j < xs.length) ((Rd.of (a7 T0 q (xs.getD j (zero T0)) ⟨T,z⟩)).bind fun u=>if o.pure then .ok [(s,.own true e T0 o (xs.set j u))] else .no) .no
 | _=>.no
def VT (T:Ty) {T':Ty} (xs:List (den T')) (lo hi mx:Option Od):Rd E:=
 (mC lo).bind fun lo=>(mC hi).bind fun hi=>(mC mx).bind fun mx=>(Rd.of (bh (.sl T) ⟨.sl T',xs⟩)).bind fun xs=>
   .ite (0≤lo.getD 0∧lo.getD 0≤hi.getD (xs.length:Int)∧hi.getD (xs.length:Int)≤mx.getD (xs.length:Int)∧mx.getD (xs.length:Int)≤(xs.length:Int))
    (.ok (.v (.sl T) ((xs.drop (lo.getD 0).toNat).take ((hi.getD (xs.length:Int)).toNat - (lo.getD 0).toNat)))) .no
def Dz (d:Option Nat) (k0:Nat) (x:Od):Rd (TV×List (Nat×E)):=
 (dM x).bind fun e=>match e with
  | .v T y=>.ok (⟨T,y⟩,[])
  | .own _ ed T o xs=>match x with
    | .t k=>if (!(k==k0))&&apart d k&&o.pure then .ok (⟨.sl T,xs⟩,[(k,.own false ed T o.bo xs)]) else .no
    | _=>.no
  | _=>.no
def KX (d:Option Nat) (ch:List (Nat×E)) (x:Od):Rd (TV×List (Nat×E)):=
 (dM x).bind fun e=>match e with
  | .v T y=>.ok (⟨T,y⟩,ch)
  | .own _ ed T o xs=>match x with
    | .t k=>if (ch.all fun q=>!(q.1==k))&&apart d k&&o.pure then .ok (⟨.sl T,xs⟩,(k,.own false ed T o.bo xs)::ch) else .no
    | _=>.no
  | _=>.no
def uh (d:Option Nat):(T:Ty)→den T→List (Nat×E)→List (Path×Od)→Rd (den T×List (Nat×E))
 | _,x,ch,[]=>.ok (x,ch)
 | T,x,ch,(p,a)::r=>(KX d ch a).bind fun q=>(Rd.of (a7 T p x q.1)).bind fun y=>uh d T y q.2 r
def IH:qQ→Option Nat
 | .append _ _ _ (.t k) _=>some k
 | .bQ _ (.t k) _=>some k
 | _=>none
def gm (cl:az) (d:Option Nat):qQ→Rd (List (Nat×E))
 | .store T a x=>(qO x).bind fun y=>(Rd.of (bh T y)).bind fun z=>(dM a).bind fun e=>match e with
   | .cV s [] j q=>(Rd.get s).bind fun f=>Wh T z s j q f
   | .ptr s p=>(Rd.get s).bind fun f=>C2 T z s p f
   | .loc .. =>match a with | .t k=>C2 T z k [] e | _=>.no
   | _=>.no
 | .kG T x lo hi mx=>(dM x).bind fun e=>match e with
   | .ref s p=>match p with
     | []=>(Rd.get s).bind fun f=>match f with
       | .own _ ed T' o xs=>if o.pure then (VT T xs (T':=T') lo hi mx).bind fun v=>.ok (one d v++[(s,.own false ed T' o.bo xs)]) else .no
       | _=>.no
     | _=>.no
   | _=>(tI cl d (.kG T x lo hi mx)).bind fun e=>.ok (one d e)
 | .build T parts=>(uh d T (zero T) [] parts).bind fun q=>.ok (one d (.v T q.1)++q.2)
 | .cp x=>(dM x).bind fun e=>match e with
   | .v T y=>.ok (one d (.v T y))
   | .own _ ed T o xs=>match x with
     | .t k=>if o.pure then .ok (one d (.v (.sl T) xs)++[(k,.own false ed T o.bo xs)]) else .no
     | _=>.no
   | _=>.no
 | .append e T lim s x=>match s with
   | .t k0=>(Rd.get k0).bind fun f=>match f with
     | .own wr e' T' o xs=>(Dz d k0 x).bind fun q=>(Rd.of (bh (.sl T) q.1)).bind fun ys=>(Rd.of (bh (.sl T) ⟨.sl T',xs⟩)).bind fun xs=>
       if apart d k0&&o.pure&&(e'==e) then .ite (xs.length+ys.length≤lim) (.ok (one d (.own wr e T .no (xs++ys))++(k0,.dead)::q.2)) .no else .no
     | _=>.no
   | _=>.no
 | .bQ f x g=>match x with
   | .t s=>(Rd.get s).bind fun e0=>match e0 with
     | .own true e T .no xs=>(dM g).bind fun c=>match c with
       | .cS fg A C caps=>if apart d s&&!(e==gU) then (Bl cl fg A C caps).bind fun ge=>(Rd.call cl f [.bF,.own true e T .no xs,ge]).bind fun res=>
         (Rd.of (qE res)).bind fun y=>(Rd.of (bh (.sl T) y)).bind fun ys=>.ok (one d (.own true e T .no ys)++[(s,.dead)]) else .no
       | _=>.no
     | _=>.no
   | _=>.no
 | .kT f p args=>(mX cl args).bind fun es=>(sS args).bind fun _=>(KW p).bind fun q=>match q.1.2 with
   | []=>(match q.2 with
     | .loc T o x=>if es.all tj&&apart d q.1.1&&o.pure then (Rd.call cl f (.loc T o x::es)).bind fun res=>(Rd.of (CD T res)).bind fun y=>.ok (one d (eH y.2.2)++[(q.1.1,.loc T y.1 y.2.1)]) else .no
     | _=>.no)
   | _=>.no
 | .uv f args=>(mX cl args).bind fun es=>(Rd.call cl f es).bind fun res=>(CR args res).bind fun e=>.ok (pL d (one d e))
 | .mv x=>(dM x).bind fun e=>match e with
   | .cJ es=>match x,d with
     | .t k,some d=>if k==d then .no else .ok [(d,.cJ es),(k,.dead)]
     | _,_=>.no
   | _=>(tI cl d (.mv x)).bind fun e=>.ok (one d e)
 | op=>(tI cl d op).bind fun e=>.ok (one d e)
structure DI where
 ai:AI
 hide:List Nat
 wr:List Nat
 pre:List Nat
 piv:Bool:=false
 safe:List Nat:=[]
def gI (l:List Nat) (L:Nat→E):Nat→E:=fun k=>match l.any (fun j=>j==k) with | true=>.dead | false=>L k
def free (env:Env) (d:Option Nat):Bool:=match d with | some d=>!(look env d).home | none=>true
def nu (i:DI) (env:Env):Bool:=i.safe.all fun s=>env.all fun q=>!leads s q.2
def okW (i:DI) (env:Env) (δ:List (Nat×E)):Bool:=free env i.ai.dst&&(δ.all fun q=>i.wr.any fun k=>k==q.1)&&nu i (δ++env)
def ir (cl:az):List DI→Env→cN R→Option R
 | [],env,K=>K env
 | i::r,env,K=>
   let yes:=fun env'=>(gm cl i.ai.dst i.ai.op).runK (gI i.hide (look env)) fun δ=>match okW i env δ with
    | true=>ir cl r (δ++env') K
    | false=>none
   let nope:=fun env'=>match okW i env (one i.ai.dst .bF) with
    | true=>ir cl r (one i.ai.dst .bF++env') K
    | false=>none
   match i.piv with
   | true=>match nu i env with
     | true=>step cl i.ai env fun env'=>match nu i env' with
       | true=>ir cl r env' K
       | false=>none
     | false=>none
   | false=>match i.ai.guard with
     | none=>yes env
     | some (s,pol)=>match gI i.hide (look env) s with
       | .v .bool b=>ad b ((if pol then yes else nope) ((s,.v .bool true)::env)) ((if pol then nope else yes) ((s,.v .bool false)::env))
       | .bF=>nope env
       | _=>none
inductive AC where
 | skip
 | aa (live:List Nat) (l:List AI)
 | draw (live:List Nat) (l:List DI)
 | seq (a b:AC)
 | cond (c:Od) (x y:AC)
 | block (id:Nat) (b:AC)
 | loop (live:List Nat) (b:AC)
 | out (live:List Nat) (b:AC)
 | exit (id:Nat)
 | ret
inductive Ex where
 | normal | exit (id:Nat) | ret
abbrev KE (R:Type):=Ex→Env→Option R
def iter (live:List Nat) (body:Env→KE R→Option R) (K:KE R):Nat→Env→Option R
 | 0,_=>none
 | m+1,env=>body env fun e env=>match e with
   | .normal=>iter live body K m (aj live env)
   | .exit id=>K (.exit id) env
   | .ret=>K .ret env
def mG (y:Env→Option R) (K:KE R):KE R:=fun e env=>match e with
 | .normal=>y env
 | .exit id=>K (.exit id) env
 | .ret=>K .ret env
def lv (id:Nat) (K:KE R):KE R:=fun e env=>match e with
 | .normal=>K .normal env
 | .exit j=>match fq j id with | .isTrue _=>K .normal env | .isFalse _=>K (.exit j) env
 | .ret=>K .ret env
def exec (cl:az) (N:Nat):AC→Env→KE R→Option R
 | .skip,env,K=>K .normal env
 | .aa live l,env,K=>ops cl l (aj live env) (K .normal)
 | .draw live l,env,K=>ir cl l (aj live env) (K .normal)
 | .seq a b,env,K=>exec cl N a env (mG (fun env=>exec cl N b env K) K)
 | .cond c x y,env,K=>(mY (av env c)).bind fun q=>ad q (exec cl N x env K) (exec cl N y env K)
 | .block id b,env,K=>exec cl N b env (lv id K)
 | .loop live b,env,K=>iter live (fun env K=>exec cl N b env K) K N (aj live env)
 | .out live b,env,K=>exec cl N b env (fun e env=>K e (aj live env))
 | .exit id,env,K=>K (.exit id) env
 | .ret,env,K=>K .ret env
inductive RV where
 | t (k:Nat)
 | cell (k:Nat) (T:Ty)
 | p (k:Nat)
structure FD where
 nargs:Nat
 body:AC
 res:List RV
 lend:Bool:=false
def CS (env:Env):RV→Option (E×List Nat)
 | .t k=>match look env k with
   | .v T x=>some (.v T x,[])
   | .own wr e T o xs=>if o.pure then some (.own wr e T o xs,[k]) else none
   | .ref s p=>(bc env s p).bind fun h=>if h.o.pure then some (.own h.wr h.e h.T h.o h.xs,[s]) else none
   | _=>none
 | .cell k T=>match look env k with
   | .loc T' o x=>if o.whole then (bh T ⟨T',x⟩).bind fun y=>some (.v T y,if o.pure then [] else [k]) else none
   | _=>none
 | .p k=>match look env k with
   | .v T x=>some (.v T x,[])
   | .own _ _ T o xs=>if o.pure then some (.v (.sl T) xs,[k]) else none
   | .ref s p=>(bc env s p).bind fun h=>if h.o.pure then some (.v (.sl h.T) h.xs,[s]) else none
   | _=>none
def tw (env:Env):List RV→Option (List E×List Nat)
 | []=>some ([],[])
 | r::rs=>(CS env r).bind fun x=>(tw env rs).bind fun y=>some (x.1::y.1,x.2++y.2)
def distinct:List Nat→Bool
 | []=>true
 | x::r=>!r.any (· ==x)&&distinct r
def E.back:E→Bool
 | .v T _=>eu T
 | .own _ _ T o _=>eu T&&o.pure
 | _=>false
def mE (env:Env) (res:List RV) (ks:List Nat):Option (List E):=(tw env res).bind fun q=>match distinct (ks++q.2)&&q.1.all E.back with | true=>some q.1 | false=>none
def ag (fd:FD):KE (List E):=fun e env=>match e with
 | .exit _=>none
 | _=>match fd.lend with
   | false=>mE env fd.res []
   | true=>match look env 0 with
     | .loc T o x=>(match eu T with | true=>(mE env fd.res [0]).bind fun l=>some (.loc T o x::l) | false=>none)
     | _=>none
def params:Nat→List E→Env
 | _,[]=> []
 | k,e::r=>(k,e)::params (k+1) r
abbrev Table:=FuncId→Option FD
abbrev mP:=FuncId→Option (List E→Option (List E))
def gz:List E→Bool
 | .bF::_=>true
 | _=>false
def ky:List E→Bool
 | .loc _ _ _::_=>true
 | _=>false
def bz (tb:Table) (pr:mP) (N:Nat):Nat→az
 | 0=>.of fun _ _=>none
 | D+1=>.of fun f args=>match pr f with
   | some p=>p args
   | none=>match gz args with
     | true=>none
     | false=>match tb f with
       | some fd=>match fq args.length fd.nargs with
         | .isTrue _=>(match fd.lend==ky args with
           | true=>exec (bz tb pr N D) N fd.body (params 0 args) (ag fd)
           | false=>none)
         | .isFalse _=>none
       | none=>none
def recC (n:FuncId) (fd:FD) (N:Nat) (base:az):Nat→az
 | 0=>base
 | m+1=>.of fun f es=>match fq f n with
   | .isTrue _=>match gz es with
     | true=>none
     | false=>match fq es.length fd.nargs with
       | .isTrue _=>(match fd.lend==ky es with
         | true=>exec (recC n fd N base m) N fd.body (params 0 es) (ag fd)
         | false=>none)
       | .isFalse _=>none
   | .isFalse _=>base.run f es
end Go.Fw
/- A step, apart from what follows it. -/
namespace Go.Fw
open Go Go.RowKit
theorem Xd {α β:Type} (x:Option α) (f g:α→Option β) (h:∀ y,f y=g y):x.bind f=x.bind g:=by cases x<;>simp [h]
set_option maxHeartbeats 1000000
theorem K5 (cl:az) (i:AI) (env:Env) {R:Type} (K:cN R):step cl i env K=(step cl i env (some:cN Env)).bind K:=by
 obtain ⟨d,op,g⟩:=i
 unfold step
 cases op<;>simp only [nG,ar,az.eqn]
 case pick=>congr 1; funext q; cases q<;>rfl
 case ea=>
  split
  ·rename_i s pos _; cases decide (pos < s.length)<;>rfl
  ·rfl
 all_goals first | rfl | skip
 all_goals repeat' first | rfl | (refine Xd _ _ _ fun _=>?_) | split | (rw [nG])
 all_goals first | rfl | (simp_all [nG]; done) | skip
end Go.Fw
/- An operation only asks on: the count of what was asked never falls. -/
namespace Go.Fw
open Go Go.RowKit
theorem arA {p:Program} {w w':World} {at_:Addr} {u:TypeId} {k:Addr} {v:Value} {atomic:Bool} {l:List Addr} (h:w.viewStore p at_ u k v atomic=.ok (w',l)):w'.drawn=w.drawn:=by
 unfold World.viewStore at h
 simp only [bind,Except.bind,pure,Except.pure,throw,throwThe,MonadExceptOf.throw] at h
 repeat' (first | (cases h; rfl) | contradiction | split at h)
theorem XC {p:Program} {w w':World} {a:Addr} {v:Value} {atomic:Bool} {l:List Addr} (h:w.farStore p a v atomic=.ok (w',l)):w'.drawn=w.drawn:=by
 unfold World.farStore at h
 split at h
 ·split at h
  ·rename_i r hr
   cases h
   exact arA hr
  ·cases h
 ·cases h
theorem DC {α:Type}:∀ (x:Ask α) (w:World),w.drawn≤(w.ask x).2.drawn
 | .done _,_=>cF _
 | .ask what range k,w=>by
   simp only [World.ask]
   split
   ·exact DC (k 0) w
   ·exact ey (Nat.le_succ _) (DC (k _) {w with drawn:=w.drawn+1})
theorem alb (w:World) (c:Sys):w.drawn≤(w.sys c).2.drawn:=by
 unfold World.sys
 have h:=DC (Kernel.perform c w.os) w
 split
 ·exact cF _
 ·rename_i h1
  rw [h1] at h
  exact h
theorem iB {α:Type} {P:Program}:∀ (s:Sem α) (w:World) {v:α} {w':World},s.run P w=.ok v w'→w.drawn≤w'.drawn
 | .pure a,w,_,_,h=>by simp only [Sem.run] at h; cases h; exact cF _
 | .load m a k,w,_,_,h=>by
   simp only [Sem.run] at h
   split at h
   ·exact iB (k _) w h
   ·split at h
    ·exact iB (k _) w h
    ·cases h
 | .store m a v k,w,v0,w',h=>by
   have key:∀ r,(r=match w.cell? a with
     | some _ => if w.frozen? a then Result.halt (.unsupported (.unsafePointer "a write to bytes that a string shares")) w else k.run P (w.setCell a v)
     | none=>match w.farStore P a v (m==Mode.atomic) with
       | .ok (w,_)=>k.run P w
       | .error h=>.halt h w)→r=.ok v0 w'→w.drawn≤w'.drawn:=by
    intro r hr h
    rw [hr] at h
    split at h
    ·split at h
     ·cases h
     ·exact ey (Nat.le_of_eq (by rfl)) (iB k (w.setCell a v) h)
    ·split at h
     ·rename_i hf
      rw [←XC hf]
      exact iB k _ h
     ·cases h
   cases v<;>simp only [Sem.run] at h<;>first | contradiction | exact key _ rfl h
 | .new o k,w,_,_,h=>by simp only [Sem.run] at h; exact iB (k _) {w with heap:=w.heap.push o} h
 | .shape r k,w,_,_,h=>by simp only [Sem.run] at h; exact iB (k _) w h
 | .freeze a n k,w,_,_,h=>by
   simp only [Sem.run] at h
   refine ey ?_ (iB k _ h)
   unfold World.freeze
   split<;>exact cF _
 | .frozen a k,w,_,_,h=>by simp only [Sem.run] at h; exact iB (k _) w h
 | .getObj r k,w,_,_,h=>by
   simp only [Sem.run] at h
   split at h
   ·cases h
   ·exact iB (k _) w h
   ·cases h
 | .setObj r o k,w,_,_,h=>by
   simp only [Sem.run] at h
   split at h
   ·cases h
   ·exact iB k {w with heap:=w.heap.setIfInBounds r o} h
   ·cases h
 | .choose q k,w,_,_,h=>by
   simp only [Sem.run] at h
   split at h
   ·exact iB (k 0) w h
   ·exact ey (Nat.le_succ _) (iB (k _) {w with drawn:=w.drawn+1} h)
 | .sys c k,w,_,_,h=>by simp only [Sem.run] at h; exact ey (alb w c) (iB (k _) _ h)
 | .program k,w,_,_,h=>by simp only [Sem.run] at h; exact iB (k _) w h
 | .mark _ k,w,_,_,h=>by simp only [Sem.run] at h; exact iB k w h
 | .halt h,w,_,_,h'=>by simp only [Sem.run] at h'; cases h'
end Go.Fw
/- Soundness: an operation whose order is open does what 'step' does. -/
namespace Go.Fw
open Go Go.RowKit
theorem Rd.run_bind {α β:Type} (a:Rd α) (f:α→Rd β) (L:Nat→E):(a.bind f).run L=(a.run L).bind fun x=>(f x).run L:=rfl
theorem Rd.kY {α:Type} (x:α) (L:Nat→E):(Rd.ok x).run L=some x:=rfl
theorem Rd.aY {α:Type} (L:Nat→E):(Rd.no:Rd α).run L=none:=rfl
theorem Rd.ee {α:Type} (x:Option α) (L:Nat→E):(Rd.of x).run L=x:=rfl
theorem Rd.run_get (k:Nat) (L:Nat→E):(Rd.get k).run L=Rd.kF (L k):=rfl
theorem Rd.c9 {α:Type} {p:Prop} [Decidable p] (a b:Rd α) (L:Nat→E):(if p then a else b).run L=if p then a.run L else b.run L:=by split<;>rfl
theorem Rd.run_ite {α:Type} {p:Prop} [Decidable p] (a b:Rd α) (L:Nat→E):(Rd.ite p a b).run L=if p then a.run L else b.run L:=rfl
theorem Rd.ajL {α:Type} (q:Bool) (a b:Rd α) (L:Nat→E):(Rd.br q a b).run L=ad q (a.run L) (b.run L):=rfl
theorem Rd.yE (cl:az) (f:FuncId) (es:List E) (L:Nat→E):(Rd.call cl f es).run L=cl f es:=rfl
theorem asq {e f:E}:Rd.kF e=some f↔e=f∧e≠.dead:=by
 cases e<;>simp [Rd.kF]
theorem c8 {β:Type} {e:E} {f:E→Option β} {y:β}:(Rd.kF e).bind f=some y→f e=some y:=by
 cases e<;>simp [Rd.kF]
section
variable {cl:az} {env:Env} {R:Type}
theorem mw (x:Od):(kA x).run (look env)=kz (av env x):=by
 unfold kA; rw [Rd.run_bind,dV]; cases av env x<;>rfl
theorem Xh (x:Od):(DG x).run (look env)=mY (av env x):=by
 unfold DG; rw [Rd.run_bind,dV]; cases av env x<;>rfl
theorem K7 (x:Od):(yN x).run (look env)=mJ (av env x):=by
 unfold yN; rw [Rd.run_bind,dV]; cases av env x<;>rfl
theorem yS (x:Od):(qO x).run (look env)=yR (av env x):=by
 unfold qO; rw [Rd.run_bind,dV]; cases av env x<;>rfl
theorem Cy {e:E} {q:IntKind×Int} (h:kz e=some q):e=.v (.int q.1) q.2:=by
 unfold kz at h
 split at h
 ·cases h; rfl
 ·simp at h
theorem oJ (x:Option Od):(mC x).run (look env)=mB env x:=by
 cases x with
 | none=>rfl
 | some x=>unfold mC mB; rw [Rd.run_bind,mw]; rfl
theorem ad2 {x:Od} {e:E} (h:(KF x).run (look env)=some e):av env x=e∧e.oA=true:=by
 unfold KF at h
 rw [Rd.run_bind,dV] at h
 have h:=c8 h
 simp only [Rd.c9,Rd.kY,Rd.aY] at h
 split at h
 ·rename_i hl; cases h; exact ⟨rfl,hl⟩
 ·simp at h
theorem QI {x:Od} {e:E} (h:(uB x).run (look env)=some e):fF x (av env x)=e∧∀ es,av env x≠.cJ es:=by
 unfold uB at h
 rw [Rd.run_bind,dV] at h
 have h:=c8 h
 cases he:av env x<;>rw [he] at h<;>simp only [QH] at h<;>first | (exfalso; simp [Rd.aY] at h; done) | skip
 all_goals first
  | (simp only [Rd.kY,aw] at h; subst h; exact ⟨rfl,by simp⟩)
  | (cases x<;>simp only [Rd.kY,Rd.aY,aw] at h<;>first | (subst h; exact ⟨rfl,by simp⟩) | (exfalso; simp at h; done))
theorem Wv {e:E} {y:TV} (h:yR e=some y):e=.v y.1 y.2:=by
 cases e<;>simp [yR] at h
 subst h; rfl
theorem yB {x:Od} {y:TV} (h:yR (av env x)=some y):eb env x=some (env,y):=by
 have:=Wv h
 simp only [eb,this,c7,ar,fG]
theorem ag2 {x:Od} {q:(Nat×Path)×E} (h:(KW x).run (look env)=some q):eD env x=some q.1∧look env q.1.1=q.2:=by
 unfold KW at h
 rw [Rd.run_bind,dV] at h
 have h:=c8 h
 split at h
 ·rename_i s p he
  rw [Rd.run_bind,Rd.run_get] at h
  have h:=c8 h
  simp only [Rd.kY,aw] at h
  subst h
  exact ⟨by unfold eD; rw [he],rfl⟩
 ·rename_i T o y he
  split at h
  ·rename_i k
   simp only [Rd.kY,aw] at h
   subst h
   exact ⟨by unfold eD; rw [he]; rfl,rfl⟩
  ·simp [Rd.aY] at h
 ·simp [Rd.aY] at h
theorem ri:∀ (l:List Od),(mX cl l).run (look env)=fR cl env l
 | []=>rfl
 | a::r=>by
   unfold mX fR
   rw [Rd.run_bind,Rd.run_bind,dV]
   have e2:∀ x:E,(((mX cl r).bind fun y=>Rd.ok (x::y)).run (look env))=(fR cl env r).bind fun y=>some (x::y):=by
    intro x; rw [Rd.run_bind,ri r]; rfl
   simp only [e2]
   congr 1
   cases he:av env a<;>simp only [Rd.kF,ar,Option.bind_none,LN]
   case dead=>rfl
   case loc T o x=>rw [Rd.c9]; rfl
   case cS f A C caps=>exact QB cl env f A C caps
   all_goals exact LP env _
theorem Cw:∀ (l:List Od),(sS l).run (look env)=some ()→jo env l=env
 | [],_=>rfl
 | a::r,h=>by
   unfold sS at h
   rw [Rd.run_bind,dV] at h
   have h:=c8 h
   unfold jo
   split at h
   ·rename_i hn
    rw [hn]
    exact Cw r h
   ·rename_i s hn
    rw [Rd.run_bind,Rd.run_get] at h
    have h:=c8 h
    split at h
    ·rename_i hs
     have:freeze env s=env:=by
      unfold freeze
      cases hl:look env s<;>rw [hl] at hs<;>simp only [Wf] at hs<;>first | contradiction | skip
      simp only [hs]
     simp only [hn,this]
     exact Cw r h
    ·simp [Rd.aY] at h
theorem VB {args:List Od} {res:List E} {e:E} (h:(CR args res).run (look env)=some e):e=eH res∧(if res.all E.plain then env else jo env args)=env:=by
 unfold CR at h
 first | rw [Rd.run_ite] at h | rw [Rd.c9] at h
 split at h
 ·rename_i hp; cases h; exact ⟨rfl,if_pos hp⟩
 ·rename_i hp
  rw [Rd.run_bind] at h
  obtain ⟨_,hy,h⟩:=aq.1 h
  cases h
  exact ⟨rfl,by rw [if_neg hp]; exact Cw args hy⟩
theorem Qu:∀ (l:List Od) (cs:List E),(uw l).run (look env)=some cs→(l.all fun a=>(av env a).cap)=true∧cs=l.map fun a=>fF a (av env a)
 | [],cs,h=>by simp only [uw,Rd.kY,aw] at h; subst h; exact ⟨rfl,rfl⟩
 | a::r,cs,h=>by
   unfold uw at h
   rw [Rd.run_bind,dV] at h
   have h:=c8 h
   first | rw [Rd.run_ite] at h | rw [Rd.c9] at h
   split at h
   ·rename_i hc
    rw [Rd.run_bind] at h
    obtain ⟨y,hy,h⟩:=aq.1 h
    obtain ⟨h1,rfl⟩:=Qu r y hy
    simp only [Rd.kY,aw] at h
    subst h
    exact ⟨by simp only [List.all_cons,hc,h1,Bool.and_true],rfl⟩
   ·simp [Rd.aY] at h
theorem DM:∀ (T:Ty) (x:den T) (l:List (Path×Od)) (y:den T),(rq T x l).run (look env)=some y→ik T x env l=some (env,y)
 | T,x,[],y,h=>by simp only [rq,Rd.kY,aw] at h; subst h; simp [ik]
 | T,x,(p,a)::r,y,h=>by
   unfold rq at h
   rw [Rd.run_bind,yS] at h
   obtain ⟨q,hq,h⟩:=aq.1 h
   rw [Rd.run_bind,Rd.ee] at h
   obtain ⟨z,hz,h⟩:=aq.1 h
   unfold ik
   rw [yB hq]
   simp only [ar,hz]
   exact DM T z r y h
theorem LY (T:Ty):∀ (l:List Od) (y:List (den T)),(ug T l).run (look env)=some y→nO T env l=some (env,y)
 | [],y,h=>by simp only [ug,Rd.kY,aw] at h; subst h; simp [nO]
 | a::r,y,h=>by
   unfold ug at h
   rw [Rd.run_bind,yS] at h
   obtain ⟨q,hq,h⟩:=aq.1 h
   rw [Rd.run_bind,Rd.ee] at h
   obtain ⟨z,hz,h⟩:=aq.1 h
   rw [Rd.run_bind] at h
   obtain ⟨u,hu,h⟩:=aq.1 h
   simp only [Rd.kY,aw] at h
   subst h
   unfold nO
   rw [yB hq]
   simp only [ar,hz]
   rw [LY T r u hu]
   rfl
theorem UF {x:Od} {e:E} (h:e.oA=true):fF x e=e:=by
 cases e<;>first | rfl | (exfalso; simp [E.oA] at h; done)
theorem UG {T:Ty} {a:Od} {d:Option Nat} {g:Option (Nat×Bool)} {s:Nat} {p:Path} {e:E} {K:cN R} (h0:eD env a=some (s,p)) (h:(CE T s p (look env s)).run (look env)=some e):step cl ⟨d,.load T a,g⟩ env K=K (aL env d e):=by
 have h1:step cl ⟨d,.load T a,g⟩ env K=(match eD env a with
   | some (s,p)=>match look env s with
     | .loc T0 o x=>match bW o p with
       | .own .. =>match aH T0 p x with
         | some ⟨.sl T',_⟩=>if T=.sl T' then K (aL env d (.ref s p)) else none
         | _=>none
       | .mp=>match aH T0 p x with
         | some ⟨.map K' V',_⟩=>if T=.map K' V' then K (aL env d (.ref s p)) else none
         | _=>none
       | b=>if b.whole then (aH T0 p x).bind fun z=>(bh T z).bind fun y=>
          K (aL (if b.pure then env else freeze env s) d (.v T y)) else none
     | _=>none
   | none=>none):=by
  unfold eD at h0
  cases he:av env a<;>rw [he] at h0<;>first | (exfalso; simp at h0; done) | (simp only [step,he]; done) | (simp only [step,he]; rfl)
 rw [h1,h0]
 simp only
 cases hl:look env s<;>rw [hl] at h<;>simp only [CE,Rd.aY] at h<;>first | (exfalso; simp at h; done) | skip
 rename_i T0 o x
 simp only
 cases hb:bW o p<;>rw [hb] at h<;>simp only at h ⊢
 case own wr e' o'=>
  split at h
  ·rename_i T' xs hg
   rw [Rd.c9] at h
   split at h
   ·rename_i h3; cases h; first | (rw [hg]; simp only; rw [if_pos h3]) | rw [if_pos h3]
   ·simp [Rd.aY] at h
  ·simp [Rd.aY] at h
 case mp=>
  split at h
  ·rename_i K' V' xs hg
   rw [Rd.c9] at h
   split at h
   ·rename_i h3; cases h; first | (rw [hg]; simp only; rw [if_pos h3]) | rw [if_pos h3]
   ·simp [Rd.aY] at h
  ·simp [Rd.aY] at h
 all_goals
  rw [Rd.c9] at h
  split at h
  ·rename_i hw
   simp only [au] at hw
   rw [Rd.run_bind,Rd.ee] at h
   obtain ⟨y,hy,h⟩:=aq.1 h
   obtain ⟨z,hz,hy⟩:=aq.1 hy
   cases h
   simp only [hw.1,hw.2,if_true,hz,hy,ar]
  ·simp [Rd.aY] at h
section
variable {i:AI} {e:E} {K:cN R}
theorem asp {d:Option Nat} {x:Od} (h1:av env x=e) (h2:e.oA=true):oD env d x=aL env d e:=by
 unfold oD
 rw [h1]
 have h3:=UF (x:=x) h2
 cases e<;>simp_all [E.oA]
theorem W8 {d:Nat} {x:Od} (h1:av env x=e) (h2:e.oA=true):assign env d x=put env d e:=by
 unfold assign
 rw [h1]
 have h3:=UF (x:=x) h2
 cases e<;>simp_all [E.oA]
theorem arz (h:(tI cl i.dst i.op).run (look env)=some e):step cl i env K=K (aL env i.dst e):=by
 obtain ⟨d,op,g⟩:=i
 cases op<;>simp only [tI] at h ⊢
 case mv x=>
  obtain ⟨h1,h2⟩:=QI h
  have:oD env d x=aL env d e:=by
   unfold oD
   split
   ·rename_i es he; exact absurd he (h2 es)
   ·rw [h1]
  simp only [step,this]
 case jE x=>
  rw [Rd.run_bind,dV] at h
  have h:=c8 h
  simp only [step]
  split at h
  ·rename_i he; cases h; rw [he]; rfl
  ·rename_i he; cases h; rw [he]; rfl
  ·rename_i he; cases h; rw [he]; rfl
  ·rename_i he
   split at h
   ·cases h; rw [he]; rfl
   ·simp [Rd.aY] at h
  ·simp [Rd.aY] at h
 case ab x=>
  first | rw [Rd.run_ite] at h | rw [Rd.c9] at h
  split at h
  ·obtain ⟨h1,h2⟩:=ad2 h
   cases d with
   | none=>simp at *
   | some d=>simp only [step,W8 h1 h2]; rfl
  ·simp [Rd.aY] at h
 case pick c a b=>
  rw [Rd.run_bind,Xh] at h
  obtain ⟨q,hq,h⟩:=aq.1 h
  simp only [step,hq,ar]
  rw [Rd.ajL] at h
  cases q<;>(simp only [ad] at h ⊢; obtain ⟨h1,h2⟩:=QI h; rw [h1])
 case alloc T o=>cases h; rfl
 case box T x=>
  rw [Rd.run_bind,yS] at h
  obtain ⟨q,hq,h⟩:=aq.1 h
  rw [Rd.run_bind,Rd.ee] at h
  obtain ⟨y,hy,h⟩:=aq.1 h
  cases h
  simp only [step,yB hq,ar,hy]
 case build T parts=>
  rw [Rd.run_bind] at h
  obtain ⟨y,hy,h⟩:=aq.1 h
  cases h
  simp only [step,DM _ _ _ _ hy,ar]
 case kh T o parts=>
  rw [Rd.run_bind] at h
  obtain ⟨y,hy,h⟩:=aq.1 h
  cases h
  simp only [step,DM _ _ _ _ hy,ar]
 case buildSlice ed T parts=>
  rw [Rd.run_bind] at h
  obtain ⟨y,hy,h⟩:=aq.1 h
  cases h
  simp only [step,LY _ _ _ hy,ar]
 case load T a=>
  rw [Rd.run_bind,dV] at h
  have h:=c8 h
  split at h
  ·rename_i T' x he
   rw [Rd.run_bind,Rd.ee] at h
   obtain ⟨y,hy,h⟩:=aq.1 h
   cases h
   simp only [step,he,hy,ar]
  ·rename_i s p j q he
   rw [Rd.run_bind,sR] at h
   obtain ⟨hh,hhe,h⟩:=aq.1 h
   simp only [step,he,hhe,ar]
   simp only [UH,Rd.run_ite] at h
   split at h
   ·rename_i h1
    rw [Rd.c9] at h
    split at h
    ·rename_i h2
     rw [Rd.run_bind,Rd.ee] at h
     obtain ⟨y,hy,h⟩:=aq.1 h
     obtain ⟨z,hz,hy⟩:=aq.1 hy
     cases h
     simp only [h1,h2,hz,hy,ar,if_true]
    ·simp [Rd.aY] at h
   ·simp [Rd.aY] at h
  ·rename_i s p he
   rw [Rd.run_bind,Rd.run_get] at h
   exact UG (by simp only [eD,he]) (c8 h)
  ·rename_i T0 o x he
   split at h
   ·rename_i k _
    have hl:look env k=.loc T0 o x:=he
    rw [he,←hl] at h
    exact UG (by simp only [eD,he,Od.slot,o4]) h
   ·simp [Rd.aY] at h
  ·simp [Rd.aY] at h
 case bin op x y=>
  rw [Rd.run_bind,dV] at h
  have h:=c8 h
  rw [Rd.run_bind,dV] at h
  have h:=c8 h
  unfold LW at h
  split at h
  ·rename_i k m k' n hx hy
   rw [Rd.c9] at h
   split at h
   ·rename_i hk
    simp only [step,hx,hy,if_pos hk]
    cases op
    case quo=>
     simp only [Rd.run_ite] at h ⊢
     split at h
     ·simp [Rd.aY] at h
     ·rename_i h0; cases h; rw [if_neg h0]
    case rem=>
     simp only [Rd.run_ite] at h ⊢
     split at h
     ·simp [Rd.aY] at h
     ·rename_i h0; cases h; rw [if_neg h0]
    all_goals
     simp only at h ⊢
     split at h
     ·rename_i b hb; cases h; first | rfl | (rw [hb])
     ·rename_i hb
      split at h
      ·rename_i r hr
       cases h
       first | (rw [hb]; simp only [hr,ar]; done) | (simp only [hr,ar]; done)
      ·simp [Rd.aY] at h
   ·simp [Rd.aY] at h
  ·rename_i s t hx hy
   simp only [step,hx,hy]
   cases op<;>simp only at h ⊢<;>first | (simp [Rd.aY] at h; done) | (cases h; rfl) | skip
   rw [Rd.run_ite] at h
   split at h
   ·rename_i h0; cases h; rw [if_pos h0]
   ·simp [Rd.aY] at h
  ·simp [Rd.aY] at h
 case nn neg T x y=>
  rw [Rd.run_bind,dV] at h
  have h:=c8 h
  rw [Rd.run_bind,dV] at h
  have h:=c8 h
  rw [Rd.run_bind,Cx] at h
  obtain ⟨s,hs,h⟩:=aq.1 h
  rw [Rd.run_bind,Cx] at h
  obtain ⟨t,ht,h⟩:=aq.1 h
  rw [Rd.run_bind,Rd.ee] at h
  obtain ⟨s',hs',h⟩:=aq.1 h
  rw [Rd.run_bind,Rd.ee] at h
  obtain ⟨t',ht',h⟩:=aq.1 h
  rw [Rd.run_bind,Rd.ee] at h
  obtain ⟨f,hf,h⟩:=aq.1 h
  cases h
  simp only [step,hs,ht,hs',ht',hf,ar]
 case shift l x y=>
  rw [Rd.run_bind,dV] at h
  have h:=c8 h
  rw [Rd.run_bind,dV] at h
  have h:=c8 h
  split at h
  ·rename_i k m k' n hx hy
   rw [Rd.run_ite] at h
   split at h
   ·rename_i hn; cases h; simp only [step,hx,hy,if_pos hn]
   ·simp [Rd.aY] at h
  ·simp [Rd.aY] at h
 case un op x=>
  rw [Rd.run_bind,dV] at h
  have h:=c8 h
  rw [Rd.ee] at h
  unfold Wm at h
  split at h
  ·rename_i hx _; cases h; simp only [step,hx]
  ·rename_i hx _; cases h; simp only [step,hx]
  ·simp at h
 case kM k x=>
  rw [Rd.run_bind,mw] at h
  obtain ⟨q,hq,h⟩:=aq.1 h
  cases h
  simp only [step,hq,ar]
 case fieldAddr S p a=>
  rw [Rd.run_bind,dV] at h
  have h:=c8 h
  split at h
  ·rename_i T x he
   rw [Rd.run_bind,Rd.ee] at h
   obtain ⟨x',hx',h⟩:=aq.1 h
   rw [Rd.run_bind,Rd.ee] at h
   obtain ⟨y,hy,h⟩:=aq.1 h
   cases h
   simp only [step,he,hx',hy,ar]
  ·rename_i s q he
   rw [Rd.run_bind,Rd.run_get] at h
   have h:=c8 h
   rw [Rd.ee] at h
   unfold Rj at h
   split at h
   ·rename_i T0 o x hl
    split at h
    ·rename_i h1; cases h; simp only [step,he,hl,if_pos h1]
    ·simp at h
   ·simp at h
  ·rename_i s q j r he
   rw [Rd.run_bind,sR] at h
   obtain ⟨hh,hhe,h⟩:=aq.1 h
   first | rw [Rd.run_ite] at h | rw [Rd.c9] at h
   split at h
   ·rename_i h1; cases h; simp only [step,he,hhe,ar,if_pos h1]
   ·simp [Rd.aY] at h
  ·rename_i T0 o x he
   first | rw [Rd.run_ite] at h | rw [Rd.c9] at h
   split at h
   ·rename_i h1
    split at h
    ·cases h; simp only [step,he,if_pos h1,Od.slot,ar]
    ·simp [Rd.aY] at h
   ·simp [Rd.aY] at h
  ·simp [Rd.aY] at h
 case indexAddr T x ix=>
  rw [Rd.run_bind,mw] at h
  obtain ⟨q,hq,h⟩:=aq.1 h
  rw [Rd.run_bind,dV] at h
  have h:=c8 h
  split at h
  ·rename_i T' xs he
   rw [Rd.run_bind,Rd.ee] at h
   obtain ⟨y,hy,h⟩:=aq.1 h
   first | rw [Rd.run_ite] at h | rw [Rd.c9] at h
   split at h
   ·rename_i h1; cases h; simp only [step,hq,he,hy,ar,if_pos h1]
   ·simp [Rd.aY] at h
  ·rename_i wr ed T' o xs he
   first | rw [Rd.run_ite] at h | rw [Rd.c9] at h
   split at h
   ·rename_i h0
    split at h
    ·first | rw [Rd.run_ite] at h | rw [Rd.c9] at h
     split at h
     ·rename_i h1; cases h; simp only [step,hq,he,ar,if_pos h1,if_pos h0,Od.slot]
     ·simp [Rd.aY] at h
    ·simp [Rd.aY] at h
   ·simp [Rd.aY] at h
  ·rename_i s p he
   rw [Rd.run_bind,sR] at h
   obtain ⟨hh,hhe,h⟩:=aq.1 h
   first | rw [Rd.run_ite] at h | rw [Rd.c9] at h
   split at h
   ·rename_i h0
    first | rw [Rd.run_ite] at h | rw [Rd.c9] at h
    split at h
    ·rename_i h1; cases h; simp only [step,hq,he,hhe,ar,if_pos h1,if_pos h0]
    ·simp [Rd.aY] at h
   ·simp [Rd.aY] at h
  ·simp [Rd.aY] at h
 case yu n T x ix=>
  rw [Rd.run_bind,mw] at h
  obtain ⟨q,hq,h⟩:=aq.1 h
  rw [Rd.run_bind,dV] at h
  have h:=c8 h
  split at h
  ·rename_i T' xs he
   rw [Rd.run_bind,Rd.ee] at h
   obtain ⟨y,hy,h⟩:=aq.1 h
   first | rw [Rd.run_ite] at h | rw [Rd.c9] at h
   split at h
   ·rename_i h1; cases h; simp only [step,hq,he,hy,ar,if_pos h1]
   ·simp [Rd.aY] at h
  ·rename_i s p he
   rw [Rd.run_bind,Rd.run_get] at h
   have h:=c8 h
   unfold zC at h
   split at h
   ·rename_i T0 o x hl
    rw [Rd.c9] at h
    split at h
    ·rename_i h0
     rw [Rd.run_ite] at h
     split at h
     ·rename_i h1; cases h; simp only [step,hq,he,ar,eD,hl,if_pos h0,if_pos h1]
     ·simp [Rd.aY] at h
    ·simp [Rd.aY] at h
   ·simp [Rd.aY] at h
  ·rename_i T0 o x he
   split at h
   ·rename_i k _ _
    have hl:look env k=.loc T0 o x:=he
    rw [he] at h
    simp only [zC] at h
    rw [Rd.c9] at h
    split at h
    ·rename_i h0
     rw [Rd.run_ite] at h
     split at h
     ·rename_i h1; cases h; simp only [step,hq,he,ar,eD,Od.slot,o4,hl,if_pos h0,if_pos h1]
     ·simp [Rd.aY] at h
    ·simp [Rd.aY] at h
   ·simp [Rd.aY] at h
  ·simp [Rd.aY] at h
 case field S p x=>
  rw [Rd.run_bind,dV] at h
  have h:=c8 h
  rw [Rd.run_bind,Cx] at h
  obtain ⟨s,hs,h⟩:=aq.1 h
  rw [Rd.run_bind,Rd.ee] at h
  obtain ⟨y,hy,h⟩:=aq.1 h
  rw [Rd.run_bind,Rd.ee] at h
  obtain ⟨z,hz,h⟩:=aq.1 h
  cases h
  simp only [step,hs,hy,hz,ar]
 case dX x ix=>
  rw [Rd.run_bind,mw] at h
  obtain ⟨q,hq,h⟩:=aq.1 h
  rw [Rd.run_bind,K7] at h
  obtain ⟨s,hs,h⟩:=aq.1 h
  first | rw [Rd.run_ite] at h | rw [Rd.c9] at h
  split at h
  ·rename_i h1; cases h; simp only [step,hq,hs,ar,if_pos h1]
  ·simp [Rd.aY] at h
 case yr n T x ix=>
  rw [Rd.run_bind,mw] at h
  obtain ⟨q,hq,h⟩:=aq.1 h
  rw [Rd.run_bind,dV] at h
  have h:=c8 h
  split at h
  ·rename_i T' xs he
   rw [Rd.run_bind,Rd.ee] at h
   obtain ⟨y,hy,h⟩:=aq.1 h
   first | rw [Rd.run_ite] at h | rw [Rd.c9] at h
   split at h
   ·rename_i h1; cases h; simp only [step,hq,he,hy,ar,if_pos h1]
   ·simp [Rd.aY] at h
  ·simp [Rd.aY] at h
 case jK x lo hi=>
  rw [Rd.run_bind,oJ] at h
  obtain ⟨l,hl,h⟩:=aq.1 h
  rw [Rd.run_bind,oJ] at h
  obtain ⟨u,hu,h⟩:=aq.1 h
  rw [Rd.run_bind,K7] at h
  obtain ⟨s,hs,h⟩:=aq.1 h
  first | rw [Rd.run_ite] at h | rw [Rd.c9] at h
  split at h
  ·rename_i h1; cases h; simp only [step,hl,hu,hs,ar,if_pos h1]
  ·simp [Rd.aY] at h
 case kG T x lo hi mx=>
  rw [Rd.run_bind,oJ] at h
  obtain ⟨l,hl,h⟩:=aq.1 h
  rw [Rd.run_bind,oJ] at h
  obtain ⟨u,hu,h⟩:=aq.1 h
  rw [Rd.run_bind,oJ] at h
  obtain ⟨m,hm,h⟩:=aq.1 h
  rw [Rd.run_bind,yS] at h
  obtain ⟨y,hy,h⟩:=aq.1 h
  rw [Rd.run_bind,Rd.ee] at h
  obtain ⟨xs,hxs,h⟩:=aq.1 h
  first | rw [Rd.run_ite] at h | rw [Rd.c9] at h
  split at h
  ·rename_i h1; cases h; simp only [step,hl,hu,hm,yB hy,hxs,ar,if_pos h1]
  ·simp [Rd.aY] at h
 case mkSlice ed T lim l c=>
  rw [Rd.run_bind,mw] at h
  obtain ⟨m,hm,h⟩:=aq.1 h
  rw [Rd.run_bind,mw] at h
  obtain ⟨n,hn,h⟩:=aq.1 h
  first | rw [Rd.run_ite] at h | rw [Rd.c9] at h
  split at h
  ·rename_i h1
   first | rw [Rd.run_ite] at h | rw [Rd.c9] at h
   split at h
   ·rename_i h2; cases h
    obtain ⟨m1,m2⟩:=m
    obtain ⟨n1,n2⟩:=n
    simp only at h1 h2
    obtain ⟨rfl,rfl⟩:=h1
    simp only [step,Cy hm,Cy hn,if_pos h2]
   ·simp [Rd.aY] at h
  ·simp [Rd.aY] at h
 case bP x=>
  rw [Rd.run_bind,K7] at h
  obtain ⟨s,hs,h⟩:=aq.1 h
  cases h
  simp only [step,hs,ar]
 case aZ x=>
  rw [Rd.run_bind,dV] at h
  have h:=c8 h
  rw [Rd.run_bind,Cx] at h
  obtain ⟨s,hs,h⟩:=aq.1 h
  simp only [step,hs,ar]
  split at h
  ·cases h; rfl
  ·simp [Rd.aY] at h
 case yx m=>cases h; rfl
 case mm mx x y=>
  rw [Rd.run_bind,mw] at h
  obtain ⟨m,hm,h⟩:=aq.1 h
  rw [Rd.run_bind,mw] at h
  obtain ⟨n,hn,h⟩:=aq.1 h
  first | rw [Rd.run_ite] at h | rw [Rd.c9] at h
  split at h
  ·rename_i h1
   cases h
   simp only [step,Cy hm,Cy hn,if_pos h1]
  ·simp [Rd.aY] at h
 case call f args=>
  rw [Rd.run_bind,ri] at h
  obtain ⟨es,hes,h⟩:=aq.1 h
  rw [Rd.run_bind,Rd.yE] at h
  obtain ⟨res,hres,h⟩:=aq.1 h
  obtain ⟨rfl,h2⟩:=VB h
  simp only [step,az.eqn,hes,hres,ar,h2]
 case nP x args=>
  rw [Rd.run_bind,dV] at h
  have h:=c8 h
  split at h
  ·rename_i A C g' he
   rw [Rd.run_bind,ri] at h
   obtain ⟨es,hes,h⟩:=aq.1 h
   rw [Rd.run_bind,Rd.ee] at h
   obtain ⟨a,ha,h⟩:=aq.1 h
   rw [Rd.run_bind,Rd.ee] at h
   obtain ⟨r,hr,h⟩:=aq.1 h
   first | rw [Rd.run_ite] at h | rw [Rd.c9] at h
   split at h
   ·rename_i h1; cases h; simp only [step,he,hes,ha,hr,ar,if_pos h1]
   ·simp [Rd.aY] at h
  ·rename_i f A C caps he
   rw [Rd.run_bind,ri] at h
   obtain ⟨es,hes,h⟩:=aq.1 h
   rw [Rd.run_bind,DB] at h
   obtain ⟨cs,hcs,h⟩:=aq.1 h
   rw [Rd.run_bind,Rd.yE] at h
   obtain ⟨res,hres,h⟩:=aq.1 h
   first | rw [Rd.run_ite] at h | rw [Rd.c9] at h
   split at h
   ·rename_i h1; cases h; simp only [step,az.eqn,he,hes,hcs,hres,ar,if_pos h1]
   ·simp [Rd.aY] at h
  ·simp [Rd.aY] at h
 case extract k j=>
  rw [Rd.run_bind,Rd.run_get] at h
  have h:=c8 h
  rw [Rd.ee] at h
  unfold Re at h
  split at h
  ·rename_i es hk
   split at h
   ·rename_i T x hj; cases h; simp only [step,hk,hj]
   ·rename_i ed T o xs hj
    split at h
    ·rename_i ho; cases h; simp only [step,hk,hj,ho]; rfl
    ·simp at h
   ·simp at h
  ·simp at h
 case qz f A C caps=>
  rw [Rd.run_bind] at h
  obtain ⟨cs,hcs,h⟩:=aq.1 h
  cases h
  obtain ⟨h1,rfl⟩:=Qu _ _ hcs
  simp only [step,if_pos h1]
 all_goals simp [Rd.aY] at h
end
end
end Go.Fw
/- Soundness, part 1: laws on what memory shows of a value. -/
namespace Go.Fw
open Go Go.RowKit
def blocks (ob:OB):List Nat:=ob.map (·.1)
@[simp] theorem LX:blocks []=[]:=rfl
@[simp] theorem jR (x:Nat×Nat) (l:OB):blocks (x::l)=x.1::blocks l:=rfl
@[simp] theorem eY (a b:OB):blocks (a++b)=blocks a++blocks b:=by simp [blocks]
theorem aK.append {α:Type} {R:α→List Value→OB→Prop}:∀ {xs ys:List α} {v1 v2:List Value} {b1 b2:OB},aK R xs v1 b1→aK R ys v2 b2→aK R (xs++ys) (v1++v2) (b1++b2)
 | [],_,_,_,_,_,h,k=>by obtain ⟨rfl,rfl⟩:=h; exact k
 | x::xs,ys,_,v2,_,b2,h,k=>by
   obtain ⟨u1,u2,c1,c2,rfl,rfl,hr,ht⟩:=h
   exact ⟨u1,u2++v2,c1,c2++b2,by simp,by simp,hr,aK.append ht k⟩
theorem aK.imp {α:Type} {R S:α→List Value→OB→Prop}:∀ {xs:List α} {vs:List Value} {ob:OB},(∀ x v b,(∀ q∈b,q∈ob)→R x v b→S x v b)→aK R xs vs ob→aK S xs vs ob
 | [],_,_,_,h=>h
 | x::xs,_,_,f,h=>by
   obtain ⟨u1,u2,c1,c2,rfl,rfl,hr,ht⟩:=h
   exact ⟨u1,u2,c1,c2,rfl,rfl,f _ _ _ (fun q hq=>gp _ hq) hr,aK.imp (fun x v b hb=>f x v b fun q hq=>iI _ (hb q hq)) ht⟩
theorem aK.length {α:Type} {R:α→List Value→OB→Prop} {n:Nat} (hl:∀ x v b,R x v b→v.length=n):∀ {xs:List α} {vs:List Value} {ob:OB},aK R xs vs ob→vs.length=xs.length * n
 | [],_,_,h=>by obtain ⟨rfl,rfl⟩:=h; simp
 | x::xs,_,_,h=>by
   obtain ⟨u1,u2,c1,c2,rfl,rfl,hr,ht⟩:=h
   rw [cd,hl _ _ _ hr,aK.length hl ht,List.length_cons,Nat.succ_mul]; omega
theorem aK.split {α:Type} {R:α→List Value→OB→Prop} {n:Nat} (hl:∀ x v b,R x v b→v.length=n):∀ {xs:List α} {vs:List Value} {ob:OB} (i:Nat) (d:α),aK R xs vs ob→i < xs.length→
  ∃ v1 v2 v3 b1 b2 b3,vs=v1++v2++v3∧ob=b1++b2++b3∧v1.length=i * n∧R (xs.getD i d) v2 b2∧
    ∀ y u c,R y u c→aK R (xs.set i y) (v1++u++v3) (b1++c++b3)
 | [],_,_,i,_,_,hi=>by simp at hi
 | x::xs,_,_,0,d,h,_=>by
   obtain ⟨u1,u2,c1,c2,rfl,rfl,hr,ht⟩:=h
   exact ⟨[],u1,u2,[],c1,c2,rfl,rfl,by simp,hr,fun y u c hy=>⟨u,u2,c,c2,by simp,by simp,hy,ht⟩⟩
 | x::xs,_,_,i+1,d,h,hi=>by
   obtain ⟨u1,u2,c1,c2,rfl,rfl,hr,ht⟩:=h
   obtain ⟨v1,v2,v3,b1,b2,b3,rfl,rfl,h1,h2,h3⟩:=aK.split hl i d ht (by simpa using hi)
   refine ⟨u1++v1,v2,v3,c1++b1,b2,b3,by simp,by simp,?_,by simpa using h2,?_⟩
   ·rw [cd,h1,hl _ _ _ hr,Nat.succ_mul]; omega
   ·intro y u c hy
    exact ⟨u1,v1++u++v3,c1,b1++c++b3,by simp,by simp,hr,h3 y u c hy⟩
theorem aK.nil {α:Type} {R:α→List Value→OB→Prop}:aK R ([]:List α) [] []:=⟨rfl,rfl⟩
theorem aK.one {α:Type} {R:α→List Value→OB→Prop} {x:α} {v:List Value} {b:OB} (h:R x v b):aK R [x] v b:=⟨v,[],b,[],by simp,by simp,h,rfl,rfl⟩
theorem bR.refl (B:Nat) (w:World):bR B w w:=⟨cF _,fun _ _=>rfl⟩
theorem bR.trans {B:Nat} {a b c:World} (h:bR B a b) (k:bR B b c):bR B a c:=⟨ey h.1 k.1,fun i hi=>(k.2 i hi).trans (h.2 i hi)⟩
theorem Flat.len (P:Program):∀ (T:Ty) {w:World} {G:Nat→Nat→Prop} {B:Nat} {o:ax} {x:den T} {vs:List Value} {ob:OB},Flat P T w G B o x vs ob→vs.length=ay T
 | .int k,_,_,_,_,_,_,_,h=>by unfold Flat at h; rw [h.1]; rfl
 | .bool,_,_,_,_,_,_,_,h=>by unfold Flat at h; rw [h.1]; rfl
 | .str,_,_,_,_,_,_,_,h=>by unfold Flat at h; rw [h.1]; rfl
 | .unit,_,_,_,_,_,_,_,h=>by unfold Flat at h; rw [h.1]; rfl
 | .pair A C,_,_,_,_,_,_,_,h=>by
   unfold Flat at h
   obtain ⟨v1,v2,b1,b2,rfl,rfl,h1,h2⟩:=h
   rw [cd,Flat.len P A h1,Flat.len P C h2]; rfl
 | .arr n T,_,_,_,_,_,_,_,h=>by
   unfold Flat at h
   rw [aK.length (fun x v b hx=>Flat.len P T hx) h.2,h.1]; rfl
 | .sl T,_,_,_,o,_,_,_,h=>by
   cases o<;>unfold Flat at h
   ·obtain ⟨_,A,c,rfl,_⟩:=h; rfl
   ·exact h.1
   ·obtain ⟨v,cells,ob',rfl,_⟩:=h; rfl
   ·obtain ⟨_,A,c,rfl,_⟩:=h; rfl
   ·obtain ⟨_,A,c,rfl,_⟩:=h; rfl
 | .map K V,_,_,_,o,_,_,_,h=>by
   cases o<;>unfold Flat at h
   case mp=>obtain ⟨_,_,b,ents,clk,rfl,_⟩:=h; rfl
   all_goals (obtain ⟨_,r,rfl⟩:=h; rfl)
 | .fn A C,_,_,_,_,_,_,_,h=>by
   unfold Flat at h
   obtain ⟨_,_,f,caps,rfl,_⟩:=h; rfl
theorem eF.imp {α:Type} {R S:α→MapEntry→Prop} (f:∀ x m,R x m→S x m):∀ {xs:List α} {l:List MapEntry},eF R xs l→eF S xs l
 | [],_,h=>h
 | x::xs,_,h=>by
   obtain ⟨m,r,rfl,h1,h2⟩:=h
   exact ⟨m,r,rfl,f x m h1,eF.imp f h2⟩
theorem tx {w:World} {B:Nat} {e:TypeId} {size:Nat} {v:Value} {n:Nat} {cells:List Value} (h:w.ownsRow B e size v n cells):gk w B e size v n cells:=by
 refine ⟨h.1,?_⟩
 rcases h.2 with h | ⟨g,cap,cur,h1,h2,h3,h4,h5,h6,h7⟩
 ·exact .inl h
 ·exact .inr ⟨g,cap,cur,e,(0,0),h1,h2,h3,h4,h5,h6,h7,fun _=>⟨rfl,rfl⟩,.inl rfl⟩
theorem gk.CO {w:World} {B:Nat} {e:TypeId} {size:Nat} {v:Value} {n:Nat} {cells:List Value} (h:gk w B e size v n cells) (he:e≠gU):w.ownsRow B e size v n cells:=by
 refine ⟨h.1,?_⟩
 rcases h.2 with h | ⟨g,cap,cur,e',fz,h1,h2,h3,h4,h5,h6,h7,h8,_⟩
 ·exact .inl h
 ·obtain ⟨rfl,rfl⟩:=h8 he
  exact .inr ⟨g,cap,cur,h1,h2,h3,h4,h5,h6,h7⟩
theorem gk.cells {w:World} {B:Nat} {e:TypeId} {size:Nat} {v:Value} {n:Nat} {xs:List Value} (h:gk w B e size v n xs) {g:Nat} (hg:v.ownBlock=some g):∀ j u,xs[j]?=some u→w.cell? ((⟨g,0,none⟩:Addr).add j)=some u:=by
 intro j u hu
 rcases h.2 with ⟨rfl,_⟩ | ⟨g',cap,cur,e',fz,rfl,_,hgg,_,_,_,htake,_,_⟩
 ·simp [Value.ownBlock] at hg
 ·simp [Value.ownBlock] at hg
  subst hg
  have hadd:(⟨g',0,none⟩:Addr).add j=⟨g',j,none⟩:=by unfold Addr.add; split<;>simp_all
  rw [hadd,cell_of_row w g' j cur e' fz hgg]
  rw [←htake,List.getElem?_take] at hu
  split at hu
  ·simpa using hu
  ·cases hu
theorem ajH {w w':World} {B:Nat} {e:TypeId} {size:Nat} {v:Value} {n:Nat} {cells:List Value} (h:gk w B e size v n cells) (hb:∀ g,v.ownBlock=some g→w'.heap[g]?=w.heap[g]?):gk w' B e size v n cells:=by
 refine ⟨h.1,?_⟩
 rcases h.2 with h | ⟨g,cap,cur,e',fz,rfl,h1,h2,h3⟩
 ·exact .inl h
 ·exact .inr ⟨g,cap,cur,e',fz,rfl,h1,by rw [hb g rfl]; exact h2,h3⟩
theorem jV {v:Value} {lim g:Nat} (h:v.ownBlock=some g):(g,lim)∈bI v lim:=by simp [bI,h]
theorem Flat.mono (P:Program):∀ (T:Ty) {w w':World} {G G':Nat→Nat→Prop} {B:Nat} {o:ax} {x:den T} {vs:List Value} {ob:OB},
  (∀ b i,b < w.heap.size→G b i→G' b i∧w'.cell? ⟨b,i,none⟩=w.cell? ⟨b,i,none⟩)→bR B w w'→(∀ g∈blocks ob,w'.heap[g]?=w.heap[g]?)→
  Flat P T w G B o x vs ob→Flat P T w' G' B o x vs ob
 | .int k,_,_,_,_,_,_,_,_,_,_,_,_,h=>by unfold Flat at h ⊢; exact h
 | .bool,_,_,_,_,_,_,_,_,_,_,_,_,h=>by unfold Flat at h ⊢; exact h
 | .str,_,_,_,_,_,_,_,_,_,_,_,_,h=>by unfold Flat at h ⊢; exact h
 | .unit,_,_,_,_,_,_,_,_,_,_,_,_,h=>by unfold Flat at h ⊢; exact h
 | .pair A C,_,_,_,_,_,_,_,_,_,hG,hL,hO,h=>by
   unfold Flat at h ⊢
   obtain ⟨v1,v2,b1,b2,rfl,rfl,h1,h2⟩:=h
   exact ⟨v1,v2,b1,b2,rfl,rfl,Flat.mono P A hG hL (fun g hg=>hO g (by simp [hg])) h1,Flat.mono P C hG hL (fun g hg=>hO g (by simp [hg])) h2⟩
 | .arr n T,_,_,_,_,_,_,_,_,ob,hG,hL,hO,h=>by
   unfold Flat at h ⊢
   exact ⟨h.1,aK.imp (fun x v b hb hx=>Flat.mono P T hG hL (fun g hg=>hO g (by
    obtain ⟨q,hq,rfl⟩:=df.1 hg
    exact df.2 ⟨q,hb q hq,rfl⟩)) hx) h.2⟩
 | .sl T,w,w',G,G',B,o,xs,vs,ob,hG,hL,hO,h=>by
   have c7:∀ {ob:OB},(ob=[]∧∃ A c,vs=[.slice A xs.length c]∧xs.length≤c∧c≤maxLen∧
    (xs=[]∨∃ b off cells,A=some ⟨b,off,none⟩∧aK (Flat P T w G B .no) xs cells []∧∀ j v,cells[j]?=some v→w.cell? ⟨b,off+j,none⟩=some v∧G b (off+j)))→
    (ob=[]∧∃ A c,vs=[.slice A xs.length c]∧xs.length≤c∧c≤maxLen∧
    (xs=[]∨∃ b off cells,A=some ⟨b,off,none⟩∧aK (Flat P T w' G' B .no) xs cells []∧∀ j v,cells[j]?=some v→w'.cell? ⟨b,off+j,none⟩=some v∧G' b (off+j))):=by
    rintro ob ⟨h0,A,c,h1,h2,h3,h4⟩
    refine ⟨h0,A,c,h1,h2,h3,?_⟩
    rcases h4 with h4 | ⟨b,off,cells,h5,h6,h7⟩
    ·exact .inl h4
    ·refine .inr ⟨b,off,cells,h5,aK.imp (fun x v b' hb hx=>Flat.mono P T hG hL (fun g hg=>?_) hx) h6,fun j v hj=>?_⟩
     ·obtain ⟨q,hq,rfl⟩:=df.1 hg
      exact absurd (hb q hq) (by simp)
     ·have hc:=h7 j v hj
      have hlt:b < w.heap.size:=World.block_lt_of_cell? w _ hc.1
      have hg:=hG b (off+j) hlt hc.2
      exact ⟨hg.2.trans hc.1,hg.1⟩
   cases o with
   | no=>unfold Flat at h ⊢; exact c7 h
   | hole=>unfold Flat at h ⊢; exact h
   | pair a b=>unfold Flat at h ⊢; exact c7 h
   | mp=>unfold Flat at h ⊢; exact c7 h
   | own wr e o=>
     unfold Flat at h ⊢
     obtain ⟨v,cells,ob',h1,h2,h3,rfl⟩:=h
     refine ⟨v,cells,ob',h1,ajH h2 (fun g hg=>hO g ?_),aK.imp (fun x v b hb hx=>Flat.mono P T hG hL (fun g hg=>hO g ?_) hx) h3,rfl⟩
     ·rw [eY]; exact gp _ (df.2 ⟨_,jV hg,rfl⟩)
     ·obtain ⟨q,hq,rfl⟩:=df.1 hg
      rw [eY]; exact iI _ (df.2 ⟨q,hb q hq,rfl⟩)
 | .map K V,w,w',G,G',B,o,xs,vs,ob,hG,hL,hO,h=>by
   cases o with
   | mp=>
     unfold Flat at h ⊢
     obtain ⟨h1,h2,b,ents,clk,h3,h4,h5,rfl,h6⟩:=h
     refine ⟨h1,h2,b,ents,clk,h3,h4,by rw [hO b (by simp [blocks])]; exact h5,rfl,eF.imp (fun x m=>?_) h6⟩
     rintro ⟨ks,us,k1,k2,k3⟩
     exact ⟨ks,us,Flat.mono P K hG hL (by simp [blocks]) k1,Flat.mono P V hG hL (by simp [blocks]) k2,k3⟩
   | no | hole | pair | own=>unfold Flat at h ⊢; exact h
 | .fn A C,w,w',G,G',B,_,_,_,_,hG,hL,hO,h=>by
   unfold Flat at h ⊢
   obtain ⟨h0,hs,f,caps,h1,h2⟩:=h
   exact ⟨h0,hs,f,caps,h1,fun w'' G'' x vals hl=>h2 w'' G'' x vals (hL.trans hl)⟩
theorem ax.tu {o:ax} (h:o.pure=true):o.l.pure=true:=by cases o<;>simp_all [ax.pure,ax.l]
theorem ax.tv {o:ax} (h:o.pure=true):o.r.pure=true:=by cases o<;>simp_all [ax.pure,ax.r]
theorem Flat.pure (P:Program):∀ (T:Ty) {w:World} {G:Nat→Nat→Prop} {B:Nat} {o o':ax} {x:den T} {vs:List Value} {ob:OB},o.pure=true→o'.pure=true→Flat P T w G B o x vs ob→ob=[]∧Flat P T w G B o' x vs []
 | .int k,_,_,_,_,_,_,_,_,_,_,h=>by unfold Flat at h ⊢; exact ⟨h.2.2,h.1,h.2.1,rfl⟩
 | .bool,_,_,_,_,_,_,_,_,_,_,h=>by unfold Flat at h ⊢; exact ⟨h.2,h.1,rfl⟩
 | .str,_,_,_,_,_,_,_,_,_,_,h=>by unfold Flat at h ⊢; exact ⟨h.2.2,h.1,h.2.1,rfl⟩
 | .unit,_,_,_,_,_,_,_,_,_,_,h=>by unfold Flat at h ⊢; exact ⟨h.2,h.1,rfl⟩
 | .pair A C,_,_,_,_,_,_,_,_,ho,ho',h=>by
   unfold Flat at h ⊢
   obtain ⟨v1,v2,b1,b2,rfl,rfl,h1,h2⟩:=h
   obtain ⟨e1,k1⟩:=Flat.pure P A (ax.tu ho) (ax.tu ho') h1
   obtain ⟨e2,k2⟩:=Flat.pure P C (ax.tv ho) (ax.tv ho') h2
   exact ⟨by rw [e1,e2]; rfl,v1,v2,[],[],rfl,rfl,k1,k2⟩
 | .arr n T,w,G,B,_,_,_,_,_,ho,_,h=>by
   unfold Flat at h ⊢
   have key:∀ {xs:List (den T)} {vs:List Value} {ob:OB},aK (Flat P T w G B .no) xs vs ob→ob=[]∧aK (Flat P T w G B .no) xs vs []:=by
    intro xs
    induction xs with
    | nil=>rintro vs ob ⟨rfl,rfl⟩; exact ⟨rfl,rfl,rfl⟩
    | cons x xs ih=>
      rintro vs ob ⟨u1,u2,c1,c2,rfl,rfl,hr,ht⟩
      obtain ⟨rfl,hr⟩:=Flat.pure P T (o:=.no) (o':=.no) rfl rfl hr
      obtain ⟨rfl,ht⟩:=ih ht
      exact ⟨rfl,u1,u2,[],[],rfl,rfl,hr,ht⟩
   obtain ⟨h1,h2⟩:=h
   obtain ⟨e,h2⟩:=key h2
   exact ⟨e,h1,h2⟩
 | .sl T,_,_,_,o,o',_,_,_,ho,ho',h=>by
   cases o<;>cases o'<;>simp only [ax.pure,ew] at ho ho'<;>unfold Flat at h ⊢<;>exact ⟨h.1,rfl,h.2⟩
 | .map K V,_,_,_,o,o',_,_,_,ho,ho',h=>by
   cases o<;>cases o'<;>simp only [ax.pure,ew] at ho ho'<;>unfold Flat at h ⊢<;>exact ⟨h.1,rfl,h.2⟩
 | .fn A C,_,_,_,_,_,_,_,_,_,_,h=>by unfold Flat at h ⊢; exact ⟨h.1,rfl,h.2⟩
theorem aK.pure (P:Program) {T:Ty} {w:World} {G:Nat→Nat→Prop} {B:Nat} {o o':ax} (ho:o.pure=true) (ho':o'.pure=true):∀ {xs:List (den T)} {vs:List Value} {ob:OB},aK (Flat P T w G B o) xs vs ob→ob=[]∧aK (Flat P T w G B o') xs vs []
 | [],_,_,h=>by obtain ⟨rfl,rfl⟩:=h; exact ⟨rfl,rfl,rfl⟩
 | x::xs,_,_,h=>by
   obtain ⟨u1,u2,c1,c2,rfl,rfl,hr,ht⟩:=h
   obtain ⟨e1,k1⟩:=Flat.pure P T ho ho' hr
   obtain ⟨e2,k2⟩:=aK.pure P ho ho' ht
   exact ⟨by rw [e1,e2]; rfl,u1,u2,[],[],rfl,rfl,k1,k2⟩
theorem Flat.one (P:Program):∀ (T:Ty) {w:World} {G:Nat→Nat→Prop} {B:Nat} {o:ax} {x:den T} {vs:List Value} {ob:OB},o.whole=true→Flat P T w G B o x vs ob→∀ u∈vs,u.oneCell'=true
 | .int k,_,_,_,_,_,_,_,_,h=>by unfold Flat at h; rw [h.1]; simp [Value.oneCell']
 | .bool,_,_,_,_,_,_,_,_,h=>by unfold Flat at h; rw [h.1]; simp [Value.oneCell']
 | .str,_,_,_,_,_,_,_,_,h=>by unfold Flat at h; rw [h.1]; simp [Value.oneCell']
 | .unit,_,_,_,_,_,_,_,_,h=>by unfold Flat at h; rw [h.1]; simp
 | .pair A C,_,_,_,o,_,_,_,ho,h=>by
   unfold Flat at h
   obtain ⟨v1,v2,b1,b2,rfl,rfl,h1,h2⟩:=h
   intro u hu
   rcases dv.1 hu with hu | hu
   ·exact Flat.one P A (by cases o<;>simp_all [ax.whole,ax.l]) h1 u hu
   ·exact Flat.one P C (by cases o<;>simp_all [ax.whole,ax.r]) h2 u hu
 | .arr n T,w,G,B,_,_,_,_,_,h=>by
   unfold Flat at h
   have key:∀ {xs:List (den T)} {vs:List Value} {ob:OB},aK (Flat P T w G B .no) xs vs ob→∀ u∈vs,u.oneCell'=true:=by
    intro xs
    induction xs with
    | nil=>rintro vs ob ⟨rfl,rfl⟩; simp
    | cons x xs ih=>
      rintro vs ob ⟨u1,u2,c1,c2,rfl,rfl,hr,ht⟩ u hu
      rcases dv.1 hu with hu | hu
      ·exact Flat.one P T (o:=.no) rfl hr u hu
      ·exact ih ht u hu
   exact key h.2
 | .sl T,_,_,_,o,_,_,_,ho,h=>by
   cases o with
   | no=>unfold Flat at h; obtain ⟨_,A,c,rfl,_⟩:=h; simp [Value.oneCell']
   | hole=>simp [ax.whole] at ho
   | pair=>unfold Flat at h; obtain ⟨_,A,c,rfl,_⟩:=h; simp [Value.oneCell']
   | mp=>unfold Flat at h; obtain ⟨_,A,c,rfl,_⟩:=h; simp [Value.oneCell']
   | own wr e o=>
     unfold Flat at h
     obtain ⟨v,cells,ob',rfl,h2,_⟩:=h
     rcases h2.2 with h | ⟨g,cap,cur,_,_,rfl,_⟩
     ·rw [h.1]; simp [Value.oneCell']
     ·simp [Value.oneCell']
 | .map K V,_,_,_,o,_,_,_,ho,h=>by
   cases o<;>unfold Flat at h
   case mp=>obtain ⟨_,_,b,ents,clk,rfl,_⟩:=h; simp [Value.oneCell']
   all_goals (obtain ⟨_,r,rfl⟩:=h; simp [Value.oneCell'])
 | .fn A C,_,_,_,_,_,_,_,_,h=>by
   unfold Flat at h
   obtain ⟨_,_,f,caps,rfl,_⟩:=h; simp [Value.oneCell']
end Go.Fw
/- Soundness, part 2: parts of values; what a state of the machine says of memory. -/
namespace Go.Fw
open Go Go.RowKit
theorem ra:∀ p,bW .no p=.no
 | []=>rfl
 | .l::p=>ra p
 | .r::p=>ra p
 | .ix _::_=>rfl
theorem qM:∀ (p:Path) (a b:ax),a.pure=true→b.pure=true→(fc a p b).pure=true
 | [],_,_,_,h=>h
 | .l::p,a,b,ha,hb=>by simp only [fc,ax.pure,au]; exact ⟨qM p _ _ (ax.tu ha) hb,ax.tv ha⟩
 | .r::p,a,b,ha,hb=>by simp only [fc,ax.pure,au]; exact ⟨ax.tu ha,qM p _ _ (ax.tv ha) hb⟩
 | .ix _::_,_,_,ha,_=>ha
theorem Bh (T:Ty) (y:den T):bh T ⟨T,y⟩=some y:=by simp [bh]
theorem cM {T:Ty} {y:TV} {z:den T} (h:bh T y=some z):y=⟨T,z⟩:=by
 obtain ⟨T',y⟩:=y
 simp only [bh] at h
 split at h
 ·rename_i e; subst e; simp at h; rw [h]
 ·exact absurd h (by simp)
theorem qh:∀ (p:Path) (T:Ty) {P:Program} {w:World} {G:Nat→Nat→Prop} {B:Nat} {o:ax} {x:den T} {vs:List Value} {ob:OB} {y:TV},Flat P T w G B o x vs ob→aH T p x=some y→cT T p=some y.1
 | [],T,_,_,_,_,_,_,_,_,_,_,h=>by simp only [aH,aw] at h; subst h; cases T<;>rfl
 | .l::p,.pair A C,_,_,_,_,_,_,_,_,_,hF,h=>by
   unfold Flat at hF; obtain ⟨v1,v2,b1,b2,rfl,rfl,h1,h2⟩:=hF
   simp only [aH,cT] at h ⊢; exact qh p A h1 h
 | .r::p,.pair A C,_,_,_,_,_,_,_,_,_,hF,h=>by
   unfold Flat at hF; obtain ⟨v1,v2,b1,b2,rfl,rfl,h1,h2⟩:=hF
   simp only [aH,cT] at h ⊢; exact qh p C h2 h
 | .ix i::p,.arr n T,_,_,_,_,_,_,_,_,_,hF,h=>by
   unfold Flat at hF; obtain ⟨hn,hF⟩:=hF
   simp only [aH,cT] at h ⊢
   split at h
   ·rename_i hi
    obtain ⟨v1,v2,v3,b1,b2,b3,_,_,_,h2,_⟩:=aK.split (fun x v b hx=>Flat.len _ T hx) i (zero T) hF hi
    rw [if_pos (by omega)]; exact qh p T h2 h
   ·exact absurd h (by simp)
 | .l::_,.int _,_,_,_,_,_,_,_,_,_,_,h | .l::_,.bool,_,_,_,_,_,_,_,_,_,_,h | .l::_,.str,_,_,_,_,_,_,_,_,_,_,h | .l::_,.unit,_,_,_,_,_,_,_,_,_,_,h | .l::_,.sl _,_,_,_,_,_,_,_,_,_,_,h | .l::_,.arr _ _,_,_,_,_,_,_,_,_,_,_,h | .l::_,.fn _ _,_,_,_,_,_,_,_,_,_,_,h=>by simp [aH] at h
 | .r::_,.int _,_,_,_,_,_,_,_,_,_,_,h | .r::_,.bool,_,_,_,_,_,_,_,_,_,_,h | .r::_,.str,_,_,_,_,_,_,_,_,_,_,h | .r::_,.unit,_,_,_,_,_,_,_,_,_,_,h | .r::_,.sl _,_,_,_,_,_,_,_,_,_,_,h | .r::_,.arr _ _,_,_,_,_,_,_,_,_,_,_,h | .r::_,.fn _ _,_,_,_,_,_,_,_,_,_,_,h=>by simp [aH] at h
 | .ix _::_,.int _,_,_,_,_,_,_,_,_,_,_,h | .ix _::_,.bool,_,_,_,_,_,_,_,_,_,_,h | .ix _::_,.str,_,_,_,_,_,_,_,_,_,_,h | .ix _::_,.unit,_,_,_,_,_,_,_,_,_,_,h | .ix _::_,.sl _,_,_,_,_,_,_,_,_,_,_,h | .ix _::_,.pair _ _,_,_,_,_,_,_,_,_,_,_,h | .ix _::_,.fn _ _,_,_,_,_,_,_,_,_,_,_,h=>by simp [aH] at h
theorem Flat.lens (P:Program):∀ (p:Path) (T:Ty) {w:World} {G:Nat→Nat→Prop} {B:Nat} {o:ax} {x:den T} {vs:List Value} {ob:OB} {T':Ty} {y:den T'},Flat P T w G B o x vs ob→aH T p x=some ⟨T',y⟩→
  ∃ v1 v2 v3 b1 b2 b3,vs=v1++v2++v3∧ob=b1++b2++b3∧v1.length=ba T p∧Flat P T' w G B (bW o p) y v2 b2∧
    ∀ (o2:ax) (y2:den T') (u:List Value) (c:OB) (x2:den T),(cD p=true→o2.pure=true)→Flat P T' w G B o2 y2 u c→a7 T p x ⟨T',y2⟩=some x2→Flat P T w G B (fc o p o2) x2 (v1++u++v3) (b1++c++b3)
 | [],T,w,G,B,o,x,vs,ob,T',y,hF,h=>by
   simp only [aH,aw] at h
   obtain ⟨rfl,h⟩:=Sigma.mk.inj h
   rw [eq_of_heq h] at hF
   refine ⟨[],vs,[],[],ob,[],by simp,by simp,by cases T<;>rfl,hF,?_⟩
   intro o2 y2 u c x2 _ hy hs
   have hs':bh T ⟨T,y2⟩=some x2:=by cases T<;>exact hs
   rw [Bh,aw] at hs'
   subst hs'
   simpa [fc] using hy
 | .l::p,.pair A C,w,G,B,o,x,vs,ob,T',y,hF,h=>by
   unfold Flat at hF; obtain ⟨u1,u2,c1,c2,rfl,rfl,h1,h2⟩:=hF
   simp only [aH] at h
   obtain ⟨v1,v2,v3,b1,b2,b3,rfl,rfl,hl,hF2,hset⟩:=Flat.lens P p A h1 h
   refine ⟨v1,v2,v3++u2,b1,b2,b3++c2,by simp,by simp,hl,hF2,?_⟩
   intro o2 y2 u c x2 hix hy hs
   simp only [a7,aq,aw] at hs
   obtain ⟨z,hz,rfl⟩:=hs
   unfold Flat
   exact ⟨v1++u++v3,u2,b1++c++b3,c2,by simp,by simp,hset o2 y2 u c z hix hy hz,h2⟩
 | .r::p,.pair A C,w,G,B,o,x,vs,ob,T',y,hF,h=>by
   have hlen:∀ {vs ob},Flat P A w G B o.l x.1 vs ob→vs.length=ay A:=fun h=>Flat.len P A h
   unfold Flat at hF; obtain ⟨u1,u2,c1,c2,rfl,rfl,h1,h2⟩:=hF
   simp only [aH] at h
   obtain ⟨v1,v2,v3,b1,b2,b3,rfl,rfl,hl,hF2,hset⟩:=Flat.lens P p C h2 h
   refine ⟨u1++v1,v2,v3,c1++b1,b2,b3,by simp,by simp,by rw [cd,hlen h1,hl]; rfl,hF2,?_⟩
   intro o2 y2 u c x2 hix hy hs
   simp only [a7,aq,aw] at hs
   obtain ⟨z,hz,rfl⟩:=hs
   unfold Flat
   exact ⟨u1,v1++u++v3,c1,b1++c++b3,by simp,by simp,h1,hset o2 y2 u c z hix hy hz⟩
 | .ix i::p,.arr n T,w,G,B,o,x,vs,ob,T',y,hF,h=>by
   unfold Flat at hF; obtain ⟨hn,hF⟩:=hF
   simp only [aH] at h
   split at h
   ·rename_i hi
    obtain ⟨u1,u2,u3,c1,c2,c3,rfl,rfl,hl1,hE,hst⟩:=aK.split (fun x v b hx=>Flat.len _ T hx) i (zero T) hF hi
    obtain ⟨v1,v2,v3,b1,b2,b3,rfl,rfl,hl,hF2,hset⟩:=Flat.lens P p T hE h
    rw [ra] at hF2
    refine ⟨u1++v1,v2,v3++u3,c1++b1,b2,b3++c3,by simp,by simp,by rw [cd,hl1,hl]; rfl,hF2,?_⟩
    intro o2 y2 u c x2 hix hy hs
    simp only [a7] at hs
    rw [if_pos hi] at hs
    simp only [aq,aw] at hs
    obtain ⟨z,hz,rfl⟩:=hs
    have ho2:=hix rfl
    have hnew:=hset o2 y2 u c z (fun _=>ho2) hy hz
    obtain ⟨e,hnew⟩:=Flat.pure P T (qM p .no o2 rfl ho2) (o':=.no) rfl hnew
    have hE2:=hst z (v1++u++v3) [] hnew
    unfold Flat
    refine ⟨by rw [List.length_set]; exact hn,?_⟩
    have e':c1++b1++c++(b3++c3)=c1++[]++c3:=by
     rw [show c1++b1++c++(b3++c3)=c1++(b1++c++b3)++c3 by simp,e]
    rw [e']
    simpa using hE2
   ·exact absurd h (by simp)
 | .l::_,.int _,_,_,_,_,_,_,_,_,_,_,h | .l::_,.bool,_,_,_,_,_,_,_,_,_,_,h | .l::_,.str,_,_,_,_,_,_,_,_,_,_,h | .l::_,.unit,_,_,_,_,_,_,_,_,_,_,h | .l::_,.sl _,_,_,_,_,_,_,_,_,_,_,h | .l::_,.arr _ _,_,_,_,_,_,_,_,_,_,_,h | .l::_,.fn _ _,_,_,_,_,_,_,_,_,_,_,h=>by simp [aH] at h
 | .r::_,.int _,_,_,_,_,_,_,_,_,_,_,h | .r::_,.bool,_,_,_,_,_,_,_,_,_,_,h | .r::_,.str,_,_,_,_,_,_,_,_,_,_,h | .r::_,.unit,_,_,_,_,_,_,_,_,_,_,h | .r::_,.sl _,_,_,_,_,_,_,_,_,_,_,h | .r::_,.arr _ _,_,_,_,_,_,_,_,_,_,_,h | .r::_,.fn _ _,_,_,_,_,_,_,_,_,_,_,h=>by simp [aH] at h
 | .ix _::_,.int _,_,_,_,_,_,_,_,_,_,_,h | .ix _::_,.bool,_,_,_,_,_,_,_,_,_,_,h | .ix _::_,.str,_,_,_,_,_,_,_,_,_,_,h | .ix _::_,.unit,_,_,_,_,_,_,_,_,_,_,h | .ix _::_,.sl _,_,_,_,_,_,_,_,_,_,_,h | .ix _::_,.pair _ _,_,_,_,_,_,_,_,_,_,_,h | .ix _::_,.fn _ _,_,_,_,_,_,_,_,_,_,_,h=>by simp [aH] at h
theorem tq:∀ (p q:Path) (T:Ty) {T':Ty},cT T p=some T'→ba T (p++q)=ba T p+ba T' q∧cT T (p++q)=cT T' q
 | [],q,T,T',h=>by
   have:T=T':=by cases T<;>simpa [cT] using h
   subst this
   have:ba T []=0:=by cases T<;>rfl
   simp [this]
 | .l::p,q,.pair A C,T',h=>by simp only [cT] at h; simp only [jf,ba,cT]; exact tq p q A h
 | .r::p,q,.pair A C,T',h=>by
   simp only [cT] at h; simp only [jf,ba,cT]
   have:=tq p q C h
   exact ⟨by rw [this.1]; omega,this.2⟩
 | .ix i::p,q,.arr n T,T',h=>by
   simp only [cT] at h; simp only [jf,ba,cT]
   split at h
   ·rename_i hi
    have:=tq p q T h
    exact ⟨by rw [this.1]; omega,by rw [if_pos hi]; exact this.2⟩
   ·exact absurd h (by simp)
 | .l::_,_,.int _,_,h | .l::_,_,.bool,_,h | .l::_,_,.str,_,h | .l::_,_,.unit,_,h | .l::_,_,.sl _,_,h | .l::_,_,.arr _ _,_,h | .l::_,_,.fn _ _,_,h=>by simp [cT] at h
 | .r::_,_,.int _,_,h | .r::_,_,.bool,_,h | .r::_,_,.str,_,h | .r::_,_,.unit,_,h | .r::_,_,.sl _,_,h | .r::_,_,.arr _ _,_,h | .r::_,_,.fn _ _,_,h=>by simp [cT] at h
 | .ix _::_,_,.int _,_,h | .ix _::_,_,.bool,_,h | .ix _::_,_,.str,_,h | .ix _::_,_,.unit,_,h | .ix _::_,_,.sl _,_,h | .ix _::_,_,.pair _ _,_,h | .ix _::_,_,.fn _ _,_,h=>by simp [cT] at h
def bl (w:World) (tm:Array Value) (env:Env) (s:Nat) (p:Path):Option Value:=
 match look env s with
 | .own .. =>match p with | []=>some (tm.getD s undef) | _=>none
 | .loc T _ _=>match tm.getD s undef with | .pointer (some a)=>w.cell? ⟨a.block,ba T p,none⟩ | _=>none
 | _=>none
def eR (env:Env) (s:Nat) (p:Path):Bool:=
 match look env s with
 | .loc T o x=>match bW o p,aH T p x with
   | .mp,some ⟨.map _ _,_⟩=>true
   | _,_=>false
 | _=>false
def jO (w:World) (B:Nat) (t e:TypeId) (s:List UInt8) (v:Value) (ob:OB):Prop:=
 ∃ b p u,v=.pointer (some ⟨b,0,none⟩)∧B≤b∧w.heap[b]?=some (.cells #[p,u] t (0,0))∧(p=.pointer none∨p=.pointer (some ⟨b,0,none⟩))∧w.ownsRow B e 1 u s.length (s.map fun c=>Value.int .u8 c.toNat)∧
   u.ownBlock≠some b∧ob=(b,0)::bI u 0
def cE (P:Program) (w:World) (G:Nat→Nat→Prop) (B:Nat) (tm:Array Value) (env:Env):E→Value→OB→Prop
 | .dead,_,ob=>ob=[]
 | .bF,v,ob=>v=undef∧ob=[]
 | .v T x,v,ob=>ob=[]∧∃ vs,Flat P T w G B .no x vs []∧v=bj T vs
 | .own wr e T o xs,v,ob=>Flat P (.sl T) w G B (.own wr e o) xs [v] ob
 | .loc T o x,v,ob=>∃ b cur e ob',v=.pointer (some ⟨b,0,none⟩)∧B≤b∧w.heap[b]?=some (.cells cur e (0,0))∧Flat P T w G B o x cur.toList ob'∧ob=(b,0)::ob'
 | .ref s p,v,ob=>ob=[]∧bl w tm env s p=some v∧((bc env s p).isSome=true∨eR env s p=true)
 | .ptr s p,v,ob=>ob=[]∧∃ T o x b,look env s=.loc T o x∧tm.getD s undef=.pointer (some ⟨b,0,none⟩)∧(cT T p).isSome=true∧v=.pointer (some ⟨b,ba T p,none⟩)
 | .cV s p i q,v,ob=>ob=[]∧∃ h g n c,bc env s p=some h∧bl w tm env s p=some (.slice (some ⟨g,0,none⟩) n c)∧i < h.xs.length∧(cT h.T q).isSome=true∧
   v=.pointer (some ⟨g,i * ay h.T+ba h.T q,none⟩)
 | .at T x,v,ob=>ob=[]∧∃ b off vs,v=.pointer (some ⟨b,off,none⟩)∧Flat P T w G B .no x vs []∧∀ j u,vs[j]?=some u→w.cell? ⟨b,off+j,none⟩=some u∧(b < B∨G b (off+j))
 | .cJ _,_,_=>False
 | .cS _ _ _ _,_,_=>False
 | .nw T o x,v,ob=>ob=[]∧∃ vs,Flat P T w G B o x vs []∧v=bj T vs
 | .nm T o x,v,ob=>∃ vs,Flat P T w G B o x vs ob∧v=bj T vs
 | .it s pos,v,ob=>∃ b,v=.pointer (some ⟨b,0,none⟩)∧B≤b∧w.heap[b]?=some (.stringIter ⟨⟨s⟩⟩ pos)∧s.length≤maxLen∧ob=[(b,0)]
 | .sb t e s,v,ob=>jO w B t e s v ob∧s.length≤140737488355328
def dY (R:E→Value→OB→Prop):List E→List Value→OB→Prop
 | [],vs,ob=>vs=[]∧ob=[]
 | e::es,vs,ob=>∃ v r b1 b2,vs=v::r∧ob=b1++b2∧R e v b1∧dY R es r b2
def bn (P:Program) (w:World) (G:Nat→Nat→Prop) (B:Nat) (tm:Array Value) (env:Env):E→Value→OB→Prop
 | .cJ es,v,ob=>(∀ e∈es,∀ s,leads s e=false)∧∃ vs,v=.tuple vs∧dY (cE P w G B tm env) es vs.toList ob
 | .cS f _ _ caps,v,ob=>ob=[]∧∃ cv,v=.func (.func f) #[] cv∧dY (cE P w G B tm env) caps cv.toList []
 | e,v,ob=>cE P w G B tm env e v ob
def Gd (B:Nat) (G0:Nat→Nat→Prop) (ob:Nat→OB) (b i:Nat):Prop:=
 (b < B∧G0 b i)∨(B≤b∧G0 b i∧∀ k lim,(b,lim)∈ob k→i < lim)
structure fN where
 tb:Nat
 has:Nat→Obj→Prop
 lt:∀ g o,has g o→g < tb
def fN.nil:fN:=⟨0,fun _ _=>False,fun _ _ h=>h.elim⟩
structure fN.ok (t:fN) (w:World):Prop where
 le:t.tb≤w.heap.size
 at_:∀ g o,t.has g o→w.heap[g]?=some o
theorem fN.Vp (w:World):fN.nil.ok w:=⟨Nat.zero_le _,fun _ _ h=>h.elim⟩
structure de where
 w:World
 x:Nat→Prop
 pin:Option Value
 r:Nat→Nat→Prop
 t:fN
def bm (W0:de) (n k:Nat):Prop:=k < n∧(W0.pin=none∨k≠0)
structure ah (P:Program) (B:Nat) (G0:Nat→Nat→Prop) (W0:de) (n:Nat) (env:Env) (tm:Array Value) (w:World) (ob:Nat→OB):Prop where
 rep:∀ k,bn P w (Gd B G0 ob) B tm env (look env k) (tm.getD k undef) (ob k)
 dist:∀ j k b,b∈blocks (ob j)→b∈blocks (ob k)→j=k
 nodup:∀ k,(blocks (ob k)).Nodup
 low:∀ k b,b∈blocks (ob k)→B≤b∧b < w.heap.size
 below:Below B W0.w w
 prot:∀ k b,b∈blocks (ob k)→¬ W0.x b
 same:∀ b,W0.x b→w.heap[b]?=W0.w.heap[b]?
 oldx:∀ b,W0.x b→b < w.heap.size
 free:∀ b i,B≤b→¬ W0.x b→G0 b i
 base:B≤w.heap.size
 size:tm.size=n
 pinned:∀ v,W0.pin=some v→tm.getD 0 undef=v
 kept:∀ b i,W0.r b i→b < w.heap.size∧Gd B G0 ob b i∧w.cell? ⟨b,i,none⟩=W0.w.cell? ⟨b,i,none⟩
 tab:W0.t.tb≤B∧W0.t.ok W0.w
theorem ah.oO {P:Program} {B:Nat} {G0:Nat→Nat→Prop} {W0:de} {n:Nat} {env:Env} {tm:Array Value} {w:World} {ob:Nat→OB} (hC:ah P B G0 W0 n env tm w ob):W0.t.ok w:=
 ⟨ey hC.tab.1 hC.base,fun g o h=>by rw [hC.below.block g (dI (W0.t.lt g o h) hC.tab.1)]; exact hC.tab.2.at_ g o h⟩
theorem ah.aq5 {P:Program} {B:Nat} {G0:Nat→Nat→Prop} {W0:de} {n:Nat} {env:Env} {tm:Array Value} {w w':World} {ob:Nat→OB} (hC:ah P B G0 W0 n env tm w ob) (h:bR B w w'):W0.t.ok w':=
 ⟨ey hC.oO.le h.1,fun g o hg=>by rw [h.2 g (dI (W0.t.lt g o hg) hC.tab.1)]; exact hC.oO.at_ g o hg⟩
end Go.Fw
