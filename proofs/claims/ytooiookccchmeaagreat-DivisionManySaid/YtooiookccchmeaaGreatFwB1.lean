/- Own work: the value machine, part 1. -/
import Derived.WalkKit
import Derived.KernelRfl
set_option linter.unusedVariables false
set_option linter.unusedSimpArgs false
open Bool renaming and_eq_true → aq, false_eq_true → dN
open List renaming replicate → gG, mem_append_left → fR, mem_append_right → ik, length_append → b5, mem_map → c4, mem_append → dn, cons_append → iN
open Nat renaming le_refl → cE, le_trans → dV, decEq → eQ, lt_of_lt_of_le → dp
open Option renaming bind_eq_some_iff → aj, bind_assoc → mI, bind_some → ar, map_some → pO
open Option.some renaming injEq → av
/- The abstract value machine, part 1: types of values, native values, what memory shows of them. -/
namespace Go.Fw
open Go Go.RowKit
inductive Ty where
 | int (k:IntKind) | bool | str | unit
 | sl (T:Ty) | pair (A B:Ty) | arr (n:Nat) (T:Ty)
 | fn (A B:Ty)
 | map (K V:Ty)
 deriving DecidableEq
abbrev den:Ty→Type
 | .int _=>Int
 | .bool=>Bool
 | .str=>List UInt8
 | .unit=>Unit
 | .sl T=>List (den T)
 | .pair A B=>den A×den B
 | .arr _ T=>List (den T)
 | .fn A B=>den A→Option (den B)
 | .map K V=>List (den K×den V)
def zero:(T:Ty)→den T
 | .int _=>(0:Int)
 | .bool=>false
 | .str=>([]:List UInt8)
 | .unit=>()
 | .sl _=> []
 | .pair A B=>(zero A,zero B)
 | .arr n T=>gG n (zero T)
 | .fn _ _=>fun _=>none
 | .map _ _=> []
def ax:Ty→Nat
 | .unit=>0
 | .pair A B=>ax A+ax B
 | .arr n T=>n * ax T
 | _=>1
def bZ:Ty→Bool
 | .unit | .pair _ _ | .arr _ _=>true
 | _=>false
def b7:Ty→Bool
 | .sl _ | .fn _ _ | .map _ _=>false
 | .pair A B=>b7 A&&b7 B
 | .arr _ T=>b7 T
 | _=>true
def ea:Ty→Bool
 | .fn _ _=>false
 | .sl T=>ea T
 | .pair A B=>ea A&&ea B
 | .arr _ T=>ea T
 | _=>true
inductive aw where
 | no
 | hole
 | own (wr:Bool) (e:TypeId) (o:aw)
 | pair (a b:aw)
 | mp
def aw.l:aw→aw | .pair a _=>a | _=>.no
def aw.r:aw→aw | .pair _ b=>b | _=>.no
abbrev OB:=List (Nat×Nat)
def aJ {α:Type} (R:α→List Value→OB→Prop):List α→List Value→OB→Prop
 | [],vs,ob=>vs=[]∧ob=[]
 | x::xs,vs,ob=>∃ v1 v2 b1 b2,vs=v1++v2∧ob=b1++b2∧R x v1 b1∧aJ R xs v2 b2
def eb {α:Type} (R:α→MapEntry→Prop):List α→List MapEntry→Prop
 | [],l=>l=[]
 | x::xs,l=>∃ m r,l=m::r∧R x m∧eb R xs r
def gD:TypeId:=4294967295
def oB (fz:Nat×Nat) (n:Nat):Prop:=fz=(0,0)∨n≤fz.1
def fM (w:World) (base:Nat) (e:TypeId) (size:Nat) (v:Value) (n:Nat) (xs:List Value):Prop:=
 xs.length=n * size∧
 ((v=.slice none 0 0∧n=0)∨
  ∃ g cap cur e' fz,v=.slice (some ⟨g,0,none⟩) n cap∧base≤g∧w.heap[g]?=some (.cells cur e' fz)∧n≤cap∧cap≤maxLen∧cur.size=cap * size∧cur.toList.take (n * size)=xs∧(e≠gD→e'=e∧fz=(0,0))∧oB fz cur.size)
def fx (k:IntKind) (n:Int):Prop:=k.min≤n∧n≤k.max
def bg (T:Ty) (vs:List Value):Value:=if bZ T then .agg vs.toArray else vs.headD undef
def bK (v:Value) (lim:Nat):OB:=match v.ownBlock with | some b=> [(b,lim)] | none=> []
def bP (B:Nat) (w w':World):Prop:=w.heap.size≤w'.heap.size∧∀ b,b < B→w'.heap[b]?=w.heap[b]?
structure Below (B:Nat) (w w':World):Prop where
 os:w'.os=w.os
 tape:w'.tape=w.tape
 output:w'.output=w.output
 size:w.heap.size≤w'.heap.size
 block:∀ k,k < B→w'.heap[k]?=w.heap[k]?
 drawn:w.drawn≤w'.drawn
theorem Below.XM {B:Nat} {w w':World} (h:Below B w w'):Go.RowKit.Below B w w':=⟨h.os,h.tape,h.output,h.size,h.block⟩
theorem Below.refl (B:Nat) (w:World):Below B w w:=⟨rfl,rfl,rfl,cE _,fun _ _=>rfl,cE _⟩
theorem Below.trans {B:Nat} {a b c:World} (h:Below B a b) (k:Below B b c):Below B a c:=
 ⟨k.os.trans h.os,k.tape.trans h.tape,k.output.trans h.output,dV h.size k.size,fun i hi=>(k.block i hi).trans (h.block i hi),dV h.drawn k.drawn⟩
def fE (P : Program) (f : FuncId) : Prop := ∃ fn, P.funcs[f]? = some fn ∧ (fn.name == "runtime.NumGoroutine") = false ∧ fn.body.isNone = false
mutual
def Flat (P:Program):(T:Ty)→World→(Nat→Nat→Prop)→Nat→aw→den T→List Value→OB→Prop
 | .int k,_,_,_,_,n,vs,ob=>vs=[.int k n]∧fx k n∧ob=[]
 | .bool,_,_,_,_,b,vs,ob=>vs=[.bool b]∧ob=[]
 | .str,_,_,_,_,s,vs,ob=>vs=[.string ⟨⟨s⟩⟩]∧s.length≤maxLen∧ob=[]
 | .unit,_,_,_,_,_,vs,ob=>vs=[]∧ob=[]
 | .pair A C,w,G,B,o,x,vs,ob=>∃ v1 v2 b1 b2,vs=v1++v2∧ob=b1++b2∧Flat P A w G B o.l x.1 v1 b1∧Flat P C w G B o.r x.2 v2 b2
 | .arr n T,w,G,B,_,xs,vs,ob=>xs.length=n∧aJ (Flat P T w G B .no) xs vs ob
 | .sl T,w,G,B,.own wr e o,xs,vs,ob=>∃ v cells ob',vs=[v]∧fM w B e (ax T) v xs.length cells∧aJ (Flat P T w G B o) xs cells ob'∧
   ob=bK v (if wr then 0 else xs.length * ax T)++ob'
 | .sl _,_,_,_,.hole,_,vs,ob=>vs.length=1∧ob=[]
 | .sl T,w,G,B,_,xs,vs,ob=>ob=[]∧∃ A c,vs=[.slice A xs.length c]∧xs.length≤c∧c≤maxLen∧
   (xs=[]∨∃ b off cells,A=some ⟨b,off,none⟩∧aJ (Flat P T w G B .no) xs cells []∧∀ j v,cells[j]?=some v→w.cell? ⟨b,off+j,none⟩=some v∧G b (off+j))
 | .map K V,w,G,B,.mp,xs,vs,ob=>b7 K=true∧b7 V=true∧∃ b ents clk,vs=[.map (some b)]∧B≤b∧w.heap[b]?=some (.map ents clk)∧ob=[(b,0)]∧
   eb (fun x m=>∃ ks us,Flat P K w G B .no x.1 ks []∧Flat P V w G B .no x.2 us []∧m.key=bg K ks∧m.val=bg V us) xs ents.toList
 | .map _ _,_,_,_,_,_,vs,ob=>ob=[]∧∃ r,vs=[.map r]
 | .fn A C,w,_,B,_,g,vs,ob=>ob=[]∧b7 C=true∧∃ f caps,vs=[.func (.func f) #[] caps]∧
   ∀ (w':World) (G':Nat→Nat→Prop) (x:den A) (vals:List Value),bP B w w'→ic P A w' G' x vals→∀ r,g x=some r→
     fE P f∧Calls P f (vals.toArray++caps) w' (fun e w''=>∃ rs,Flat P C w'' G' B .no r rs []∧e=.returned (bg C rs)∧Below w'.heap.size w' w'')
def ic (P:Program):(A:Ty)→World→(Nat→Nat→Prop)→den A→List Value→Prop
 | .pair A C,w,G,x,vals=>∃ v1 rest,Flat P A w G w.heap.size .no x.1 v1 []∧vals=bg A v1::rest∧ic P C w G x.2 rest
 | .unit,_,_,_,vals=>vals=[]
 | _,_,_,_,_=>False
end
end Go.Fw
/- The abstract value machine, part 2: entries, operations, code. -/
namespace Go.Fw
open Go Go.RowKit
inductive St where
 | l | r | ix (i:Nat)
 deriving DecidableEq
abbrev Path:=List St
abbrev TV:=(T:Ty)×den T
def cM:Ty→Path→Option Ty
 | T,[]=>some T
 | .pair A _,.l::p=>cM A p
 | .pair _ B,.r::p=>cM B p
 | .arr n T,.ix i::p=>if i < n then cM T p else none
 | _,_=>none
def a7:Ty→Path→Nat
 | .pair A _,.l::p=>a7 A p
 | .pair A B,.r::p=>ax A+a7 B p
 | .arr _ T,.ix i::p=>i * ax T+a7 T p
 | _,_=>0
def aF:(T:Ty)→Path→den T→Option TV
 | T,[],x=>some ⟨T,x⟩
 | .pair A _,.l::p,x=>aF A p x.1
 | .pair _ B,.r::p,x=>aF B p x.2
 | .arr _ T,.ix i::p,x=>if i < x.length then aF T p (x.getD i (zero T)) else none
 | _,_,_=>none
def bh (T:Ty) (y:TV):Option (den T):=if h:y.1=T then some (h▸y.2) else none
def aZ:(T:Ty)→Path→den T→TV→Option (den T)
 | T,[],_,y=>bh T y
 | .pair A _,.l::p,x,y=>(aZ A p x.1 y).bind fun z=>some (z,x.2)
 | .pair _ B,.r::p,x,y=>(aZ B p x.2 y).bind fun z=>some (x.1,z)
 | .arr _ T,.ix i::p,x,y=>if i < x.length then (aZ T p (x.getD i (zero T)) y).bind fun z=>some (x.set i z) else none
 | _,_,_,_=>none
def bU:aw→Path→aw
 | a,[]=>a
 | a,.l::p=>bU a.l p
 | a,.r::p=>bU a.r p
 | _,.ix _::_=>.no
def eI:aw→Path→aw→aw
 | _,[],b=>b
 | a,.l::p,b=>.pair (eI a.l p b) a.r
 | a,.r::p,b=>.pair a.l (eI a.r p b)
 | a,.ix _::_,_=>a
def pS {α:Type}:aw→List (Path×α)→aw
 | o,[]=>o
 | o,(p,_)::r=>pS (eI o p .no) r
def cc:Path→Bool
 | []=>false
 | .ix _::_=>true
 | _::p=>cc p
def aw.pure:aw→Bool
 | .no=>true
 | .pair a b=>a.pure&&b.pure
 | _=>false
def aw.whole:aw→Bool
 | .hole=>false
 | .pair a b=>a.whole&&b.whole
 | .own _ _ o=>o.whole
 | .no | .mp=>true
def aw.bn:aw→aw
 | .own _ e o=>.own false e o.bn
 | .pair a b=>.pair a.bn b.bn
 | a=>a
def aw.stays:aw→Bool
 | .own w _ o=>!w&&o.stays
 | .pair a b=>a.stays&&b.stays
 | _=>true
theorem aw.su:∀ {o:aw},o.stays=true→o.bn=o
 | .own w e o,h=>by
   simp only [aw.stays,aq,Bool.not_eq_true'] at h
   simp only [aw.bn,aw.su h.2,h.1]
 | .pair a b,h=>by
   simp only [aw.stays,aq] at h
   simp only [aw.bn,aw.su h.1,aw.su h.2]
 | .no,_ | .hole,_ | .mp,_=>rfl
inductive E where
 | dead
 | bE
 | v (T:Ty) (x:den T)
 | own (wr:Bool) (e:TypeId) (T:Ty) (o:aw) (xs:List (den T))
 | loc (T:Ty) (o:aw) (x:den T)
 | ref (s:Nat) (p:Path)
 | ptr (s:Nat) (p:Path)
 | cN (s:Nat) (p:Path) (i:Nat) (q:Path)
 | at (T:Ty) (x:den T)
 | cC (es:List E)
 | cK (f:FuncId) (A C:Ty) (caps:List E)
 | it (s:List UInt8) (pos:Nat)
 | sb (t e:TypeId) (s:List UInt8)
 | nw (T:Ty) (o:aw) (x:den T)
 | nm (T:Ty) (o:aw) (x:den T)
abbrev Env:=List (Nat×E)
def look:Env→Nat→E
 | [],_=>.dead
 | (j,e)::r,k=>match eQ j k with | .isTrue _=>e | .isFalse _=>look r k
def E.home:E→Bool
 | .own .. | .loc .. =>true
 | _=>false
def leads (s:Nat):E→Bool
 | .ref k _ | .ptr k _ | .cN k _ _ _=>k==s
 | .cK _ _ _ caps=>caps.any fun | .ref k _ | .ptr k _ | .cN k _ _ _=>k==s | _=>false
 | _=>false
def kill (s:Nat) (env:Env):Env:=env.map fun q=>if leads s q.2 then (q.1,.dead) else q
def ez (s:Nat):E→Bool
 | .ptr _ _=>false
 | e=>leads s e
def jc (s:Nat) (env:Env):Env:=env.map fun q=>if ez s q.2 then (q.1,.dead) else q
def r7 (s d:Nat) (env:Env):Env:=env.map fun q=>match q.2 with
 | .ref k p=>if k==s then (q.1,.ref d p) else q
 | .cN k p i r=>if k==s then (q.1,.cN d p i r) else q
 | .cK f A C caps=>if leads s (.cK f A C caps) then (q.1,.dead) else q
 | _=>q
def put (env:Env) (k:Nat) (e:E):Env:=(k,if leads k e then .dead else e)::(if (look env k).home then kill k env else env)
def aK (env:Env) (k:Option Nat) (e:E):Env:=match k with | some k=>put env k e | none=>env
def freeze (env:Env) (s:Nat):Env:=
 match look env s with
 | .own _ e T o xs=>(s,.own false e T o.bn xs)::env
 | .loc T o x=>(match o.stays with | true=>env | false=>(s,.loc T o.bn x)::env)
 | _=>env
def rW:E→List Nat
 | .ref k _ | .ptr k _ | .cN k _ _ _=> [k]
 | _=> []
def pd:E→List Nat
 | .cK _ _ _ caps=>caps.flatMap rW
 | e=>rW e
def oY (live:List Nat) (e:E):E:=match (pd e).all fun s=>live.any fun k=>k==s with | true=>e | false=>.dead
def ak (live:List Nat) (env:Env):Env:=live.map fun k=>(k,oY live (look env k))
inductive Od where
 | t (k:Nat)
 | c (T:Ty) (x:den T)
 | nil (e:TypeId) (T:Ty)
 | fn (f:FuncId) (A C:Ty)
def au (env:Env):Od→E
 | .t k=>look env k
 | .c T x=>.v T x
 | .nil e T=>.own true e T .no []
 | .fn f A C=>.cK f A C []
structure jE where
 wr:Bool
 e:TypeId
 T:Ty
 o:aw
 xs:List (den T)
def a8 (env:Env) (s:Nat) (p:Path):Option jE:=
 match look env s with
 | .own wr e T o xs=>match p with | []=>some ⟨wr,e,T,o,xs⟩ | _=>none
 | .loc T o x=>match bU o p,aF T p x with
   | .own wr e o',some ⟨.sl T',xs⟩=>some ⟨wr,e,T',o',xs⟩
   | _,_=>none
 | _=>none
structure ay where
 run:FuncId→List E→Option (List E)
 runK:{R:Type}→FuncId→List E→(List E→Option R)→Option R
 eqn:∀ {R:Type} (f:FuncId) (es:List E) (k:List E→Option R),runK f es k=(run f es).bind k
instance:CoeFun ay (fun _=>FuncId→List E→Option (List E)):=⟨ay.run⟩
def ay.of (g:FuncId→List E→Option (List E)):ay:=⟨g,fun f es k=>(g f es).bind k,fun _ _ _=>rfl⟩
def unpack:(A:Ty)→den A→List E
 | .pair A B,x=>.v A x.1::unpack B x.2
 | _,_=> []
def jA (C:Ty):List E→Option (den C)
 | [.v T x]=>bh C ⟨T,x⟩
 | _=>none
def cO (env:Env):E→Option E
 | .v T x=>some (.v T x)
 | .own _ _ T o xs=>if o.pure then some (.v (.sl T) xs) else none
 | .ref s p=>(a8 env s p).bind fun h=>if h.o.pure then some (.v (.sl h.T) h.xs) else none
 | .at T x=>some (.at T x)
 | .ptr s p=>match look env s with
   | .loc T o x=>if (bU o p).whole then (aF T p x).bind fun y=>some (.at y.1 y.2) else none
   | _=>none
 | .cN s p i q=>(a8 env s p).bind fun h=>if h.o.pure&&decide (i < h.xs.length) then (aF h.T q (h.xs.getD i (zero h.T))).bind fun y=>some (.at y.1 y.2) else none
 | _=>none
def gW (env:Env):List E→Option (List E)
 | []=>some []
 | e::r=>(cO env e).bind fun x=>(gW env r).bind fun y=>some (x::y)
def cS (env:Env) (e:E):Option TV:=
 match e with
 | .v T x=>some ⟨T,x⟩
 | .own _ _ T o xs=>if o.pure then some ⟨.sl T,xs⟩ else none
 | .ref s p=>(a8 env s p).bind fun h=>if h.o.pure then some ⟨.sl h.T,h.xs⟩ else none
 | _=>none
def ju (cl:ay) (env:Env) (f:FuncId) (A C:Ty) (caps:List E):Option E:=
 if b7 C then (gW env caps).bind fun cs=>some (.v (.fn A C) fun x=>(cl f (unpack A x++cs)).bind (jA C)) else none
def fa (k:Od) (e:E):Option Nat:=
 match e with
 | .own .. =>match k with | .t k=>some k | _=>none
 | .ref s _ | .ptr s _ | .cN s _ _ _=>some s
 | .loc .. =>match k with | .t k=>some k | _=>none
 | _=>none
def dM (env:Env) (k:Od):Option (Env×TV):=
 (cS env (au env k)).bind fun y=>some (match fa k (au env k) with | some s=>freeze env s | none=>env,y)
def ad {α:Type} (b:Bool) (x y:α):α:=match b with | true=>x | false=>y
def arith (op:BinOp) (k:IntKind) (x y:Int):Option Int:=
 match op with
 | .add=>some (k.wrap (x+y))
 | .sub=>some (k.wrap (x - y))
 | .mul=>some (k.wrap (x * y))
 | .and=>some (Go.bits .and k x y)
 | .or=>some (Go.bits .or k x y)
 | .xor=>some (Go.bits .xor k x y)
 | .andNot=>some (Go.bits .andNot k x y)
 | _=>none
def nE (l:Bool) (k:IntKind) (m n:Int):Int:=match l with
 | true=>k.wrap (m * 2 ^ (min n.toNat k.bits))
 | false=>m.fdiv (2 ^ (min n.toNat k.bits))
def zC (op:BinOp) (x y:Int):Option Bool:=
 match op with
 | .eql=>some (x==y)
 | .neq=>some (x != y)
 | .lss=>some (decide (x < y))
 | .leq=>some (decide (x≤y))
 | .gtr=>some (decide (x > y))
 | .geq=>some (decide (x≥y))
 | _=>none
end Go.Fw
/- The abstract value machine: operations whose order is open, read through a reader that fails on what is dead. -/
namespace Go.Fw
open Go Go.RowKit
def Sub (L L':Nat→E):Prop:=∀ k,L k=.dead∨L' k=L k
structure Rd (α:Type) where
 run:(Nat→E)→Option α
 runK:{R:Type}→(Nat→E)→(α→Option R)→Option R
 mono:∀ L L' x,Sub L L'→run L=some x→run L'=some x
 eqn:∀ {R:Type} (L:Nat→E) (k:α→Option R),runK L k=(run L).bind k
namespace Rd
def ok {α:Type} (x:α):Rd α:=⟨fun _=>some x,fun _ k=>k x,fun _ _ _ _ h=>h,fun _ _=>rfl⟩
def no {α:Type}:Rd α:=⟨fun _=>none,fun _ _=>none,fun _ _ _ _ h=>h,fun _ _=>rfl⟩
def of {α:Type} (x:Option α):Rd α:=⟨fun _=>x,fun _ k=>x.bind k,fun _ _ _ _ h=>h,fun _ _=>rfl⟩
def jU:E→Option E
 | .dead=>none
 | e=>some e
def get (k:Nat):Rd E:=⟨fun L=>jU (L k),fun L c=>(jU (L k)).bind c,fun L L' x hs h=>by
 rcases hs k with h1 | h1
 ·rw [h1] at h; simp [jU] at h
 ·rw [h1]; exact h,fun _ _=>rfl⟩
def bind {α β:Type} (a:Rd α) (f:α→Rd β):Rd β:=⟨fun L=>(a.run L).bind fun x=>(f x).run L,fun L k=>a.runK L fun x=>(f x).runK L k,fun L L' x hs h=>by
 obtain ⟨y,hy,h⟩:=aj.1 h
 exact aj.2 ⟨y,a.mono L L' y hs hy,(f y).mono L L' x hs h⟩,fun L k=>by
 rw [a.eqn,mI]; congr 1; funext x; exact (f x).eqn L k⟩
def ite {α:Type} (p:Prop) [Decidable p] (a b:Rd α):Rd α:=⟨fun L=>if p then a.run L else b.run L,fun L k=>if p then a.runK L k else b.runK L k,fun L L' x hs h=>by
 split
 ·rename_i hp; rw [if_pos hp] at h; exact a.mono L L' x hs h
 ·rename_i hp; rw [if_neg hp] at h; exact b.mono L L' x hs h,fun L k=>by
 split
 ·exact a.eqn L k
 ·exact b.eqn L k⟩
def br {α:Type} (q:Bool) (a b:Rd α):Rd α:=⟨fun L=>ad q (a.run L) (b.run L),fun L k=>ad q (a.runK L k) (b.runK L k),fun L L' x hs h=>by
 cases q
 ·exact b.mono L L' x hs h
 ·exact a.mono L L' x hs h,fun L k=>by
 cases q
 ·exact b.eqn L k
 ·exact a.eqn L k⟩
def call (cl:ay) (f:FuncId) (es:List E):Rd (List E):=⟨fun _=>cl f es,fun _ k=>cl.runK f es k,fun _ _ _ _ h=>h,fun _ k=>cl.eqn f es k⟩
end Rd
def dw:Od→Rd E
 | .t k=>.get k
 | .c T x=>.ok (.v T x)
 | .nil e T=>.ok (.own true e T .no [])
 | .fn f A C=>.ok (.cK f A C [])
def AU (e:E) (p:Path):Option jE:=
 match e with
 | .own wr e T o xs=>match p with | []=>some ⟨wr,e,T,o,xs⟩ | _=>none
 | .loc T o x=>match bU o p,aF T p x with
   | .own wr e o',some ⟨.sl T',xs⟩=>some ⟨wr,e,T',o',xs⟩
   | _,_=>none
 | _=>none
def ly (s:Nat) (p:Path):Rd jE:=(Rd.get s).bind fun e=>.of (AU e p)
def JE (p:Path):E→Option E
 | .loc T o x=>if (bU o p).whole then (aF T p x).bind fun y=>some (.at y.1 y.2) else none
 | _=>none
def xG:E→Rd E
 | .v T x=>.ok (.v T x)
 | .own _ _ T o xs=>.of (if o.pure then some (.v (.sl T) xs) else none)
 | .ref s p=>(ly s p).bind fun h=>.of (if h.o.pure then some (.v (.sl h.T) h.xs) else none)
 | .at T x=>.ok (.at T x)
 | .ptr s p=>(Rd.get s).bind fun e=>.of (JE p e)
 | .cN s p i q=>(ly s p).bind fun h=>.of (if h.o.pure&&decide (i < h.xs.length) then (aF h.T q (h.xs.getD i (zero h.T))).bind fun y=>some (.at y.1 y.2) else none)
 | _=>.no
def pU:List E→Rd (List E)
 | []=>.ok []
 | e::r=>(xG e).bind fun x=>(pU r).bind fun y=>.ok (x::y)
def wz:E→Rd TV
 | .v T x=>.ok ⟨T,x⟩
 | .own _ _ T o xs=>.of (if o.pure then some ⟨.sl T,xs⟩ else none)
 | .ref s p=>(ly s p).bind fun h=>.of (if h.o.pure then some ⟨.sl h.T,h.xs⟩ else none)
 | _=>.no
def zB (cl:ay) (f:FuncId) (A C:Ty) (caps:List E):Rd E:=
 if b7 C then (pU caps).bind fun cs=>.ok (.v (.fn A C) fun x=>(cl f (unpack A x++cs)).bind (jA C)) else .no
theorem dC (env:Env) (x:Od):(dw x).run (look env)=Rd.jU (au env x):=by
 cases x<;>rfl
theorem We (env:Env) (s:Nat) (p:Path):a8 env s p=AU (look env s) p:=by
 unfold a8 AU
 rfl
theorem rC (env:Env) (s:Nat) (p:Path):(ly s p).run (look env)=a8 env s p:=by
 rw [We]
 show (Rd.jU (look env s)).bind (fun e=>AU e p)=_
 cases look env s<;>rfl
theorem JH (env:Env) (e:E):(xG e).run (look env)=cO env e:=by
 cases e<;>try rfl
 ·rename_i s p
  show ((ly s p).run (look env)).bind _=_
  rw [rC]; rfl
 ·rename_i s p
  show (Rd.jU (look env s)).bind (fun e=>JE p e)=_
  simp only [cO]
  cases look env s<;>rfl
 ·rename_i s p i q
  show ((ly s p).run (look env)).bind _=_
  rw [rC]; rfl
theorem BY (env:Env):∀ (es:List E),(pU es).run (look env)=gW env es
 | []=>rfl
 | e::r=>by
   show ((xG e).run (look env)).bind (fun x=>((pU r).run (look env)).bind fun y=>some (x::y))=_
   rw [JH,BY env r]; rfl
theorem AY (env:Env) (e:E):(wz e).run (look env)=cS env e:=by
 cases e<;>try rfl
 rename_i s p
 show ((ly s p).run (look env)).bind _=_
 rw [rC]; rfl
theorem NW (cl:ay) (env:Env) (f:FuncId) (A C:Ty) (caps:List E):(zB cl f A C caps).run (look env)=ju cl env f A C caps:=by
 unfold zB ju
 split
 ·show ((pU caps).run (look env)).bind _=_
  rw [BY]; rfl
 ·rfl
end Go.Fw
/- The abstract value machine, part 3: steps, code, calls. -/
namespace Go.Fw
open Go Go.RowKit
inductive pE where
 | mv (x:Od)
 | ab (x:Od)
 | pick (c a b:Od)
 | alloc (T:Ty) (o:aw)
 | box (T:Ty) (x:Od)
 | build (T:Ty) (parts:List (Path×Od))
 | jH (T:Ty) (o:aw) (parts:List (Path×Od))
 | buildSlice (e:TypeId) (T:Ty) (parts:List Od)
 | load (T:Ty) (a:Od)
 | store (T:Ty) (a x:Od)
 | bin (op:BinOp) (x y:Od)
 | un (op:UnOp) (x:Od)
 | mc (k:IntKind) (x:Od)
 | fieldAddr (S:Ty) (p:Path) (a:Od)
 | indexAddr (T:Ty) (x i:Od)
 | wC (n:Nat) (T:Ty) (x i:Od)
 | field (S:Ty) (p:Path) (x:Od)
 | dE (x i:Od)
 | wB (n:Nat) (T:Ty) (x i:Od)
 | iI (x:Od) (lo hi:Option Od)
 | lO (T:Ty) (x:Od) (lo hi mx:Option Od)
 | mn (neg:Bool) (T:Ty) (x y:Od)
 | mkSlice (e:TypeId) (T:Ty) (lim:Nat) (len cap:Od)
 | append (e:TypeId) (T:Ty) (lim:Nat) (s x:Od)
 | bO (x:Od)
 | ba (x:Od)
 | wF (n:Nat)
 | mm (max:Bool) (x y:Od)
 | call (f:FuncId) (args:List Od)
 | mS (x:Od) (args:List Od)
 | extract (k:Nat) (i:Nat)
 | pg (f:FuncId) (A C:Ty) (caps:List Od)
 | Bm (x:Od)
 | du (k:Nat)
 | bad
 | jf (x:Od)
 | pB (x:Od)
 | toStr (x:Od)
 | s7 (f:FuncId) (args:List Od)
 | Fe (f:FuncId) (args:List Od)
 | cp (x:Od)
 | I5 (f:FuncId) (x:Od)
 | kg (f:FuncId) (p:Od) (args:List Od)
 | wP (t e:TypeId)
 | hZ (f:FuncId) (k:Nat) (x:Od)
 | ji (f:FuncId) (k:Nat)
 | shift (l:Bool) (x y:Od)
 | bN (f:FuncId) (x g:Od)
 | iD (f:FuncId) (x g:Od)
 | Bb (K V:Ty)
 | xM (T:Ty) (p:Path) (k:Nat) (parts:List (Path×Od))
 | xL (T:Ty) (k:Nat)
 | Ba (K V:Ty) (x y:Od)
 | Bc (K V:Ty) (x y z:Od)
structure AI where
 dst:Option Nat
 op:pE
 guard:Option (Nat×Bool):=none
abbrev cH (R:Type):=Env→Option R
def Od.slot:Od→Option Nat | .t k=>some k | _=>none
def jP:E→Option (IntKind×Int)
 | .v (.int k) n=>some (k,n)
 | _=>none
def ma:E→Option Bool
 | .v .bool b=>some b
 | _=>none
def lQ:E→Option (List UInt8)
 | .v .str s=>some s
 | _=>none
def lH (env:Env):Option Od→Option (Option Int)
 | none=>some none
 | some x=>(jP (au env x)).bind fun q=>some (some q.2)
def oC:E→E
 | .own _ e T o xs=>.own false e T o.bn xs
 | e=>e
def UB:E→E
 | .cC es=>.cC (es.map oC)
 | e=>oC e
def oD (d:Option Nat) (env:Env):Env:=match d,env with
 | some _,(k,e)::r=>(k,UB e)::r
 | _,env=>env
def eZ (x:Od) (e:E):E:=
 match e with
 | .own .. =>match x with | .t k=>.ref k [] | _=>e
 | .loc .. =>match x with | .t k=>.ptr k [] | _=>e
 | .cC _=>.dead
 | .it _ _ | .sb _ _ _ | .nm _ _ _=>.dead
 | _=>e
def ny (env:Env) (d:Option Nat) (x:Od):Env:=
 match au env x with
 | .cC es=>match x,d with
   | .t k,some d=>if k==d then env else (d,.cC es)::(k,.dead)::(if (look env d).home then kill d env else env)
   | _,_=>aK env d .dead
 | e=>aK env d (eZ x e)
def assign (env:Env) (d:Nat) (x:Od):Env:=
 match au env x with
 | .own wr e T o xs=>match x with
   | .t k=>if k==d then env else
     let env:=if (look env d).home then kill d env else env
     (d,.own wr e T o xs)::(k,.ref d [])::r7 k d env
   | _=>put env d (.own wr e T o xs)
 | e=>put env d (eZ x e)
def dL:(T:Ty)→Option (den T→den T→Bool)
 | .int _=>some fun x y=>x==y
 | .bool=>some fun x y=>x==y
 | .str=>some fun x y=>x==y
 | .unit=>some fun _ _=>true
 | .pair A B=>match dL A,dL B with
   | some f,some g=>some fun x y=>f x.1 y.1&&g x.2 y.2
   | _,_=>none
 | _=>none
def gX:(T:Ty)→den T→Env→List (Path×Od)→Option (Env×den T)
 | _,x,env,[]=>some (env,x)
 | T,x,env,(p,a)::r=>(dM env a).bind fun q=>(aZ T p x q.2).bind fun y=>gX T y q.1 r
def mR (T:Ty):Env→List Od→Option (Env×List (den T))
 | env,[]=>some (env,[])
 | env,a::r=>(dM env a).bind fun q=>(bh T q.2).bind fun x=>(mR T q.1 r).bind fun z=>some (z.1,x::z.2)
def fu (cl:ay) (env:Env):List Od→Option (List E)
 | []=>some []
 | a::r=>
   (match au env a with
    | .loc T o x=>if o.whole then some (E.at T x) else none
    | .cK f A C caps=>ju cl env f A C caps
    | e=>cO env e).bind fun x=>(fu cl env r).bind fun y=>some (x::y)
def jb (env:Env):List Od→Env
 | []=>env
 | a::r=>jb (match fa a (au env a) with | some s=>freeze env s | none=>env) r
def E.plain:E→Bool
 | .v T _=>b7 T
 | .own _ _ T _ _=>b7 T
 | _=>false
def eg:List E→E
 | [e]=>e
 | es=>.cC es
def tuple:(A:Ty)→List E→Option (den A)
 | .unit,[]=>some ()
 | .pair A B,.v T x::r=>(bh A ⟨T,x⟩).bind fun y=>(tuple B r).bind fun z=>some (y,z)
 | _,_=>none
variable {R:Type}
def ef (env:Env) (y:Od):Option (Nat×Path):=
 match au env y with
 | .ptr s p=>some (s,p)
 | .loc .. =>y.slot.map fun k=>(k,[])
 | _=>none
def placeOf (env:Env) (k0:Nat):Option (Nat×Path):=
 match look env k0 with
 | .own .. =>some (k0,[])
 | .ref k p=>some (k,p)
 | _=>none
def sw (env:Env) (k:Nat) (p:Path):Option Env:=
 match look env k with
 | .own .. =>some ((k,.dead)::kill k env)
 | .loc T0 o x0=>some ((k,.loc T0 (eI o p .hole) x0)::jc k env)
 | _=>none
def apart (d:Option Nat) (k:Nat):Bool:=match d with | some d=>!(d==k) | none=>false
def E.cap:E→Bool
 | .cC _ | .cK _ _ _ _ | .own .. | .it _ _ | .sb _ _ _ | .nm _ _ _=>false
 | _=>true
def wY:E→Option TV
 | .v T x=>some ⟨T,x⟩
 | _=>none
def pq (env:Env):Od→Option Nat
 | .t k=>match look env k with
   | .own .. =>some k
   | .ref s []=>some s
   | _=>none
 | _=>none
def po:List E→Option TV
 | [.own _ _ T _ ys]=>some ⟨.sl T,ys⟩
 | _=>none
def jR (o:aw) (s:Nat) (env:Env):Env:=match o.pure with | true=>env | false=>jc s env
def rX:E→Bool
 | .v T _=>ea T
 | .dead=>true
 | _=>false
def A5 (T:Ty):List E→Option (aw×den T×List E)
 | .loc T' o x::rs=>(match ea T with | true=>(bh T ⟨T',x⟩).bind fun x=>some (o,x,rs) | false=>none)
 | _=>none
def SD:List E→Option (List UInt8)
 | [.sb _ _ s]=>some s
 | _=>none
def S4:List E→Option (List UInt8)
 | [.v .str s]=>some s
 | _=>none
def hX {α β:Type} (f:α→α→Bool) (z:β):List (α×β)→α→β×Bool
 | [],_=>(z,false)
 | e::r,k=>match f k e.1 with | true=>(e.2,true) | false=>hX f z r k
def iF {α β:Type} (f:α→α→Bool):List (α×β)→α→β→List (α×β)
 | [],k,v=> [(k,v)]
 | e::r,k,v=>match f k e.1 with | true=>(k,v)::r | false=>e::iF f r k v
def step (cl:ay) (i:AI) (env:Env) (K:cH R):Option R:=
 match i.op with
 | .mv x=>K (ny env i.dst x)
 | .ab x=>match i.dst with | some d=>K (assign env d x) | none=>none
 | .pick c a b=>(ma (au env c)).bind fun q=>ad q (K (aK env i.dst (eZ a (au env a)))) (K (aK env i.dst (eZ b (au env b))))
 | .alloc T o=>K (aK env i.dst (.loc T o (zero T)))
 | .box T x=>(dM env x).bind fun q=>(bh T q.2).bind fun y=>K (aK q.1 i.dst (.loc T .no y))
 | .build T parts=>(gX T (zero T) env parts).bind fun q=>K (aK q.1 i.dst (.v T q.2))
 | .jH T o parts=>(gX T (zero T) env parts).bind fun q=>K (aK q.1 i.dst (.nw T (pS o parts) q.2))
 | .buildSlice e T parts=>(mR T env parts).bind fun q=>K (aK q.1 i.dst (.own true e T .no q.2))
 | .load T a=>match au env a with
   | .at T' x=>(bh T ⟨T',x⟩).bind fun y=>K (aK env i.dst (.v T y))
   | .cN s p j q=>(a8 env s p).bind fun h=>if j < h.xs.length then
     (if h.o.pure then (aF h.T q (h.xs.getD j (zero h.T))).bind fun z=>(bh T z).bind fun y=>K (aK env i.dst (.v T y)) else none) else none
   | _=>match ef env a with
     | some (s,p)=>match look env s with
       | .loc T0 o x=>match bU o p with
         | .own .. =>match aF T0 p x with
           | some ⟨.sl T',_⟩=>if T=.sl T' then K (aK env i.dst (.ref s p)) else none
           | _=>none
         | .mp=>match aF T0 p x with
           | some ⟨.map K' V',_⟩=>if T=.map K' V' then K (aK env i.dst (.ref s p)) else none
           | _=>none
         | b=>if b.whole then (aF T0 p x).bind fun z=>(bh T z).bind fun y=>
            K (aK (if b.pure then env else freeze env s) i.dst (.v T y)) else none
       | _=>none
     | none=>none
 | .store T a x=>match au env a with
   | .cN s p j q=>match look env s with
     | .own true e T0 o xs=>match p with
       | []=>(dM env x).bind fun y=>(bh T y.2).bind fun z=>if j < xs.length then
         (aZ T0 q (xs.getD j (zero T0)) ⟨T,z⟩).bind fun u=>(match look y.1 s with | .own true .. =>some () | _=>none).bind fun _=>if o.pure then K ((s,.own true e T0 o (xs.set j u))::y.1) else none else none
       | _=>none
     | .loc .. =>(dM env x).bind fun y=>(bh T y.2).bind fun z=>match look y.1 s with
       | .loc T0 o x0=>(match bU o p,aF T0 p x0 with
         | .own true _ o',some ⟨.sl T1,xs⟩=>if j < xs.length then (aZ T1 q (xs.getD j (zero T1)) ⟨T,z⟩).bind fun u=>(aZ T0 p x0 ⟨.sl T1,xs.set j u⟩).bind fun x1=>
           if o'.pure then K ((s,.loc T0 o x1)::y.1) else none else none
         | _,_=>none)
       | _=>none
     | _=>none
   | _=>match ef env a with
     | some (s,p)=>match look env s with
       | .loc T0 o x0=>
         if (b7 T) then
          (cS env (au env x)).bind fun y=>(bh T y).bind fun z=>(aZ T0 p x0 ⟨T,z⟩).bind fun x1=>K ((s,.loc T0 o x1)::env)
         else match au env x with
         | .own wr e T1 o1 xs=>match x with
           | .t k=>(bh T ⟨.sl T1,xs⟩).bind fun z=>(aZ T0 p x0 ⟨T,z⟩).bind fun x1=>match cc p with
             | true=>none
             | false=>K ((s,.loc T0 (eI o p (.own wr e o1)) x1)::(k,.ref s p)::jc s (kill k env))
           | _=>(bh T ⟨.sl T1,xs⟩).bind fun z=>(aZ T0 p x0 ⟨T,z⟩).bind fun x1=>match cc p with
             | true=>none
             | false=>K ((s,.loc T0 (eI o p (.own wr e o1)) x1)::jc s env)
         | .nw T1 o1 x2=>(bh T ⟨T1,x2⟩).bind fun z=>(aZ T0 p x0 ⟨T,z⟩).bind fun x1=>match cc p || !o1.whole with
           | true=>none
           | false=>K ((s,.loc T0 (eI o p o1) x1)::jc s env)
         | _=>(dM env x).bind fun y=>(bh T y.2).bind fun z=>match look y.1 s with
           | .loc T0 o x0=>(aZ T0 p x0 ⟨T,z⟩).bind fun x1=>match (bU o p).pure with
             | true=>K ((s,.loc T0 o x1)::y.1)
             | false=>K ((s,.loc T0 (eI o p .no) x1)::jc s y.1)
           | _=>none
       | _=>none
     | none=>none
 | .bin op x y=>match au env x,au env y with
   | .v (.int k) m,.v (.int k') n=>if k=k' then
     (match op with
      | .quo=>if n=0 then none else K (aK env i.dst (.v (.int k) (k.wrap (m.tdiv n))))
      | .rem=>if n=0 then none else K (aK env i.dst (.v (.int k) (m.tmod n)))
      | _=>match zC op m n with
        | some b=>K (aK env i.dst (.v .bool b))
        | none=>(arith op k m n).bind fun r=>K (aK env i.dst (.v (.int k) r))) else none
   | .v .str s,.v .str t=>match op with
     | .eql=>K (aK env i.dst (.v .bool (s==t)))
     | .neq=>K (aK env i.dst (.v .bool (s != t)))
     | .add=>if s.length+t.length≤140737488355328 then K (aK env i.dst (.v .str (s++t))) else none
     | .lss=>K (aK env i.dst (.v .bool (Op.bytesLess s t)))
     | .leq=>K (aK env i.dst (.v .bool (Op.bytesLess s t || s==t)))
     | .gtr=>K (aK env i.dst (.v .bool (!(Op.bytesLess s t || s==t))))
     | .geq=>K (aK env i.dst (.v .bool (!Op.bytesLess s t)))
     | _=>none
   | _,_=>none
 | .mn neg T x y=>(cS env (au env x)).bind fun s=>(cS env (au env y)).bind fun t=>(bh T s).bind fun s=>(bh T t).bind fun t=>(dL T).bind fun f=>
   K (aK env i.dst (.v .bool (if neg then !f s t else f s t)))
 | .un op x=>match op,au env x with
   | .not,.v .bool b=>K (aK env i.dst (.v .bool (!b)))
   | .neg,.v (.int k) n=>K (aK env i.dst (.v (.int k) (k.wrap (0 - n))))
   | _,_=>none
 | .shift l x y=>match au env x,au env y with
   | .v (.int k) m,.v (.int _) n=>if 0≤n then K (aK env i.dst (.v (.int k) (nE l k m n))) else none
   | _,_=>none
 | .mc k x=>(jP (au env x)).bind fun q=>K (aK env i.dst (.v (.int k) (k.wrap q.2)))
 | .fieldAddr S p a=>match au env a with
   | .at T x=>(bh S ⟨T,x⟩).bind fun x=>(aF S p x).bind fun y=>K (aK env i.dst (.at y.1 y.2))
   | .ptr s q=>match look env s with
     | .loc T0 _ _=>if cM T0 q=some S then K (aK env i.dst (.ptr s (q++p))) else none
     | _=>none
   | .cN s q j r=>(a8 env s q).bind fun h=>if cM h.T r=some S then K (aK env i.dst (.cN s q j (r++p))) else none
   | .loc T0 _ _=>if T0=S then a.slot.bind fun k=>K (aK env i.dst (.ptr k p)) else none
   | _=>none
 | .indexAddr T x ix=>(jP (au env ix)).bind fun q=>match au env x with
   | .v T' xs=>(bh (.sl T) ⟨T',xs⟩).bind fun xs=>if 0≤q.2∧q.2 < (xs.length:Int) then K (aK env i.dst (.at T (xs.getD q.2.toNat (zero T)))) else none
   | .own _ _ T' _ xs=>if T'=T then x.slot.bind fun s=>if 0≤q.2∧q.2 < (xs.length:Int) then K (aK env i.dst (.cN s [] q.2.toNat [])) else none else none
   | .ref s p=>(a8 env s p).bind fun h=>if h.T=T then if 0≤q.2∧q.2 < (h.xs.length:Int) then K (aK env i.dst (.cN s p q.2.toNat [])) else none else none
   | _=>none
 | .wC n T x ix=>(jP (au env ix)).bind fun q=>match au env x with
   | .at T' xs=>(bh (.arr n T) ⟨T',xs⟩).bind fun xs=>if 0≤q.2∧q.2 < (n:Int) then K (aK env i.dst (.at T (xs.getD q.2.toNat (zero T)))) else none
   | _=>match ef env x with
     | some (s,p)=>match look env s with
       | .loc T0 _ _=>if cM T0 p=some (.arr n T) then if 0≤q.2∧q.2 < (n:Int) then K (aK env i.dst (.ptr s (p++[.ix q.2.toNat]))) else none else none
       | _=>none
     | none=>none
 | .field S p x=>(cS env (au env x)).bind fun y=>(bh S y).bind fun y=>(aF S p y).bind fun z=>K (aK env i.dst (.v z.1 z.2))
 | .dE x ix=>(jP (au env ix)).bind fun q=>(lQ (au env x)).bind fun s=>
   if 0≤q.2∧q.2 < (s.length:Int) then K (aK env i.dst (.v (.int .u8) ((s.getD q.2.toNat 0).toNat:Int))) else none
 | .wB n T x ix=>(jP (au env ix)).bind fun q=>match au env x with
   | .v T' xs=>(bh (.arr n T) ⟨T',xs⟩).bind fun xs=>if 0≤q.2∧q.2 < (n:Int) then K (aK env i.dst (.v T (xs.getD q.2.toNat (zero T)))) else none
   | _=>none
 | .iI x lo hi=>(lH env lo).bind fun lo=>(lH env hi).bind fun hi=>(lQ (au env x)).bind fun s=>
   if 0≤lo.getD 0∧lo.getD 0≤hi.getD (s.length:Int)∧hi.getD (s.length:Int)≤(s.length:Int) then
    K (aK env i.dst (.v .str ((s.drop (lo.getD 0).toNat).take ((hi.getD (s.length:Int)).toNat - (lo.getD 0).toNat)))) else none
 | .lO T x lo hi mx=>(lH env lo).bind fun lo=>(lH env hi).bind fun hi=>(lH env mx).bind fun mx=>(dM env x).bind fun y=>(bh (.sl T) y.2).bind fun xs=>
   if 0≤lo.getD 0∧lo.getD 0≤hi.getD (xs.length:Int)∧hi.getD (xs.length:Int)≤mx.getD (xs.length:Int)∧mx.getD (xs.length:Int)≤(xs.length:Int) then
    K (aK y.1 i.dst (.v (.sl T) ((xs.drop (lo.getD 0).toNat).take ((hi.getD (xs.length:Int)).toNat - (lo.getD 0).toNat)))) else none
 | .mkSlice e T lim l c=>match au env l,au env c with
   | .v (.int .i64) m,.v (.int .i64) n=>if 0≤m∧m≤n∧n≤(lim:Int) then K (aK env i.dst (.own true e T .no (gG m.toNat (zero T)))) else none
   | _,_=>none
 | .append e T lim s x=>(dM env x).bind fun y=>(bh (.sl T) y.2).bind fun ys=>match s with
   | .nil e' _=>if e=e' then if ys.length≤lim then K (aK y.1 i.dst (.own true e T .no ys)) else none else none
   | .t k0=>(placeOf y.1 k0).bind fun q=>(a8 y.1 q.1 q.2).bind fun h=>(bh (.sl T) ⟨.sl h.T,h.xs⟩).bind fun xs=>(sw y.1 q.1 q.2).bind fun env2=>
     match apart i.dst q.1&&h.o.pure&&(h.e==e) with
     | true=>if xs.length+ys.length≤lim then K (aK env2 i.dst (.own h.wr e T .no (xs++ys))) else none
     | false=>none
   | _=>none
 | .bO x=>(lQ (au env x)).bind fun s=>K (aK env i.dst (.v (.int .i64) (s.length:Int)))
 | .ba x=>(cS env (au env x)).bind fun y=>match y with
   | ⟨.sl _,xs⟩=>K (aK env i.dst (.v (.int .i64) (xs.length:Int)))
   | _=>none
 | .wF m=>K (aK env i.dst (.v (.int .i64) (m:Int)))
 | .mm mx x y=>match au env x,au env y with
   | .v (.int k) m,.v (.int k') n=>if k=k' then K (aK env i.dst (.v (.int k) (if mx then (if n > m then n else m) else (if n < m then n else m)))) else none
   | _,_=>none
 | .call f args=>(fu cl env args).bind fun as=>cl.runK f as fun res=>
   K (aK (if res.all E.plain then env else jb env args) i.dst (eg res))
 | .s7 f args=>(fu cl env args).bind fun as=>cl.runK f as fun res=>
   K (oD i.dst (aK (if res.all E.plain then env else jb env args) i.dst (eg res)))
 | .Fe f args=>(fu cl env args).bind fun as=>cl.runK f (.dead::as) fun res=>
   K (aK (if res.all E.plain then env else jb env args) i.dst (eg res))
 | .cp x=>(dM env x).bind fun q=>K (aK q.1 i.dst (.v q.2.1 q.2.2))
 | .I5 f x=>(pq env x).bind fun s=>match look env s with
   | .own true e T .no xs=>if b7 T&&!(e==gD) then cl.runK f [.bE,.own true e T .no xs] fun res=>
     (po res).bind fun y=>(bh (.sl T) y).bind fun ys=>K (aK ((s,.own true e T .no ys)::env) i.dst (.cC [])) else none
   | _=>none
 | .kg f p args=>(ef env p).bind fun q=>match q.2 with
   | []=>(fu cl env args).bind fun as=>match as.all rX&&apart i.dst q.1 with
     | true=>(match look (jb env args) q.1 with
       | .loc T o x=>cl.runK f (.loc T o x::as) fun res=>(A5 T res).bind fun y=>
         K (aK ((q.1,.loc T y.1 y.2.1)::jR o q.1 (jb env args)) i.dst (eg y.2.2))
       | _=>none)
     | false=>none
   | _=>none
 | .Bb K0 V0=>K (aK env i.dst (.nm (.map K0 V0) .mp []))
 | .xM T p k parts=>(gX T (zero T) env parts).bind fun q=>match look q.1 k with
   | .nm T' .mp x'=>(match cc p || !apart i.dst k with
     | false=>(aZ T p q.2 ⟨T',x'⟩).bind fun y=>K (aK ((k,.dead)::q.1) i.dst (.nm T (eI .no p .mp) y))
     | true=>none)
   | _=>none
 | .xL T k=>match look env k with
   | .nm T' o x=>(bh T ⟨T',x⟩).bind fun y=>match apart i.dst k&&o.whole with
     | true=>K (aK ((k,.dead)::env) i.dst (.loc T o y))
     | false=>none
   | _=>none
 | .Ba K0 V0 x y=>match au env x with
   | .ref s p=>match look env s with
     | .loc T0 o x0=>match bU o p with
       | .mp=>(aF T0 p x0).bind fun z=>(bh (.map K0 V0) z).bind fun xs=>(cS env (au env y)).bind fun k=>(bh K0 k).bind fun k=>(dL K0).bind fun f=>
         K (aK env i.dst (.cC [.v V0 (hX f (zero V0) xs k).1,.v .bool (hX f (zero V0) xs k).2]))
       | _=>none
     | _=>none
   | _=>none
 | .Bc K0 V0 x y z=>match au env x with
   | .ref s p=>match look env s with
     | .loc T0 o x0=>match bU o p with
       | .mp=>(aF T0 p x0).bind fun u=>(bh (.map K0 V0) u).bind fun xs=>(cS env (au env y)).bind fun k=>(bh K0 k).bind fun k=>(cS env (au env z)).bind fun v=>(bh V0 v).bind fun v=>(dL K0).bind fun f=>
         (aZ T0 p x0 ⟨.map K0 V0,iF f xs k v⟩).bind fun x1=>K ((s,.loc T0 o x1)::env)
       | _=>none
     | _=>none
   | _=>none
 | .bN f x g=>match x with
   | .t s=>(match look env s,au env g with
     | .own true e T .no xs,.cK fg A C caps=>(match (env.all fun q=>!leads s q.2)&&apart i.dst s&&!(e==gD) with
       | true=>(ju cl env fg A C caps).bind fun ge=>cl.runK f [.bE,.own true e T .no xs,ge] fun res=>
         (po res).bind fun y=>(bh (.sl T) y).bind fun ys=>K (aK ((s,.dead)::env) i.dst (.own true e T .no ys))
       | false=>none)
     | _,_=>none)
   | _=>none
 | .iD f x g=>(pq env x).bind fun s=>match look env s,au (kill s env) g with
   | .own true e T .no xs,.cK fg A C caps=>(match apart i.dst s&&!(e==gD) with
     | true=>(ju cl (kill s env) fg A C caps).bind fun ge=>cl.runK f [.bE,ge,.own true e T .no xs] fun res=>
       (po res).bind fun y=>(bh (.sl T) y).bind fun ys=>K (aK ((s,.own true e T .no ys)::kill s env) i.dst .dead)
     | false=>none)
   | _,_=>none
 | .wP t e=>K (aK env i.dst (.sb t e []))
 | .hZ f k x=>match look env k with
   | .sb t e s=>(match apart i.dst k with
     | true=>(lQ (au env x)).bind fun u=>cl.runK f [.bE,.sb t e s,.v .str u] fun res=>(SD res).bind fun s'=>K (aK ((k,.sb t e s')::env) i.dst .dead)
     | false=>none)
   | _=>none
 | .ji f k=>match look env k with
   | .sb t e s=>(match apart i.dst k with
     | true=>cl.runK f [.bE,.sb t e s] fun res=>(S4 res).bind fun u=>K (aK ((k,.dead)::env) i.dst (.v .str u))
     | false=>none)
   | _=>none
 | .mS x args=>match au env x with
   | .v (.fn A C) g=>(fu cl env args).bind fun as=>(tuple A as).bind fun a=>(g a).bind fun r=>if b7 C then K (aK env i.dst (.v C r)) else none
   | .cK f _ _ caps=>(fu cl env args).bind fun as=>(gW env caps).bind fun cs=>cl.runK f (as++cs) fun res=>
     if res.all E.plain then K (aK env i.dst (eg res)) else none
   | _=>none
 | .extract k j=>match look env k with
   | .cC es=>match es[j]? with
     | some e=>(match e with
       | .v T x=>K (aK env i.dst (.v T x))
       | .own wr e' T o xs=>match !wr&&o.pure with
         | true=>K (aK env i.dst (.v (.sl T) xs))
         | false=>K (aK ((k,.cC (es.set j .dead))::env) i.dst (.own wr e' T o xs))
       | _=>none)
     | none=>none
   | _=>none
 | .pg f A C caps=>if (caps.all fun a=>(au env a).cap) then K (aK env i.dst (.cK f A C (caps.map fun a=>eZ a (au env a)))) else none
 | .bad=>none
 | .pB x=>(lQ (au env x)).bind fun s=>K (aK env i.dst (.own true gD (.int .u8) .no (s.map fun b=>(b.toNat:Int))))
 | .toStr x=>(cS env (au env x)).bind fun y=>(bh (.sl (.int .u8)) y).bind fun xs=>K (aK env i.dst (.v .str (xs.map fun n=>UInt8.ofNat n.toNat)))
 | .jf x=>match au env x with
   | .ptr .. | .cN .. | .at .. | .loc .. =>K (aK env i.dst (eZ x (au env x)))
   | _=>none
 | .Bm x=>(lQ (au env x)).bind fun s=>K (aK env i.dst (.it s 0))
 | .du k=>match look env k with
   | .it s pos=>ad (decide (pos < s.length)) (K (aK ((k,.it s (pos+(Utf8.decode ⟨⟨s⟩⟩ pos).2))::env) i.dst (.cC [.v .bool true,.v (.int .i64) (pos:Int),.v (.int .i32) ((Utf8.decode ⟨⟨s⟩⟩ pos).1:Int)]))) (K (aK env i.dst (.cC [.v .bool false])))
   | _=>none
def wv (g:Option (Nat×Bool)) (env:Env) (yes no:cH R):Option R:=
 match g with
 | none=>yes env
 | some (s,pol)=>match look env s with
   | .v .bool b=>ad b ((if pol then yes else no) ((s,.v .bool true)::env)) ((if pol then no else yes) ((s,.v .bool false)::env))
   | .bE=>no env
   | _=>none
def ops (cl:ay):List AI→Env→cH R→Option R
 | [],env,K=>K env
 | i::r,env,K=>wv i.guard env (fun env=>step cl i env (fun env=>ops cl r env K)) (fun env=>ops cl r (aK env i.dst .bE) K)
def RF (d:Nat) (e:E):E:=if leads d e then .dead else e
def one (d:Option Nat) (e:E):List (Nat×E):=match d with | some d=> [(d,RF d e)] | none=> []
def E.nu:E→Bool
 | .own .. | .loc .. | .cC _ | .dead | .it _ _ | .sb _ _ _ | .nm _ _ _=>false
 | _=>true
def Iy (x:Od):Rd E:=(dw x).bind fun e=>if e.nu then .ok e else .no
def N0 (x:Od) (e:E):Option E:=
 match e with
 | .cC _ | .dead | .it _ _ | .sb _ _ _ | .nm _ _ _=>none
 | .own .. | .loc .. =>match x with | .t _=>some (eZ x e) | _=>none
 | e=>some e
def te (x:Od):Rd E:=(dw x).bind fun e=>match N0 x e with | some f=>.ok f | none=>.no
def jQ (x:Od):Rd (IntKind×Int):=(dw x).bind fun e=>.of (jP e)
def B5 (x:Od):Rd Bool:=(dw x).bind fun e=>.of (ma e)
def wU (x:Od):Rd (List UInt8):=(dw x).bind fun e=>.of (lQ e)
def lI:Option Od→Rd (Option Int)
 | none=>.ok none
 | some x=>(jQ x).bind fun q=>.ok (some q.2)
def pC (x:Od):Rd TV:=(dw x).bind fun e=>.of (wY e)
def JM (op:BinOp) (a b:E):Rd E:=
 match a,b with
 | .v (.int k) m,.v (.int k') n=>if k=k' then
   (match op with
    | .quo=>.ite (n=0) .no (.ok (.v (.int k) (k.wrap (m.tdiv n))))
    | .rem=>.ite (n=0) .no (.ok (.v (.int k) (m.tmod n)))
    | _=>match zC op m n with
      | some b=>.ok (.v .bool b)
      | none=>match arith op k m n with
        | some r=>.ok (.v (.int k) r)
        | none=>.no) else .no
 | .v .str s,.v .str t=>match op with
   | .eql=>.ok (.v .bool (s==t))
   | .neq=>.ok (.v .bool (s != t))
   | .add=>.ite (s.length+t.length≤140737488355328) (.ok (.v .str (s++t))) .no
   | .lss=>.ok (.v .bool (Op.bytesLess s t))
   | .leq=>.ok (.v .bool (Op.bytesLess s t || s==t))
   | .gtr=>.ok (.v .bool (!(Op.bytesLess s t || s==t)))
   | .geq=>.ok (.v .bool (!Op.bytesLess s t))
   | _=>.no
 | _,_=>.no
def S8 (op:UnOp) (x:E):Option E:=
 match op,x with
 | .not,.v .bool b=>some (.v .bool (!b))
 | .neg,.v (.int k) n=>some (.v (.int k) (k.wrap (0 - n)))
 | _,_=>none
def IQ (x:Od):Rd ((Nat×Path)×E):=(dw x).bind fun e=>match e with
 | .ptr s p=>(Rd.get s).bind fun f=>.ok ((s,p),f)
 | .loc .. =>match x with | .t k=>.ok ((k,[]),e) | _=>.no
 | _=>.no
def A6 (T:Ty) (s:Nat) (p:Path):E→Rd E
 | .loc T0 o x=>match bU o p with
   | .own .. =>match aF T0 p x with
     | some ⟨.sl T',_⟩=>if T=.sl T' then .ok (.ref s p) else .no
     | _=>.no
   | .mp=>match aF T0 p x with
     | some ⟨.map K' V',_⟩=>if T=.map K' V' then .ok (.ref s p) else .no
     | _=>.no
   | b=>if b.whole&&b.pure then (Rd.of ((aF T0 p x).bind fun z=>bh T z)).bind fun y=>.ok (.v T y) else .no
 | _=>.no
def RM (T:Ty) (j:Nat) (q:Path) (h:jE):Rd E:=
 .ite (j < h.xs.length)
  (if h.o.pure then (Rd.of ((aF h.T q (h.xs.getD j (zero h.T))).bind fun z=>bh T z)).bind fun y=>.ok (.v T y) else .no) .no
def OH (S:Ty) (s:Nat) (q p:Path):E→Option E
 | .loc T0 _ _=>if cM T0 q=some S then some (.ptr s (q++p)) else none
 | _=>none
def xI (n:Nat) (T:Ty) (i:Int) (s:Nat) (p:Path):E→Rd E
 | .loc T0 _ _=>if cM T0 p=some (.arr n T) then .ite (0≤i∧i < (n:Int)) (.ok (.ptr s (p++[.ix i.toNat]))) .no else .no
 | _=>.no
def pY:(T:Ty)→den T→List (Path×Od)→Rd (den T)
 | _,x,[]=>.ok x
 | T,x,(p,a)::r=>(pC a).bind fun q=>(Rd.of (aZ T p x q)).bind fun y=>pY T y r
def sW (T:Ty):List Od→Rd (List (den T))
 | []=>.ok []
 | a::r=>(pC a).bind fun q=>(Rd.of (bh T q)).bind fun x=>(sW T r).bind fun z=>.ok (x::z)
def JF (cl:ay):E→Rd E
 | .loc T o x=>if o.whole then .ok (E.at T x) else .no
 | .cK f A C caps=>zB cl f A C caps
 | e=>xG e
def l9 (cl:ay):List Od→Rd (List E)
 | []=>.ok []
 | a::r=>((dw a).bind (JF cl)).bind fun x=>(l9 cl r).bind fun y=>.ok (x::y)
def S1:E→Bool | .loc _ o _=>o.stays | _=>false
def rD:List Od→Rd Unit
 | []=>.ok ()
 | a::r=>(dw a).bind fun e=>match fa a e with
   | none=>rD r
   | some s=>(Rd.get s).bind fun f=>match S1 f with | true=>rD r | false=>.no
def Bk (args:List Od) (res:List E):Rd E:=if res.all E.plain then .ok (eg res) else (rD args).bind fun _=>.ok (eg res)
def s8:List Od→Rd (List E)
 | []=>.ok []
 | a::r=>(dw a).bind fun e=>if e.cap then (s8 r).bind fun y=>.ok (eZ a e::y) else .no
def OC (j:Nat):E→Option E
 | .cC es=>match es[j]? with
   | some (.v T x)=>some (.v T x)
   | some (.own false _ T o xs)=>if o.pure then some (.v (.sl T) xs) else none
   | _=>none
 | _=>none
def sx (cl:ay) (d:Option Nat):pE→Rd E
 | .mv x=>te x
 | .jf x=>(dw x).bind fun e=>match e with
   | .ptr s p=>.ok (.ptr s p)
   | .cN s p i q=>.ok (.cN s p i q)
   | .at T y=>.ok (.at T y)
   | .loc .. =>match x with | .t k=>.ok (.ptr k []) | _=>.no
   | _=>.no
 | .ab x=>if d.isSome then Iy x else .no
 | .pick c a b=>(B5 c).bind fun q=>.br q (te a) (te b)
 | .alloc T o=>.ok (.loc T o (zero T))
 | .box T x=>(pC x).bind fun q=>(Rd.of (bh T q)).bind fun y=>.ok (.loc T .no y)
 | .build T parts=>(pY T (zero T) parts).bind fun y=>.ok (.v T y)
 | .jH T o parts=>(pY T (zero T) parts).bind fun y=>.ok (.nw T (pS o parts) y)
 | .buildSlice e T parts=>(sW T parts).bind fun y=>.ok (.own true e T .no y)
 | .load T a=>(dw a).bind fun e=>match e with
   | .at T' x=>(Rd.of (bh T ⟨T',x⟩)).bind fun y=>.ok (.v T y)
   | .cN s p j q=>(ly s p).bind fun h=>RM T j q h
   | .ptr s p=>(Rd.get s).bind fun f=>A6 T s p f
   | .loc .. =>match a with | .t k=>A6 T k [] e | _=>.no
   | _=>.no
 | .bin op x y=>(dw x).bind fun a=>(dw y).bind fun b=>JM op a b
 | .mn neg T x y=>(dw x).bind fun a=>(dw y).bind fun b=>(wz a).bind fun s=>(wz b).bind fun t=>(Rd.of (bh T s)).bind fun s=>(Rd.of (bh T t)).bind fun t=>(Rd.of (dL T)).bind fun f=>
   .ok (.v .bool (if neg then !f s t else f s t))
 | .un op x=>(dw x).bind fun a=>.of (S8 op a)
 | .shift l x y=>(dw x).bind fun a=>(dw y).bind fun b=>match a,b with
   | .v (.int k) m,.v (.int _) n=>.ite (0≤n) (.ok (.v (.int k) (nE l k m n))) .no
   | _,_=>.no
 | .mc k x=>(jQ x).bind fun q=>.ok (.v (.int k) (k.wrap q.2))
 | .fieldAddr S p a=>(dw a).bind fun e=>match e with
   | .at T x=>(Rd.of (bh S ⟨T,x⟩)).bind fun x=>(Rd.of (aF S p x)).bind fun y=>.ok (.at y.1 y.2)
   | .ptr s q=>(Rd.get s).bind fun f=>.of (OH S s q p f)
   | .cN s q j r=>(ly s q).bind fun h=>if cM h.T r=some S then .ok (.cN s q j (r++p)) else .no
   | .loc T0 _ _=>if T0=S then match a with | .t k=>.ok (.ptr k p) | _=>.no else .no
   | _=>.no
 | .indexAddr T x ix=>(jQ ix).bind fun q=>(dw x).bind fun e=>match e with
   | .v T' xs=>(Rd.of (bh (.sl T) ⟨T',xs⟩)).bind fun xs=>.ite (0≤q.2∧q.2 < (xs.length:Int)) (.ok (.at T (xs.getD q.2.toNat (zero T)))) .no
   | .own _ _ T' _ xs=>if T'=T then match x with | .t s=>.ite (0≤q.2∧q.2 < (xs.length:Int)) (.ok (.cN s [] q.2.toNat [])) .no | _=>.no else .no
   | .ref s p=>(ly s p).bind fun h=>if h.T=T then .ite (0≤q.2∧q.2 < (h.xs.length:Int)) (.ok (.cN s p q.2.toNat [])) .no else .no
   | _=>.no
 | .wC n T x ix=>(jQ ix).bind fun q=>(dw x).bind fun e=>match e with
   | .at T' xs=>(Rd.of (bh (.arr n T) ⟨T',xs⟩)).bind fun xs=>.ite (0≤q.2∧q.2 < (n:Int)) (.ok (.at T (xs.getD q.2.toNat (zero T)))) .no
   | .ptr s p=>(Rd.get s).bind fun f=>xI n T q.2 s p f
   | .loc .. =>match x with | .t k=>xI n T q.2 k [] e | _=>.no
   | _=>.no
 | .field S p x=>(dw x).bind fun e=>(wz e).bind fun y=>(Rd.of (bh S y)).bind fun y=>(Rd.of (aF S p y)).bind fun z=>.ok (.v z.1 z.2)
 | .dE x ix=>(jQ ix).bind fun q=>(wU x).bind fun s=>
   .ite (0≤q.2∧q.2 < (s.length:Int)) (.ok (.v (.int .u8) ((s.getD q.2.toNat 0).toNat:Int))) .no
 | .wB n T x ix=>(jQ ix).bind fun q=>(dw x).bind fun e=>match e with
   | .v T' xs=>(Rd.of (bh (.arr n T) ⟨T',xs⟩)).bind fun xs=>.ite (0≤q.2∧q.2 < (n:Int)) (.ok (.v T (xs.getD q.2.toNat (zero T)))) .no
   | _=>.no
 | .iI x lo hi=>(lI lo).bind fun lo=>(lI hi).bind fun hi=>(wU x).bind fun s=>
   .ite (0≤lo.getD 0∧lo.getD 0≤hi.getD (s.length:Int)∧hi.getD (s.length:Int)≤(s.length:Int))
    (.ok (.v .str ((s.drop (lo.getD 0).toNat).take ((hi.getD (s.length:Int)).toNat - (lo.getD 0).toNat)))) .no
 | .lO T x lo hi mx=>(lI lo).bind fun lo=>(lI hi).bind fun hi=>(lI mx).bind fun mx=>(pC x).bind fun y=>(Rd.of (bh (.sl T) y)).bind fun xs=>
   .ite (0≤lo.getD 0∧lo.getD 0≤hi.getD (xs.length:Int)∧hi.getD (xs.length:Int)≤mx.getD (xs.length:Int)∧mx.getD (xs.length:Int)≤(xs.length:Int))
    (.ok (.v (.sl T) ((xs.drop (lo.getD 0).toNat).take ((hi.getD (xs.length:Int)).toNat - (lo.getD 0).toNat)))) .no
 | .mkSlice e T lim l c=>(jQ l).bind fun m=>(jQ c).bind fun n=>if m.1=.i64∧n.1=.i64 then .ite (0≤m.2∧m.2≤n.2∧n.2≤(lim:Int)) (.ok (.own true e T .no (gG m.2.toNat (zero T)))) .no else .no
 | .bO x=>(wU x).bind fun s=>.ok (.v (.int .i64) (s.length:Int))
 | .ba x=>(dw x).bind fun e=>(wz e).bind fun y=>match y with
   | ⟨.sl _,xs⟩=>.ok (.v (.int .i64) (xs.length:Int))
   | _=>.no
 | .wF m=>.ok (.v (.int .i64) (m:Int))
 | .mm mx x y=>(jQ x).bind fun m=>(jQ y).bind fun n=>if m.1=n.1 then .ok (.v (.int m.1) (if mx then (if n.2 > m.2 then n.2 else m.2) else (if n.2 < m.2 then n.2 else m.2))) else .no
 | .call f args=>(l9 cl args).bind fun es=>(Rd.call cl f es).bind fun res=>Bk args res
 | .mS x args=>(dw x).bind fun e=>match e with
   | .v (.fn A C) g=>(l9 cl args).bind fun es=>(Rd.of (tuple A es)).bind fun a=>(Rd.of (g a)).bind fun r=>if b7 C then .ok (.v C r) else .no
   | .cK f _ _ caps=>(l9 cl args).bind fun es=>(pU caps).bind fun cs=>(Rd.call cl f (es++cs)).bind fun res=>if res.all E.plain then .ok (eg res) else .no
   | _=>.no
 | .extract k j=>(Rd.get k).bind fun e=>.of (OC j e)
 | .pg f A C caps=>(s8 caps).bind fun cs=>.ok (.cK f A C cs)
 | _=>.no
def Bv (T:Ty) (z:den T) (s:Nat) (p:Path):E→Rd (List (Nat×E))
 | .loc T0 o x0=>if b7 T || (bU o p).pure then (Rd.of (aZ T0 p x0 ⟨T,z⟩)).bind fun x1=>.ok [(s,.loc T0 o x1)] else .no
 | _=>.no
def S3 (T:Ty) (z:den T) (s:Nat) (j:Nat) (q:Path):E→Rd (List (Nat×E))
 | .own true e T0 o xs=>.ite (j < xs.length) ((Rd.of (aZ T0 q (xs.getD j (zero T0)) ⟨T,z⟩)).bind fun u=>if o.pure then .ok [(s,.own true e T0 o (xs.set j u))] else .no) .no
 | _=>.no
def SO (T:Ty) {T':Ty} (xs:List (den T')) (lo hi mx:Option Od):Rd E:=
 (lI lo).bind fun lo=>(lI hi).bind fun hi=>(lI mx).bind fun mx=>(Rd.of (bh (.sl T) ⟨.sl T',xs⟩)).bind fun xs=>
   .ite (0≤lo.getD 0∧lo.getD 0≤hi.getD (xs.length:Int)∧hi.getD (xs.length:Int)≤mx.getD (xs.length:Int)∧mx.getD (xs.length:Int)≤(xs.length:Int))
    (.ok (.v (.sl T) ((xs.drop (lo.getD 0).toNat).take ((hi.getD (xs.length:Int)).toNat - (lo.getD 0).toNat)))) .no
def BW (d:Option Nat) (k0:Nat) (x:Od):Rd (TV×List (Nat×E)):=
 (dw x).bind fun e=>match e with
  | .v T y=>.ok (⟨T,y⟩,[])
  | .own _ ed T o xs=>match x with
    | .t k=>if (!(k==k0))&&apart d k&&o.pure then .ok (⟨.sl T,xs⟩,[(k,.own false ed T o.bn xs)]) else .no
    | _=>.no
  | _=>.no
def IS (d:Option Nat) (ch:List (Nat×E)) (x:Od):Rd (TV×List (Nat×E)):=
 (dw x).bind fun e=>match e with
  | .v T y=>.ok (⟨T,y⟩,ch)
  | .own _ ed T o xs=>match x with
    | .t k=>if (ch.all fun q=>!(q.1==k))&&apart d k&&o.pure then .ok (⟨.sl T,xs⟩,(k,.own false ed T o.bn xs)::ch) else .no
    | _=>.no
  | _=>.no
def sX (d:Option Nat):(T:Ty)→den T→List (Nat×E)→List (Path×Od)→Rd (den T×List (Nat×E))
 | _,x,ch,[]=>.ok (x,ch)
 | T,x,ch,(p,a)::r=>(IS d ch a).bind fun q=>(Rd.of (aZ T p x q.1)).bind fun y=>sX d T y q.2 r
def GC:pE→Option Nat
 | .append _ _ _ (.t k) _=>some k
 | .bN _ (.t k) _=>some k
 | _=>none
def fO (cl:ay) (d:Option Nat):pE→Rd (List (Nat×E))
 | .store T a x=>(pC x).bind fun y=>(Rd.of (bh T y)).bind fun z=>(dw a).bind fun e=>match e with
   | .cN s [] j q=>(Rd.get s).bind fun f=>S3 T z s j q f
   | .ptr s p=>(Rd.get s).bind fun f=>Bv T z s p f
   | .loc .. =>match a with | .t k=>Bv T z k [] e | _=>.no
   | _=>.no
 | .lO T x lo hi mx=>(dw x).bind fun e=>match e with
   | .ref s p=>match p with
     | []=>(Rd.get s).bind fun f=>match f with
       | .own _ ed T' o xs=>if o.pure then (SO T xs (T':=T') lo hi mx).bind fun v=>.ok (one d v++[(s,.own false ed T' o.bn xs)]) else .no
       | _=>.no
     | _=>.no
   | _=>(sx cl d (.lO T x lo hi mx)).bind fun e=>.ok (one d e)
 | .build T parts=>(sX d T (zero T) [] parts).bind fun q=>.ok (one d (.v T q.1)++q.2)
 | .cp x=>(dw x).bind fun e=>match e with
   | .v T y=>.ok (one d (.v T y))
   | .own _ ed T o xs=>match x with
     | .t k=>if o.pure then .ok (one d (.v (.sl T) xs)++[(k,.own false ed T o.bn xs)]) else .no
     | _=>.no
   | _=>.no
 | .append e T lim s x=>match s with
   | .t k0=>(Rd.get k0).bind fun f=>match f with
     | .own wr e' T' o xs=>(BW d k0 x).bind fun q=>(Rd.of (bh (.sl T) q.1)).bind fun ys=>(Rd.of (bh (.sl T) ⟨.sl T',xs⟩)).bind fun xs=>
       if apart d k0&&o.pure&&(e'==e) then .ite (xs.length+ys.length≤lim) (.ok (one d (.own wr e T .no (xs++ys))++(k0,.dead)::q.2)) .no else .no
     | _=>.no
   | _=>.no
 | .bN f x g=>match x with
   | .t s=>(Rd.get s).bind fun e0=>match e0 with
     | .own true e T .no xs=>(dw g).bind fun c=>match c with
       | .cK fg A C caps=>if apart d s&&!(e==gD) then (zB cl fg A C caps).bind fun ge=>(Rd.call cl f [.bE,.own true e T .no xs,ge]).bind fun res=>
         (Rd.of (po res)).bind fun y=>(Rd.of (bh (.sl T) y)).bind fun ys=>.ok (one d (.own true e T .no ys)++[(s,.dead)]) else .no
       | _=>.no
     | _=>.no
   | _=>.no
 | .kg f p args=>(l9 cl args).bind fun es=>(rD args).bind fun _=>(IQ p).bind fun q=>match q.1.2 with
   | []=>(match q.2 with
     | .loc T o x=>if es.all rX&&apart d q.1.1&&o.pure then (Rd.call cl f (.loc T o x::es)).bind fun res=>(Rd.of (A5 T res)).bind fun y=>.ok (one d (eg y.2.2)++[(q.1.1,.loc T y.1 y.2.1)]) else .no
     | _=>.no)
   | _=>.no
 | .s7 f args=>(l9 cl args).bind fun es=>(Rd.call cl f es).bind fun res=>(Bk args res).bind fun e=>.ok (oD d (one d e))
 | .mv x=>(dw x).bind fun e=>match e with
   | .cC es=>match x,d with
     | .t k,some d=>if k==d then .no else .ok [(d,.cC es),(k,.dead)]
     | _,_=>.no
   | _=>(sx cl d (.mv x)).bind fun e=>.ok (one d e)
 | op=>(sx cl d op).bind fun e=>.ok (one d e)
structure DI where
 ai:AI
 hide:List Nat
 wr:List Nat
 pre:List Nat
 piv:Bool:=false
 safe:List Nat:=[]
def gm (l:List Nat) (L:Nat→E):Nat→E:=fun k=>match l.any (fun j=>j==k) with | true=>.dead | false=>L k
def free (env:Env) (d:Option Nat):Bool:=match d with | some d=>!(look env d).home | none=>true
def mw (i:DI) (env:Env):Bool:=i.safe.all fun s=>env.all fun q=>!leads s q.2
def okW (i:DI) (env:Env) (δ:List (Nat×E)):Bool:=free env i.ai.dst&&(δ.all fun q=>i.wr.any fun k=>k==q.1)&&mw i (δ++env)
def hN (cl:ay):List DI→Env→cH R→Option R
 | [],env,K=>K env
 | i::r,env,K=>
   let yes:=fun env'=>(fO cl i.ai.dst i.ai.op).runK (gm i.hide (look env)) fun δ=>match okW i env δ with
    | true=>hN cl r (δ++env') K
    | false=>none
   let nope:=fun env'=>match okW i env (one i.ai.dst .bE) with
    | true=>hN cl r (one i.ai.dst .bE++env') K
    | false=>none
   match i.piv with
   | true=>match mw i env with
     | true=>step cl i.ai env fun env'=>match mw i env' with
       | true=>hN cl r env' K
       | false=>none
     | false=>none
   | false=>match i.ai.guard with
     | none=>yes env
     | some (s,pol)=>match gm i.hide (look env) s with
       | .v .bool b=>ad b ((if pol then yes else nope) ((s,.v .bool true)::env)) ((if pol then nope else yes) ((s,.v .bool false)::env))
       | .bE=>nope env
       | _=>none
inductive AC where
 | skip
 | aa (live:List Nat) (l:List AI)
 | draw (live:List Nat) (l:List DI)
 | seq (a b:AC)
 | cond (c:Od) (x y:AC)
 | block (id:Nat) (b:AC)
 | loop (live:List Nat) (b:AC)
 | out (live:List Nat) (b:AC)
 | exit (id:Nat)
 | ret
inductive Ex where
 | normal | exit (id:Nat) | ret
abbrev KE (R:Type):=Ex→Env→Option R
def iter (live:List Nat) (body:Env→KE R→Option R) (K:KE R):Nat→Env→Option R
 | 0,_=>none
 | m+1,env=>body env fun e env=>match e with
   | .normal=>iter live body K m (ak live env)
   | .exit id=>K (.exit id) env
   | .ret=>K .ret env
def lN (y:Env→Option R) (K:KE R):KE R:=fun e env=>match e with
 | .normal=>y env
 | .exit id=>K (.exit id) env
 | .ret=>K .ret env
def kE (id:Nat) (K:KE R):KE R:=fun e env=>match e with
 | .normal=>K .normal env
 | .exit j=>match eQ j id with | .isTrue _=>K .normal env | .isFalse _=>K (.exit j) env
 | .ret=>K .ret env
def exec (cl:ay) (N:Nat):AC→Env→KE R→Option R
 | .skip,env,K=>K .normal env
 | .aa live l,env,K=>ops cl l (ak live env) (K .normal)
 | .draw live l,env,K=>hN cl l (ak live env) (K .normal)
 | .seq a b,env,K=>exec cl N a env (lN (fun env=>exec cl N b env K) K)
 | .cond c x y,env,K=>(ma (au env c)).bind fun q=>ad q (exec cl N x env K) (exec cl N y env K)
 | .block id b,env,K=>exec cl N b env (kE id K)
 | .loop live b,env,K=>iter live (fun env K=>exec cl N b env K) K N (ak live env)
 | .out live b,env,K=>exec cl N b env (fun e env=>K e (ak live env))
 | .exit id,env,K=>K (.exit id) env
 | .ret,env,K=>K .ret env
inductive RV where
 | t (k:Nat)
 | cell (k:Nat) (T:Ty)
 | p (k:Nat)
structure FD where
 nargs:Nat
 body:AC
 res:List RV
 lend:Bool:=false
def Bl (env:Env):RV→Option (E×List Nat)
 | .t k=>match look env k with
   | .v T x=>some (.v T x,[])
   | .own wr e T o xs=>if o.pure then some (.own wr e T o xs,[k]) else none
   | .ref s p=>(a8 env s p).bind fun h=>if h.o.pure then some (.own h.wr h.e h.T h.o h.xs,[s]) else none
   | _=>none
 | .cell k T=>match look env k with
   | .loc T' o x=>if o.whole then (bh T ⟨T',x⟩).bind fun y=>some (.v T y,if o.pure then [] else [k]) else none
   | _=>none
 | .p k=>match look env k with
   | .v T x=>some (.v T x,[])
   | .own _ _ T o xs=>if o.pure then some (.v (.sl T) xs,[k]) else none
   | .ref s p=>(a8 env s p).bind fun h=>if h.o.pure then some (.v (.sl h.T) h.xs,[s]) else none
   | _=>none
def sh (env:Env):List RV→Option (List E×List Nat)
 | []=>some ([],[])
 | r::rs=>(Bl env r).bind fun x=>(sh env rs).bind fun y=>some (x.1::y.1,x.2++y.2)
def distinct:List Nat→Bool
 | []=>true
 | x::r=>!r.any (· ==x)&&distinct r
def E.back:E→Bool
 | .v T _=>ea T
 | .own _ _ T o _=>ea T&&o.pure
 | _=>false
def lL (env:Env) (res:List RV) (ks:List Nat):Option (List E):=(sh env res).bind fun q=>match distinct (ks++q.2)&&q.1.all E.back with | true=>some q.1 | false=>none
def ah (fd:FD):KE (List E):=fun e env=>match e with
 | .exit _=>none
 | _=>match fd.lend with
   | false=>lL env fd.res []
   | true=>match look env 0 with
     | .loc T o x=>(match ea T with | true=>(lL env fd.res [0]).bind fun l=>some (.loc T o x::l) | false=>none)
     | _=>none
def params:Nat→List E→Env
 | _,[]=> []
 | k,e::r=>(k,e)::params (k+1) r
abbrev Table:=FuncId→Option FD
abbrev lW:=FuncId→Option (List E→Option (List E))
def fY:List E→Bool
 | .bE::_=>true
 | _=>false
def jO:List E→Bool
 | .loc _ _ _::_=>true
 | _=>false
def bz (tb:Table) (pr:lW) (N:Nat):Nat→ay
 | 0=>.of fun _ _=>none
 | D+1=>.of fun f args=>match pr f with
   | some p=>p args
   | none=>match fY args with
     | true=>none
     | false=>match tb f with
       | some fd=>match eQ args.length fd.nargs with
         | .isTrue _=>(match fd.lend==jO args with
           | true=>exec (bz tb pr N D) N fd.body (params 0 args) (ah fd)
           | false=>none)
         | .isFalse _=>none
       | none=>none
def recC (n:FuncId) (fd:FD) (N:Nat) (base:ay):Nat→ay
 | 0=>base
 | m+1=>.of fun f es=>match eQ f n with
   | .isTrue _=>match fY es with
     | true=>none
     | false=>match eQ es.length fd.nargs with
       | .isTrue _=>(match fd.lend==jO es with
         | true=>exec (recC n fd N base m) N fd.body (params 0 es) (ah fd)
         | false=>none)
       | .isFalse _=>none
   | .isFalse _=>base.run f es
end Go.Fw
/- A step, apart from what follows it. -/
namespace Go.Fw
open Go Go.RowKit
theorem T4 {α β:Type} (x:Option α) (f g:α→Option β) (h:∀ y,f y=g y):x.bind f=x.bind g:=by cases x<;>simp [h]
set_option maxHeartbeats 1000000
theorem IX (cl:ay) (i:AI) (env:Env) {R:Type} (K:cH R):step cl i env K=(step cl i env (some:cH Env)).bind K:=by
 obtain ⟨d,op,g⟩:=i
 unfold step
 cases op<;>simp only [mI,ar,ay.eqn]
 case pick=>congr 1; funext q; cases q<;>rfl
 case du=>
  split
  ·rename_i s pos _; cases decide (pos < s.length)<;>rfl
  ·rfl
 all_goals first | rfl | skip
 all_goals repeat' first | rfl | (refine T4 _ _ _ fun _=>?_) | split | (rw [mI])
 all_goals first | rfl | (simp_all [mI]; done) | skip
end Go.Fw
/- An operation only asks on: the count of what was asked never falls. -/
namespace Go.Fw
open Go Go.RowKit
theorem anf {p:Program} {w w':World} {at_:Addr} {u:TypeId} {k:Addr} {v:Value} {atomic:Bool} {l:List Addr} (h:w.viewStore p at_ u k v atomic=.ok (w',l)):w'.drawn=w.drawn:=by
 unfold World.viewStore at h
 simp only [bind,Except.bind,pure,Except.pure,throw,throwThe,MonadExceptOf.throw] at h
 repeat' (first | (cases h; rfl) | contradiction | split at h)
theorem Ut {p:Program} {w w':World} {a:Addr} {v:Value} {atomic:Bool} {l:List Addr} (h:w.farStore p a v atomic=.ok (w',l)):w'.drawn=w.drawn:=by
 unfold World.farStore at h
 split at h
 ·split at h
  ·rename_i r hr
   cases h
   exact anf hr
  ·cases h
 ·cases h
theorem BZ {α:Type}:∀ (x:Ask α) (w:World),w.drawn≤(w.ask x).2.drawn
 | .done _,_=>cE _
 | .ask what range k,w=>by
   simp only [World.ask]
   split
   ·exact BZ (k 0) w
   ·exact dV (Nat.le_succ _) (BZ (k _) {w with drawn:=w.drawn+1})
theorem ahv (w:World) (c:Sys):w.drawn≤(w.sys c).2.drawn:=by
 unfold World.sys
 have h:=BZ (Kernel.perform c w.os) w
 split
 ·exact cE _
 ·rename_i h1
  rw [h1] at h
  exact h
theorem hY {α:Type} {P:Program}:∀ (s:Sem α) (w:World) {v:α} {w':World},s.run P w=.ok v w'→w.drawn≤w'.drawn
 | .pure a,w,_,_,h=>by simp only [Sem.run] at h; cases h; exact cE _
 | .load m a k,w,_,_,h=>by
   simp only [Sem.run] at h
   split at h
   ·exact hY (k _) w h
   ·split at h
    ·exact hY (k _) w h
    ·cases h
 | .store m a v k,w,v0,w',h=>by
   have key:∀ r,(r=match w.cell? a with
     | some _ => if w.frozen? a then Result.halt (.unsupported (.unsafePointer "a write to bytes that a string shares")) w else k.run P (w.setCell a v)
     | none=>match w.farStore P a v (m==Mode.atomic) with
       | .ok (w,_)=>k.run P w
       | .error h=>.halt h w)→r=.ok v0 w'→w.drawn≤w'.drawn:=by
    intro r hr h
    rw [hr] at h
    split at h
    ·split at h
     ·cases h
     ·exact dV (Nat.le_of_eq (by rfl)) (hY k (w.setCell a v) h)
    ·split at h
     ·rename_i hf
      rw [←Ut hf]
      exact hY k _ h
     ·cases h
   cases v<;>simp only [Sem.run] at h<;>first | contradiction | exact key _ rfl h
 | .new o k,w,_,_,h=>by simp only [Sem.run] at h; exact hY (k _) {w with heap:=w.heap.push o} h
 | .shape r k,w,_,_,h=>by simp only [Sem.run] at h; exact hY (k _) w h
 | .freeze a n k,w,_,_,h=>by
   simp only [Sem.run] at h
   refine dV ?_ (hY k _ h)
   unfold World.freeze
   split<;>exact cE _
 | .frozen a k,w,_,_,h=>by simp only [Sem.run] at h; exact hY (k _) w h
 | .getObj r k,w,_,_,h=>by
   simp only [Sem.run] at h
   split at h
   ·cases h
   ·exact hY (k _) w h
   ·cases h
 | .setObj r o k,w,_,_,h=>by
   simp only [Sem.run] at h
   split at h
   ·cases h
   ·exact hY k {w with heap:=w.heap.setIfInBounds r o} h
   ·cases h
 | .choose q k,w,_,_,h=>by
   simp only [Sem.run] at h
   split at h
   ·exact hY (k 0) w h
   ·exact dV (Nat.le_succ _) (hY (k _) {w with drawn:=w.drawn+1} h)
 | .sys c k,w,_,_,h=>by simp only [Sem.run] at h; exact dV (ahv w c) (hY (k _) _ h)
 | .program k,w,_,_,h=>by simp only [Sem.run] at h; exact hY (k _) w h
 | .mark _ k,w,_,_,h=>by simp only [Sem.run] at h; exact hY k w h
 | .halt h,w,_,_,h'=>by simp only [Sem.run] at h'; cases h'
end Go.Fw
/- Soundness: an operation whose order is open does what 'step' does. -/
namespace Go.Fw
open Go Go.RowKit
theorem Rd.run_bind {α β:Type} (a:Rd α) (f:α→Rd β) (L:Nat→E):(a.bind f).run L=(a.run L).bind fun x=>(f x).run L:=rfl
theorem Rd.kl {α:Type} (x:α) (L:Nat→E):(Rd.ok x).run L=some x:=rfl
theorem Rd.aV {α:Type} (L:Nat→E):(Rd.no:Rd α).run L=none:=rfl
theorem Rd.dG {α:Type} (x:Option α) (L:Nat→E):(Rd.of x).run L=x:=rfl
theorem Rd.run_get (k:Nat) (L:Nat→E):(Rd.get k).run L=Rd.jU (L k):=rfl
theorem Rd.cV {α:Type} {p:Prop} [Decidable p] (a b:Rd α) (L:Nat→E):(if p then a else b).run L=if p then a.run L else b.run L:=by split<;>rfl
theorem Rd.run_ite {α:Type} {p:Prop} [Decidable p] (a b:Rd α) (L:Nat→E):(Rd.ite p a b).run L=if p then a.run L else b.run L:=rfl
theorem Rd.af3 {α:Type} (q:Bool) (a b:Rd α) (L:Nat→E):(Rd.br q a b).run L=ad q (a.run L) (b.run L):=rfl
theorem Rd.wL (cl:ay) (f:FuncId) (es:List E) (L:Nat→E):(Rd.call cl f es).run L=cl f es:=rfl
theorem aob {e f:E}:Rd.jU e=some f↔e=f∧e≠.dead:=by
 cases e<;>simp [Rd.jU]
theorem cU {β:Type} {e:E} {f:E→Option β} {y:β}:(Rd.jU e).bind f=some y→f e=some y:=by
 cases e<;>simp [Rd.jU]
section
variable {cl:ay} {env:Env} {R:Type}
theorem lC (x:Od):(jQ x).run (look env)=jP (au env x):=by
 unfold jQ; rw [Rd.run_bind,dC]; cases au env x<;>rfl
theorem T8 (x:Od):(B5 x).run (look env)=ma (au env x):=by
 unfold B5; rw [Rd.run_bind,dC]; cases au env x<;>rfl
theorem IZ (x:Od):(wU x).run (look env)=lQ (au env x):=by
 unfold wU; rw [Rd.run_bind,dC]; cases au env x<;>rfl
theorem wZ (x:Od):(pC x).run (look env)=wY (au env x):=by
 unfold pC; rw [Rd.run_bind,dC]; cases au env x<;>rfl
theorem AZ {e:E} {q:IntKind×Int} (h:jP e=some q):e=.v (.int q.1) q.2:=by
 unfold jP at h
 split at h
 ·cases h; rfl
 ·simp at h
theorem nB (x:Option Od):(lI x).run (look env)=lH env x:=by
 cases x with
 | none=>rfl
 | some x=>unfold lI lH; rw [Rd.run_bind,lC]; rfl
theorem aaC {x:Od} {e:E} (h:(Iy x).run (look env)=some e):au env x=e∧e.nu=true:=by
 unfold Iy at h
 rw [Rd.run_bind,dC] at h
 have h:=cU h
 simp only [Rd.cV,Rd.kl,Rd.aV] at h
 split at h
 ·rename_i hl; cases h; exact ⟨rfl,hl⟩
 ·simp at h
theorem N1 {x:Od} {e:E} (h:(te x).run (look env)=some e):eZ x (au env x)=e∧∀ es,au env x≠.cC es:=by
 unfold te at h
 rw [Rd.run_bind,dC] at h
 have h:=cU h
 cases he:au env x<;>rw [he] at h<;>simp only [N0] at h<;>first | (exfalso; simp [Rd.aV] at h; done) | skip
 all_goals first
  | (simp only [Rd.kl,av] at h; subst h; exact ⟨rfl,by simp⟩)
  | (cases x<;>simp only [Rd.kl,Rd.aV,av] at h<;>first | (subst h; exact ⟨rfl,by simp⟩) | (exfalso; simp at h; done))
theorem Ti {e:E} {y:TV} (h:wY e=some y):e=.v y.1 y.2:=by
 cases e<;>simp [wY] at h
 subst h; rfl
theorem wI {x:Od} {y:TV} (h:wY (au env x)=some y):dM env x=some (env,y):=by
 have:=Ti h
 simp only [dM,this,cS,ar,fa]
theorem adt {x:Od} {q:(Nat×Path)×E} (h:(IQ x).run (look env)=some q):ef env x=some q.1∧look env q.1.1=q.2:=by
 unfold IQ at h
 rw [Rd.run_bind,dC] at h
 have h:=cU h
 split at h
 ·rename_i s p he
  rw [Rd.run_bind,Rd.run_get] at h
  have h:=cU h
  simp only [Rd.kl,av] at h
  subst h
  exact ⟨by unfold ef; rw [he],rfl⟩
 ·rename_i T o y he
  split at h
  ·rename_i k
   simp only [Rd.kl,av] at h
   subst h
   exact ⟨by unfold ef; rw [he]; rfl,rfl⟩
  ·simp [Rd.aV] at h
 ·simp [Rd.aV] at h
theorem pT:∀ (l:List Od),(l9 cl l).run (look env)=fu cl env l
 | []=>rfl
 | a::r=>by
   unfold l9 fu
   rw [Rd.run_bind,Rd.run_bind,dC]
   have e2:∀ x:E,(((l9 cl r).bind fun y=>Rd.ok (x::y)).run (look env))=(fu cl env r).bind fun y=>some (x::y):=by
    intro x; rw [Rd.run_bind,pT r]; rfl
   simp only [e2]
   congr 1
   cases he:au env a<;>simp only [Rd.jU,ar,Option.bind_none,JF]
   case dead=>rfl
   case loc T o x=>rw [Rd.cV]; rfl
   case cK f A C caps=>exact NW cl env f A C caps
   all_goals exact JH env _
theorem AX:∀ (l:List Od),(rD l).run (look env)=some ()→jb env l=env
 | [],_=>rfl
 | a::r,h=>by
   unfold rD at h
   rw [Rd.run_bind,dC] at h
   have h:=cU h
   unfold jb
   split at h
   ·rename_i hn
    rw [hn]
    exact AX r h
   ·rename_i s hn
    rw [Rd.run_bind,Rd.run_get] at h
    have h:=cU h
    split at h
    ·rename_i hs
     have:freeze env s=env:=by
      unfold freeze
      cases hl:look env s<;>rw [hl] at hs<;>simp only [S1] at hs<;>first | contradiction | skip
      simp only [hs]
     simp only [hn,this]
     exact AX r h
    ·simp [Rd.aV] at h
theorem Sw {args:List Od} {res:List E} {e:E} (h:(Bk args res).run (look env)=some e):e=eg res∧(if res.all E.plain then env else jb env args)=env:=by
 unfold Bk at h
 first | rw [Rd.run_ite] at h | rw [Rd.cV] at h
 split at h
 ·rename_i hp; cases h; exact ⟨rfl,if_pos hp⟩
 ·rename_i hp
  rw [Rd.run_bind] at h
  obtain ⟨_,hy,h⟩:=aj.1 h
  cases h
  exact ⟨rfl,by rw [if_neg hp]; exact AX args hy⟩
theorem NO:∀ (l:List Od) (cs:List E),(s8 l).run (look env)=some cs→(l.all fun a=>(au env a).cap)=true∧cs=l.map fun a=>eZ a (au env a)
 | [],cs,h=>by simp only [s8,Rd.kl,av] at h; subst h; exact ⟨rfl,rfl⟩
 | a::r,cs,h=>by
   unfold s8 at h
   rw [Rd.run_bind,dC] at h
   have h:=cU h
   first | rw [Rd.run_ite] at h | rw [Rd.cV] at h
   split at h
   ·rename_i hc
    rw [Rd.run_bind] at h
    obtain ⟨y,hy,h⟩:=aj.1 h
    obtain ⟨h1,rfl⟩:=NO r y hy
    simp only [Rd.kl,av] at h
    subst h
    exact ⟨by simp only [List.all_cons,hc,h1,Bool.and_true],rfl⟩
   ·simp [Rd.aV] at h
theorem Ca:∀ (T:Ty) (x:den T) (l:List (Path×Od)) (y:den T),(pY T x l).run (look env)=some y→gX T x env l=some (env,y)
 | T,x,[],y,h=>by simp only [pY,Rd.kl,av] at h; subst h; simp [gX]
 | T,x,(p,a)::r,y,h=>by
   unfold pY at h
   rw [Rd.run_bind,wZ] at h
   obtain ⟨q,hq,h⟩:=aj.1 h
   rw [Rd.run_bind,Rd.dG] at h
   obtain ⟨z,hz,h⟩:=aj.1 h
   unfold gX
   rw [wI hq]
   simp only [ar,hz]
   exact Ca T z r y h
theorem JO (T:Ty):∀ (l:List Od) (y:List (den T)),(sW T l).run (look env)=some y→mR T env l=some (env,y)
 | [],y,h=>by simp only [sW,Rd.kl,av] at h; subst h; simp [mR]
 | a::r,y,h=>by
   unfold sW at h
   rw [Rd.run_bind,wZ] at h
   obtain ⟨q,hq,h⟩:=aj.1 h
   rw [Rd.run_bind,Rd.dG] at h
   obtain ⟨z,hz,h⟩:=aj.1 h
   rw [Rd.run_bind] at h
   obtain ⟨u,hu,h⟩:=aj.1 h
   simp only [Rd.kl,av] at h
   subst h
   unfold mR
   rw [wI hq]
   simp only [ar,hz]
   rw [JO T r u hu]
   rfl
theorem RK {x:Od} {e:E} (h:e.nu=true):eZ x e=e:=by
 cases e<;>first | rfl | (exfalso; simp [E.nu] at h; done)
theorem RL {T:Ty} {a:Od} {d:Option Nat} {g:Option (Nat×Bool)} {s:Nat} {p:Path} {e:E} {K:cH R} (h0:ef env a=some (s,p)) (h:(A6 T s p (look env s)).run (look env)=some e):step cl ⟨d,.load T a,g⟩ env K=K (aK env d e):=by
 have h1:step cl ⟨d,.load T a,g⟩ env K=(match ef env a with
   | some (s,p)=>match look env s with
     | .loc T0 o x=>match bU o p with
       | .own .. =>match aF T0 p x with
         | some ⟨.sl T',_⟩=>if T=.sl T' then K (aK env d (.ref s p)) else none
         | _=>none
       | .mp=>match aF T0 p x with
         | some ⟨.map K' V',_⟩=>if T=.map K' V' then K (aK env d (.ref s p)) else none
         | _=>none
       | b=>if b.whole then (aF T0 p x).bind fun z=>(bh T z).bind fun y=>
          K (aK (if b.pure then env else freeze env s) d (.v T y)) else none
     | _=>none
   | none=>none):=by
  unfold ef at h0
  cases he:au env a<;>rw [he] at h0<;>first | (exfalso; simp at h0; done) | (simp only [step,he]; done) | (simp only [step,he]; rfl)
 rw [h1,h0]
 simp only
 cases hl:look env s<;>rw [hl] at h<;>simp only [A6,Rd.aV] at h<;>first | (exfalso; simp at h; done) | skip
 rename_i T0 o x
 simp only
 cases hb:bU o p<;>rw [hb] at h<;>simp only at h ⊢
 case own wr e' o'=>
  split at h
  ·rename_i T' xs hg
   rw [Rd.cV] at h
   split at h
   ·rename_i h3; cases h; first | (rw [hg]; simp only; rw [if_pos h3]) | rw [if_pos h3]
   ·simp [Rd.aV] at h
  ·simp [Rd.aV] at h
 case mp=>
  split at h
  ·rename_i K' V' xs hg
   rw [Rd.cV] at h
   split at h
   ·rename_i h3; cases h; first | (rw [hg]; simp only; rw [if_pos h3]) | rw [if_pos h3]
   ·simp [Rd.aV] at h
  ·simp [Rd.aV] at h
 all_goals
  rw [Rd.cV] at h
  split at h
  ·rename_i hw
   simp only [aq] at hw
   rw [Rd.run_bind,Rd.dG] at h
   obtain ⟨y,hy,h⟩:=aj.1 h
   obtain ⟨z,hz,hy⟩:=aj.1 hy
   cases h
   simp only [hw.1,hw.2,if_true,hz,hy,ar]
  ·simp [Rd.aV] at h
section
variable {i:AI} {e:E} {K:cH R}
theorem aoa {d:Option Nat} {x:Od} (h1:au env x=e) (h2:e.nu=true):ny env d x=aK env d e:=by
 unfold ny
 rw [h1]
 have h3:=RK (x:=x) h2
 cases e<;>simp_all [E.nu]
theorem TU {d:Nat} {x:Od} (h1:au env x=e) (h2:e.nu=true):assign env d x=put env d e:=by
 unfold assign
 rw [h1]
 have h3:=RK (x:=x) h2
 cases e<;>simp_all [E.nu]
theorem ane (h:(sx cl i.dst i.op).run (look env)=some e):step cl i env K=K (aK env i.dst e):=by
 obtain ⟨d,op,g⟩:=i
 cases op<;>simp only [sx] at h ⊢
 case mv x=>
  obtain ⟨h1,h2⟩:=N1 h
  have:ny env d x=aK env d e:=by
   unfold ny
   split
   ·rename_i es he; exact absurd he (h2 es)
   ·rw [h1]
  simp only [step,this]
 case jf x=>
  rw [Rd.run_bind,dC] at h
  have h:=cU h
  simp only [step]
  split at h
  ·rename_i he; cases h; rw [he]; rfl
  ·rename_i he; cases h; rw [he]; rfl
  ·rename_i he; cases h; rw [he]; rfl
  ·rename_i he
   split at h
   ·cases h; rw [he]; rfl
   ·simp [Rd.aV] at h
  ·simp [Rd.aV] at h
 case ab x=>
  first | rw [Rd.run_ite] at h | rw [Rd.cV] at h
  split at h
  ·obtain ⟨h1,h2⟩:=aaC h
   cases d with
   | none=>simp at *
   | some d=>simp only [step,TU h1 h2]; rfl
  ·simp [Rd.aV] at h
 case pick c a b=>
  rw [Rd.run_bind,T8] at h
  obtain ⟨q,hq,h⟩:=aj.1 h
  simp only [step,hq,ar]
  rw [Rd.af3] at h
  cases q<;>(simp only [ad] at h ⊢; obtain ⟨h1,h2⟩:=N1 h; rw [h1])
 case alloc T o=>cases h; rfl
 case box T x=>
  rw [Rd.run_bind,wZ] at h
  obtain ⟨q,hq,h⟩:=aj.1 h
  rw [Rd.run_bind,Rd.dG] at h
  obtain ⟨y,hy,h⟩:=aj.1 h
  cases h
  simp only [step,wI hq,ar,hy]
 case build T parts=>
  rw [Rd.run_bind] at h
  obtain ⟨y,hy,h⟩:=aj.1 h
  cases h
  simp only [step,Ca _ _ _ _ hy,ar]
 case jH T o parts=>
  rw [Rd.run_bind] at h
  obtain ⟨y,hy,h⟩:=aj.1 h
  cases h
  simp only [step,Ca _ _ _ _ hy,ar]
 case buildSlice ed T parts=>
  rw [Rd.run_bind] at h
  obtain ⟨y,hy,h⟩:=aj.1 h
  cases h
  simp only [step,JO _ _ _ hy,ar]
 case load T a=>
  rw [Rd.run_bind,dC] at h
  have h:=cU h
  split at h
  ·rename_i T' x he
   rw [Rd.run_bind,Rd.dG] at h
   obtain ⟨y,hy,h⟩:=aj.1 h
   cases h
   simp only [step,he,hy,ar]
  ·rename_i s p j q he
   rw [Rd.run_bind,rC] at h
   obtain ⟨hh,hhe,h⟩:=aj.1 h
   simp only [step,he,hhe,ar]
   simp only [RM,Rd.run_ite] at h
   split at h
   ·rename_i h1
    rw [Rd.cV] at h
    split at h
    ·rename_i h2
     rw [Rd.run_bind,Rd.dG] at h
     obtain ⟨y,hy,h⟩:=aj.1 h
     obtain ⟨z,hz,hy⟩:=aj.1 hy
     cases h
     simp only [h1,h2,hz,hy,ar,if_true]
    ·simp [Rd.aV] at h
   ·simp [Rd.aV] at h
  ·rename_i s p he
   rw [Rd.run_bind,Rd.run_get] at h
   exact RL (by simp only [ef,he]) (cU h)
  ·rename_i T0 o x he
   split at h
   ·rename_i k _
    have hl:look env k=.loc T0 o x:=he
    rw [he,←hl] at h
    exact RL (by simp only [ef,he,Od.slot,pO]) h
   ·simp [Rd.aV] at h
  ·simp [Rd.aV] at h
 case bin op x y=>
  rw [Rd.run_bind,dC] at h
  have h:=cU h
  rw [Rd.run_bind,dC] at h
  have h:=cU h
  unfold JM at h
  split at h
  ·rename_i k m k' n hx hy
   rw [Rd.cV] at h
   split at h
   ·rename_i hk
    simp only [step,hx,hy,if_pos hk]
    cases op
    case quo=>
     simp only [Rd.run_ite] at h ⊢
     split at h
     ·simp [Rd.aV] at h
     ·rename_i h0; cases h; rw [if_neg h0]
    case rem=>
     simp only [Rd.run_ite] at h ⊢
     split at h
     ·simp [Rd.aV] at h
     ·rename_i h0; cases h; rw [if_neg h0]
    all_goals
     simp only at h ⊢
     split at h
     ·rename_i b hb; cases h; first | rfl | (rw [hb])
     ·rename_i hb
      split at h
      ·rename_i r hr
       cases h
       first | (rw [hb]; simp only [hr,ar]; done) | (simp only [hr,ar]; done)
      ·simp [Rd.aV] at h
   ·simp [Rd.aV] at h
  ·rename_i s t hx hy
   simp only [step,hx,hy]
   cases op<;>simp only at h ⊢<;>first | (simp [Rd.aV] at h; done) | (cases h; rfl) | skip
   rw [Rd.run_ite] at h
   split at h
   ·rename_i h0; cases h; rw [if_pos h0]
   ·simp [Rd.aV] at h
  ·simp [Rd.aV] at h
 case mn neg T x y=>
  rw [Rd.run_bind,dC] at h
  have h:=cU h
  rw [Rd.run_bind,dC] at h
  have h:=cU h
  rw [Rd.run_bind,AY] at h
  obtain ⟨s,hs,h⟩:=aj.1 h
  rw [Rd.run_bind,AY] at h
  obtain ⟨t,ht,h⟩:=aj.1 h
  rw [Rd.run_bind,Rd.dG] at h
  obtain ⟨s',hs',h⟩:=aj.1 h
  rw [Rd.run_bind,Rd.dG] at h
  obtain ⟨t',ht',h⟩:=aj.1 h
  rw [Rd.run_bind,Rd.dG] at h
  obtain ⟨f,hf,h⟩:=aj.1 h
  cases h
  simp only [step,hs,ht,hs',ht',hf,ar]
 case shift l x y=>
  rw [Rd.run_bind,dC] at h
  have h:=cU h
  rw [Rd.run_bind,dC] at h
  have h:=cU h
  split at h
  ·rename_i k m k' n hx hy
   rw [Rd.run_ite] at h
   split at h
   ·rename_i hn; cases h; simp only [step,hx,hy,if_pos hn]
   ·simp [Rd.aV] at h
  ·simp [Rd.aV] at h
 case un op x=>
  rw [Rd.run_bind,dC] at h
  have h:=cU h
  rw [Rd.dG] at h
  unfold S8 at h
  split at h
  ·rename_i hx _; cases h; simp only [step,hx]
  ·rename_i hx _; cases h; simp only [step,hx]
  ·simp at h
 case mc k x=>
  rw [Rd.run_bind,lC] at h
  obtain ⟨q,hq,h⟩:=aj.1 h
  cases h
  simp only [step,hq,ar]
 case fieldAddr S p a=>
  rw [Rd.run_bind,dC] at h
  have h:=cU h
  split at h
  ·rename_i T x he
   rw [Rd.run_bind,Rd.dG] at h
   obtain ⟨x',hx',h⟩:=aj.1 h
   rw [Rd.run_bind,Rd.dG] at h
   obtain ⟨y,hy,h⟩:=aj.1 h
   cases h
   simp only [step,he,hx',hy,ar]
  ·rename_i s q he
   rw [Rd.run_bind,Rd.run_get] at h
   have h:=cU h
   rw [Rd.dG] at h
   unfold OH at h
   split at h
   ·rename_i T0 o x hl
    split at h
    ·rename_i h1; cases h; simp only [step,he,hl,if_pos h1]
    ·simp at h
   ·simp at h
  ·rename_i s q j r he
   rw [Rd.run_bind,rC] at h
   obtain ⟨hh,hhe,h⟩:=aj.1 h
   first | rw [Rd.run_ite] at h | rw [Rd.cV] at h
   split at h
   ·rename_i h1; cases h; simp only [step,he,hhe,ar,if_pos h1]
   ·simp [Rd.aV] at h
  ·rename_i T0 o x he
   first | rw [Rd.run_ite] at h | rw [Rd.cV] at h
   split at h
   ·rename_i h1
    split at h
    ·cases h; simp only [step,he,if_pos h1,Od.slot,ar]
    ·simp [Rd.aV] at h
   ·simp [Rd.aV] at h
  ·simp [Rd.aV] at h
 case indexAddr T x ix=>
  rw [Rd.run_bind,lC] at h
  obtain ⟨q,hq,h⟩:=aj.1 h
  rw [Rd.run_bind,dC] at h
  have h:=cU h
  split at h
  ·rename_i T' xs he
   rw [Rd.run_bind,Rd.dG] at h
   obtain ⟨y,hy,h⟩:=aj.1 h
   first | rw [Rd.run_ite] at h | rw [Rd.cV] at h
   split at h
   ·rename_i h1; cases h; simp only [step,hq,he,hy,ar,if_pos h1]
   ·simp [Rd.aV] at h
  ·rename_i wr ed T' o xs he
   first | rw [Rd.run_ite] at h | rw [Rd.cV] at h
   split at h
   ·rename_i h0
    split at h
    ·first | rw [Rd.run_ite] at h | rw [Rd.cV] at h
     split at h
     ·rename_i h1; cases h; simp only [step,hq,he,ar,if_pos h1,if_pos h0,Od.slot]
     ·simp [Rd.aV] at h
    ·simp [Rd.aV] at h
   ·simp [Rd.aV] at h
  ·rename_i s p he
   rw [Rd.run_bind,rC] at h
   obtain ⟨hh,hhe,h⟩:=aj.1 h
   first | rw [Rd.run_ite] at h | rw [Rd.cV] at h
   split at h
   ·rename_i h0
    first | rw [Rd.run_ite] at h | rw [Rd.cV] at h
    split at h
    ·rename_i h1; cases h; simp only [step,hq,he,hhe,ar,if_pos h1,if_pos h0]
    ·simp [Rd.aV] at h
   ·simp [Rd.aV] at h
  ·simp [Rd.aV] at h
 case wC n T x ix=>
  rw [Rd.run_bind,lC] at h
  obtain ⟨q,hq,h⟩:=aj.1 h
  rw [Rd.run_bind,dC] at h
  have h:=cU h
  split at h
  ·rename_i T' xs he
   rw [Rd.run_bind,Rd.dG] at h
   obtain ⟨y,hy,h⟩:=aj.1 h
   first | rw [Rd.run_ite] at h | rw [Rd.cV] at h
   split at h
   ·rename_i h1; cases h; simp only [step,hq,he,hy,ar,if_pos h1]
   ·simp [Rd.aV] at h
  ·rename_i s p he
   rw [Rd.run_bind,Rd.run_get] at h
   have h:=cU h
   unfold xI at h
   split at h
   ·rename_i T0 o x hl
    rw [Rd.cV] at h
    split at h
    ·rename_i h0
     rw [Rd.run_ite] at h
     split at h
     ·rename_i h1; cases h; simp only [step,hq,he,ar,ef,hl,if_pos h0,if_pos h1]
     ·simp [Rd.aV] at h
    ·simp [Rd.aV] at h
   ·simp [Rd.aV] at h
  ·rename_i T0 o x he
   split at h
   ·rename_i k _ _
    have hl:look env k=.loc T0 o x:=he
    rw [he] at h
    simp only [xI] at h
    rw [Rd.cV] at h
    split at h
    ·rename_i h0
     rw [Rd.run_ite] at h
     split at h
     ·rename_i h1; cases h; simp only [step,hq,he,ar,ef,Od.slot,pO,hl,if_pos h0,if_pos h1]
     ·simp [Rd.aV] at h
    ·simp [Rd.aV] at h
   ·simp [Rd.aV] at h
  ·simp [Rd.aV] at h
 case field S p x=>
  rw [Rd.run_bind,dC] at h
  have h:=cU h
  rw [Rd.run_bind,AY] at h
  obtain ⟨s,hs,h⟩:=aj.1 h
  rw [Rd.run_bind,Rd.dG] at h
  obtain ⟨y,hy,h⟩:=aj.1 h
  rw [Rd.run_bind,Rd.dG] at h
  obtain ⟨z,hz,h⟩:=aj.1 h
  cases h
  simp only [step,hs,hy,hz,ar]
 case dE x ix=>
  rw [Rd.run_bind,lC] at h
  obtain ⟨q,hq,h⟩:=aj.1 h
  rw [Rd.run_bind,IZ] at h
  obtain ⟨s,hs,h⟩:=aj.1 h
  first | rw [Rd.run_ite] at h | rw [Rd.cV] at h
  split at h
  ·rename_i h1; cases h; simp only [step,hq,hs,ar,if_pos h1]
  ·simp [Rd.aV] at h
 case wB n T x ix=>
  rw [Rd.run_bind,lC] at h
  obtain ⟨q,hq,h⟩:=aj.1 h
  rw [Rd.run_bind,dC] at h
  have h:=cU h
  split at h
  ·rename_i T' xs he
   rw [Rd.run_bind,Rd.dG] at h
   obtain ⟨y,hy,h⟩:=aj.1 h
   first | rw [Rd.run_ite] at h | rw [Rd.cV] at h
   split at h
   ·rename_i h1; cases h; simp only [step,hq,he,hy,ar,if_pos h1]
   ·simp [Rd.aV] at h
  ·simp [Rd.aV] at h
 case iI x lo hi=>
  rw [Rd.run_bind,nB] at h
  obtain ⟨l,hl,h⟩:=aj.1 h
  rw [Rd.run_bind,nB] at h
  obtain ⟨u,hu,h⟩:=aj.1 h
  rw [Rd.run_bind,IZ] at h
  obtain ⟨s,hs,h⟩:=aj.1 h
  first | rw [Rd.run_ite] at h | rw [Rd.cV] at h
  split at h
  ·rename_i h1; cases h; simp only [step,hl,hu,hs,ar,if_pos h1]
  ·simp [Rd.aV] at h
 case lO T x lo hi mx=>
  rw [Rd.run_bind,nB] at h
  obtain ⟨l,hl,h⟩:=aj.1 h
  rw [Rd.run_bind,nB] at h
  obtain ⟨u,hu,h⟩:=aj.1 h
  rw [Rd.run_bind,nB] at h
  obtain ⟨m,hm,h⟩:=aj.1 h
  rw [Rd.run_bind,wZ] at h
  obtain ⟨y,hy,h⟩:=aj.1 h
  rw [Rd.run_bind,Rd.dG] at h
  obtain ⟨xs,hxs,h⟩:=aj.1 h
  first | rw [Rd.run_ite] at h | rw [Rd.cV] at h
  split at h
  ·rename_i h1; cases h; simp only [step,hl,hu,hm,wI hy,hxs,ar,if_pos h1]
  ·simp [Rd.aV] at h
 case mkSlice ed T lim l c=>
  rw [Rd.run_bind,lC] at h
  obtain ⟨m,hm,h⟩:=aj.1 h
  rw [Rd.run_bind,lC] at h
  obtain ⟨n,hn,h⟩:=aj.1 h
  first | rw [Rd.run_ite] at h | rw [Rd.cV] at h
  split at h
  ·rename_i h1
   first | rw [Rd.run_ite] at h | rw [Rd.cV] at h
   split at h
   ·rename_i h2; cases h
    obtain ⟨m1,m2⟩:=m
    obtain ⟨n1,n2⟩:=n
    simp only at h1 h2
    obtain ⟨rfl,rfl⟩:=h1
    simp only [step,AZ hm,AZ hn,if_pos h2]
   ·simp [Rd.aV] at h
  ·simp [Rd.aV] at h
 case bO x=>
  rw [Rd.run_bind,IZ] at h
  obtain ⟨s,hs,h⟩:=aj.1 h
  cases h
  simp only [step,hs,ar]
 case ba x=>
  rw [Rd.run_bind,dC] at h
  have h:=cU h
  rw [Rd.run_bind,AY] at h
  obtain ⟨s,hs,h⟩:=aj.1 h
  simp only [step,hs,ar]
  split at h
  ·cases h; rfl
  ·simp [Rd.aV] at h
 case wF m=>cases h; rfl
 case mm mx x y=>
  rw [Rd.run_bind,lC] at h
  obtain ⟨m,hm,h⟩:=aj.1 h
  rw [Rd.run_bind,lC] at h
  obtain ⟨n,hn,h⟩:=aj.1 h
  first | rw [Rd.run_ite] at h | rw [Rd.cV] at h
  split at h
  ·rename_i h1
   cases h
   simp only [step,AZ hm,AZ hn,if_pos h1]
  ·simp [Rd.aV] at h
 case call f args=>
  rw [Rd.run_bind,pT] at h
  obtain ⟨es,hes,h⟩:=aj.1 h
  rw [Rd.run_bind,Rd.wL] at h
  obtain ⟨res,hres,h⟩:=aj.1 h
  obtain ⟨rfl,h2⟩:=Sw h
  simp only [step,ay.eqn,hes,hres,ar,h2]
 case mS x args=>
  rw [Rd.run_bind,dC] at h
  have h:=cU h
  split at h
  ·rename_i A C g' he
   rw [Rd.run_bind,pT] at h
   obtain ⟨es,hes,h⟩:=aj.1 h
   rw [Rd.run_bind,Rd.dG] at h
   obtain ⟨a,ha,h⟩:=aj.1 h
   rw [Rd.run_bind,Rd.dG] at h
   obtain ⟨r,hr,h⟩:=aj.1 h
   first | rw [Rd.run_ite] at h | rw [Rd.cV] at h
   split at h
   ·rename_i h1; cases h; simp only [step,he,hes,ha,hr,ar,if_pos h1]
   ·simp [Rd.aV] at h
  ·rename_i f A C caps he
   rw [Rd.run_bind,pT] at h
   obtain ⟨es,hes,h⟩:=aj.1 h
   rw [Rd.run_bind,BY] at h
   obtain ⟨cs,hcs,h⟩:=aj.1 h
   rw [Rd.run_bind,Rd.wL] at h
   obtain ⟨res,hres,h⟩:=aj.1 h
   first | rw [Rd.run_ite] at h | rw [Rd.cV] at h
   split at h
   ·rename_i h1; cases h; simp only [step,ay.eqn,he,hes,hcs,hres,ar,if_pos h1]
   ·simp [Rd.aV] at h
  ·simp [Rd.aV] at h
 case extract k j=>
  rw [Rd.run_bind,Rd.run_get] at h
  have h:=cU h
  rw [Rd.dG] at h
  unfold OC at h
  split at h
  ·rename_i es hk
   split at h
   ·rename_i T x hj; cases h; simp only [step,hk,hj]
   ·rename_i ed T o xs hj
    split at h
    ·rename_i ho; cases h; simp only [step,hk,hj,ho]; rfl
    ·simp at h
   ·simp at h
  ·simp at h
 case pg f A C caps=>
  rw [Rd.run_bind] at h
  obtain ⟨cs,hcs,h⟩:=aj.1 h
  cases h
  obtain ⟨h1,rfl⟩:=NO _ _ hcs
  simp only [step,if_pos h1]
 all_goals simp [Rd.aV] at h
end
end
end Go.Fw
/- Soundness, part 1: laws on what memory shows of a value. -/
namespace Go.Fw
open Go Go.RowKit
def blocks (ob:OB):List Nat:=ob.map (·.1)
@[simp] theorem JN:blocks []=[]:=rfl
@[simp] theorem jt (x:Nat×Nat) (l:OB):blocks (x::l)=x.1::blocks l:=rfl
@[simp] theorem eF (a b:OB):blocks (a++b)=blocks a++blocks b:=by simp [blocks]
theorem aJ.append {α:Type} {R:α→List Value→OB→Prop}:∀ {xs ys:List α} {v1 v2:List Value} {b1 b2:OB},aJ R xs v1 b1→aJ R ys v2 b2→aJ R (xs++ys) (v1++v2) (b1++b2)
 | [],_,_,_,_,_,h,k=>by obtain ⟨rfl,rfl⟩:=h; exact k
 | x::xs,ys,_,v2,_,b2,h,k=>by
   obtain ⟨u1,u2,c1,c2,rfl,rfl,hr,ht⟩:=h
   exact ⟨u1,u2++v2,c1,c2++b2,by simp,by simp,hr,aJ.append ht k⟩
theorem aJ.imp {α:Type} {R S:α→List Value→OB→Prop}:∀ {xs:List α} {vs:List Value} {ob:OB},(∀ x v b,(∀ q∈b,q∈ob)→R x v b→S x v b)→aJ R xs vs ob→aJ S xs vs ob
 | [],_,_,_,h=>h
 | x::xs,_,_,f,h=>by
   obtain ⟨u1,u2,c1,c2,rfl,rfl,hr,ht⟩:=h
   exact ⟨u1,u2,c1,c2,rfl,rfl,f _ _ _ (fun q hq=>fR _ hq) hr,aJ.imp (fun x v b hb=>f x v b fun q hq=>ik _ (hb q hq)) ht⟩
theorem aJ.length {α:Type} {R:α→List Value→OB→Prop} {n:Nat} (hl:∀ x v b,R x v b→v.length=n):∀ {xs:List α} {vs:List Value} {ob:OB},aJ R xs vs ob→vs.length=xs.length * n
 | [],_,_,h=>by obtain ⟨rfl,rfl⟩:=h; simp
 | x::xs,_,_,h=>by
   obtain ⟨u1,u2,c1,c2,rfl,rfl,hr,ht⟩:=h
   rw [b5,hl _ _ _ hr,aJ.length hl ht,List.length_cons,Nat.succ_mul]; omega
theorem aJ.split {α:Type} {R:α→List Value→OB→Prop} {n:Nat} (hl:∀ x v b,R x v b→v.length=n):∀ {xs:List α} {vs:List Value} {ob:OB} (i:Nat) (d:α),aJ R xs vs ob→i < xs.length→
  ∃ v1 v2 v3 b1 b2 b3,vs=v1++v2++v3∧ob=b1++b2++b3∧v1.length=i * n∧R (xs.getD i d) v2 b2∧
    ∀ y u c,R y u c→aJ R (xs.set i y) (v1++u++v3) (b1++c++b3)
 | [],_,_,i,_,_,hi=>by simp at hi
 | x::xs,_,_,0,d,h,_=>by
   obtain ⟨u1,u2,c1,c2,rfl,rfl,hr,ht⟩:=h
   exact ⟨[],u1,u2,[],c1,c2,rfl,rfl,by simp,hr,fun y u c hy=>⟨u,u2,c,c2,by simp,by simp,hy,ht⟩⟩
 | x::xs,_,_,i+1,d,h,hi=>by
   obtain ⟨u1,u2,c1,c2,rfl,rfl,hr,ht⟩:=h
   obtain ⟨v1,v2,v3,b1,b2,b3,rfl,rfl,h1,h2,h3⟩:=aJ.split hl i d ht (by simpa using hi)
   refine ⟨u1++v1,v2,v3,c1++b1,b2,b3,by simp,by simp,?_,by simpa using h2,?_⟩
   ·rw [b5,h1,hl _ _ _ hr,Nat.succ_mul]; omega
   ·intro y u c hy
    exact ⟨u1,v1++u++v3,c1,b1++c++b3,by simp,by simp,hr,h3 y u c hy⟩
theorem aJ.nil {α:Type} {R:α→List Value→OB→Prop}:aJ R ([]:List α) [] []:=⟨rfl,rfl⟩
theorem aJ.one {α:Type} {R:α→List Value→OB→Prop} {x:α} {v:List Value} {b:OB} (h:R x v b):aJ R [x] v b:=⟨v,[],b,[],by simp,by simp,h,rfl,rfl⟩
theorem bP.refl (B:Nat) (w:World):bP B w w:=⟨cE _,fun _ _=>rfl⟩
theorem bP.trans {B:Nat} {a b c:World} (h:bP B a b) (k:bP B b c):bP B a c:=⟨dV h.1 k.1,fun i hi=>(k.2 i hi).trans (h.2 i hi)⟩
theorem Flat.len (P:Program):∀ (T:Ty) {w:World} {G:Nat→Nat→Prop} {B:Nat} {o:aw} {x:den T} {vs:List Value} {ob:OB},Flat P T w G B o x vs ob→vs.length=ax T
 | .int k,_,_,_,_,_,_,_,h=>by unfold Flat at h; rw [h.1]; rfl
 | .bool,_,_,_,_,_,_,_,h=>by unfold Flat at h; rw [h.1]; rfl
 | .str,_,_,_,_,_,_,_,h=>by unfold Flat at h; rw [h.1]; rfl
 | .unit,_,_,_,_,_,_,_,h=>by unfold Flat at h; rw [h.1]; rfl
 | .pair A C,_,_,_,_,_,_,_,h=>by
   unfold Flat at h
   obtain ⟨v1,v2,b1,b2,rfl,rfl,h1,h2⟩:=h
   rw [b5,Flat.len P A h1,Flat.len P C h2]; rfl
 | .arr n T,_,_,_,_,_,_,_,h=>by
   unfold Flat at h
   rw [aJ.length (fun x v b hx=>Flat.len P T hx) h.2,h.1]; rfl
 | .sl T,_,_,_,o,_,_,_,h=>by
   cases o<;>unfold Flat at h
   ·obtain ⟨_,A,c,rfl,_⟩:=h; rfl
   ·exact h.1
   ·obtain ⟨v,cells,ob',rfl,_⟩:=h; rfl
   ·obtain ⟨_,A,c,rfl,_⟩:=h; rfl
   ·obtain ⟨_,A,c,rfl,_⟩:=h; rfl
 | .map K V,_,_,_,o,_,_,_,h=>by
   cases o<;>unfold Flat at h
   case mp=>obtain ⟨_,_,b,ents,clk,rfl,_⟩:=h; rfl
   all_goals (obtain ⟨_,r,rfl⟩:=h; rfl)
 | .fn A C,_,_,_,_,_,_,_,h=>by
   unfold Flat at h
   obtain ⟨_,_,f,caps,rfl,_⟩:=h; rfl
theorem eb.imp {α:Type} {R S:α→MapEntry→Prop} (f:∀ x m,R x m→S x m):∀ {xs:List α} {l:List MapEntry},eb R xs l→eb S xs l
 | [],_,h=>h
 | x::xs,_,h=>by
   obtain ⟨m,r,rfl,h1,h2⟩:=h
   exact ⟨m,r,rfl,f x m h1,eb.imp f h2⟩
theorem si {w:World} {B:Nat} {e:TypeId} {size:Nat} {v:Value} {n:Nat} {cells:List Value} (h:w.ownsRow B e size v n cells):fM w B e size v n cells:=by
 refine ⟨h.1,?_⟩
 rcases h.2 with h | ⟨g,cap,cur,h1,h2,h3,h4,h5,h6,h7⟩
 ·exact .inl h
 ·exact .inr ⟨g,cap,cur,e,(0,0),h1,h2,h3,h4,h5,h6,h7,fun _=>⟨rfl,rfl⟩,.inl rfl⟩
theorem fM.Bf {w:World} {B:Nat} {e:TypeId} {size:Nat} {v:Value} {n:Nat} {cells:List Value} (h:fM w B e size v n cells) (he:e≠gD):w.ownsRow B e size v n cells:=by
 refine ⟨h.1,?_⟩
 rcases h.2 with h | ⟨g,cap,cur,e',fz,h1,h2,h3,h4,h5,h6,h7,h8,_⟩
 ·exact .inl h
 ·obtain ⟨rfl,rfl⟩:=h8 he
  exact .inr ⟨g,cap,cur,h1,h2,h3,h4,h5,h6,h7⟩
theorem fM.cells {w:World} {B:Nat} {e:TypeId} {size:Nat} {v:Value} {n:Nat} {xs:List Value} (h:fM w B e size v n xs) {g:Nat} (hg:v.ownBlock=some g):∀ j u,xs[j]?=some u→w.cell? ((⟨g,0,none⟩:Addr).add j)=some u:=by
 intro j u hu
 rcases h.2 with ⟨rfl,_⟩ | ⟨g',cap,cur,e',fz,rfl,_,hgg,_,_,_,htake,_,_⟩
 ·simp [Value.ownBlock] at hg
 ·simp [Value.ownBlock] at hg
  subst hg
  have hadd:(⟨g',0,none⟩:Addr).add j=⟨g',j,none⟩:=by unfold Addr.add; split<;>simp_all
  rw [hadd,cell_of_row w g' j cur e' fz hgg]
  rw [←htake,List.getElem?_take] at hu
  split at hu
  ·simpa using hu
  ·cases hu
theorem afY {w w':World} {B:Nat} {e:TypeId} {size:Nat} {v:Value} {n:Nat} {cells:List Value} (h:fM w B e size v n cells) (hb:∀ g,v.ownBlock=some g→w'.heap[g]?=w.heap[g]?):fM w' B e size v n cells:=by
 refine ⟨h.1,?_⟩
 rcases h.2 with h | ⟨g,cap,cur,e',fz,rfl,h1,h2,h3⟩
 ·exact .inl h
 ·exact .inr ⟨g,cap,cur,e',fz,rfl,h1,by rw [hb g rfl]; exact h2,h3⟩
theorem jw {v:Value} {lim g:Nat} (h:v.ownBlock=some g):(g,lim)∈bK v lim:=by simp [bK,h]
theorem Flat.mono (P:Program):∀ (T:Ty) {w w':World} {G G':Nat→Nat→Prop} {B:Nat} {o:aw} {x:den T} {vs:List Value} {ob:OB},
  (∀ b i,b < w.heap.size→G b i→G' b i∧w'.cell? ⟨b,i,none⟩=w.cell? ⟨b,i,none⟩)→bP B w w'→(∀ g∈blocks ob,w'.heap[g]?=w.heap[g]?)→
  Flat P T w G B o x vs ob→Flat P T w' G' B o x vs ob
 | .int k,_,_,_,_,_,_,_,_,_,_,_,_,h=>by unfold Flat at h ⊢; exact h
 | .bool,_,_,_,_,_,_,_,_,_,_,_,_,h=>by unfold Flat at h ⊢; exact h
 | .str,_,_,_,_,_,_,_,_,_,_,_,_,h=>by unfold Flat at h ⊢; exact h
 | .unit,_,_,_,_,_,_,_,_,_,_,_,_,h=>by unfold Flat at h ⊢; exact h
 | .pair A C,_,_,_,_,_,_,_,_,_,hG,hL,hO,h=>by
   unfold Flat at h ⊢
   obtain ⟨v1,v2,b1,b2,rfl,rfl,h1,h2⟩:=h
   exact ⟨v1,v2,b1,b2,rfl,rfl,Flat.mono P A hG hL (fun g hg=>hO g (by simp [hg])) h1,Flat.mono P C hG hL (fun g hg=>hO g (by simp [hg])) h2⟩
 | .arr n T,_,_,_,_,_,_,_,_,ob,hG,hL,hO,h=>by
   unfold Flat at h ⊢
   exact ⟨h.1,aJ.imp (fun x v b hb hx=>Flat.mono P T hG hL (fun g hg=>hO g (by
    obtain ⟨q,hq,rfl⟩:=c4.1 hg
    exact c4.2 ⟨q,hb q hq,rfl⟩)) hx) h.2⟩
 | .sl T,w,w',G,G',B,o,xs,vs,ob,hG,hL,hO,h=>by
   have cS:∀ {ob:OB},(ob=[]∧∃ A c,vs=[.slice A xs.length c]∧xs.length≤c∧c≤maxLen∧
    (xs=[]∨∃ b off cells,A=some ⟨b,off,none⟩∧aJ (Flat P T w G B .no) xs cells []∧∀ j v,cells[j]?=some v→w.cell? ⟨b,off+j,none⟩=some v∧G b (off+j)))→
    (ob=[]∧∃ A c,vs=[.slice A xs.length c]∧xs.length≤c∧c≤maxLen∧
    (xs=[]∨∃ b off cells,A=some ⟨b,off,none⟩∧aJ (Flat P T w' G' B .no) xs cells []∧∀ j v,cells[j]?=some v→w'.cell? ⟨b,off+j,none⟩=some v∧G' b (off+j))):=by
    rintro ob ⟨h0,A,c,h1,h2,h3,h4⟩
    refine ⟨h0,A,c,h1,h2,h3,?_⟩
    rcases h4 with h4 | ⟨b,off,cells,h5,h6,h7⟩
    ·exact .inl h4
    ·refine .inr ⟨b,off,cells,h5,aJ.imp (fun x v b' hb hx=>Flat.mono P T hG hL (fun g hg=>?_) hx) h6,fun j v hj=>?_⟩
     ·obtain ⟨q,hq,rfl⟩:=c4.1 hg
      exact absurd (hb q hq) (by simp)
     ·have hc:=h7 j v hj
      have hlt:b < w.heap.size:=World.block_lt_of_cell? w _ hc.1
      have hg:=hG b (off+j) hlt hc.2
      exact ⟨hg.2.trans hc.1,hg.1⟩
   cases o with
   | no=>unfold Flat at h ⊢; exact cS h
   | hole=>unfold Flat at h ⊢; exact h
   | pair a b=>unfold Flat at h ⊢; exact cS h
   | mp=>unfold Flat at h ⊢; exact cS h
   | own wr e o=>
     unfold Flat at h ⊢
     obtain ⟨v,cells,ob',h1,h2,h3,rfl⟩:=h
     refine ⟨v,cells,ob',h1,afY h2 (fun g hg=>hO g ?_),aJ.imp (fun x v b hb hx=>Flat.mono P T hG hL (fun g hg=>hO g ?_) hx) h3,rfl⟩
     ·rw [eF]; exact fR _ (c4.2 ⟨_,jw hg,rfl⟩)
     ·obtain ⟨q,hq,rfl⟩:=c4.1 hg
      rw [eF]; exact ik _ (c4.2 ⟨q,hb q hq,rfl⟩)
 | .map K V,w,w',G,G',B,o,xs,vs,ob,hG,hL,hO,h=>by
   cases o with
   | mp=>
     unfold Flat at h ⊢
     obtain ⟨h1,h2,b,ents,clk,h3,h4,h5,rfl,h6⟩:=h
     refine ⟨h1,h2,b,ents,clk,h3,h4,by rw [hO b (by simp [blocks])]; exact h5,rfl,eb.imp (fun x m=>?_) h6⟩
     rintro ⟨ks,us,k1,k2,k3⟩
     exact ⟨ks,us,Flat.mono P K hG hL (by simp [blocks]) k1,Flat.mono P V hG hL (by simp [blocks]) k2,k3⟩
   | no | hole | pair | own=>unfold Flat at h ⊢; exact h
 | .fn A C,w,w',G,G',B,_,_,_,_,hG,hL,hO,h=>by
   unfold Flat at h ⊢
   obtain ⟨h0,hs,f,caps,h1,h2⟩:=h
   exact ⟨h0,hs,f,caps,h1,fun w'' G'' x vals hl=>h2 w'' G'' x vals (hL.trans hl)⟩
theorem aw.se {o:aw} (h:o.pure=true):o.l.pure=true:=by cases o<;>simp_all [aw.pure,aw.l]
theorem aw.sf {o:aw} (h:o.pure=true):o.r.pure=true:=by cases o<;>simp_all [aw.pure,aw.r]
theorem Flat.pure (P:Program):∀ (T:Ty) {w:World} {G:Nat→Nat→Prop} {B:Nat} {o o':aw} {x:den T} {vs:List Value} {ob:OB},o.pure=true→o'.pure=true→Flat P T w G B o x vs ob→ob=[]∧Flat P T w G B o' x vs []
 | .int k,_,_,_,_,_,_,_,_,_,_,h=>by unfold Flat at h ⊢; exact ⟨h.2.2,h.1,h.2.1,rfl⟩
 | .bool,_,_,_,_,_,_,_,_,_,_,h=>by unfold Flat at h ⊢; exact ⟨h.2,h.1,rfl⟩
 | .str,_,_,_,_,_,_,_,_,_,_,h=>by unfold Flat at h ⊢; exact ⟨h.2.2,h.1,h.2.1,rfl⟩
 | .unit,_,_,_,_,_,_,_,_,_,_,h=>by unfold Flat at h ⊢; exact ⟨h.2,h.1,rfl⟩
 | .pair A C,_,_,_,_,_,_,_,_,ho,ho',h=>by
   unfold Flat at h ⊢
   obtain ⟨v1,v2,b1,b2,rfl,rfl,h1,h2⟩:=h
   obtain ⟨e1,k1⟩:=Flat.pure P A (aw.se ho) (aw.se ho') h1
   obtain ⟨e2,k2⟩:=Flat.pure P C (aw.sf ho) (aw.sf ho') h2
   exact ⟨by rw [e1,e2]; rfl,v1,v2,[],[],rfl,rfl,k1,k2⟩
 | .arr n T,w,G,B,_,_,_,_,_,ho,_,h=>by
   unfold Flat at h ⊢
   have key:∀ {xs:List (den T)} {vs:List Value} {ob:OB},aJ (Flat P T w G B .no) xs vs ob→ob=[]∧aJ (Flat P T w G B .no) xs vs []:=by
    intro xs
    induction xs with
    | nil=>rintro vs ob ⟨rfl,rfl⟩; exact ⟨rfl,rfl,rfl⟩
    | cons x xs ih=>
      rintro vs ob ⟨u1,u2,c1,c2,rfl,rfl,hr,ht⟩
      obtain ⟨rfl,hr⟩:=Flat.pure P T (o:=.no) (o':=.no) rfl rfl hr
      obtain ⟨rfl,ht⟩:=ih ht
      exact ⟨rfl,u1,u2,[],[],rfl,rfl,hr,ht⟩
   obtain ⟨h1,h2⟩:=h
   obtain ⟨e,h2⟩:=key h2
   exact ⟨e,h1,h2⟩
 | .sl T,_,_,_,o,o',_,_,_,ho,ho',h=>by
   cases o<;>cases o'<;>simp only [aw.pure,dN] at ho ho'<;>unfold Flat at h ⊢<;>exact ⟨h.1,rfl,h.2⟩
 | .map K V,_,_,_,o,o',_,_,_,ho,ho',h=>by
   cases o<;>cases o'<;>simp only [aw.pure,dN] at ho ho'<;>unfold Flat at h ⊢<;>exact ⟨h.1,rfl,h.2⟩
 | .fn A C,_,_,_,_,_,_,_,_,_,_,h=>by unfold Flat at h ⊢; exact ⟨h.1,rfl,h.2⟩
theorem aJ.pure (P:Program) {T:Ty} {w:World} {G:Nat→Nat→Prop} {B:Nat} {o o':aw} (ho:o.pure=true) (ho':o'.pure=true):∀ {xs:List (den T)} {vs:List Value} {ob:OB},aJ (Flat P T w G B o) xs vs ob→ob=[]∧aJ (Flat P T w G B o') xs vs []
 | [],_,_,h=>by obtain ⟨rfl,rfl⟩:=h; exact ⟨rfl,rfl,rfl⟩
 | x::xs,_,_,h=>by
   obtain ⟨u1,u2,c1,c2,rfl,rfl,hr,ht⟩:=h
   obtain ⟨e1,k1⟩:=Flat.pure P T ho ho' hr
   obtain ⟨e2,k2⟩:=aJ.pure P ho ho' ht
   exact ⟨by rw [e1,e2]; rfl,u1,u2,[],[],rfl,rfl,k1,k2⟩
theorem Flat.one (P:Program):∀ (T:Ty) {w:World} {G:Nat→Nat→Prop} {B:Nat} {o:aw} {x:den T} {vs:List Value} {ob:OB},o.whole=true→Flat P T w G B o x vs ob→∀ u∈vs,u.oneCell'=true
 | .int k,_,_,_,_,_,_,_,_,h=>by unfold Flat at h; rw [h.1]; simp [Value.oneCell']
 | .bool,_,_,_,_,_,_,_,_,h=>by unfold Flat at h; rw [h.1]; simp [Value.oneCell']
 | .str,_,_,_,_,_,_,_,_,h=>by unfold Flat at h; rw [h.1]; simp [Value.oneCell']
 | .unit,_,_,_,_,_,_,_,_,h=>by unfold Flat at h; rw [h.1]; simp
 | .pair A C,_,_,_,o,_,_,_,ho,h=>by
   unfold Flat at h
   obtain ⟨v1,v2,b1,b2,rfl,rfl,h1,h2⟩:=h
   intro u hu
   rcases dn.1 hu with hu | hu
   ·exact Flat.one P A (by cases o<;>simp_all [aw.whole,aw.l]) h1 u hu
   ·exact Flat.one P C (by cases o<;>simp_all [aw.whole,aw.r]) h2 u hu
 | .arr n T,w,G,B,_,_,_,_,_,h=>by
   unfold Flat at h
   have key:∀ {xs:List (den T)} {vs:List Value} {ob:OB},aJ (Flat P T w G B .no) xs vs ob→∀ u∈vs,u.oneCell'=true:=by
    intro xs
    induction xs with
    | nil=>rintro vs ob ⟨rfl,rfl⟩; simp
    | cons x xs ih=>
      rintro vs ob ⟨u1,u2,c1,c2,rfl,rfl,hr,ht⟩ u hu
      rcases dn.1 hu with hu | hu
      ·exact Flat.one P T (o:=.no) rfl hr u hu
      ·exact ih ht u hu
   exact key h.2
 | .sl T,_,_,_,o,_,_,_,ho,h=>by
   cases o with
   | no=>unfold Flat at h; obtain ⟨_,A,c,rfl,_⟩:=h; simp [Value.oneCell']
   | hole=>simp [aw.whole] at ho
   | pair=>unfold Flat at h; obtain ⟨_,A,c,rfl,_⟩:=h; simp [Value.oneCell']
   | mp=>unfold Flat at h; obtain ⟨_,A,c,rfl,_⟩:=h; simp [Value.oneCell']
   | own wr e o=>
     unfold Flat at h
     obtain ⟨v,cells,ob',rfl,h2,_⟩:=h
     rcases h2.2 with h | ⟨g,cap,cur,_,_,rfl,_⟩
     ·rw [h.1]; simp [Value.oneCell']
     ·simp [Value.oneCell']
 | .map K V,_,_,_,o,_,_,_,ho,h=>by
   cases o<;>unfold Flat at h
   case mp=>obtain ⟨_,_,b,ents,clk,rfl,_⟩:=h; simp [Value.oneCell']
   all_goals (obtain ⟨_,r,rfl⟩:=h; simp [Value.oneCell'])
 | .fn A C,_,_,_,_,_,_,_,_,h=>by
   unfold Flat at h
   obtain ⟨_,_,f,caps,rfl,_⟩:=h; simp [Value.oneCell']
end Go.Fw
/- Soundness, part 2: parts of values; what a state of the machine says of memory. -/
namespace Go.Fw
open Go Go.RowKit
theorem pQ:∀ p,bU .no p=.no
 | []=>rfl
 | .l::p=>pQ p
 | .r::p=>pQ p
 | .ix _::_=>rfl
theorem pA:∀ (p:Path) (a b:aw),a.pure=true→b.pure=true→(eI a p b).pure=true
 | [],_,_,_,h=>h
 | .l::p,a,b,ha,hb=>by simp only [eI,aw.pure,aq]; exact ⟨pA p _ _ (aw.se ha) hb,aw.sf ha⟩
 | .r::p,a,b,ha,hb=>by simp only [eI,aw.pure,aq]; exact ⟨aw.se ha,pA p _ _ (aw.sf ha) hb⟩
 | .ix _::_,_,_,ha,_=>ha
theorem zx (T:Ty) (y:den T):bh T ⟨T,y⟩=some y:=by simp [bh]
theorem cI {T:Ty} {y:TV} {z:den T} (h:bh T y=some z):y=⟨T,z⟩:=by
 obtain ⟨T',y⟩:=y
 simp only [bh] at h
 split at h
 ·rename_i e; subst e; simp at h; rw [h]
 ·exact absurd h (by simp)
theorem oW:∀ (p:Path) (T:Ty) {P:Program} {w:World} {G:Nat→Nat→Prop} {B:Nat} {o:aw} {x:den T} {vs:List Value} {ob:OB} {y:TV},Flat P T w G B o x vs ob→aF T p x=some y→cM T p=some y.1
 | [],T,_,_,_,_,_,_,_,_,_,_,h=>by simp only [aF,av] at h; subst h; cases T<;>rfl
 | .l::p,.pair A C,_,_,_,_,_,_,_,_,_,hF,h=>by
   unfold Flat at hF; obtain ⟨v1,v2,b1,b2,rfl,rfl,h1,h2⟩:=hF
   simp only [aF,cM] at h ⊢; exact oW p A h1 h
 | .r::p,.pair A C,_,_,_,_,_,_,_,_,_,hF,h=>by
   unfold Flat at hF; obtain ⟨v1,v2,b1,b2,rfl,rfl,h1,h2⟩:=hF
   simp only [aF,cM] at h ⊢; exact oW p C h2 h
 | .ix i::p,.arr n T,_,_,_,_,_,_,_,_,_,hF,h=>by
   unfold Flat at hF; obtain ⟨hn,hF⟩:=hF
   simp only [aF,cM] at h ⊢
   split at h
   ·rename_i hi
    obtain ⟨v1,v2,v3,b1,b2,b3,_,_,_,h2,_⟩:=aJ.split (fun x v b hx=>Flat.len _ T hx) i (zero T) hF hi
    rw [if_pos (by omega)]; exact oW p T h2 h
   ·exact absurd h (by simp)
 | .l::_,.int _,_,_,_,_,_,_,_,_,_,_,h | .l::_,.bool,_,_,_,_,_,_,_,_,_,_,h | .l::_,.str,_,_,_,_,_,_,_,_,_,_,h | .l::_,.unit,_,_,_,_,_,_,_,_,_,_,h | .l::_,.sl _,_,_,_,_,_,_,_,_,_,_,h | .l::_,.arr _ _,_,_,_,_,_,_,_,_,_,_,h | .l::_,.fn _ _,_,_,_,_,_,_,_,_,_,_,h=>by simp [aF] at h
 | .r::_,.int _,_,_,_,_,_,_,_,_,_,_,h | .r::_,.bool,_,_,_,_,_,_,_,_,_,_,h | .r::_,.str,_,_,_,_,_,_,_,_,_,_,h | .r::_,.unit,_,_,_,_,_,_,_,_,_,_,h | .r::_,.sl _,_,_,_,_,_,_,_,_,_,_,h | .r::_,.arr _ _,_,_,_,_,_,_,_,_,_,_,h | .r::_,.fn _ _,_,_,_,_,_,_,_,_,_,_,h=>by simp [aF] at h
 | .ix _::_,.int _,_,_,_,_,_,_,_,_,_,_,h | .ix _::_,.bool,_,_,_,_,_,_,_,_,_,_,h | .ix _::_,.str,_,_,_,_,_,_,_,_,_,_,h | .ix _::_,.unit,_,_,_,_,_,_,_,_,_,_,h | .ix _::_,.sl _,_,_,_,_,_,_,_,_,_,_,h | .ix _::_,.pair _ _,_,_,_,_,_,_,_,_,_,_,h | .ix _::_,.fn _ _,_,_,_,_,_,_,_,_,_,_,h=>by simp [aF] at h
theorem Flat.lens (P:Program):∀ (p:Path) (T:Ty) {w:World} {G:Nat→Nat→Prop} {B:Nat} {o:aw} {x:den T} {vs:List Value} {ob:OB} {T':Ty} {y:den T'},Flat P T w G B o x vs ob→aF T p x=some ⟨T',y⟩→
  ∃ v1 v2 v3 b1 b2 b3,vs=v1++v2++v3∧ob=b1++b2++b3∧v1.length=a7 T p∧Flat P T' w G B (bU o p) y v2 b2∧
    ∀ (o2:aw) (y2:den T') (u:List Value) (c:OB) (x2:den T),(cc p=true→o2.pure=true)→Flat P T' w G B o2 y2 u c→aZ T p x ⟨T',y2⟩=some x2→Flat P T w G B (eI o p o2) x2 (v1++u++v3) (b1++c++b3)
 | [],T,w,G,B,o,x,vs,ob,T',y,hF,h=>by
   simp only [aF,av] at h
   obtain ⟨rfl,h⟩:=Sigma.mk.inj h
   rw [eq_of_heq h] at hF
   refine ⟨[],vs,[],[],ob,[],by simp,by simp,by cases T<;>rfl,hF,?_⟩
   intro o2 y2 u c x2 _ hy hs
   have hs':bh T ⟨T,y2⟩=some x2:=by cases T<;>exact hs
   rw [zx,av] at hs'
   subst hs'
   simpa [eI] using hy
 | .l::p,.pair A C,w,G,B,o,x,vs,ob,T',y,hF,h=>by
   unfold Flat at hF; obtain ⟨u1,u2,c1,c2,rfl,rfl,h1,h2⟩:=hF
   simp only [aF] at h
   obtain ⟨v1,v2,v3,b1,b2,b3,rfl,rfl,hl,hF2,hset⟩:=Flat.lens P p A h1 h
   refine ⟨v1,v2,v3++u2,b1,b2,b3++c2,by simp,by simp,hl,hF2,?_⟩
   intro o2 y2 u c x2 hix hy hs
   simp only [aZ,aj,av] at hs
   obtain ⟨z,hz,rfl⟩:=hs
   unfold Flat
   exact ⟨v1++u++v3,u2,b1++c++b3,c2,by simp,by simp,hset o2 y2 u c z hix hy hz,h2⟩
 | .r::p,.pair A C,w,G,B,o,x,vs,ob,T',y,hF,h=>by
   have hlen:∀ {vs ob},Flat P A w G B o.l x.1 vs ob→vs.length=ax A:=fun h=>Flat.len P A h
   unfold Flat at hF; obtain ⟨u1,u2,c1,c2,rfl,rfl,h1,h2⟩:=hF
   simp only [aF] at h
   obtain ⟨v1,v2,v3,b1,b2,b3,rfl,rfl,hl,hF2,hset⟩:=Flat.lens P p C h2 h
   refine ⟨u1++v1,v2,v3,c1++b1,b2,b3,by simp,by simp,by rw [b5,hlen h1,hl]; rfl,hF2,?_⟩
   intro o2 y2 u c x2 hix hy hs
   simp only [aZ,aj,av] at hs
   obtain ⟨z,hz,rfl⟩:=hs
   unfold Flat
   exact ⟨u1,v1++u++v3,c1,b1++c++b3,by simp,by simp,h1,hset o2 y2 u c z hix hy hz⟩
 | .ix i::p,.arr n T,w,G,B,o,x,vs,ob,T',y,hF,h=>by
   unfold Flat at hF; obtain ⟨hn,hF⟩:=hF
   simp only [aF] at h
   split at h
   ·rename_i hi
    obtain ⟨u1,u2,u3,c1,c2,c3,rfl,rfl,hl1,hE,hst⟩:=aJ.split (fun x v b hx=>Flat.len _ T hx) i (zero T) hF hi
    obtain ⟨v1,v2,v3,b1,b2,b3,rfl,rfl,hl,hF2,hset⟩:=Flat.lens P p T hE h
    rw [pQ] at hF2
    refine ⟨u1++v1,v2,v3++u3,c1++b1,b2,b3++c3,by simp,by simp,by rw [b5,hl1,hl]; rfl,hF2,?_⟩
    intro o2 y2 u c x2 hix hy hs
    simp only [aZ] at hs
    rw [if_pos hi] at hs
    simp only [aj,av] at hs
    obtain ⟨z,hz,rfl⟩:=hs
    have ho2:=hix rfl
    have hnew:=hset o2 y2 u c z (fun _=>ho2) hy hz
    obtain ⟨e,hnew⟩:=Flat.pure P T (pA p .no o2 rfl ho2) (o':=.no) rfl hnew
    have hE2:=hst z (v1++u++v3) [] hnew
    unfold Flat
    refine ⟨by rw [List.length_set]; exact hn,?_⟩
    have e':c1++b1++c++(b3++c3)=c1++[]++c3:=by
     rw [show c1++b1++c++(b3++c3)=c1++(b1++c++b3)++c3 by simp,e]
    rw [e']
    simpa using hE2
   ·exact absurd h (by simp)
 | .l::_,.int _,_,_,_,_,_,_,_,_,_,_,h | .l::_,.bool,_,_,_,_,_,_,_,_,_,_,h | .l::_,.str,_,_,_,_,_,_,_,_,_,_,h | .l::_,.unit,_,_,_,_,_,_,_,_,_,_,h | .l::_,.sl _,_,_,_,_,_,_,_,_,_,_,h | .l::_,.arr _ _,_,_,_,_,_,_,_,_,_,_,h | .l::_,.fn _ _,_,_,_,_,_,_,_,_,_,_,h=>by simp [aF] at h
 | .r::_,.int _,_,_,_,_,_,_,_,_,_,_,h | .r::_,.bool,_,_,_,_,_,_,_,_,_,_,h | .r::_,.str,_,_,_,_,_,_,_,_,_,_,h | .r::_,.unit,_,_,_,_,_,_,_,_,_,_,h | .r::_,.sl _,_,_,_,_,_,_,_,_,_,_,h | .r::_,.arr _ _,_,_,_,_,_,_,_,_,_,_,h | .r::_,.fn _ _,_,_,_,_,_,_,_,_,_,_,h=>by simp [aF] at h
 | .ix _::_,.int _,_,_,_,_,_,_,_,_,_,_,h | .ix _::_,.bool,_,_,_,_,_,_,_,_,_,_,h | .ix _::_,.str,_,_,_,_,_,_,_,_,_,_,h | .ix _::_,.unit,_,_,_,_,_,_,_,_,_,_,h | .ix _::_,.sl _,_,_,_,_,_,_,_,_,_,_,h | .ix _::_,.pair _ _,_,_,_,_,_,_,_,_,_,_,h | .ix _::_,.fn _ _,_,_,_,_,_,_,_,_,_,_,h=>by simp [aF] at h
theorem sa:∀ (p q:Path) (T:Ty) {T':Ty},cM T p=some T'→a7 T (p++q)=a7 T p+a7 T' q∧cM T (p++q)=cM T' q
 | [],q,T,T',h=>by
   have:T=T':=by cases T<;>simpa [cM] using h
   subst this
   have:a7 T []=0:=by cases T<;>rfl
   simp [this]
 | .l::p,q,.pair A C,T',h=>by simp only [cM] at h; simp only [iN,a7,cM]; exact sa p q A h
 | .r::p,q,.pair A C,T',h=>by
   simp only [cM] at h; simp only [iN,a7,cM]
   have:=sa p q C h
   exact ⟨by rw [this.1]; omega,this.2⟩
 | .ix i::p,q,.arr n T,T',h=>by
   simp only [cM] at h; simp only [iN,a7,cM]
   split at h
   ·rename_i hi
    have:=sa p q T h
    exact ⟨by rw [this.1]; omega,by rw [if_pos hi]; exact this.2⟩
   ·exact absurd h (by simp)
 | .l::_,_,.int _,_,h | .l::_,_,.bool,_,h | .l::_,_,.str,_,h | .l::_,_,.unit,_,h | .l::_,_,.sl _,_,h | .l::_,_,.arr _ _,_,h | .l::_,_,.fn _ _,_,h=>by simp [cM] at h
 | .r::_,_,.int _,_,h | .r::_,_,.bool,_,h | .r::_,_,.str,_,h | .r::_,_,.unit,_,h | .r::_,_,.sl _,_,h | .r::_,_,.arr _ _,_,h | .r::_,_,.fn _ _,_,h=>by simp [cM] at h
 | .ix _::_,_,.int _,_,h | .ix _::_,_,.bool,_,h | .ix _::_,_,.str,_,h | .ix _::_,_,.unit,_,h | .ix _::_,_,.sl _,_,h | .ix _::_,_,.pair _ _,_,h | .ix _::_,_,.fn _ _,_,h=>by simp [cM] at h
def bj (w:World) (tm:Array Value) (env:Env) (s:Nat) (p:Path):Option Value:=
 match look env s with
 | .own .. =>match p with | []=>some (tm.getD s undef) | _=>none
 | .loc T _ _=>match tm.getD s undef with | .pointer (some a)=>w.cell? ⟨a.block,a7 T p,none⟩ | _=>none
 | _=>none
def ew (env:Env) (s:Nat) (p:Path):Bool:=
 match look env s with
 | .loc T o x=>match bU o p,aF T p x with
   | .mp,some ⟨.map _ _,_⟩=>true
   | _,_=>false
 | _=>false
def jo (w:World) (B:Nat) (t e:TypeId) (s:List UInt8) (v:Value) (ob:OB):Prop:=
 ∃ b p u,v=.pointer (some ⟨b,0,none⟩)∧B≤b∧w.heap[b]?=some (.cells #[p,u] t (0,0))∧(p=.pointer none∨p=.pointer (some ⟨b,0,none⟩))∧w.ownsRow B e 1 u s.length (s.map fun c=>Value.int .u8 c.toNat)∧
   u.ownBlock≠some b∧ob=(b,0)::bK u 0
def cd (P:Program) (w:World) (G:Nat→Nat→Prop) (B:Nat) (tm:Array Value) (env:Env):E→Value→OB→Prop
 | .dead,_,ob=>ob=[]
 | .bE,v,ob=>v=undef∧ob=[]
 | .v T x,v,ob=>ob=[]∧∃ vs,Flat P T w G B .no x vs []∧v=bg T vs
 | .own wr e T o xs,v,ob=>Flat P (.sl T) w G B (.own wr e o) xs [v] ob
 | .loc T o x,v,ob=>∃ b cur e ob',v=.pointer (some ⟨b,0,none⟩)∧B≤b∧w.heap[b]?=some (.cells cur e (0,0))∧Flat P T w G B o x cur.toList ob'∧ob=(b,0)::ob'
 | .ref s p,v,ob=>ob=[]∧bj w tm env s p=some v∧((a8 env s p).isSome=true∨ew env s p=true)
 | .ptr s p,v,ob=>ob=[]∧∃ T o x b,look env s=.loc T o x∧tm.getD s undef=.pointer (some ⟨b,0,none⟩)∧(cM T p).isSome=true∧v=.pointer (some ⟨b,a7 T p,none⟩)
 | .cN s p i q,v,ob=>ob=[]∧∃ h g n c,a8 env s p=some h∧bj w tm env s p=some (.slice (some ⟨g,0,none⟩) n c)∧i < h.xs.length∧(cM h.T q).isSome=true∧
   v=.pointer (some ⟨g,i * ax h.T+a7 h.T q,none⟩)
 | .at T x,v,ob=>ob=[]∧∃ b off vs,v=.pointer (some ⟨b,off,none⟩)∧Flat P T w G B .no x vs []∧∀ j u,vs[j]?=some u→w.cell? ⟨b,off+j,none⟩=some u∧(b < B∨G b (off+j))
 | .cC _,_,_=>False
 | .cK _ _ _ _,_,_=>False
 | .nw T o x,v,ob=>ob=[]∧∃ vs,Flat P T w G B o x vs []∧v=bg T vs
 | .nm T o x,v,ob=>∃ vs,Flat P T w G B o x vs ob∧v=bg T vs
 | .it s pos,v,ob=>∃ b,v=.pointer (some ⟨b,0,none⟩)∧B≤b∧w.heap[b]?=some (.stringIter ⟨⟨s⟩⟩ pos)∧s.length≤maxLen∧ob=[(b,0)]
 | .sb t e s,v,ob=>jo w B t e s v ob∧s.length≤140737488355328
def dF (R:E→Value→OB→Prop):List E→List Value→OB→Prop
 | [],vs,ob=>vs=[]∧ob=[]
 | e::es,vs,ob=>∃ v r b1 b2,vs=v::r∧ob=b1++b2∧R e v b1∧dF R es r b2
def bm (P:Program) (w:World) (G:Nat→Nat→Prop) (B:Nat) (tm:Array Value) (env:Env):E→Value→OB→Prop
 | .cC es,v,ob=>(∀ e∈es,∀ s,leads s e=false)∧∃ vs,v=.tuple vs∧dF (cd P w G B tm env) es vs.toList ob
 | .cK f _ _ caps,v,ob=>ob=[]∧∃ cv,v=.func (.func f) #[] cv∧dF (cd P w G B tm env) caps cv.toList []
 | e,v,ob=>cd P w G B tm env e v ob
def Gd (B:Nat) (G0:Nat→Nat→Prop) (ob:Nat→OB) (b i:Nat):Prop:=
 (b < B∧G0 b i)∨(B≤b∧G0 b i∧∀ k lim,(b,lim)∈ob k→i < lim)
structure fm where
 tb:Nat
 has:Nat→Obj→Prop
 lt:∀ g o,has g o→g < tb
def fm.nil:fm:=⟨0,fun _ _=>False,fun _ _ h=>h.elim⟩
structure fm.ok (t:fm) (w:World):Prop where
 le:t.tb≤w.heap.size
 at_:∀ g o,t.has g o→w.heap[g]?=some o
theorem fm.Si (w:World):fm.nil.ok w:=⟨Nat.zero_le _,fun _ _ h=>h.elim⟩
structure cZ where
 w:World
 x:Nat→Prop
 pin:Option Value
 r:Nat→Nat→Prop
 t:fm
def bl (W0:cZ) (n k:Nat):Prop:=k < n∧(W0.pin=none∨k≠0)
structure ae (P:Program) (B:Nat) (G0:Nat→Nat→Prop) (W0:cZ) (n:Nat) (env:Env) (tm:Array Value) (w:World) (ob:Nat→OB):Prop where
 rep:∀ k,bm P w (Gd B G0 ob) B tm env (look env k) (tm.getD k undef) (ob k)
 dist:∀ j k b,b∈blocks (ob j)→b∈blocks (ob k)→j=k
 nodup:∀ k,(blocks (ob k)).Nodup
 low:∀ k b,b∈blocks (ob k)→B≤b∧b < w.heap.size
 below:Below B W0.w w
 prot:∀ k b,b∈blocks (ob k)→¬ W0.x b
 same:∀ b,W0.x b→w.heap[b]?=W0.w.heap[b]?
 oldx:∀ b,W0.x b→b < w.heap.size
 free:∀ b i,B≤b→¬ W0.x b→G0 b i
 base:B≤w.heap.size
 size:tm.size=n
 pinned:∀ v,W0.pin=some v→tm.getD 0 undef=v
 kept:∀ b i,W0.r b i→b < w.heap.size∧Gd B G0 ob b i∧w.cell? ⟨b,i,none⟩=W0.w.cell? ⟨b,i,none⟩
 tab:W0.t.tb≤B∧W0.t.ok W0.w
theorem ae.nG {P:Program} {B:Nat} {G0:Nat→Nat→Prop} {W0:cZ} {n:Nat} {env:Env} {tm:Array Value} {w:World} {ob:Nat→OB} (hC:ae P B G0 W0 n env tm w ob):W0.t.ok w:=
 ⟨dV hC.tab.1 hC.base,fun g o h=>by rw [hC.below.block g (dp (W0.t.lt g o h) hC.tab.1)]; exact hC.tab.2.at_ g o h⟩
theorem ae.amN {P:Program} {B:Nat} {G0:Nat→Nat→Prop} {W0:cZ} {n:Nat} {env:Env} {tm:Array Value} {w w':World} {ob:Nat→OB} (hC:ae P B G0 W0 n env tm w ob) (h:bP B w w'):W0.t.ok w':=
 ⟨dV hC.nG.le h.1,fun g o hg=>by rw [h.2 g (dp (W0.t.lt g o hg) hC.tab.1)]; exact hC.nG.at_ g o hg⟩
end Go.Fw
