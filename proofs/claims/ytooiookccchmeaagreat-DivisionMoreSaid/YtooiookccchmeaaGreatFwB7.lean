/- Own work: the value machine, part 7. -/
import Derived.Test.YtooiookccchmeaaGreatFwB6
import Derived.SizedLaws
import Derived.WalkKit
set_option linter.unusedVariables false
set_option linter.unusedSimpArgs false
open Bool renaming and_eq_true → au, not_eq_true' → du, or_eq_true → nz
open List renaming getElem?_cons_zero → iI, all_append → zD, eq_nil_of_length_eq_zero → lh, getElem?_eq_getElem → fc, getElem?_map → lj, getElem?_of_mem → kI, mem_map → dd, all_eq_true → fj, mem_cons → cS, idxOf_cons_self → DM, getElem_idxOf → DK, idxOf_lt_length_of_mem → DN
open List.Perm renaming refl → LM
open Ne renaming symm → bu
open Option.some renaming injEq → aw
/- The glue, generic: how long the arguments' texts are. -/
namespace Go.Fw
open Go Go.RowKit
def gW (K:Nat):(T:Ty)→den T→Prop
 | .str,s=>s.length≤K
 | .sl T,xs=>∀ x∈xs,gW K T x
 | .pair A B,x=>gW K A x.1∧gW K B x.2
 | .arr _ T,xs=>∀ x∈xs,gW K T x
 | _,_=>True
section
variable {H:Type} {enc:TypeId×Value→H} {P:Program} {w:World} {sp:Nat→Bool} {held:Bool} {B:Nat}
theorem Lz {e:TypeId} {K:Nat}:∀ {l:List (DataW H)} {i:Nat} {d:DataW H},l[i]?=some d→(DataW.weightsAll P e l).all (· ≤K)=true→(d.weights P e).all (· ≤K)=true
 | [],i,d,h,_=>by simp at h
 | x::l,0,d,h,hz=>by
   simp only [iI,aw] at h
   subst h
   simp only [DataW.weightsAll,zD,au] at hz
   exact hz.1
 | x::l,i+1,d,h,hz=>by
   simp only [DataW.weightsAll,zD,au] at hz
   exact Lz (by simpa using h) hz.2
theorem ahG (K:Nat):∀ (m:Nat),
  (∀ (t:TypeId) (T:Ty) (fuel:Nat) (cs:List Value) (x:DataW H×List MemPlace),c8 P m t T=true→gh T=true→DataW.trod enc P w 0 sp held fuel t cs=some x→∃ v,Flat P T w (fun _ _=>True) B .no v cs []∧eM T v∧((x.1.weights P t).all (· ≤K)=true→gW K T v))∧
  (∀ (fs:List Field) (T:Ty) (off:Nat) (cs:List Value) (ds:List (DataW H)),eu P m fs T off=true→gh T=true→cs.length=off+ay T→
   (∀ (i:Nat) (f:Field),fs[i]?=some f→∃ n y,DataW.trod enc P w 0 sp held n f.type ((cs.drop f.offset).take (P.cellsOf f.type))=some y∧ds[i]?=some y.1)→∃ v,Flat P T w (fun _ _=>True) B .no v (cs.drop off) []∧eM T v∧((DataW.weightsEach P (fs.map (·.type)) ds).all (· ≤K)=true→gW K T v)):=by
 intro m
 induction m with
 | zero=>exact ⟨fun t T fuel cs x h=>by simp [c8] at h,fun fs T off cs ds h=>by simp [eu] at h⟩
 | succ m ih=>
   obtain ⟨ih1,ih2⟩:=ih
   refine ⟨fun t T fuel cs x h ha hd=>?_,fun fs T off cs ds h ha hl hd=>?_⟩
   ·have hT:bH P t T:=⟨⟨m+1,h⟩⟩
    cases T with
    | int k=>
      obtain ⟨n,rfl,_,hw⟩:=DataW.trod_int hT.int hd
      exact ⟨n,by unfold Flat; exact ⟨rfl,DB hw,rfl⟩,DB hw,fun _=>trivial⟩
    | bool=>
      unfold c8 at h
      simp only [au] at h
      have h2:=h.2
      split at h2<;>first | (simp at h2; done) | skip
      ·rename_i hu
       obtain ⟨b,rfl,_⟩:=DataW.trod_bool hu hd
       exact ⟨b,by unfold Flat; exact ⟨rfl,rfl⟩,trivial,fun _=>trivial⟩
      ·cases m with
       | zero=>simp [eu] at h2
       | succ m=>unfold eu at h2; split at h2<;>simp at h2
    | str=>
      obtain ⟨s,rfl,hx,hw⟩:=DataW.trod_string hT.str hd
      obtain ⟨⟨s⟩⟩:=s
      refine ⟨s,by unfold Flat; exact ⟨rfl,hw,rfl⟩,hw,fun hz=>?_⟩
      rw [hx] at hz
      simpa [DataW.weights,gW] using hz
    | unit=>
      unfold c8 at h
      simp only [au] at h
      have h2:=h.2
      split at h2<;>first | (simp at h2; done) | skip
      rename_i fs hu
      obtain ⟨xs,n,_,_,hlen,hxl,_⟩:=DataW.trod_struct hu hd
      rw [ki (n:=m+1) (T:=.unit) (by unfold c8; simp only [au]; refine ⟨h.1,?_⟩; rw [hu]; exact h2)] at hlen
      have:cs=[]:=lh hlen
      subst this
      exact ⟨(),by unfold Flat; exact ⟨rfl,rfl⟩,trivial,fun _=>trivial⟩
    | pair A C=>
      have hsz:=ki h
      unfold c8 at h
      simp only [au] at h
      have h2:=h.2
      split at h2<;>first | (simp at h2; done) | skip
      rename_i fs hu
      obtain ⟨xs,n,_,hx,hlen,hxl,hf⟩:=DataW.trod_struct hu hd
      obtain ⟨v,g1,g2,g3⟩:=ih2 fs.toList (.pair A C) 0 cs (xs.map (·.1)) h2 ha (by rw [hlen,hsz]; omega) (fun i f hi=>by
       have hi':fs[i]?=some f:=by simpa using hi
       have hlt:i < xs.length:=by rw [hxl]; exact (Array.getElem?_eq_some_iff.1 hi').1
       exact ⟨n,xs[i],by rw [hf i f hi']; exact fc hlt,by rw [lj,fc hlt]; rfl⟩)
      refine ⟨v,by simpa using g1,g2,fun hz=>g3 ?_⟩
      rw [hx] at hz
      simpa only [DataW.weights,hu] using hz
    | sl T=>
      simp only [gh,au,du,beq_eq_false_iff_ne] at ha
      obtain ⟨e,hu,_⟩:=hT.slice
      have he:c8 P m e T=true:=by
       unfold c8 at h
       simp only [au] at h
       have h2:=h.2
       rw [hu] at h2
       exact h2
      have hc:P.cellsOf e=ay T:=ki he
      rcases DataW.trod_slice hu hd with ⟨rfl,_⟩ | ⟨a,len,cap,elems,rest,n,_,rfl,hx,hb,hl,hm,hlen,hel,_⟩
      ·refine ⟨[],?_,by simp [eM],fun _=>by simp [gW]⟩
       unfold Flat
       exact ⟨rfl,none,0,rfl,Nat.le_refl _,by simp,.inl rfl⟩
      ·have key:∀ i,i < len→∃ q:List Value×den T,(q.1.length=ay T∧(∀ r,r < ay T→w.cell? ((a.add (i * ay T)).add r)=q.1[r]?))∧Flat P T w (fun _ _=>True) B .no q.2 q.1 []∧eM T q.2∧∃ y,elems[i]?=some y∧((y.1.weights P e).all (· ≤K)=true→gW K T q.2):=by
        intro i hi
        have:=hel i hi
        rw [fc (by omega)] at this
        obtain ⟨cs',hcs,hy⟩:=Option.bind_eq_some_iff.1 this
        obtain ⟨v,hv1,hv2,hv3⟩:=ih1 e T n cs' _ he ha.1 hy
        obtain ⟨_,k1,k2⟩:=World.cells?_some hcs
        rw [hc] at k1 k2
        exact ⟨(cs',v),⟨k1,k2⟩,hv1,hv2,_,fc _,hv3⟩
       obtain ⟨L,hL,hq⟩:=yV len key
       refine ⟨L.map (·.2),?_,?_,fun hz=>?_⟩
       ·unfold Flat
        refine ⟨rfl,some a,cap,by simp [hL],by simpa [hL] using hl,hm,?_⟩
        by_cases h0:len=0
        ·left; have:L=[]:=lh (by omega); simp [this]
        ·right
         have hpos:0 < ay T:=Nat.pos_of_ne_zero ha.2
         have hcell:∀ i r q,L[i]?=some q→r < ay T→∃ v,q.1[r]?=some v∧w.cell? ((a.add (i * ay T)).add r)=some v:=by
          intro i r q hi hr
          have:=(hq i q hi).1
          refine ⟨q.1[r]'(by omega),fc _,?_⟩
          rw [this.2 r hr]; exact fc _
         have hsp:a.spot=none:=by
          obtain ⟨v,_,hv⟩:=hcell 0 0 (L[0]'(by omega)) (fc _) hpos
          have:=WA hv
          simpa [Addr.add] using this
         obtain ⟨b,off,s⟩:=a
         simp only at hsp
         subst hsp
         refine ⟨b,off,(L.map (·.1)).flatten,rfl,vr L (fun q hq'=>?_),fun j v hj=>⟨?_,trivial⟩⟩
         ·obtain ⟨i,hi⟩:=kI hq'
          exact (hq i q hi).2.1
         ·obtain ⟨i,r,l,rfl,hr,hi,hv⟩:=Jj _ (fun l hl'=>by
           obtain ⟨q,hq',rfl⟩:=dd.1 hl'
           obtain ⟨i,hi⟩:=kI hq'
           exact (hq i q hi).1.1) j v hj
          rw [lj,Option.map_eq_some_iff] at hi
          obtain ⟨q,hi,rfl⟩:=hi
          obtain ⟨v',hv1,hv2⟩:=hcell i r q hi hr
          rw [hv] at hv1; cases hv1
          rw [WideShapes.add_plain,WideShapes.add_plain,Nat.add_assoc] at hv2
          exact hv2
       ·unfold eM
        refine ⟨by simp [hL]; omega,fun x hx=>?_⟩
        obtain ⟨q,hq',rfl⟩:=dd.1 hx
        obtain ⟨i,hi⟩:=kI hq'
        exact (hq i q hi).2.2.1
       ·unfold gW
        intro x hx2
        obtain ⟨q,hq',rfl⟩:=dd.1 hx2
        obtain ⟨i,hi⟩:=kI hq'
        obtain ⟨y,hy1,hy2⟩:=(hq i q hi).2.2.2
        apply hy2
        rw [hx] at hz
        simp only [DataW.weights,hu,List.all_cons,zD,au] at hz
        exact Lz (by rw [lj,hy1]; rfl) hz.2.1
    | arr n T=>
      have hsz:=ki h
      unfold c8 at h
      simp only [au] at h
      have h2:=h.2
      split at h2<;>first | (simp at h2; done) | skip
      ·rename_i n' e hu
       simp only [au,beq_iff_eq] at h2
       obtain ⟨rfl,he⟩:=h2
       simp only [gh] at ha
       have hc:P.cellsOf e=ay T:=ki he
       obtain ⟨xs,k,_,hx,hlen,hxl,hel⟩:=DataW.trod_array hu hd
       have key:∀ i,i < n'→∃ q:List Value×den T,q.1=(cs.drop (i * ay T)).take (ay T)∧Flat P T w (fun _ _=>True) B .no q.2 q.1 []∧eM T q.2∧∃ y,xs[i]?=some y∧((y.1.weights P e).all (· ≤K)=true→gW K T q.2):=by
        intro i hi
        have:=hel i hi
        rw [fc (by omega),hc] at this
        obtain ⟨v,hv1,hv2,hv3⟩:=ih1 e T k _ _ he ha this
        exact ⟨(_,v),rfl,hv1,hv2,_,fc _,hv3⟩
       obtain ⟨L,hL,hq⟩:=yV n' key
       refine ⟨L.map (·.2),?_,?_,fun hz=>?_⟩
       ·unfold Flat
        refine ⟨by simp [hL],?_⟩
        have:=vr (R:=Flat P T w (fun _ _=>True) B .no) L (fun q hq'=>by
         obtain ⟨i,hi⟩:=kI hq'
         exact (hq i q hi).2.1)
        rwa [Ji (c:=ay T) L cs (fun i q hi=>(hq i q hi).1) (by rw [hlen,hsz,hL]; rfl)] at this
       ·unfold eM
        refine ⟨by simp [hL],fun x hx=>?_⟩
        obtain ⟨q,hq',rfl⟩:=dd.1 hx
        obtain ⟨i,hi⟩:=kI hq'
        exact (hq i q hi).2.2.1
       ·unfold gW
        intro x hx2
        obtain ⟨q,hq',rfl⟩:=dd.1 hx2
        obtain ⟨i,hi⟩:=kI hq'
        obtain ⟨y,hy1,hy2⟩:=(hq i q hi).2.2.2
        apply hy2
        rw [hx] at hz
        simp only [DataW.weights,hu] at hz
        exact Lz (by rw [lj,hy1]; rfl) hz
      ·cases m with
       | zero=>simp [eu] at h2
       | succ m=>unfold eu at h2; split at h2<;>simp at h2
    | fn A C=>simp [gh] at ha
    | map K V=>simp [gh] at ha
   ·cases fs with
    | nil=>
      unfold eu at h
      cases T<;>first | (exfalso; simp at h; done) | skip
      refine ⟨(),?_,trivial,fun _=>trivial⟩
      unfold Flat
      exact ⟨by apply List.drop_eq_nil_of_le; simp [ay] at hl; omega,rfl⟩
    | cons f fs=>
      unfold eu at h
      cases T<;>first | (exfalso; simp at h; done) | skip
      rename_i A C
      simp only [au,beq_iff_eq] at h
      obtain ⟨⟨h1,h2⟩,h3⟩:=h
      simp only [gh,au] at ha
      simp only [ay] at hl
      obtain ⟨n,y,hy,hy0⟩:=hd 0 f rfl
      obtain ⟨v1,g1,g2,g5⟩:=ih1 f.type A n _ y h2 ha.1 hy
      obtain ⟨d0,ds',rfl⟩:∃ d0 ds',ds=d0::ds':=by
       cases ds with
       | nil=>simp at hy0
       | cons d r=>exact ⟨d,r,rfl⟩
      simp only [iI,aw] at hy0
      obtain ⟨v2,g3,g4,g6⟩:=ih2 fs C (off+ay A) cs ds' h3 ha.2 (by omega) (fun i f' hi=>by simpa using hd (i+1) f' (by simpa using hi))
      refine ⟨(v1,v2),?_,⟨g2,g4⟩,fun hz=>?_⟩
      ·unfold Flat
       refine ⟨_,_,[],[],?_,rfl,g1,g3⟩
       rw [h1,ki h2,←List.drop_drop,List.take_append_drop]
      ·simp only [List.map_cons,DataW.weightsEach,zD,au] at hz
       exact ⟨g5 (by rw [←hy0]; exact hz.1),g6 hz.2⟩
theorem Ly {ts:List TypeId} {ds:List (DataW H)} {K:Nat} (h:(DataW.weightsEach P ts ds).all (· ≤K)=true) {j:Nat} {t:TypeId} {d:DataW H} (ht:ts[j]?=some t) (hd:ds[j]?=some d):(d.weights P t).all (· ≤K)=true:=by
 rw [fj] at h ⊢
 intro n hn
 exact h n (DataW.weights_mem_each ht hd n hn)
theorem La {r:Reach} {b0:Nat} {t:TypeId} {T:Ty} {v:Value} {d:DataW H} {ps:List MemPlace} (hT:eD P t T=true) (ha:gh T=true) (hval:Value.okWide P w r b0 t v) (hd:DataW.Trod enc P w 0 sp held t v d ps) (hz:(d.weights P t).all (· ≤reachBytes)=true):
  ∃ x:den T,iE P w (fun _ _=>True) (.v T x) v∧eM T x∧gW reachBytes T x:=by
 obtain ⟨fuel,hf⟩:=hd
 obtain ⟨x,h1,h2,h3⟩:=(ahG (B:=w.heap.size) reachBytes 64).1 t T fuel _ _ hT ha hf
 refine ⟨x,⟨_,h1,?_⟩,h2,h3 hz⟩
 have hTy:=eI hT
 obtain ⟨dsc,hu,hag⟩:=hTy.agg
 unfold bh
 unfold Value.okWide at hval
 by_cases hagg:cA T=true
 ·rw [if_pos hagg]
  rw [hagg] at hag
  rw [hu] at hval
  cases dsc<;>simp only [oZ] at hag<;>first | (exfalso; simp at hag; done) | (obtain ⟨cs,rfl,_⟩:=hval; simp [Value.cells])
 ·rw [if_neg hagg]
  have hagg':oZ dsc=false:=by rw [hag]; simpa using hagg
  have hl:v.cells.toList.length=1:=by
   have:=Flat.len P T h1
   rw [this]; cases T<;>simp_all [cA,ay]
  cases v<;>first | rfl | skip
  rename_i cs
  exfalso
  rw [hu] at hval
  cases dsc<;>simp only [oZ] at hagg'<;>first | (exfalso; simp at hagg'; done) | (simp [Cell.okWide,Cell.ok,hu] at hval; done) | skip
end
end Go.Fw
/- Lists put in order by a function that compares: plain. -/
namespace Go.Fw
def qG {α:Type} (g:α×(α×Unit)→Option Int) (x y:α):Bool:=match g (x,(y,())) with | some n=>decide (n < 0) | none=>false
def qn {α:Type} (g:α×(α×Unit)→Option Int) (x y:α):Bool:=match g (x,(y,())) with | some n=>!decide (n < 0) | none=>false
def nn {α:Type} (g:α×(α×Unit)→Option Int) (x:α):List α→List α
 | []=> [x]
 | y::r=>match qG g y x with | true=>y::nn g x r | false=>x::y::r
def jc {α:Type} (g:α×(α×Unit)→Option Int) (xs:List α):List α:=xs.foldl (fun l x=>nn g x l) []
def nr {α:Type} [DecidableEq α] (g:α×(α×Unit)→Option Int):List α→Bool
 | []=>true
 | x::r=>qn g x x&&r.all (fun y=>decide (x=y) || (qG g x y&&qn g y x))&&nr g r
def tT {α:Type} [DecidableEq α] (g:α×(α×Unit)→Option Int) (xs:List α):Option (List α):=
 if xs≠[]∧xs.length≤140737488355328∧nr g (jc g xs)=true then some (jc g xs) else none
section
variable {α:Type} [DecidableEq α] {g:α×(α×Unit)→Option Int}
omit [DecidableEq α] in
theorem KD (x:α):∀ l:List α,(nn g x l).Perm (x::l)
 | []=>LM _
 | y::r=>by
   unfold nn
   split
   ·exact ((KD x r).cons y).trans (List.Perm.swap x y r)
   ·exact LM _
omit [DecidableEq α] in
theorem zi (xs:List α):(jc g xs).Perm xs:=by
 have h:∀ (xs l:List α),(xs.foldl (fun l x=>nn g x l) l).Perm (xs++l):=by
  intro xs
  induction xs with
  | nil=>intro l; exact LM _
  | cons x xs ih=>
    intro l
    refine (ih _).trans ?_
    refine (List.Perm.append_left xs (KD x l)).trans ?_
    exact List.perm_middle
 have:=h xs []
 rwa [List.append_nil] at this
theorem s8 {a x:α} (r:List α) (h:a≠x):(a::r).idxOf x=r.idxOf x+1:=by
 rw [List.idxOf_cons,show (a==x)=false by simpa using h]; rfl
theorem K9:∀ {l:List α},nr g l=true→∀ x∈l,∀ y∈l,∃ n,g (x,(y,()))=some n∧(n < 0↔l.idxOf x < l.idxOf y)
 | [],_,x,hx,_,_=>absurd hx (by simp)
 | a::r,h,x,hx,y,hy=>by
   unfold nr at h
   simp only [au,fj,nz,decide_eq_true_eq] at h
   obtain ⟨⟨h0,h1⟩,h2⟩:=h
   have lt_some:∀ {u v:α},qG g u v=true→∃ n,g (u,(v,()))=some n∧n < 0:=by
    intro u v h
    unfold qG at h
    split at h
    ·rename_i n hn; exact ⟨n,hn,by simpa using h⟩
    ·cases h
   have ge_some:∀ {u v:α},qn g u v=true→∃ n,g (u,(v,()))=some n∧¬ n < 0:=by
    intro u v h
    unfold qn at h
    split at h
    ·rename_i n hn; exact ⟨n,hn,by simpa using h⟩
    ·cases h
   by_cases hxa:x=a
   ·by_cases hya:y=a
    ·subst hxa; subst hya
     obtain ⟨n,hn,hl⟩:=ge_some h0
     exact ⟨n,hn,by simp [hl]⟩
    ·subst hxa
     have hy':y∈r:=(cS.1 hy).resolve_left hya
     rcases h1 y hy' with e | ⟨e,_⟩
     ·exact absurd e.symm hya
     ·obtain ⟨n,hn,hl⟩:=lt_some e
      refine ⟨n,hn,?_⟩
      rw [DM,s8 r (bu hya)]
      simp only [hl,true_iff]; omega
   ·have hx':x∈r:=(cS.1 hx).resolve_left hxa
    by_cases hya:y=a
    ·subst hya
     rcases h1 x hx' with e | ⟨_,e⟩
     ·exact absurd e.symm hxa
     ·obtain ⟨n,hn,hl⟩:=ge_some e
      refine ⟨n,hn,?_⟩
      rw [DM,s8 r (bu hxa)]
      simp [hl]
    ·have hy':y∈r:=(cS.1 hy).resolve_left hya
     obtain ⟨n,hn,hl⟩:=K9 h2 x hx' y hy'
     refine ⟨n,hn,?_⟩
     rw [s8 r (bu hxa),s8 r (bu hya),hl]
     omega
theorem VU:∀ {l:List α},nr g l=true→l.Pairwise fun x y=>l.idxOf x≤l.idxOf y
 | [],_=>List.Pairwise.nil
 | a::r,h=>by
   unfold nr at h
   simp only [au] at h
   refine List.Pairwise.cons (fun y _=>by rw [DM]; omega) ?_
   refine (VU h.2).imp_of_mem ?_
   intro x y hx hy hxy
   by_cases h1:x=a
   ·subst h1; rw [DM]; omega
   ·by_cases h2:y=a
    ·subst h2
     have hz:r.idxOf y=r.idxOf y:=rfl
     -- y stands ahead: then x, between two that are one, is less and not less
     exfalso
     obtain ⟨n,hn,hl⟩:=K9 h.2 x hx y hy
     simp only [fj,nz,decide_eq_true_eq,au] at h
     rcases h.1.2 x hx with e | ⟨_,e⟩
     ·exact h1 e.symm
     ·unfold qn at e
      rw [hn] at e
      simp only [du,decide_eq_false_iff_not] at e
      have hle:=mt hl.2 e
      have:r.idxOf x=r.idxOf y:=by omega
      exact h1 (by
       have e1:=DK (DN hx)
       have e2:=DK (DN hy)
       rw [←e1,←e2]; simp only [this])
    ·rw [s8 r (bu h1),s8 r (bu h2)]; omega
theorem ahE {l m:List α} (h:nr g l=true) (hp:m.Perm l) (hm:m.Pairwise fun x y=>l.idxOf x≤l.idxOf y):m=l:=by
 refine List.Perm.eq_of_pairwise (le:=fun x y=>l.idxOf x≤l.idxOf y) ?_ hm (VU h) hp
 intro a b ha hb h1 h2
 have ha':a∈l:=hp.mem_iff.1 ha
 have:l.idxOf a=l.idxOf b:=by omega
 have e1:=DK (DN ha')
 have e2:=DK (DN hb)
 rw [←e1,←e2]; simp only [this]
end
end Go.Fw
