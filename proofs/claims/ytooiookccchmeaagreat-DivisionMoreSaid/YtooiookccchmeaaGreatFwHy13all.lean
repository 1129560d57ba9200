/- Own work. -/
import Derived.Test.YtooiookccchmeaaGreatFwHy13one
import Derived.Test.YtooiookccchmeaaGreatFwMy13
import Derived.Test.YtooiookccchmeaaGreatFwB6
import Derived.Test.YtooiookccchmeaaGreatFwB7
set_option linter.unusedVariables false
set_option linter.unusedSimpArgs false
open Bool renaming and_eq_true → au, not_true → eK
open Int renaming tmod → mM
open List renaming getD_eq_getElem?_getD → oQ, getElem?_eq_getElem → fc, getElem_mem → DL, length_take → nE, length_nil → dC, nil_append → cO, length_append → cm, all_eq_true → fj, all_cons → dJ
open Option renaming bind_some → ar
namespace Go.Fw.L19
open Go Go.Fw
set_option maxRecDepth 100000
abbrev uc:Type:=Int×(List Int×(List Int×Unit))
theorem Zy:(fp 2000).map (fun o=>Nat.ble 1 o.2.1.length&&Nat.ble o.2.1.length 1000)=some true:=by kernel_rfl
theorem Zx:∃ o:aI,fp 2000=some o∧1≤o.2.1.length∧o.2.1.length≤1000:=by
 have h:=Zy
 cases hs:fp 2000 with
 | none=>rw [hs] at h; cases h
 | some o=>
   rw [hs] at h
   simp only [Option.map_some,Option.some.injEq,au,Nat.ble_eq] at h
   exact ⟨o,rfl,h.1,h.2⟩
theorem aef:∃ o:aI,dy 2000=some o∧1≤o.2.1.length∧o.2.1.length≤1000:=by
 refine ⟨qJ,Vj,?_,?_⟩
 ·exact Nat.le_of_ble_eq_true (by kernel_rfl)
 ·exact Nat.le_of_ble_eq_true (by kernel_rfl)
theorem WO {v:Int} {n:Nat} (hv:0≤v) (hn:1≤n):∃ p:Nat,mM v (n:Int)=(p:Int)∧p < n:=by
 have h1:mM v (n:Int)=v % (n:Int):=Int.tmod_eq_emod_of_nonneg hv
 have h2:=Int.emod_nonneg v (show (n:Int)≠0 by omega)
 have h3:=Int.emod_lt_of_pos v (show (0:Int) < (n:Int) by omega)
 exact ⟨(v % (n:Int)).toNat,by rw [h1]; omega,by omega⟩
theorem aeL {R:Type} (K:uc→aI→aI→Option R) (d:uc) (z:aI) (hd:∀ i∈d.2.1,0≤i∧i≤255):
  ∀ (n k m:Nat) (o:aI),k+n=20→n < m→1≤o.2.1.length→o.2.1.length≤1000→
    ∃ o':aI,1≤o'.2.1.length∧o'.2.1.length≤1000∧iw (fun a b c _=>K a b c) m d z o (k:Int)=K d z o':=by
 intro n
 induction n with
 | zero=>
   intro k m o hk hm h1 h2
   cases m with
   | zero=>omega
   | succ m=>
     refine ⟨o,h1,h2,?_⟩
     have d2:decide ((k:Int) < 20)=false:=decide_eq_false (by omega)
     unfold iw
     simp only [jw,jt,ju,jy,jz,jA,jB,jv,jx,iW,d2,aB]
     cases decide ((k:Int) < (d.2.1.length:Int))<;>rfl
 | succ n ih=>
   intro k m o hk hm h1 h2
   cases m with
   | zero=>omega
   | succ m=>
     have d2:decide ((k:Int) < 20)=true:=decide_eq_true (by omega)
     have hwr:IntKind.i64.wrap ((k:Int)+1)=((k+1:Nat):Int):=by rw [fO (by omega)]; omega
     cases d1:decide ((k:Int) < (d.2.1.length:Int)) with
     | false=>
       refine ⟨o,h1,h2,?_⟩
       unfold iw
       simp only [jw,jt,ju,jy,jz,jA,jB,jv,jx,iW,d1,aB]
     | true=>
       have hk1:=of_decide_eq_true d1
       have hm1:d.2.1.getD (k:Int).toNat 0∈d.2.1:=by
        rw [oQ,fc (show (k:Int).toNat < d.2.1.length by omega)]; exact DL _
       have hv:=hd _ hm1
       have hw:IntKind.i64.wrap (d.2.1.getD (k:Int).toNat 0)=d.2.1.getD (k:Int).toNat 0:=fO (by omega)
       obtain ⟨p,hp,hpl⟩:=WO hv.1 h1
       have c1:(0≤(k:Int)∧(k:Int) < (d.2.1.length:Int))=True:=by rw [eq_iff_iff,iff_true]; omega
       have c2:((o.2.1.length:Int)=0)=False:=by rw [eq_iff_iff,iff_false]; omega
       have c3:(0≤(p:Int)∧(p:Int) < (o.2.1.length:Int))=True:=by rw [eq_iff_iff,iff_true]; omega
       have same:=ih (k+1) m o (by omega) (by omega) h1 h2
       have key:∀ o2:aI,1≤o2.2.1.length→o2.2.1.length≤1000→iw (fun a b c _=>K a b c) (m+1) d z o (k:Int)=iw (fun a b c _=>K a b c) m d z o2 ((k+1:Nat):Int)→
         ∃ o':aI,1≤o'.2.1.length∧o'.2.1.length≤1000∧iw (fun a b c _=>K a b c) (m+1) d z o (k:Int)=K d z o':=by
        intro o2 g1 g2 g3
        obtain ⟨o',a,b,c⟩:=ih (k+1) m o2 (by omega) (by omega) g1 g2
        exact ⟨o',a,b,g3.trans c⟩
       cases t1:(o.2.1.getD (p:Int).toNat g0).1==([97]:List UInt8) with
       | true=>
         refine key o h1 h2 ?_
         conv=>lhs; unfold iw
         simp only [jw,jt,ju,jy,jz,jA,jB,jv,jx,iW,d1,d2,aK,hw,hp,c1,c2,c3,if_true,if_false,t1,hwr]
       | false=>
       cases t2:(o.2.1.getD (p:Int).toNat g0).1==([101]:List UInt8) with
       | true=>
         refine key o h1 h2 ?_
         conv=>lhs; unfold iw
         simp only [jw,jt,ju,jy,jz,jA,jB,jv,jx,iW,d1,d2,aK,aB,hw,hp,c1,c2,c3,if_true,if_false,t1,t2,hwr]
       | false=>
       cases t3:(o.2.1.getD (p:Int).toNat g0).1==([114]:List UInt8) with
       | true=>
         refine key o h1 h2 ?_
         conv=>lhs; unfold iw
         simp only [jw,jt,ju,jy,jz,jA,jB,jv,jx,iW,d1,d2,aK,aB,hw,hp,c1,c2,c3,if_true,if_false,t1,t2,t3,hwr]
       | false=>
       cases t4:(o.2.1.getD (p:Int).toNat g0).1==([116]:List UInt8) with
       | true=>
         refine key o h1 h2 ?_
         conv=>lhs; unfold iw
         simp only [jw,jt,ju,jy,jz,jA,jB,jv,jx,iW,d1,d2,aK,aB,hw,hp,c1,c2,c3,if_true,if_false,t1,t2,t3,t4,hwr]
       | false=>
       cases t5:decide ((o.2.1.length:Int) < 8) with
       | true=>
         refine key o h1 h2 ?_
         conv=>lhs; unfold iw
         simp only [jw,jt,ju,jy,jz,jA,jB,jv,jx,iW,d1,d2,aK,aB,hw,hp,c1,c2,c3,if_true,if_false,t1,t2,t3,t4,t5,hwr]
       | false=>
         have h8:=of_decide_eq_false t5
         have hwp:IntKind.i64.wrap ((p:Int)+1)=((p+1:Nat):Int):=by rw [fO (by omega)]; omega
         have e1:(0≤(0:Int)∧(0:Int)≤(p:Int)∧(p:Int)≤(o.2.1.length:Int)∧(o.2.1.length:Int)≤(o.2.1.length:Int))=True:=by rw [eq_iff_iff,iff_true]; omega
         have e2:(0≤((p+1:Nat):Int)∧((p+1:Nat):Int)≤(o.2.1.length:Int)∧(o.2.1.length:Int)≤(o.2.1.length:Int)∧(o.2.1.length:Int)≤(o.2.1.length:Int))=True:=by rw [eq_iff_iff,iff_true]; omega
         have l1:((o.2.1.drop (0:Int).toNat).take ((p:Int).toNat - (0:Int).toNat)).length=p:=by
          rw [nE]; show min (p - 0) (o.2.1.drop 0).length=p
          rw [List.drop_zero]; omega
         have l2:((o.2.1.drop ((p+1:Nat):Int).toNat).take ((o.2.1.length:Int).toNat - ((p+1:Nat):Int).toNat)).length=o.2.1.length - (p+1):=by
          rw [nE,List.length_drop]; omega
         have e3:(([]:List bI).length+((o.2.1.drop (0:Int).toNat).take ((p:Int).toNat - (0:Int).toNat)).length≤2513169434916)=True:=by rw [eq_iff_iff,iff_true,l1]; simp only [dC]; omega
         have e4:((([]:List bI)++((o.2.1.drop (0:Int).toNat).take ((p:Int).toNat - (0:Int).toNat))).length+((o.2.1.drop ((p+1:Nat):Int).toNat).take ((o.2.1.length:Int).toNat - ((p+1:Nat):Int).toNat)).length≤2513169434916)=True:=by
          rw [eq_iff_iff,iff_true,l2,cO,l1]; omega
         refine key (o.1,((([]++((o.2.1.drop (0:Int).toNat).take ((p:Int).toNat - (0:Int).toNat)))++((o.2.1.drop ((p+1:Nat):Int).toNat).take ((o.2.1.length:Int).toNat - ((p+1:Nat):Int).toNat))),o.2.2)) ?_ ?_ ?_
         ·rw [cO,cm,l1,l2]; omega
         ·rw [cO,cm,l1,l2]; omega
         conv=>lhs; unfold iw
         simp only [jw,jt,ju,jy,jz,jA,jB,jv,jx,iW,d1,d2,aK,aB,hw,hp,c1,c2,c3,if_true,if_false,t1,t2,t3,t4,t5,hwr,hwp,e1,e2,e3,e4]
theorem aeM {R:Type} (K:aI→aI→Option R) (d:uc) (z:aI) (hd:∀ i∈d.2.2.1,0≤i∧i≤255):
  ∀ (n k m:Nat) (o:aI),k+n=6→n < m→1≤o.2.1.length→o.2.1.length≤1000→
    ∃ o':aI,1≤o'.2.1.length∧o'.2.1.length≤1000∧kB (bK 2000) (fun _ b c _=>K b c) m d z o (k:Int)=K z o':=by
 intro n
 induction n with
 | zero=>
   intro k m o hk hm h1 h2
   cases m with
   | zero=>omega
   | succ m=>
     refine ⟨o,h1,h2,?_⟩
     have d2:decide ((k:Int) < 6)=false:=decide_eq_false (by omega)
     unfold kB
     simp only [jw,jt,ju,jy,jz,jA,jB,jv,jx,iW,d2,aB]
     cases decide ((k:Int) < (d.2.2.1.length:Int))<;>rfl
 | succ n ih=>
   intro k m o hk hm h1 h2
   cases m with
   | zero=>omega
   | succ m=>
     have d2:decide ((k:Int) < 6)=true:=decide_eq_true (by omega)
     have hwr:IntKind.i64.wrap ((k:Int)+1)=((k+1:Nat):Int):=by rw [fO (by omega)]; omega
     cases d1:decide ((k:Int) < (d.2.2.1.length:Int)) with
     | false=>
       refine ⟨o,h1,h2,?_⟩
       unfold kB
       simp only [jw,jt,ju,jy,jz,jA,jB,jv,jx,iW,d1,aB]
     | true=>
       have hk1:=of_decide_eq_true d1
       have hm1:d.2.2.1.getD (k:Int).toNat 0∈d.2.2.1:=by
        rw [oQ,fc (show (k:Int).toNat < d.2.2.1.length by omega)]; exact DL _
       have hv:=hd _ hm1
       have hw:IntKind.i64.wrap (d.2.2.1.getD (k:Int).toNat 0)=d.2.2.1.getD (k:Int).toNat 0:=fO (by omega)
       obtain ⟨p,hp,hpl⟩:=WO hv.1 h1
       have c1:(0≤(k:Int)∧(k:Int) < (d.2.2.1.length:Int))=True:=by rw [eq_iff_iff,iff_true]; omega
       have c2:((o.2.1.length:Int)=0)=False:=by rw [eq_iff_iff,iff_false]; omega
       have c3:(0≤(p:Int)∧(p:Int) < (o.2.1.length:Int))=True:=by rw [eq_iff_iff,iff_true]; omega
       have e3:(([]:List bI).length+o.2.1.length≤2513169434916)=True:=by rw [eq_iff_iff,iff_true]; simp only [dC]; omega
       have e4:∀ s:bI,((([]:List bI)++o.2.1).length+[s].length≤2513169434916)=True:=by intro s; rw [eq_iff_iff,iff_true,cO]; simp only [List.length_singleton]; omega
       have hS:∀ x:aI,bK 2000 x=some (oE x):=v35
       have main:∃ x:aI,kB (bK 2000) (fun _ b c _=>K b c) (m+1) d z o (k:Int)=ad (oE x==0) (kB (bK 2000) (fun _ b c _=>K b c) m d z x ((k+1:Nat):Int)) (kB (bK 2000) (fun _ b c _=>K b c) m d z o ((k+1:Nat):Int)):=by
        refine ⟨(o.1,(([]++o.2.1)++[((o.2.1.getD (p:Int).toNat g0).1,((o.2.1.getD (p:Int).toNat g0).2.1,(mM (d.2.2.1.getD (k:Int).toNat 0) 5,(mM (IntKind.i64.wrap (IntKind.u8.wrap (Int.tdiv (d.2.2.1.getD (k:Int).toNat 0) 16))) 5,(o.2.1.getD (p:Int).toNat g0).2.2.2.2))))],())),?_⟩
        conv=>lhs; unfold kB
        simp only [jw,jt,ju,jy,jz,jA,jB,jv,jx,iW,d1,d2,aK,aB,hw,hp,c1,c2,c3,if_true,if_false,hwr,e3,e4,hS,ar]
       obtain ⟨x,hx⟩:=main
       cases hE:oE x==0 with
       | true=>
         rw [hE] at hx
         have ha:=qI (show oE x=0 by simpa using hE)
         have hpos:=List.length_pos_iff.2 ha.2.2
         obtain ⟨o',a,b,c⟩:=ih (k+1) m x (by omega) (by omega) (by omega) (by omega)
         exact ⟨o',a,b,hx.trans c⟩
       | false=>
         rw [hE] at hx
         obtain ⟨o',a,b,c⟩:=ih (k+1) m o (by omega) (by omega) h1 h2
         exact ⟨o',a,b,hx.trans c⟩
theorem v32 (d:uc) (hd:eM (.pair (.int .u8) (.pair (.sl (.int .u8)) (.pair (.sl (.int .u8)) .unit))) d):∃ o:aI,fw 2000 d=some o∧1≤o.2.1.length∧o.2.1.length≤1000:=by
 have h1:∀ i∈d.2.1,0≤i∧i≤255:=fun i hi=>hd.2.1.2 i hi
 have h2:∀ i∈d.2.2.1,0≤i∧i≤255:=fun i hi=>hd.2.2.1.2 i hi
 obtain ⟨oL,a1,a2,a3⟩:=aef
 obtain ⟨oG,b1,b2,b3⟩:=Zx
 have key:∀ o:aI,1≤o.2.1.length→o.2.1.length≤1000→∃ o':aI,1≤o'.2.1.length∧o'.2.1.length≤1000∧
   iw (fun y0 y1 y2 _=>kB (bK 2000) (fun _ y1 y2 _=>(some y2:Option aI)) 2000 y0 y1 y2 (0:Int)) 2000 d ([],([],())) o (0:Int)=some o':=by
  intro o g1 g2
  obtain ⟨o1,c1,c2,c3⟩:=aeL (R:=aI) (fun y0 y1 y2=>kB (bK 2000) (fun _ y1 y2 _=>(some y2:Option aI)) 2000 y0 y1 y2 (0:Int)) d ([],([],())) h1 20 0 2000 o rfl (by omega) g1 g2
  obtain ⟨o2,d1,d2,d3⟩:=aeM (R:=aI) (fun _ y=>some y) d ([],([],())) h2 6 0 2000 o1 rfl (by omega) c1 c2
  exact ⟨o2,d1,d2,c3.trans d3⟩
 unfold fw
 simp only [jw,jt,ju,jy,jz,jA,jB,jv,jx,iW,a1,b1,ar]
 cases (mM d.1 2==1) with
 | true=>
   obtain ⟨o',c1,c2,c3⟩:=key oG b2 b3
   exact ⟨o',c3,c1,c2⟩
 | false=>
   obtain ⟨o',c1,c2,c3⟩:=key oL a2 a3
   exact ⟨o',c3,c1,c2⟩
def j6:List (List bI)→Nat
 | []=>0
 | y::r=>y.length+j6 r
theorem aek {R:Type} (K:List (List bI)→Int→Option R) (L0:List (List bI)):
  ∀ (ys pre:List (List bI)) (m:Nat) (s:Nat),ys.length < m→(pre++ys).length≤bF→s+j6 ys≤1000000→
    tl (fun a b _ _ _=>K a b) m L0 (s:Int) (pre++ys) ((pre++ys).length:Int) (pre.length:Int)=K L0 ((s+j6 ys:Nat):Int):=by
 intro ys
 induction ys with
 | nil=>
   intro pre m s hm hb hs
   cases m with
   | zero=>omega
   | succ m=>
     unfold tl
     simp only [pY,pV,pW,p5,p6,p7,p8,p9,pX,pZ,nY,eC,aB,j6,Nat.add_zero]
 | cons y ys ih=>
   intro pre m s hm hb hs
   cases m with
   | zero=>omega
   | succ m=>
     have hwr:=eE pre ys y hb
     simp only [j6] at hs
     have hw:IntKind.i64.wrap ((s:Int)+(y.length:Int))=((s+y.length:Nat):Int):=by rw [fO (by omega)]; omega
     have d:decide (((s+y.length:Nat):Int) < 0)=false:=decide_eq_false (by omega)
     have hgo:=ih (pre++[y]) m (s+y.length) (by simpa using hm) (by rw [←bx]; exact hb) (by omega)
     rw [←bx,show s+y.length+j6 ys=s+j6 (y::ys) by simp only [j6]; omega] at hgo
     unfold tl
     simp only [pY,pV,pW,p5,p6,p7,p8,p9,pX,pZ,nY,ew,dH,dt,if_true,aK,hwr,hw,d,aB]
     exact hgo
theorem ael {R:Type} (K:List bI→Option R):
  ∀ (ys pre:List (List bI)) (m:Nat) (A:List bI),ys.length < m→(pre++ys).length≤bF→A.length+j6 ys≤1000000→
    qy (fun a _ _ _=>K a) m A (pre++ys) ((pre++ys).length:Int) (pre.length:Int)=K (A++ys.flatten):=by
 intro ys
 induction ys with
 | nil=>
   intro pre m A hm hb hs
   cases m with
   | zero=>omega
   | succ m=>
     unfold qy
     simp only [pY,pV,pW,p5,p6,p7,p8,p9,pX,pZ,nY,eC,aB,List.flatten_nil,List.append_nil A]
 | cons y ys ih=>
   intro pre m A hm hb hs
   cases m with
   | zero=>omega
   | succ m=>
     have hwr:=eE pre ys y hb
     simp only [j6] at hs
     have c:(A.length+y.length≤2513169434916)=True:=by rw [eq_iff_iff,iff_true]; omega
     have hgo:=ih (pre++[y]) m (A++y) (by simpa using hm) (by rw [←bx]; exact hb) (by rw [cm]; omega)
     rw [←bx,List.append_assoc] at hgo
     unfold qy
     simp only [pY,pV,pW,p5,p6,p7,p8,p9,pX,pZ,nY,ew,dH,dt,if_true,aK,hwr,c,List.flatten_cons]
     exact hgo
theorem v33 (a b:List bI) (h:a.length+b.length≤100000):fI 2000 [a,b]=some (a++b):=by
 unfold fI
 simp only [pY,pV,pW,p5,p6,p7,p8,p9,pX,pZ,nY]
 have hs:j6 [a,b]=a.length+b.length:=by simp [j6]
 have h1:=aek (R:=List bI) (fun y0 y1=>(dW 2000 y1).bind fun r=>qy (fun a _ _ _=>some a) 2000 r y0 (y0.length:Int) (0:Int)) [a,b] [a,b] [] 2000 0 (by simp) (by unfold bF; simp) (by rw [hs]; omega)
 simp only [cO,dC,Nat.zero_add] at h1
 refine Eq.trans h1 ?_
 have hg:dW 2000 ((j6 [a,b]:Nat):Int)=some []:=by
  unfold dW
  rw [if_pos]
  rw [hs]; omega
 have h2:=ael (R:=List bI) some [a,b] [] 2000 [] (by simp) (by unfold bF; simp) (by rw [hs]; simp only [dC]; omega)
 simp only [cO,dC] at h2
 rw [hg]
 simp only [ar]
 refine Eq.trans h2 ?_
 simp
theorem zg {o:aI} {more:List bI} {i:Int} (h:cQ o i=true):sg (o.1,(o.2.1++more,o.2.2)) i=sg o i:=by
 have:=iY.1 h
 unfold sg
 rw [oQ,oQ]
 show (o.2.1++more)[i.toNat]?.getD g0=_
 rw [List.getElem?_append_left (by omega)]
theorem Ui {o:aI} {more:List bI} {i:Int} (h:cQ o i=true):cQ (o.1,(o.2.1++more,o.2.2)) i=true:=by
 have:=iY.1 h
 refine iY.2 ⟨this.1,?_⟩
 show i < ((o.2.1++more).length:Int)
 rw [cm]; omega
theorem abe {o:aI} {more:List bI} {l:List Int} (h:l.all (cQ o)=true):l.all (cQ (o.1,(o.2.1++more,o.2.2)))=true:=
 fj.2 fun x hx=>Ui (fj.1 h x hx)
theorem WR {o:aI} {more:List bI}:∀ {l:List Int},l.all (cQ o)=true→gB (o.1,(o.2.1++more,o.2.2)) l=gB o l
 | [],_=>rfl
 | i::r,h=>by
   simp only [dJ,au] at h
   simp only [gB,zg h.1,WR h.2]
theorem Rh {o:aI} {more:List bI}:∀ {l:List Int},l.all (cQ o)=true→ei (o.1,(o.2.1++more,o.2.2)) l=ei o l
 | [],_=>rfl
 | i::r,h=>by
   simp only [dJ,au] at h
   simp only [ei,zg h.1,Rh h.2]
theorem ZE {o:aI} {more:List bI}:∀ {l:List Int},l.all (cQ o)=true→yM (o.1,(o.2.1++more,o.2.2)) l=yM o l
 | [],_=>rfl
 | i::r,h=>by
   simp only [dJ,au] at h
   simp only [yM,zg h.1]
theorem Q3 {o:aI} {more:List bI}:∀ {l:List Int} {bf:List bT},l.all (cQ o)=true→lv o bf l=true→lv (o.1,(o.2.1++more,o.2.2)) bf l=true
 | [],_,_,_=>rfl
 | i::r,bf,h,hc=>by
   simp only [dJ,au] at h
   simp only [lv,au] at hc ⊢
   rw [ZE h.2,zg h.1]
   refine ⟨?_,Q3 h.2 hc.2⟩
   have:=hc.1
   unfold gT at this ⊢
   rw [au] at this ⊢
   exact ⟨Ui h.1,by rw [zg h.1]; exact this.2⟩
theorem DZ {o:aI} {more:List bI} {w:List UInt8} (h1:gy o w=0) (h2:gy (o.1,(o.2.1++more,o.2.2)) w=0) {l:List Int} (hl:l∈W0 o w):l∈W0 (o.1,(o.2.1++more,o.2.2)) w:=by
 obtain ⟨ho,hw0,_⟩:=s5 h1
 obtain ⟨a,b,c⟩:=(L6 ho hw0 l).1 hl
 exact (L6 (s5 h2).1 hw0 l).2 ⟨abe a,(WR a).trans b,Q3 a c⟩
theorem Mj {o:aI} {w:List UInt8} (ha:(gu o w).2=0):∃ a,a∈W0 o w∧(Aa o w).2.1=ei o a∧∀ l∈W0 o w,ei o a≤ei o l:=by
 obtain ⟨hg,hne,h200,h1⟩:=zW ha
 obtain ⟨a,r,h2,h3,h4⟩:=Rj hne
 refine ⟨a,h3,?_,h4⟩
 unfold Aa
 rw [show ((gu o w).2 != 0)=false by simp [ha],cond_false,h1,h2]
 rfl
theorem aea {R:Type} (k0:Bool→Option R) (K:List UInt8→aI→aI→Option R) (w:List UInt8) (o p:aI) (M:List (List Int)) (hM:M.length < 2000) (hM2:∀ y∈M,y.length < 2000):
  ∀ (ys pre:List (List Int)) (m:Nat),ys.length < m→(pre++ys).length≤bF→(∀ y∈ys,y∈M)→
    tz (dx 2000) k0 (fun a b c _ _ _ _=>K a b c) m w o p (pre++ys) M ((pre++ys).length:Int) (pre.length:Int)=K w o p:=by
 intro ys
 induction ys with
 | nil=>
   intro pre m hm hb hy
   cases m with
   | zero=>omega
   | succ m=>
     unfold tz
     simp only [yH,yD,yE,yF,yG,yI,g9,eC,aB]
 | cons y ys ih=>
   intro pre m hm hb hy
   cases m with
   | zero=>omega
   | succ m=>
     have hwr:=eE pre ys y hb
     have c4:(pre.length < (pre++y::ys).length)=True:=by simp
     have c5:(pre++y::ys).getD pre.length []=y:=dt pre ys y []
     have hH:M.any (· ==y)=true:=List.any_eq_true.2 ⟨y,hy y (by simp),by simp⟩
     have hgo:=ih (pre++[y]) m (by simpa using hm) (by rw [←bx]; exact hb) (fun z hz=>hy z (List.mem_cons_of_mem _ hz))
     rw [←bx] at hgo
     unfold tz
     simp only [yH,yD,yE,yF,yG,yI,g9,ew,dH,aK,if_true,Int.toNat_natCast,c4,c5,v31 M y hM hM2,ar,hH,eK,aB,hwr]
     exact hgo
theorem af1 (d:uc) (w:List UInt8) (more:List bI) (hd:eM (.pair (.int .u8) (.pair (.sl (.int .u8)) (.pair (.sl (.int .u8)) .unit))) d) (hw:eM .str w) (hmo:eM (.sl (.pair .str (.pair (.sl (.pair (.int .i64) (.pair (.int .i64) (.pair .str .unit)))) (.pair (.int .i64) (.pair (.int .i64) .unit))))) more):S9 2000 d w more=some true:=by
 obtain ⟨o,hM,ho1,ho2⟩:=v32 d hd
 unfold S9
 simp only [yH,yD,yE,yF,yG,yI,g9,v11,hM,WX,ar,eK,aB]
 cases decide ((d.2.1.length:Int) > 20) with
 | true=>simp only [aK]
 | false=>
 cases decide ((d.2.2.1.length:Int) > 20) with
 | true=>simp only [aK,aB]
 | false=>
 cases decide ((w.length:Int) > 40) with
 | true=>simp only [aK,aB]
 | false=>
 cases hm4:decide ((more.length:Int) > 4) with
 | true=>simp only [aK,aB]
 | false=>
   have h4:=of_decide_eq_false hm4
   obtain ⟨b,hb⟩:=v34 (o.1,(o.2.1++more,o.2.2))
   simp only [aB,v33 o.2.1 more (by omega),ar,hb]
   cases b with
   | false=>simp only [Bool.not_false,aK]
   | true=>
     simp only [eK,aB,v35,ar]
     cases hv:oE (o.1,(o.2.1++more,o.2.2)) != 0 with
     | true=>simp only [aK]
     | false=>
       have hv0:oE (o.1,(o.2.1++more,o.2.2))=0:=by simpa using hv
       simp only [aB]
       cases ha:(gu o w).2 != 0 with
       | true=>simp only [aK]
       | false=>
         have ha0:(gu o w).2=0:=by simpa using ha
         obtain ⟨hg,hne,h200,h1⟩:=zW ha0
         have hgp:gy (o.1,(o.2.1++more,o.2.2)) w=0:=by
          unfold gy at hg ⊢
          rw [show (oE o != 0)=false by simp [(s5 (show gy o w=0 from hg)).1],cond_false] at hg
          rw [hv,cond_false]; exact hg
         have hnp:W0 (o.1,(o.2.1++more,o.2.2)) w≠[]:=by
          obtain ⟨l,hl⟩:=List.exists_mem_of_ne_nil _ hne
          exact fun e=>by have:=DZ (more:=more) hg hgp hl; rw [e] at this; cases this
         cases hf:(gu (o.1,(o.2.1++more,o.2.2)) w).2 != 0 with
         | true=>
           have:(gu (o.1,(o.2.1++more,o.2.2)) w).2=3:=by
            unfold gu at hf ⊢
            rw [show (gy (o.1,(o.2.1++more,o.2.2)) w != 0)=false by simp [hgp],cond_false] at hf ⊢
            have hz:((W0 (o.1,(o.2.1++more,o.2.2)) w).length==0)=false:=by
             rw [beq_eq_false_iff_ne]; exact fun e=>hnp (List.length_eq_zero_iff.1 e)
            rw [hz,cond_false] at hf ⊢
            cases h3:decide (200 < (W0 (o.1,(o.2.1++more,o.2.2)) w).length) with
            | true=>rfl
            | false=>rw [h3] at hf; cases hf
           simp only [aB,aK,this]
           rfl
         | false=>
           have hf0:(gu (o.1,(o.2.1++more,o.2.2)) w).2=0:=by simpa using hf
           obtain ⟨_,_,p200,p1⟩:=zW hf0
           have hp:=u6 o (W0 o w)
           have hq:=u6 (o.1,(o.2.1++more,o.2.2)) (W0 (o.1,(o.2.1++more,o.2.2)) w)
           have hl1:=hp.length_eq
           have hl2:=hq.length_eq
           simp only [aB]
           rw [h1,p1]
           have h:=aea (R:=Bool) some (fun y0 y1 y2=>(cW 2000 y1 y0).bind fun r=>(cW 2000 y2 y0).bind fun s=>some (decide (s.2.1≤r.2.1))) w o (o.1,(o.2.1++more,o.2.2)) (dS (o.1,(o.2.1++more,o.2.2)) (W0 (o.1,(o.2.1++more,o.2.2)) w)) (by omega) (fun y hy=>by have:=(uw hgp (hq.mem_iff.1 hy)).2; omega) (dS o (W0 o w)) [] 2000 (by omega) (by unfold bF; simp only [cO]; omega) (fun y hy=>hq.mem_iff.2 (DZ hg hgp (hp.mem_iff.1 hy)))
           simp only [cO,dC] at h
           refine Eq.trans h ?_
           simp only [v13,ar]
           obtain ⟨a,a1,a2,a3⟩:=Mj ha0
           obtain ⟨b,b1,b2,b3⟩:=Mj hf0
           rw [a2,b2]
           have h5:=b3 a (DZ hg hgp a1)
           rw [Rh (uw hg a1).1] at h5
           rw [decide_eq_true h5]
end Go.Fw.L19
