/- Own work. -/
import Derived.Test.YtooiookccchmeaaGreatFwHx13one
import Derived.Test.YtooiookccchmeaaGreatFwMx13
import Derived.Test.YtooiookccchmeaaGreatFwB6
import Derived.Test.YtooiookccchmeaaGreatFwB7
set_option linter.unusedVariables false
set_option linter.unusedSimpArgs false
open Int renaming tmod → mL
open List renaming getD_eq_getElem?_getD → oV, getElem?_eq_getElem → eM, getElem_mem → Di, length_take → nE, length_nil → ei, nil_append → cY, length_append → cd, length_cons → eG, pairwise_cons → qV
open Option renaming bind_some → ar
namespace Go.Fw.L19
open Go Go.Fw
set_option maxRecDepth 100000
abbrev tM:Type:=Int×(List Int×(List Int×Unit))
theorem Y8:(fr 2000).map (fun o=>Nat.ble 1 o.2.1.length&&Nat.ble o.2.1.length 1000)=some true:=by kernel_rfl
theorem Y7:∃ o:aJ,fr 2000=some o∧1≤o.2.1.length∧o.2.1.length≤1000:=by
 have h:=Y8
 cases hs:fr 2000 with
 | none=>rw [hs] at h; cases h
 | some o=>
   rw [hs] at h
   simp only [Option.map_some,Option.some.injEq,Bool.and_eq_true,Nat.ble_eq] at h
   exact ⟨o,rfl,h.1,h.2⟩
theorem adE:∃ o:aJ,dC 2000=some o∧1≤o.2.1.length∧o.2.1.length≤1000:=by
 refine ⟨qB,Uz,?_,?_⟩
 ·exact Nat.le_of_ble_eq_true (by kernel_rfl)
 ·exact Nat.le_of_ble_eq_true (by kernel_rfl)
theorem Wk {v:Int} {n:Nat} (hv:0≤v) (hn:1≤n):∃ p:Nat,mL v (n:Int)=(p:Int)∧p < n:=by
 have h1:mL v (n:Int)=v % (n:Int):=Int.tmod_eq_emod_of_nonneg hv
 have h2:=Int.emod_nonneg v (show (n:Int)≠0 by omega)
 have h3:=Int.emod_lt_of_pos v (show (0:Int) < (n:Int) by omega)
 exact ⟨(v % (n:Int)).toNat,by rw [h1]; omega,by omega⟩
theorem ad5 {R:Type} (K:tM→aJ→aJ→Option R) (d:tM) (z:aJ) (hd:∀ i∈d.2.1,0≤i∧i≤255):
  ∀ (n k m:Nat) (o:aJ),k+n=20→n < m→1≤o.2.1.length→o.2.1.length≤1000→
    ∃ o':aJ,1≤o'.2.1.length∧o'.2.1.length≤1000∧iw (fun a b c _=>K a b c) m d z o (k:Int)=K d z o':=by
 intro n
 induction n with
 | zero=>
   intro k m o hk hm h1 h2
   cases m with
   | zero=>omega
   | succ m=>
     refine ⟨o,h1,h2,?_⟩
     have d2:decide ((k:Int) < 20)=false:=decide_eq_false (by omega)
     unfold iw
     simp only [ju,jq,jr,jw,jx,jy,jz,jt,jv,iU,d2,aC]
     cases decide ((k:Int) < (d.2.1.length:Int))<;>rfl
 | succ n ih=>
   intro k m o hk hm h1 h2
   cases m with
   | zero=>omega
   | succ m=>
     have d2:decide ((k:Int) < 20)=true:=decide_eq_true (by omega)
     have hwr:IntKind.i64.wrap ((k:Int)+1)=((k+1:Nat):Int):=by rw [fw (by omega)]; omega
     cases d1:decide ((k:Int) < (d.2.1.length:Int)) with
     | false=>
       refine ⟨o,h1,h2,?_⟩
       unfold iw
       simp only [ju,jq,jr,jw,jx,jy,jz,jt,jv,iU,d1,aC]
     | true=>
       have hk1:=of_decide_eq_true d1
       have hm1:d.2.1.getD (k:Int).toNat 0∈d.2.1:=by
        rw [oV,eM (show (k:Int).toNat < d.2.1.length by omega)]; exact Di _
       have hv:=hd _ hm1
       have hw:IntKind.i64.wrap (d.2.1.getD (k:Int).toNat 0)=d.2.1.getD (k:Int).toNat 0:=fw (by omega)
       obtain ⟨p,hp,hpl⟩:=Wk hv.1 h1
       have c1:(0≤(k:Int)∧(k:Int) < (d.2.1.length:Int))=True:=by rw [eq_iff_iff,iff_true]; omega
       have c2:((o.2.1.length:Int)=0)=False:=by rw [eq_iff_iff,iff_false]; omega
       have c3:(0≤(p:Int)∧(p:Int) < (o.2.1.length:Int))=True:=by rw [eq_iff_iff,iff_true]; omega
       have same:=ih (k+1) m o (by omega) (by omega) h1 h2
       have key:∀ o2:aJ,1≤o2.2.1.length→o2.2.1.length≤1000→iw (fun a b c _=>K a b c) (m+1) d z o (k:Int)=iw (fun a b c _=>K a b c) m d z o2 ((k+1:Nat):Int)→
         ∃ o':aJ,1≤o'.2.1.length∧o'.2.1.length≤1000∧iw (fun a b c _=>K a b c) (m+1) d z o (k:Int)=K d z o':=by
        intro o2 g1 g2 g3
        obtain ⟨o',a,b,c⟩:=ih (k+1) m o2 (by omega) (by omega) g1 g2
        exact ⟨o',a,b,g3.trans c⟩
       cases t1:(o.2.1.getD (p:Int).toNat g0).1==([97]:List UInt8) with
       | true=>
         refine key o h1 h2 ?_
         conv=>lhs; unfold iw
         simp only [ju,jq,jr,jw,jx,jy,jz,jt,jv,iU,d1,d2,aN,hw,hp,c1,c2,c3,if_true,if_false,t1,hwr]
       | false=>
       cases t2:(o.2.1.getD (p:Int).toNat g0).1==([101]:List UInt8) with
       | true=>
         refine key o h1 h2 ?_
         conv=>lhs; unfold iw
         simp only [ju,jq,jr,jw,jx,jy,jz,jt,jv,iU,d1,d2,aN,aC,hw,hp,c1,c2,c3,if_true,if_false,t1,t2,hwr]
       | false=>
       cases t3:(o.2.1.getD (p:Int).toNat g0).1==([114]:List UInt8) with
       | true=>
         refine key o h1 h2 ?_
         conv=>lhs; unfold iw
         simp only [ju,jq,jr,jw,jx,jy,jz,jt,jv,iU,d1,d2,aN,aC,hw,hp,c1,c2,c3,if_true,if_false,t1,t2,t3,hwr]
       | false=>
       cases t4:(o.2.1.getD (p:Int).toNat g0).1==([116]:List UInt8) with
       | true=>
         refine key o h1 h2 ?_
         conv=>lhs; unfold iw
         simp only [ju,jq,jr,jw,jx,jy,jz,jt,jv,iU,d1,d2,aN,aC,hw,hp,c1,c2,c3,if_true,if_false,t1,t2,t3,t4,hwr]
       | false=>
       cases t5:decide ((o.2.1.length:Int) < 8) with
       | true=>
         refine key o h1 h2 ?_
         conv=>lhs; unfold iw
         simp only [ju,jq,jr,jw,jx,jy,jz,jt,jv,iU,d1,d2,aN,aC,hw,hp,c1,c2,c3,if_true,if_false,t1,t2,t3,t4,t5,hwr]
       | false=>
         have h8:=of_decide_eq_false t5
         have hwp:IntKind.i64.wrap ((p:Int)+1)=((p+1:Nat):Int):=by rw [fw (by omega)]; omega
         have e1:(0≤(0:Int)∧(0:Int)≤(p:Int)∧(p:Int)≤(o.2.1.length:Int)∧(o.2.1.length:Int)≤(o.2.1.length:Int))=True:=by rw [eq_iff_iff,iff_true]; omega
         have e2:(0≤((p+1:Nat):Int)∧((p+1:Nat):Int)≤(o.2.1.length:Int)∧(o.2.1.length:Int)≤(o.2.1.length:Int)∧(o.2.1.length:Int)≤(o.2.1.length:Int))=True:=by rw [eq_iff_iff,iff_true]; omega
         have l1:((o.2.1.drop (0:Int).toNat).take ((p:Int).toNat - (0:Int).toNat)).length=p:=by
          rw [nE]; show min (p - 0) (o.2.1.drop 0).length=p
          rw [List.drop_zero]; omega
         have l2:((o.2.1.drop ((p+1:Nat):Int).toNat).take ((o.2.1.length:Int).toNat - ((p+1:Nat):Int).toNat)).length=o.2.1.length - (p+1):=by
          rw [nE,List.length_drop]; omega
         have e3:(([]:List cQ).length+((o.2.1.drop (0:Int).toNat).take ((p:Int).toNat - (0:Int).toNat)).length≤2513169434916)=True:=by rw [eq_iff_iff,iff_true,l1]; simp only [ei]; omega
         have e4:((([]:List cQ)++((o.2.1.drop (0:Int).toNat).take ((p:Int).toNat - (0:Int).toNat))).length+((o.2.1.drop ((p+1:Nat):Int).toNat).take ((o.2.1.length:Int).toNat - ((p+1:Nat):Int).toNat)).length≤2513169434916)=True:=by
          rw [eq_iff_iff,iff_true,l2,cY,l1]; omega
         refine key (o.1,((([]++((o.2.1.drop (0:Int).toNat).take ((p:Int).toNat - (0:Int).toNat)))++((o.2.1.drop ((p+1:Nat):Int).toNat).take ((o.2.1.length:Int).toNat - ((p+1:Nat):Int).toNat))),o.2.2)) ?_ ?_ ?_
         ·rw [cY,cd,l1,l2]; omega
         ·rw [cY,cd,l1,l2]; omega
         conv=>lhs; unfold iw
         simp only [ju,jq,jr,jw,jx,jy,jz,jt,jv,iU,d1,d2,aN,aC,hw,hp,c1,c2,c3,if_true,if_false,t1,t2,t3,t4,t5,hwr,hwp,e1,e2,e3,e4]
theorem ad6 {R:Type} (K:aJ→aJ→Option R) (d:tM) (z:aJ) (hd:∀ i∈d.2.2.1,0≤i∧i≤255):
  ∀ (n k m:Nat) (o:aJ),k+n=6→n < m→1≤o.2.1.length→o.2.1.length≤1000→
    ∃ o':aJ,1≤o'.2.1.length∧o'.2.1.length≤1000∧kC (cP 2000) (fun _ b c _=>K b c) m d z o (k:Int)=K z o':=by
 intro n
 induction n with
 | zero=>
   intro k m o hk hm h1 h2
   cases m with
   | zero=>omega
   | succ m=>
     refine ⟨o,h1,h2,?_⟩
     have d2:decide ((k:Int) < 6)=false:=decide_eq_false (by omega)
     unfold kC
     simp only [ju,jq,jr,jw,jx,jy,jz,jt,jv,iU,d2,aC]
     cases decide ((k:Int) < (d.2.2.1.length:Int))<;>rfl
 | succ n ih=>
   intro k m o hk hm h1 h2
   cases m with
   | zero=>omega
   | succ m=>
     have d2:decide ((k:Int) < 6)=true:=decide_eq_true (by omega)
     have hwr:IntKind.i64.wrap ((k:Int)+1)=((k+1:Nat):Int):=by rw [fw (by omega)]; omega
     cases d1:decide ((k:Int) < (d.2.2.1.length:Int)) with
     | false=>
       refine ⟨o,h1,h2,?_⟩
       unfold kC
       simp only [ju,jq,jr,jw,jx,jy,jz,jt,jv,iU,d1,aC]
     | true=>
       have hk1:=of_decide_eq_true d1
       have hm1:d.2.2.1.getD (k:Int).toNat 0∈d.2.2.1:=by
        rw [oV,eM (show (k:Int).toNat < d.2.2.1.length by omega)]; exact Di _
       have hv:=hd _ hm1
       have hw:IntKind.i64.wrap (d.2.2.1.getD (k:Int).toNat 0)=d.2.2.1.getD (k:Int).toNat 0:=fw (by omega)
       obtain ⟨p,hp,hpl⟩:=Wk hv.1 h1
       have c1:(0≤(k:Int)∧(k:Int) < (d.2.2.1.length:Int))=True:=by rw [eq_iff_iff,iff_true]; omega
       have c2:((o.2.1.length:Int)=0)=False:=by rw [eq_iff_iff,iff_false]; omega
       have c3:(0≤(p:Int)∧(p:Int) < (o.2.1.length:Int))=True:=by rw [eq_iff_iff,iff_true]; omega
       have e3:(([]:List cQ).length+o.2.1.length≤2513169434916)=True:=by rw [eq_iff_iff,iff_true]; simp only [ei]; omega
       have e4:∀ s:cQ,((([]:List cQ)++o.2.1).length+[s].length≤2513169434916)=True:=by intro s; rw [eq_iff_iff,iff_true,cY]; simp only [List.length_singleton]; omega
       have hS:∀ x:aJ,cP 2000 x=some (oE x):=v35
       have main:∃ x:aJ,kC (cP 2000) (fun _ b c _=>K b c) (m+1) d z o (k:Int)=ad (oE x==0) (kC (cP 2000) (fun _ b c _=>K b c) m d z x ((k+1:Nat):Int)) (kC (cP 2000) (fun _ b c _=>K b c) m d z o ((k+1:Nat):Int)):=by
        refine ⟨(o.1,(([]++o.2.1)++[((o.2.1.getD (p:Int).toNat g0).1,((o.2.1.getD (p:Int).toNat g0).2.1,(mL (d.2.2.1.getD (k:Int).toNat 0) 5,(mL (IntKind.i64.wrap (IntKind.u8.wrap (Int.tdiv (d.2.2.1.getD (k:Int).toNat 0) 16))) 5,(o.2.1.getD (p:Int).toNat g0).2.2.2.2))))],())),?_⟩
        conv=>lhs; unfold kC
        simp only [ju,jq,jr,jw,jx,jy,jz,jt,jv,iU,d1,d2,aN,aC,hw,hp,c1,c2,c3,if_true,if_false,hwr,e3,e4,hS,ar]
       obtain ⟨x,hx⟩:=main
       cases hE:oE x==0 with
       | true=>
         rw [hE] at hx
         have ha:=qA (show oE x=0 by simpa using hE)
         have hpos:=List.length_pos_iff.2 ha.2.2
         obtain ⟨o',a,b,c⟩:=ih (k+1) m x (by omega) (by omega) (by omega) (by omega)
         exact ⟨o',a,b,hx.trans c⟩
       | false=>
         rw [hE] at hx
         obtain ⟨o',a,b,c⟩:=ih (k+1) m o (by omega) (by omega) h1 h2
         exact ⟨o',a,b,hx.trans c⟩
theorem v32 (d:tM) (hd:ff (.pair (.int .u8) (.pair (.sl (.int .u8)) (.pair (.sl (.int .u8)) .unit))) d):∃ o:aJ,fD 2000 d=some o∧1≤o.2.1.length∧o.2.1.length≤1000:=by
 have h1:∀ i∈d.2.1,0≤i∧i≤255:=fun i hi=>hd.2.1.2 i hi
 have h2:∀ i∈d.2.2.1,0≤i∧i≤255:=fun i hi=>hd.2.2.1.2 i hi
 obtain ⟨oL,a1,a2,a3⟩:=adE
 obtain ⟨oG,b1,b2,b3⟩:=Y7
 have key:∀ o:aJ,1≤o.2.1.length→o.2.1.length≤1000→∃ o':aJ,1≤o'.2.1.length∧o'.2.1.length≤1000∧
   iw (fun y0 y1 y2 _=>kC (cP 2000) (fun _ y1 y2 _=>(some y2:Option aJ)) 2000 y0 y1 y2 (0:Int)) 2000 d ([],([],())) o (0:Int)=some o':=by
  intro o g1 g2
  obtain ⟨o1,c1,c2,c3⟩:=ad5 (R:=aJ) (fun y0 y1 y2=>kC (cP 2000) (fun _ y1 y2 _=>(some y2:Option aJ)) 2000 y0 y1 y2 (0:Int)) d ([],([],())) h1 20 0 2000 o rfl (by omega) g1 g2
  obtain ⟨o2,d1,d2,d3⟩:=ad6 (R:=aJ) (fun _ y=>some y) d ([],([],())) h2 6 0 2000 o1 rfl (by omega) c1 c2
  exact ⟨o2,d1,d2,c3.trans d3⟩
 unfold fD
 simp only [ju,jq,jr,jw,jx,jy,jz,jt,jv,iU,a1,b1,ar]
 cases (mL d.1 2==1) with
 | true=>
   obtain ⟨o',c1,c2,c3⟩:=key oG b2 b3
   exact ⟨o',c3,c1,c2⟩
 | false=>
   obtain ⟨o',c1,c2,c3⟩:=key oL a2 a3
   exact ⟨o',c3,c1,c2⟩
theorem Xk {o:aJ} {w:List UInt8} {l:List Int} (hg:gy o w=0) (h:l∈W0 o w):Bi o w l=(eC o l,0)∧gB o l=w:=by
 obtain ⟨ho,hw0,hw1⟩:=qi hg
 obtain ⟨h1,h2,h3⟩:=(WV ho hw0 l).1 h
 refine ⟨?_,h2⟩
 unfold Bi
 rw [show (gy o w != 0)=false by simp [hg],cond_false,h1,h2,h3]
 simp
theorem v77 (a:Int):dT 2000 a=some false:=by
 unfold dT
 simp only [Cn,xX,bne_self_eq_false]
theorem v68 (a b:Int):dE 2000 a b=some (decide (a < b)):=by
 unfold dE
 simp only [JD,Cl,v77,ar,aC]
theorem aem {R:Type} (k0:Bool→Option R) (K:Option R) (l:List Int) (hs:l.Pairwise (· ≤ ·)):
  ∀ (n m:Nat),n < l.length→n < m→l.length≤100000→s9 (dE 2000) k0 (fun _ _=>K) m l (n:Int)=K:=by
 intro n
 induction n with
 | zero=>
   intro m hl hm hb
   cases m with
   | zero=>omega
   | succ m=>
     have d:decide (((0:Nat):Int) > 0)=false:=decide_eq_false (by omega)
     unfold s9
     simp only [w0,w3,w4,w7,w8,w9,sw,d,aC]
 | succ n ih=>
   intro m hl hm hb
   cases m with
   | zero=>omega
   | succ m=>
     have d:decide (((n+1:Nat):Int) > 0)=true:=decide_eq_true (by omega)
     have hwr:IntKind.i64.wrap (((n+1:Nat):Int) - 1)=(n:Int):=by rw [fw (by omega)]; omega
     have c1:(0≤((n+1:Nat):Int)∧((n+1:Nat):Int) < (l.length:Int))=True:=by rw [eq_iff_iff,iff_true]; omega
     have c2:(0≤(n:Int)∧(n:Int) < (l.length:Int))=True:=by rw [eq_iff_iff,iff_true]; omega
     have hle:l.getD n 0≤l.getD (n+1) 0:=by
      rw [oV,oV,eM (show n < l.length by omega),eM (show n+1 < l.length by omega)]
      exact List.pairwise_iff_getElem.1 hs n (n+1) (by omega) (by omega) (by omega)
     have d2:decide (l.getD (n+1) 0 < l.getD n 0)=false:=decide_eq_false (by omega)
     unfold s9
     simp only [w0,w3,w4,w7,w8,w9,sw,d,aN,c1,c2,hwr,if_true,Int.toNat_natCast,v68,ar,d2,aC]
     exact ih m (by omega) (by omega) hb
theorem v36 (l:List Int) (hs:l.Pairwise (· ≤ ·)) (hl:l.length < 2000):dB 2000 l=some true:=by
 unfold dB
 simp only [w0,w3,w4,w7,w8,w9,sw]
 cases l with
 | nil=>rfl
 | cons a r=>
   have hwr:IntKind.i64.wrap (((a::r).length:Int) - 1)=(r.length:Int):=by rw [fw (by simp only [eG] at hl ⊢; omega)]; simp
   rw [hwr]
   exact aem (R:=Bool) some (some true) (a::r) hs r.length 2000 (by simp) (by simp only [eG] at hl; omega) (by omega)
theorem Vf {o:aJ}:∀ {l:List Int} {a:Int},∀ x∈jW o a l,a≤x
 | [],_,x,h=>by cases h
 | i::r,a,x,h=>by
   simp only [jW] at h
   rcases List.mem_append.1 h with h | h
   ·rw [List.eq_of_mem_replicate h]; omega
   ·have:=Vf (l:=r) x h
    omega
theorem Vh {o:aJ}:∀ (l:List Int) (a:Int),(jW o a l).Pairwise (· ≤ ·)
 | [],_=>List.Pairwise.nil
 | i::r,a=>by
   simp only [jW]
   refine List.pairwise_append.2 ⟨?_,Vh r _,?_⟩
   ·exact List.pairwise_replicate.2 (.inr (Int.le_refl a))
   ·intro x hx y hy
    rw [List.eq_of_mem_replicate hx]
    have:=Vf (l:=r) y hy
    omega
theorem adz {R:Type} (k0:Bool→Option R) (K:Option R) (o:aJ) (w:List UInt8) (hg:gy o w=0):
  ∀ (ys pre:List (List Int)) (m:Nat) (la:Int),ys.length < m→(pre++ys).length≤bN→(∀ y∈ys,y∈W0 o w)→(∀ y∈ys,la≤eC o y)→lq o ys→
    sV (dy 2000) (ck 2000) (dz 2000) (dA 2000) (dB 2000) k0 (fun _ _ _ _ _ _=>K) m w o (pre++ys) la ((pre++ys).length:Int) (pre.length:Int)=K:=by
 intro ys
 induction ys with
 | nil=>
   intro pre m la hm hb hy hc hs
   cases m with
   | zero=>omega
   | succ m=>
     unfold sV
     simp only [vg,vc,vd,ve,vf,vh,g10,fk,aC]
 | cons y ys ih=>
   intro pre m la hm hb hy hc hs
   cases m with
   | zero=>omega
   | succ m=>
     have hwr:=fo pre ys y hb
     have hyW:=hy y (by simp)
     obtain ⟨ho,hw0,hw1⟩:=qi hg
     obtain ⟨hi,h16⟩:=tW hg hyW
     obtain ⟨hchk,htx⟩:=Xk hg hyW
     have hlE:lE o y=0:=by
      unfold lE
      rw [show (oE o != 0)=false by simp [ho],cond_false,decide_eq_false (show ¬ (y.length:Int) > 16 by omega),cond_false,hi]; rfl
     have e0:((0:Int) != 0)=false:=rfl
     have hlen:(jW o 0 y).length=(kZ o y).length:=Vg ho hi
     have hsl:=VW ho hi
     have hcy:=hc y (by simp)
     have d:decide (eC o y < la)=false:=decide_eq_false (by omega)
     have c4:(pre.length < (pre++y::ys).length)=True:=by simp
     have c5:(pre++y::ys).getD pre.length []=y:=dL pre ys y []
     have hgo:=ih (pre++[y]) m (eC o y) (by simpa using hm) (by rw [←bE]; exact hb) (fun z hz=>hy z (List.mem_cons_of_mem _ hz)) (fun z hz=>by
      rcases (qV.1 hs).1 z hz with h | h | h
      ·rw [h]; omega
      ·omega
      ·omega) (qV.1 hs).2
     rw [←bE] at hgo
     unfold sV
     simp only [vg,vc,vd,ve,vf,vh,g10,eQ,dZ,aN,if_true,Int.toNat_natCast,c4,c5,v26 o y (by omega),v22 o y (by omega),v24 o y (by omega),v29 o w y (by omega),ar,hlE,e0,cond_false,aC,hchk,htx,bne_self_eq_false,hlen,
      v36 (jW o 0 y) (Vh y 0) (by omega),Bool.not_true,d,hwr]
     exact hgo
theorem afl (d:tM) (w:List UInt8) (hd:ff (.pair (.int .u8) (.pair (.sl (.int .u8)) (.pair (.sl (.int .u8)) .unit))) d) (hw:ff .str w):Dv 2000 d w=some true:=by
 obtain ⟨o,hM,_,_⟩:=v32 d hd
 unfold Dv
 simp only [vg,vc,vd,ve,vf,vh,g10,v11,hM,Wr,ar,Bool.not_true,aC]
 cases decide ((d.2.1.length:Int) > 20) with
 | true=>simp only [aN]
 | false=>
 cases decide ((d.2.2.1.length:Int) > 20) with
 | true=>simp only [aN,aC]
 | false=>
 cases decide ((w.length:Int) > 40) with
 | true=>simp only [aN,aC]
 | false=>
   simp only [aC]
   cases ha:(iQ o w).2 != 0 with
   | true=>
     simp only [aN]
     have:(iQ o w).1=[]:=by
      unfold iQ at ha ⊢
      cases h1:gy o w != 0 with
      | true=>rfl
      | false=>
        rw [h1] at ha
        cases h2:(W0 o w).length==0 with
        | true=>rfl
        | false=>
          rw [h2] at ha
          cases h3:decide (200 < (W0 o w).length) with
          | true=>rfl
          | false=>rw [h3] at ha; cases ha
     rw [this]; rfl
   | false=>
     simp only [aC]
     obtain ⟨hg,hne,h200,h1⟩:=LJ (show (iQ o w).2=0 by simpa using ha)
     rw [h1]
     have hp:=Bz o (W0 o w)
     have hlen:=hp.length_eq
     have:=adz (R:=Bool) some (some true) o w hg (dS o (W0 o w)) [] 2000 0 (by omega) (by unfold bN; simp only [cY]; omega) (fun y hy=>hp.mem_iff.1 hy) (fun y hy=>(QJ (qi hg).1 (tW hg (hp.mem_iff.1 hy)).1).1) (HO o (W0 o w))
     simp only [cY,ei] at this
     exact this
end Go.Fw.L19
