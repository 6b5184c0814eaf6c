/- Part F of the proof: lemmas for the walks of the given functions. No statement of its own. -/
import Derived.ChangeSame
import Derived.ChangeVars
import Derived.JoinedOf
import Derived.RowKit
import Derived.RowKitTokens
import Derived.LaidLaws
import Derived.LaidHandle
import Derived.Carry
import Derived.OpenShut
import Derived.Lib.SmallJoins
import Derived.Lib.LaidTab
import Derived.Lay
import Derived.LaidMore
import Derived.MakeChecks
import Derived.Stop.LaidErr
import Derived.ProofKit
import Derived.Test.YtjagfionflbjbaaGreatRows
import Derived.Test.YtjagfionflbjbaaGreatPE
set_option linter.unusedVariables false
set_option linter.unusedSimpArgs false
set_option linter.deprecated false
namespace Go.Proofs.YtjagfionflbjbaaGreat.SH
open Go Go.RowKit Go.ChangeShapes Go.WideShapes Go.ChangeAt
variable {H:Type} {enc:TypeId×Value→H} {P:Program}
theorem m0w (hl:laidOutB P=true){W W':World}(hb:Below W.heap.size W W'):∀ {ts:List TypeId} {vs:List Value} {ds:List (DataW H)} {ps:List MemPlace},
  (ts.all fun t=>P.readableRec t && decide (t<P.types.size))=true→DataW.TrodAll enc P W 0 (fun _=>true) true ts vs ds ps→(∀ x∈ps,x.block<W.heap.size) →
  DataW.TrodAll enc P W' 0 (fun b=>decide (b<W.heap.size)) true ts vs ds ps
 | [],vs,ds,ps,_,h,_=>by
  obtain ⟨rfl,rfl,rfl⟩:=trodAll_nil h
  rfl
 | t :: ts,vs,ds,ps,hr,h,hlt=>by
  obtain ⟨v,vs',d,ds',p,q,rfl,rfl,rfl,h1,h2⟩:=trodAll_cons h
  simp only [List.all_cons,j0,decide_eq_true_eq] at hr
  exact trodAll_cons_mk (Below.trod hl hr.1.1 hr.1.2 h1 hb fun x hx=>hlt x (List.mem_append_left _ hx)) (m0w hl hb hr.2 h2 fun x hx=>hlt x (List.mem_append_right _ hx))
theorem B1z {fn:Func}{s:ChangeSpec}{w7 fresh handsOn:Bool}{W W':World}{args:Array Value}{ds gs:List (DataW H)}{before:List MemPlace}{tb:TypeId}(hl:laidOutB P=true)(hr:(fn.params.toList.all fun t=>P.readableRec t && decide (t<P.types.size))=true)(htb:P.underlying tb=some .bool)(hrt:fn.resultTypes = #[tb])(hv:s.vars=[])
  (hW:DataW.Whole enc P fn.params.toList s.vars w7 W args.toList ds gs before) (hb:Below W.heap.size W W') (hs:s.fn H (ds++gs)={ results:=[.lit (.bool true)],args:=ds }):s.post enc P fn w7 fresh handsOn false W args (.bool true) W':=by
 have hW':=hW
 obtain ⟨p,q,hA,hV,rfl,hfz,hnd⟩:=hW
 rw [hv] at hV
 obtain ⟨rfl,rfl⟩:=trodVars_none hV
 refine ⟨ds,[],p++[],[],p,[],hW',?_,?_,?_,hb.frame _,fun h=>by cases h⟩
 ·rw [hs,hrt]; exact trodAll_mk1 (shut_bool htb true)
 ·rw [hs]; exact m0w hl hb hr hA fun x hx=>hW'.lt x (List.mem_append_left _ hx)
 ·rw [hs,hv]; rfl
end Go.Proofs.YtjagfionflbjbaaGreat.SH
set_option maxRecDepth 100000
namespace Go.Proofs.YtjagfionflbjbaaGreat.N
open Go Go.Proofs.YtjagfionflbjbaaGreat.SH Go.Proofs.YtjagfionflbjbaaGreat.NumA Go.Proofs.YtjagfionflbjbaaGreat Go.RowKit Go.ChangeShapes Go.WideShapes Go.ChangeAt Go.Joins
theorem own:ownKnob Tryz.prog.godebug=none:=by kernel_rfl
theorem K1p:laidOutB Tryz.prog=true:=by kernel_rfl
theorem D0s:Tryz.prog.cellsOf 45=2:=by kernel_rfl
theorem b1k:Tryz.prog.cellsOf 47=4:=by kernel_rfl
theorem F1s:Tryz.prog.cellsOf 119=1:=by kernel_rfl
theorem v1a:Tryz.prog.cellsOf 43=1:=by kernel_rfl
theorem Q1b:Tryz.prog.cellsOf 4=1:=by kernel_rfl
theorem w1w:Tryz.prog.cellsOf 3=1:=by kernel_rfl
theorem H1x:Tryz.prog.cellsOf 22=1:=by kernel_rfl
theorem K1a:Tryz.prog.cellsOf 40=1:=by kernel_rfl
theorem M1c:Tryz.prog.cellsOf 24=2:=by kernel_rfl
theorem W0g {w:World}{a:Addr}{k:IntKind}{zs:List Int}{n:Nat}(hcell:∀ i,i<zs.length→w.cell? (a.add i)=some (.int k (zs.getD i 0)))(hn:n≤zs.length) :
  D7 (fun _=>True) (hp w) ((zs.take n).map fun z=>.a (.int k z)) (some a):=by
 by_cases h0:n=0
 ·subst h0; trivial
 ·obtain ⟨b,off,rfl,hc⟩:=ints_at hcell (by omega)
  refine D7.of trivial (V4.of fun i y hy=>?_)
  rw [List.getElem?_map,List.getElem?_take] at hy
  split at hy
  ·rename_i hi
   have hi':i<zs.length:=by omega
   rw [J1 hi'] at hy
   simp only [Option.map_some,U0] at hy
   subst hy
   refine ⟨.int k zs[i],?_,rfl,by simp [Rel]⟩
   rw [← B0p,hc i hi',f0,J1 hi']
   rfl
  ·cases hy
section
variable {H:Type} {enc:TypeId×Value→H} {W:World}
theorem K0k {n:Nat}{cs:List Value}{y:DataW H×List MemPlace}(h:DataW.trod enc Tryz.prog W 0 (fun _=>true) true n 45 cs=some y) :
  ∃ neg ws c0 c1,Wd ws∧cs=[c0,c1]∧Rel (fun _=>True) (hp W) (.a (.bool neg)) c0∧Rel (fun _=>True) (hp W) (.sl ws.length (G4 ws)) c1∧c0.oneCell'=true∧c1.oneCell'=true:=by
 obtain ⟨y0,y1,m,-,hl,h0,h1⟩:=trod_struct2 Tryz.underlying45 h
 rw [D0s] at hl
 match cs,hl with
 | [c0,c1],_ =>
  have h0':DataW.trod enc Tryz.prog W 0 (fun _=>true) true m 4 [c0]=some y0:=by simpa [Q1b] using h0
  have h1':DataW.trod enc Tryz.prog W 0 (fun _=>true) true m 43 [c1]=some y1:=by simpa [v1a] using h1
  obtain ⟨b,hb,-⟩:=DataW.trod_bool Tryz.underlying4 h0'
  obtain rfl:c0 = .bool b:=by simpa using hb
  rcases open_ints Tryz.underlying43 Tryz.underlying119 F1s h1' with ⟨hcs,hx⟩ | ⟨a,len,cap,zs,hcs,_,hl,hm,hz,hx,hcell,hwz⟩
  ·obtain rfl:c1 = .slice none 0 0:=by simpa using hcs
   exact ⟨b,[],_,_,Wd.nil,rfl,by simp [Rel],⟨none,0,rfl,Nat.le_refl _,trivial⟩,rfl,rfl⟩
  ·obtain rfl:c1 = .slice (some a) len cap:=by simpa using hcs
   simp only [if_true] at hz
   have hlen:(zs.take len).length=len:=by rw [J0]; omega
   refine ⟨b,zs.take len,_,_,fun w hw=>?_,rfl,by simp [Rel],⟨some a,cap,by rw [hlen],by rw [hlen]; exact hl,W0g hcell (by omega)⟩,rfl,rfl⟩
   have:=hwz w (List.mem_of_mem_take hw)
   simp only [Lit.wf,j0,decide_eq_true_eq] at this
   exact ⟨this.1,Int.lt_of_le_of_lt this.2 (by decide)⟩
theorem q1q {n:Nat}{cs:List Value}{y:DataW H×List MemPlace}(h:DataW.trod enc Tryz.prog W 0 (fun _=>true) true n 47 cs=some y) :
  ∃ r:RQ,r.wd∧I5 (fun _=>True) (hp W) (cR r) cs∧∀ c∈cs,c.oneCell'=true:=by
 obtain ⟨y0,y1,m,-,hl,h0,h1⟩:=trod_struct2 Tryz.underlying47 h
 rw [b1k] at hl
 match cs,hl with
 | [c0,c1,c2,c3],_ =>
  have h0':DataW.trod enc Tryz.prog W 0 (fun _=>true) true m 45 [c0,c1]=some y0:=by simpa [D0s] using h0
  have h1':DataW.trod enc Tryz.prog W 0 (fun _=>true) true m 45 [c2,c3]=some y1:=by simpa [D0s] using h1
  obtain ⟨b,ws,d0,d1,w1,e1,a1,a2,o1,o2⟩:=K0k h0'
  obtain ⟨b',vs,d2,d3,w2,e2,a3,a4,o3,o4⟩:=K0k h1'
  simp only [List.cons.injEq,and_true] at e1 e2
  obtain ⟨rfl,rfl⟩:=e1
  obtain ⟨rfl,rfl⟩:=e2
  refine ⟨⟨b,ws,b',vs⟩,⟨w1,w2⟩,⟨_,_,rfl,a1,_,_,rfl,a2,_,_,rfl,a3,_,_,rfl,a4,rfl⟩,fun c hc=>?_⟩
  simp only [List.mem_cons,List.not_mem_nil,or_false] at hc
  rcases hc with rfl | rfl | rfl | rfl <;> assumption
theorem n1s {n:Nat}{v:Value}{y:DataW H×List MemPlace}(h:DataW.trod enc Tryz.prog W 0 (fun _=>true) true n 40 [v]=some y) :
  ∃ l:List RQ,(∀ r∈l,r.wd)∧Rel (fun _=>True) (hp W) (pVR l) v∧v.oneCell'=true:=by
 rcases DataW.trod_slice Tryz.underlying40 h with ⟨hcs,hx⟩ | ⟨a,len,cap,elems,rest,m,_,hcs,hx,_,hl,_,hlen,hel,_,_⟩
 ·obtain rfl:v = .slice none 0 0:=by simpa using hcs
  exact ⟨[],by simp,⟨none,0,rfl,Nat.le_refl _,trivial⟩,rfl⟩
 ·obtain rfl:v = .slice (some a) len cap:=by simpa using hcs
  have each:∀ i,i<len→∃ r:RQ,r.wd∧∀ j x,(cR r)[j]? = some x→∃ u,W.cell? ((a.add (i*4)).add j)=some u∧u.oneCell'=true∧Rel (fun _=>True) (hp W) x u:=fun i hi=>by
   have h1:=hel i hi
   rw [b1k,J1 (by omega),Option.bind_eq_some_iff] at h1
   obtain ⟨cs,h2,h3⟩:=h1
   obtain ⟨-,h4,h5⟩:=World.cells?_some h2
   obtain ⟨r,hw,hr,ho⟩:=q1q h3
   refine ⟨r,hw,fun j x hx=>?_⟩
   obtain ⟨u,hu,hru⟩:=hr.get hx
   have hj:j<4:=by have:=(i1.1 hu).1; omega
   refine ⟨u,?_,ho u (M1 hu),hru⟩
   rw [← hu,← h5 j hj]
  have build:∀ k,k≤len→∃ l:List RQ,l.length=k∧(∀ r∈l,r.wd)∧∀ i,i<k→∀ j x,(cR (l.getD i default))[j]? = some x→∃ u,W.cell? ((a.add (i*4)).add j)=some u∧u.oneCell'=true∧Rel (fun _=>True) (hp W) x u:=fun k=>by
   induction k with
   | zero=>exact fun _=>⟨[],rfl,by simp,fun i hi=>absurd hi (Nat.not_lt_zero _)⟩
   | succ k ih =>
    intro hk
    obtain ⟨l,h1,h2,h3⟩:=ih (by omega)
    obtain ⟨r,hw,hr⟩:=each k (by omega)
    refine ⟨l++[r],by simp [h1],fun q hq=>?_,fun i hi j x hx=>?_⟩
    ·rcases List.mem_append.1 hq with hq | hq
     ·exact h2 q hq
     ·rw [List.mem_singleton.1 hq]; exact hw
    ·by_cases e:i<k
     ·refine h3 i e j x ?_
      rw [f0,X0 (by omega),← f0] at hx
      exact hx
     ·obtain rfl:i=k:=by omega
      refine hr j x ?_
      rw [f0,D0 (by omega),h1,Nat.sub_self] at hx
      exact hx
  obtain ⟨l,h1,h2,h3⟩:=build len (Nat.le_refl _)
  refine ⟨l,h2,⟨some a,cap,by rw [h1],by rw [h1]; exact hl,?_⟩,rfl⟩
  by_cases h0:l.length=0
  ·rw [E0 h0]; trivial
  ·obtain ⟨u0,hu0,-⟩:=h3 0 (by omega) 0 _ rfl
   obtain ⟨b,off,spot⟩:=a
   have hspot:spot=none:=by simpa [Addr.add] using World.cell?_spot hu0
   subst hspot
   refine D7.of trivial (V4.of fun i x hx=>?_)
   have hi:i<l.length*4:=by
    have:=(i1.1 hx).1
    rwa [y0p] at this
   have hg:=v1n (v:=l) (i:=i / 4) (by omega)
   have hx':(cR (l.getD (i / 4) default))[i % 4]? = some x:=by
    rw [← hg,List.getElem?_take,if_pos (by omega),List.getElem?_drop,show i / 4*4+i % 4=i by omega]
    exact hx
   obtain ⟨u,hu,ho,hru⟩:=h3 (i / 4) (by omega) (i % 4) x hx'
   refine ⟨u,?_,ho,hru⟩
   rw [Go.WideShapes.add_plain,Go.WideShapes.add_plain,Nat.add_assoc,show i / 4*4+i % 4=i by omega] at hu
   rw [← B0p]; exact hu
theorem q1p {n:Nat}{v:Value}{y:DataW H×List MemPlace}(h:DataW.trod enc Tryz.prog W 0 (fun _=>true) true n 22 [v]=some y) :
  ∃ m:List (List RQ),WdM m∧Rel (fun _=>True) (hp W) (.sl m.length (f0r m)) v∧v.oneCell'=true:=by
 rcases DataW.trod_slice Tryz.underlying22 h with ⟨hcs,hx⟩ | ⟨a,len,cap,elems,rest,m,_,hcs,hx,_,hl,_,hlen,hel,_,_⟩
 ·obtain rfl:v = .slice none 0 0:=by simpa using hcs
  exact ⟨[],by simp [WdM],⟨none,0,rfl,Nat.le_refl _,trivial⟩,rfl⟩
 ·obtain rfl:v = .slice (some a) len cap:=by simpa using hcs
  have each:∀ i,i<len→∃ (l:List RQ) (u:Value),(∀ r∈l,r.wd)∧W.cell? (a.add i)=some u∧u.oneCell'=true∧Rel (fun _=>True) (hp W) (pVR l) u:=fun i hi=>by
   have h1:=hel i hi
   rw [K1a,J1 (by omega),Option.bind_eq_some_iff] at h1
   obtain ⟨cs,h2,h3⟩:=h1
   obtain ⟨-,h4,h5⟩:=World.cells?_some h2
   match cs,h4 with
   | [u],_ =>
    obtain ⟨l,hw,hr,ho⟩:=n1s h3
    refine ⟨l,u,hw,?_,ho,hr⟩
    have:=h5 0 (by decide)
    rw [Nat.mul_one] at this
    simpa [Addr.add] using this
  have build:∀ k,k≤len→∃ l:List (List RQ),l.length=k∧WdM l∧∀ i,i<k→∃ u,W.cell? (a.add i)=some u∧u.oneCell'=true∧Rel (fun _=>True) (hp W) (pVR (l.getD i [])) u:=fun k=>by
   induction k with
   | zero=>exact fun _=>⟨[],rfl,by simp [WdM],fun i hi=>absurd hi (Nat.not_lt_zero _)⟩
   | succ k ih =>
    intro hk
    obtain ⟨l,h1,h2,h3⟩:=ih (by omega)
    obtain ⟨r,u,hw,hc,ho,hr⟩:=each k (by omega)
    refine ⟨l++[r],by simp [h1],fun q hq=>?_,fun i hi=>?_⟩
    ·rcases List.mem_append.1 hq with hq | hq
     ·exact h2 q hq
     ·rw [List.mem_singleton.1 hq]; exact hw
    ·by_cases e:i<k
     ·obtain ⟨u,g1,g2,g3⟩:=h3 i e
      refine ⟨u,g1,g2,?_⟩
      rwa [f0,X0 (by omega),← f0]
     ·obtain rfl:i=k:=by omega
      refine ⟨u,hc,ho,?_⟩
      rwa [f0,D0 (by omega),h1,Nat.sub_self]
  obtain ⟨l,h1,h2,h3⟩:=build len (Nat.le_refl _)
  refine ⟨l,h2,⟨some a,cap,by rw [h1],by rw [h1]; exact hl,?_⟩,rfl⟩
  by_cases h0:l.length=0
  ·rw [E0 h0]; trivial
  ·obtain ⟨u0,hu0,-⟩:=h3 0 (by omega)
   obtain ⟨b,off,spot⟩:=a
   have hspot:spot=none:=by simpa [Addr.add] using World.cell?_spot hu0
   subst hspot
   refine D7.of trivial (V4.of fun i x hx=>?_)
   have hi:i<l.length:=by
    have:=(i1.1 hx).1
    rwa [N0w] at this
   rw [h0c hi] at hx
   obtain rfl:=Option.some.inj hx
   obtain ⟨u,hu,ho,hru⟩:=h3 i (by omega)
   refine ⟨u,?_,ho,hru⟩
   rw [Go.WideShapes.add_plain] at hu
   rw [← B0p]; exact hu
theorem J1m {r:Reach}{b0:Nat}{v:Value}{d:DataW H}{p:List MemPlace}(hv:Value.okWide Tryz.prog W r b0 24 v)(h:DataW.Trod enc Tryz.prog W 0 (fun _=>true) true 24 v d p) :
  ∃ (c:Int) (m:List (List RQ)),WdM m∧(-9223372036854775808≤c∧c<9223372036854775808)∧Rel (fun _=>True) (hp W) (pMR c m) v:=by
 obtain ⟨cs,rfl,-⟩:=okWide_struct Tryz.underlying24 hv
 obtain ⟨n,h⟩:=h
 obtain ⟨y0,y1,m,-,hl,h0,h1⟩:=trod_struct2 Tryz.underlying24 h
 rw [M1c] at hl
 match hcs:(Value.agg cs).cells.toList,hl with
 | [c0,c1],_ =>
  rw [hcs] at h0 h1
  have h0':DataW.trod enc Tryz.prog W 0 (fun _=>true) true m 3 [c0]=some y0:=by simpa [w1w] using h0
  have h1':DataW.trod enc Tryz.prog W 0 (fun _=>true) true m 22 [c1]=some y1:=by simpa [w1w,H1x] using h1
  obtain ⟨k,hk,-,hwf⟩:=DataW.trod_int Tryz.underlying3 h0'
  obtain rfl:c0 = .int .i64 k:=by simpa using hk
  obtain ⟨l,hw,hr,ho⟩:=q1p h1'
  have e':cs.toList=[.int .i64 k,c1]:=by simpa [Value.cells] using hcs
  simp only [Lit.wf,j0,decide_eq_true_eq] at hwf
  refine ⟨k,l,hw,⟨hwf.1,Int.lt_of_le_of_lt hwf.2 (by decide)⟩,cs.toList,by simp,by rw [e']; exact ⟨_,_,rfl,by simp [Rel],_,_,rfl,hr,rfl⟩,?_⟩
  rw [e']
  intro c hc
  simp only [List.mem_cons,List.not_mem_nil,or_false] at hc
  rcases hc with rfl | rfl
  ·rfl
  ·exact ho
end
end Go.Proofs.YtjagfionflbjbaaGreat.N
set_option maxRecDepth 100000
set_option maxHeartbeats 4000000
namespace Go.Proofs.YtjagfionflbjbaaGreat.N
open Go Go.Proofs.YtjagfionflbjbaaGreat.SH Go.Proofs.YtjagfionflbjbaaGreat.NumA
open Go.Proofs.Tryz renaming call11→cl11,call12→cl12,call13→cl13,call14→cl14,call15→cl15,call16→cl16,call17→cl17,call18→cl18,call19→cl19,call20→cl20,call21→cl21,call22→cl22,call23→cl23,call24→cl24,call25→cl25,call26→cl26,call27→cl27,call28→cl28,call29→cl29,call31→cl31,call32→cl32,call33→cl33,call34→cl34,call35→cl35,call36→cl36,call37→cl37,call40→cl40,call42→cl42,call43→cl43,isAgg22→ag22,isAgg24→ag24,isAgg3→ag3,isAgg40→ag40,isAgg47→ag47,sizeOf22→sz22,sizeOf24→sz24,sizeOf3→sz3,sizeOf40→sz40,sizeOf47→sz47,underlying22→un22,underlying24→un24,underlying27→un27,underlying40→un40,underlying4→un4,zeroValue24→zv24,zeroValue47→zv47
theorem P1d {X Y n N:Nat}(h:X≤Y)(hn:n≤N)(hY:d0y Y N≤700000000):d0y X n≤700000000:=by
 refine Nat.le_trans (v0n hn) (Nat.le_trans ?_ hY)
 unfold d0y
 have:=Nat.mul_le_mul_left (2 ^ N) (show X+1≤Y+1 by omega)
 omega
theorem y1r {u v:List Rat}(huv:u.length=v.length):∀ k,k≤u.length→dtF u v k=sN k fun t=>u.getD t 0*v.getD t 0
 | 0,_=>rfl
 | k+1,h=>by rw [Y0d oM huv,y1r huv k oM]; rfl
theorem K1j {u v:List Rat}(huv:u.length=v.length):d0r u v=sN u.length fun t=>u.getD t 0*v.getD t 0:=by
 rw [← y1r huv _ (Nat.le_refl _),D0y,dtR,dtF,C0 sO]
theorem F1y {M:List (List Rat)}{j t:Nat}:(W7 M j).getD t 0=ent M t j:=by
 by_cases h:t<M.length
 ·simp [W7,ent,f0,h]
 ·rw [ent,show M.getD t []=[] by simp [f0,show M.length≤t by omega]]
  simp [W7,f0,show M.length≤t by omega]
theorem b1s {n c d i j:Nat}{M N:List (List Rat)}(h:RC n c M)(h2:RC c d N)(hi:i<n)(hj:j<d):ent (h0h d M N) i j=sN c fun t=>ent M i t*ent N t j:=by
 have hl:(M.getD i []).length=c:=h.get hi
 have hi2:i<M.length:=by rw [h.1]; exact hi
 have e:(h0h d M N).getD i []=Y9 (M.getD i []) N d:=by simp [h0h,f0,hi2]
 rw [ent,e,n1c hj,K1j (by rw [hl,G7,h2.1]),hl]
 exact s9 fun t _=>by rw [F1y]; rfl
theorem m1d {n c d:Nat}{M N:List (List Rat)}(h:RC n c M):RC n d (h0h d M N):=by
 refine ⟨by rw [h0z,h.1],fun r hr=>?_⟩
 obtain ⟨v,_,rfl⟩:=G0.1 hr
 simp
theorem j1p {c A B:Nat}{L:List (List Rat)}{r:List Rat}(hL:RL c (lpr L))(hr:r.length=c)(hA:∀ j,qw (r.getD j 0)≤A)(hA1:1≤A)(hB:MB B L)(hB1:1≤B):∀ k,k≤L.length→(∀ j,qw ((b8 (L.take k) r).getD j 0)≤A+k*(A+B+2))∧∀ t,k≤t→t<L.length→(b8 (L.take k) r).getD (I3 (L.getD t [])) 0=r.getD (I3 (L.getD t [])) 0
 | 0,_=>⟨fun j=>by rw [List.take_zero]; show qw (r.getD j 0)≤_; have:=hA j; omega,fun t _ _=>by rw [List.take_zero]; rfl⟩
 | k+1,h=>by
  obtain ⟨h1,h2⟩:=j1p hL hr hA hA1 hB hB1 k oM
  have hk:k<L.length:=h
  have hlen:=J0w (fun q hq=>hL.len (I3 q,q) (q7.2 ⟨hq,rfl⟩)) hr k
  have hqk:=hL.len (I3 (L.getD k []),L.getD k []) (q7.2 ⟨gDL hk,rfl⟩)
  have hll:(L.getD k []).length=(b8 (L.take k) r).length:=by rw [hlen]; exact hqk
  have hq:∀ j,qw ((L.getD k []).getD j 0)≤B:=fun j=>by
   by_cases hj:j<(L.getD k []).length
   ·exact hB _ (gDL hk) _ (l4 hj)
   ·rw [f0,List.getElem?_eq_none oM]; show qw 0≤B; rw [k0h]; exact hB1
  refine ⟨fun j=>?_,fun t ht htl=>?_⟩
  ·rw [w0c hk,H7 hll,h2 k (Nat.le_refl _) hk]
   have a1:=B1p ((b8 (L.take k) r).getD j 0) (r.getD (I3 (L.getD k [])) 0*(L.getD k []).getD j 0)
   have a2:=T8 (r.getD (I3 (L.getD k [])) 0) ((L.getD k []).getD j 0)
   have a3:=h1 j
   have a4:=hA (I3 (L.getD k []))
   have a5:=hq j
   rw [Nat.add_mul]; omega
  ·have hne:I3 (L.getD t [])≠I3 (L.getD k []):=by
    have ha:=hL.asc
    rw [lpr,List.pairwise_map,List.pairwise_iff_getElem] at ha
    have:=ha k t hk htl oM
    rw [f0,f0,J1 hk,J1 htl]
    simp only [Option.getD_some] at this ⊢; omega
   have hz:(L.getD k []).getD (I3 (L.getD t [])) 0=0:=hL.oth (I3 (L.getD t []),L.getD t []) (q7.2 ⟨gDL htl,rfl⟩) (I3 (L.getD k []),L.getD k []) (q7.2 ⟨gDL hk,rfl⟩) hne
   rw [w0c hk,H7 hll,hz,h2 t oM htl]; grind
theorem H1j {v:List Rat}{j:Nat}(hj:j<v.length):v[j]=v.getD j 0:=by simp [f0,hj]
theorem m1c {B:Nat}{M:List (List Rat)}(h:MB B M)(i:Nat):MB B (M.take i):=fun r hr=>h r (List.mem_of_mem_take hr)
theorem W1y {c:Nat}{M:List (List Rat)}(hl:∀ r∈M,r.length=c)(hB:MB 6 M)(hn:M.length≤14)(hc:c≤15):RE c BB 130000000 M:=by
 have key:∀ i,i≤M.length→∀ X,d0y (192*(i*c+0)) i≤X→MB (X / 32+1) (q6 (M.take i)):=fun i hi X hX=>by
  have rc:RC i c (M.take i):=⟨by rw [J0]; omega,fun r hr=>hl r (List.mem_of_mem_take hr)⟩
  have hC:=K1g (l:=[]) rc (m1c hB i) sM fun _ _=>.inl (j1f (n:=i))
  have h1:=(M1z ((j1m rc N0j hC (Nat.le_refl c) (Nat.le_refl i)).mono hX)).1
  rw [(M0b rc (N0j (n:=i))).1]
  exact m1c h1 _
 have mono:∀ {X Y n N:Nat},X≤Y→n≤N→d0y X n≤d0y Y N:=fun {X Y n N} h hn=>by
  refine Nat.le_trans (v0n hn) ?_
  unfold d0y
  have:=Nat.mul_le_mul_left (2 ^ N) (show X+1≤Y+1 by omega)
  omega
 refine ⟨hl,by omega,by omega,fun i hi=>?_,fun i hi k a ha=>?_,by decide⟩
 ·refine (key i hi 700000000 (Nat.le_trans (mono (Y:=192*210) (N:=14) ?_ oM) (by decide +kernel))).mono dC
  have:=Nat.mul_le_mul (show i≤14 by omega) hc; omega
 ·have hb:=(key i oM 307000000 (Nat.le_trans (mono (Y:=192*195) (N:=13) (by have:=Nat.mul_le_mul (show i≤13 by omega) hc; omega) oM) (by decide +kernel))).mono (show 307000000 / 32+1≤9600000 by decide)
  have hrl:=(j0c (c:=c) (m:=M.take i) fun r hr=>hl r (List.mem_of_mem_take hr)).1
  have hlen:=G0p (M.take i)
  rw [J0] at hlen
  obtain ⟨L,hL⟩:∃ L,L=q6 (M.take i):=⟨_,rfl⟩
  rw [← hL] at ha hb hrl hlen
  obtain ⟨j,hj,rfl⟩:=List.getElem_of_mem ha
  have hA:∀ j,qw ((M.getD i []).getD j 0)≤6:=fun j=>by
   by_cases hj:j<(M.getD i []).length
   ·exact hB _ (gDL hi) _ (l4 hj)
   ·rw [f0,List.getElem?_eq_none oM]; show qw 0≤6; rw [k0h]; decide
  have e:(b8 (L.take k) (M.getD i []))[j]=(b8 (L.take k) (M.getD i [])).getD j 0:=H1j hj
  rw [e]
  have hkk:L.take k=L.take (min k L.length):=by rw [List.take_eq_take_iff]; omega
  rw [hkk]
  have h1:=(j1p hrl (hl _ (gDL hi)) hA dC hb dC (min k L.length) oM).1 j
  have h2:min k L.length*(6+9600000+2)≤13*(6+9600000+2):=V0 _ oM
  omega


theorem P0g (n B DB:Nat)(M:List (List Rat))(h:MOk n M)(hB1:MB B M)(hn:M.length=n)(H:EU n n n B DB M (K3 n)):s3 E 42 [pMq n M] (.tup [pMq (d1f n (ech M (K3 n) n)) (d1j n (ech M (K3 n) n)),vZ (d1n n (ech M (K3 n) n))]):=h0w (J0d n B DB M h hB1 hn H)
theorem f1s (c:Int)(m:List (List RQ))(hm:MSm m)(h:isM c m=false):s3 E 42 [pMR c m] (.tup [pMq 0 [],vZ 3]):=by
 refine y2 (xs:=[pMq 0 [],vZ 3]) Tryz.func42 rfl Tryz.ntmps42 Tryz.results42 sM fun F hG hX0 hnt hdf P0=>?_
 obtain ⟨L,hX,hN⟩:=pro hnt hX0 hG
 refine exr (swb (U3 (k:=1) (n:=2) pa2 rfl rfl (P0 _ rfl) L) t1 t0 ⟨rfl,rfl⟩ (swb (O3 (k:=2) (n:=2) zv24 (.cons rfl (.cons rfl .nil)) rfl (P0 _ rfl) L) t0 t0 ⟨rfl,rfl⟩ (aV L rfl (zn [(1,_),(2,_)] [(1,_),(2,_)] t2 t2 (R1 (exr (lp2 ag24 sz24 L rfl rfl (cK hG hX cl40 hN (Y0m c m hm) L t1 (sw (m4 L) t1 t0 (zn [(1,_),(2,_),(12,_)] [(1,_),(2,_)] t3 t2 (Z8 rfl (by rw [h]; rfl) ?_)))))))))))
 refine exr (sw (M8 (W6 (vs:=[]) un24 zv24 (.cons rfl (.cons rfl .nil)) ((F2.cons sz3 (F2.cons sz22 F2.nil))).to rfl .nil (.cons (.cons .nil)) L) (.agg (.cons .same (.cons .nil .nil)))) t0 t0 (sb (R2 sz24 rF pa2 rfl pu2) t2 t1 ?_))
 refine aV L rfl (zn [(2,_),(3,_)] [(2,_)] t2 t1 (X1 ?_))
 refine Y0 (.agg rfl rfl rfl ag24 sz24 (.cons (.cons .nil))) (.tmp rfl) ?_
 rfl
theorem Y0v (c B:Nat)(M:List (List Rat))(h:MOk c M)(hB:MB B M)(hb:B<1000000000)(hn:M.length≠c):s3 E 42 [pMq c M] (.tup [pMq 0 [],vZ 1]):=by
 refine y2 (xs:=[pMq 0 [],vZ 1]) Tryz.func42 rfl Tryz.ntmps42 Tryz.results42 sM fun F hG hX0 hnt hdf P0=>?_
 obtain ⟨L,hX,hN⟩:=pro hnt hX0 hG
 refine exr (swb (U3 (k:=1) (n:=2) pa2 rfl rfl (P0 _ rfl) L) t1 t0 ⟨rfl,rfl⟩ (swb (O3 (k:=2) (n:=2) zv24 (.cons rfl (.cons rfl .nil)) rfl (P0 _ rfl) L) t0 t0 ⟨rfl,rfl⟩ (aV L rfl (zn [(1,_),(2,_)] [(1,_),(2,_)] t2 t2 (R1 (exr (lp2 ag24 sz24 L rfl rfl (cK hG hX cl40 hN (n8 h hB hb) L t1 (sw (m4 L) t1 t0 (zn [(1,_),(2,_),(12,_)] [(1,_),(2,_)] t3 t2 (P3 rfl rfl ?_)))))))))))
 refine U1 (xq ?_)
 refine R1 (exr (sw (Z1 un24 rfl sz22 dC rX L) t1 t1 ?_))
 refine sw (Y1 ag22 rF rF L) t1 t1 ?_
 refine sw (X2 un22 L) t1 t0 (sw (Z1 un24 rfl sz3 dC rX L) t1 t1 ?_)
 refine sw (Y1 ag3 rF rF L) t1 t1 ?_
 refine sw (c_n L) t2 t0 (zn [(1,_),(2,_),(19,_)] [(1,_),(2,_)] t3 t2 (Z8 rfl sO (exr (sw (M8 (W6 (vs:=[]) un24 zv24 (.cons rfl (.cons rfl .nil)) ((F2.cons sz3 (F2.cons sz22 F2.nil))).to rfl .nil (.cons (.cons .nil)) L) (.agg (.cons .same (.cons .nil .nil)))) t0 t0 (sb (R2 sz24 rF pa2 rfl pu2) t2 t1 ?_)))))
 refine aV L rfl (zn [(2,_),(3,_)] [(2,_)] t2 t1 (X1 ?_))
 refine Y0 (.agg rfl rfl rfl ag24 sz24 (.cons (.cons .nil))) (.tmp rfl) ?_
 rfl
theorem y1d {n c:Nat}{A B:List (List Rat)}(h:RC n c A)(h2:RC n c B)(he:∀ i j,i<n→j<c→ent A i j=ent B i j):A=B:=by
 refine List.ext_getElem (by rw [h.1,h2.1]) fun i h3 h4=>?_
 have hi:i<n:=by rw [← h.1]; exact h3
 have e1:A.getD i []=A[i]:=by simp [f0,h3]
 have e2:B.getD i []=B[i]:=by simp [f0,h4]
 have l1:(A.getD i []).length=c:=h.get hi
 have l2:(B.getD i []).length=c:=h2.get hi
 rw [← e1,← e2]
 refine Q0s (by rw [l1,l2]) fun j hj=>?_
 exact he i j hi oM
theorem F1m {n:Nat}{M:List (List Rat)}(h:RC n n M)(hf:(ech M (K3 n) n).pv.length=n):h0h n (ech M (K3 n) n).b M=K3 n:=by
 obtain ⟨r1,r2,_⟩:=D0d h hf
 exact y1d (m1d r1) n9 fun i j hi hj=>by rw [b1s r1 h hi hj,k0w hi hj]; exact r2 i j hi hj
theorem n1b {n:Nat}{M:List (List Rat)}(h:RC n n M)(hf:(ech M (K3 n) n).pv.length=n):h0h n M (ech M (K3 n) n).b=K3 n:=by
 obtain ⟨r1,_,r3⟩:=D0d h hf
 exact y1d (m1d h) n9 fun i j hi hj=>by rw [b1s h r1 hi hj,k0w hi hj]; exact r3 i j hi hj
theorem F1a {n:Nat}:MB 1 (K3 n):=fun r hr a ha=>by
 obtain ⟨i,hi,rfl⟩:=List.mem_iff_getElem.1 hr
 obtain ⟨j,hj,rfl⟩:=List.mem_iff_getElem.1 ha
 have e:ent (K3 n) i j=(K3 n)[i][j]:=by
  have h1:(K3 n).getD i []=(K3 n)[i]:=by rw [f0,J1 hi]; rfl
  rw [ent,h1,f0,J1 hj]; rfl
 rw [← e]
 rcases V0n (n:=n) (i:=i) (j:=j) with h | h <;> rw [h]
 ·rw [k0h]; decide
 ·exact B1w (z:=1) dC
theorem J0f (c:Int)(m:List (List RQ))(hw:WdM m):s3 E 9 [pMR c m] (bZ true):=by
 refine y2 (xs:=[bZ true]) Tryz.func9 rfl Tryz.ntmps9 Tryz.results9 sM fun F hG hX0 hnt hdf P0=>?_
 obtain ⟨L,hX,hN⟩:=pro hnt hX0 hG
 refine exr (swb (U3 (k:=1) (n:=2) pa2 rfl rfl (P0 _ rfl) L) t1 t0 ⟨rfl,rfl⟩ (aV L rfl (zn [(1,_)] [(1,_)] t1 t1 (R1 (exr (lp2 ag24 sz24 L rfl rfl (cK hG hX cl11 hN (f1p 10 c m dC) L t2 (sw (m4 L) t1 t0 (zn [(1,_),(13,_)] [(1,_)] t2 t1 ?_)))))))))
 refine j2 rfl (fun hc=>?_) (fun hc=>?_)
 ·refine exr (cK hG hX cl12 hN f0a L t0 (aV L rfl (zn [(2,_)] [] t1 trivial (X1 ?_))))
  refine Q0 (.tmp rfl) ?_
  rfl
 ·have hc:P8 10 c m=true:=by simpa using hc
  have hm:=K0d dC hw hc
  rcases Bool.eq_false_or_eq_true (isM c m) with hi | hi
  ·obtain ⟨k,M,rfl,rfl,hM,hk,hl,hB⟩:=y1n dC hw hc hi
   have hsq:=V0s k _ hm
   have hri:=f0z hM hB dC
   rw [d1q] at hsq
   rw [h0x,O0]
   rw [hi,Bool.true_and,O0] at hsq
   by_cases hlk:M.length=k
   ·rw [decide_eq_true (show (M.length:Int)=k by omega)] at hsq
    have hrc:RC k k M:=⟨hlk,hM.len⟩
    have hKX:32*6*(k*k+0)≤192*210:=by have:=Nat.mul_le_mul hk hk; omega
    have H:=J1d hrc hB oM (P1d (Y:=192*210) (N:=14) hKX oM (by decide +kernel))
    have hin:=P0g k BB DD M hM (hB.mono dC) hlk H
    have hre:=H0z k BB 130000000 M (W1y hM.len hB oM oM)
    rw [(M0b hrc (n9 (n:=k)) (cc:=k)).2] at hre
    have hpl:(ech M (K3 k) k).pv.length≤k:=(B6 hrc n9 k (Nat.le_refl _)).2.2.1.le
    by_cases hf:(ech M (K3 k) k).pv.length<k
    ·rw [d1j,d1f,d1n,if_pos hf,if_pos hf,if_pos hf] at hin
     refine U1 (xq ?_)
     refine exr (lp2 ag24 sz24 L rfl rfl (cK hG hX cl42 hN hin L t1 (mV L rfl (sw (W3 rfl L) t1 t0 (sw (W3 rfl L) t1 t0 (swb (O3 (k:=3) (n:=2) zv24 (.cons rfl (.cons rfl .nil)) rfl (P0 _ rfl) L) t0 t0 ⟨rfl,rfl⟩ (sb (R2 sz24 rF pa2 rfl pu2) t2 t1 ?_)))))))
     refine aV L rfl (zn [(1,_),(3,_),(4,_)] [(1,_),(3,_)] t3 t2 (R1 (V1 (exr (lp2 ag24 sz24 L rfl rfl (cK hG hX cl15 hN hri L t1 (sw (m4 L) t1 t0 (aV L rfl (zn [(1,_),(3,_),(4,_),(20,_)] [(1,_),(3,_)] t4 t2 (P3 rfl rfl (exr ?_)))))))))))
     refine lp2 ag24 sz24 L rfl rfl (cK hG hX cl32 hN hsq L t1 (sw (m4 L) t1 t0 (aV L rfl (zn [(1,_),(3,_),(4,_),(29,_)] [(1,_),(3,_)] t4 t2 (P3 rfl rfl ?_)))))
     refine U1 (xq ?_)
     refine exr (lp2 ag24 sz24 L rfl rfl (cK hG hX cl16 hN hre L t1 (mV L rfl (sw (W3 rfl L) t1 t0 (sw (W3 rfl L) t1 t0 (swb (O3 (k:=5) (n:=2) zv24 (.cons rfl (.cons rfl .nil)) rfl (P0 _ rfl) L) t0 t0 ⟨rfl,rfl⟩ (sb (R2 sz24 rF pa2 rfl pu2) t2 t1 ?_)))))))
     refine aV L rfl (zn [(1,_),(3,_),(4,_),(6,_)] [(1,_),(3,_)] t4 t2 (R1 (exr (mV L rfl (sw (X2 un27 L) t1 t0 (sw (Z1 un24 rfl sz3 dC rX L) t1 t1 ?_))))))
     refine sw (Y1 ag3 rF rF L) t1 t1 ?_
     refine sw (V3 L) t2 t0 (zn [(1,_),(3,_),(4,_),(47,_)] [(1,_),(3,_)] t4 t2 (Z8 rfl (decide_eq_true oM) (exr (cK hG hX cl12 hN f0a L t0 (mV L rfl (gV (g:=49) rfl rfl L rfl rfl (swg (g:=49) rfl rfl (c_e L) rfl t2 t0 (sw (Y4 rfl L) t2 t0 (aV L rfl (zn [(2,_)] [] t1 trivial (X1 ?_)))))))))))
     refine Q0 (.tmp rfl) ?_
     rfl
    ·have hf2:(ech M (K3 k) k).pv.length=k:=by omega
     rw [d1j,d1f,d1n,if_neg hf,if_neg hf,if_neg hf] at hin
     have rv:=(D0d hrc hf2).1
     have eL:=F1m hrc hf2
     have eR:=n1b hrc hf2
     have bv:MB BB (ech M (K3 k) k).b:=H.be k (Nat.le_refl _)
     obtain ⟨v,hv⟩:∃ v,v=(ech M (K3 k) k).b:=⟨_,rfl⟩
     rw [← hv] at hin rv eL eR bv
     have oV:MOk k v:=⟨by rw [rv.1]; omega,hM.cols,rv.2⟩
     have mL:=G0c k k BB 6 v M oV hM bv hB dC dC oM (by rw [hlk]; have:=V0 (BB+6+1) hk; exact Nat.lt_of_le_of_lt (Nat.succ_le_succ this) dC)
     have mR:=G0c k k 6 BB M v hM oV hB bv dC dC (by rw [rv.1]) (by rw [rv.1]; have:=V0 (6+BB+1) hk; exact Nat.lt_of_le_of_lt (Nat.succ_le_succ this) dC)
     rw [eL] at mL
     rw [eR] at mR
     have hus:=W0c (c:=k) (M:=K3 k) (B:=1) (by rw [n9.1]; omega) (fun r hr=>by rw [n9.2 r hr]; omega) F1a dC
     refine U1 (xq ?_)
     refine exr (lp2 ag24 sz24 L rfl rfl (cK hG hX cl42 hN hin L t1 (mV L rfl (sw (W3 rfl L) t1 t0 (sw (W3 rfl L) t1 t0 (swb (O3 (k:=3) (n:=2) zv24 (.cons rfl (.cons rfl .nil)) rfl (P0 _ rfl) L) t0 t0 ⟨rfl,rfl⟩ (sb (R2 sz24 rF pa2 rfl pu2) t2 t1 ?_)))))))
     refine aV L rfl (zn [(1,_),(3,_),(4,_)] [(1,_),(3,_)] t3 t2 (R1 (V1 (exr (lp2 ag24 sz24 L rfl rfl (cK hG hX cl15 hN hri L t1 (sw (m4 L) t1 t0 (aV L rfl (zn [(1,_),(3,_),(4,_),(20,_)] [(1,_),(3,_)] t4 t2 (P3 rfl rfl (exr ?_)))))))))))
     refine lp2 ag24 sz24 L rfl rfl (cK hG hX cl32 hN hsq L t1 (sw (m4 L) t1 t0 (aV L rfl (zn [(1,_),(3,_),(4,_),(29,_)] [(1,_),(3,_)] t4 t2 (P3 rfl rfl ?_)))))
     refine U1 (xq ?_)
     refine exr (lp2 ag24 sz24 L rfl rfl (cK hG hX cl16 hN hre L t1 (mV L rfl (sw (W3 rfl L) t1 t0 (sw (W3 rfl L) t1 t0 (swb (O3 (k:=5) (n:=2) zv24 (.cons rfl (.cons rfl .nil)) rfl (P0 _ rfl) L) t0 t0 ⟨rfl,rfl⟩ (sb (R2 sz24 rF pa2 rfl pu2) t2 t1 ?_)))))))
     refine aV L rfl (zn [(1,_),(3,_),(4,_),(6,_)] [(1,_),(3,_)] t4 t2 (R1 (exr (mV L rfl (sw (X2 un27 L) t1 t0 (sw (Z1 un24 rfl sz3 dC rX L) t1 t1 ?_))))))
     refine sw (Y1 ag3 rF rF L) t1 t1 ?_
     refine sw (V3 L) t2 t0 (zn [(1,_),(3,_),(4,_),(47,_)] [(1,_),(3,_)] t4 t2 (P3 rfl (decide_eq_false oM) ?_))
     refine U1 (xq ?_)
     refine R1 (exr (mV L rfl (sw (c_n L) t2 t0 (mV L rfl (swg (g:=55) rfl rfl (n6 ag24 sz24 rF (by exact al2) rfl L) rfl t1 t1 ?_)))))
     refine swg (g:=55) rfl rfl (c_c hG hX cl15 rfl hN (f0z oV bv dC) L) rfl t1 t0 (swg (g:=55) rfl rfl (m4 L) rfl t1 t0 (sw (v4 rfl L) t2 t0 (mV L rfl (swg (g:=60) rfl rfl (Z1 un24 rfl sz3 dC rX L) rfl t1 t1 ?_))))
     refine swg (g:=60) rfl rfl (Y1 ag3 rF rF L) rfl t1 t1 ?_
     refine swg (g:=60) rfl rfl (Z1 un24 rfl sz3 dC rX L) rfl t1 t1 ?_
     refine swg (g:=60) rfl rfl (Y1 ag3 rF rF L) rfl t1 t1 ?_
     refine swg (g:=60) rfl rfl (c_n L) rfl t2 t0 (sw (v4 rfl L) t2 t0 (mV L rfl (swg (g:=67) rfl sM (Z1 un24 rfl sz22 dC rX L) rfl t1 t1 ?_)))
     refine swg (g:=67) rfl sM (Y1 ag22 rF rF L) rfl t1 t1 ?_
     refine swg (g:=67) rfl sM (X2 un22 L) rfl t1 t0 ?_
     refine swg (g:=67) rfl sM (Z1 un24 rfl sz3 dC rX L) rfl t1 t1 ?_
     refine swg (g:=67) rfl sM (Y1 ag3 rF rF L) rfl t1 t1 ?_
     refine swg (g:=67) rfl sM (c_n L) rfl t2 t0 ?_
     refine sw (v4 sM L) t2 t0 ?_
     refine zn [(1,_),(3,_),(74,_)] [(1,_),(3,_)] t3 t2 (P3 rfl (by simp [rv.1]) ?_)
     refine U1 (xq ?_)
     refine exr (lp2 ag24 sz24 L rfl rfl (lp2 ag24 sz24 L rfl rfl (cK hG hX cl35 hN mL L t2 (mV L rfl (sw (W3 rfl L) t1 t0 (sw (W3 rfl L) t1 t0 (swb (O3 (k:=7) (n:=2) zv24 (.cons rfl (.cons rfl .nil)) rfl (P0 _ rfl) L) t0 t0 ⟨rfl,rfl⟩ (sb (R2 sz24 rF pa2 rfl pu2) t2 t1 ?_))))))))
     refine aV L rfl (zn [(1,_),(3,_),(7,_)] [(1,_),(3,_),(7,_)] t3 t3 (exr (lp2 ag24 sz24 L rfl rfl (lp2 ag24 sz24 L rfl rfl (cK hG hX cl35 hN mR L t2 (mV L rfl (sw (W3 rfl L) t1 t0 (sw (W3 rfl L) t1 t0 (swb (O3 (k:=9) (n:=2) zv24 (.cons rfl (.cons rfl .nil)) rfl (P0 _ rfl) L) t0 t0 ⟨rfl,rfl⟩ (sb (R2 sz24 rF pa2 rfl pu2) t2 t1 ?_))))))))))
     refine aV L rfl (zn [(1,_),(7,_),(9,_)] [(1,_),(7,_),(9,_)] t3 t3 (exd rF ?_))
     refine cK hG hX cl12 hN f0a L t0 (mV L rfl (swg (g:=88) rfl rfl (n6 ag24 sz24 rF (by exact al2) rfl L) rfl t1 t1 ?_))
     refine swg (g:=88) rfl rfl (Z1 un24 rfl sz3 dC rX L) rfl t1 t1 ?_
     refine swg (g:=88) rfl rfl (Y1 ag3 rF rF L) rfl t1 t1 ?_
     refine swg (g:=88) rfl rfl (c_c hG hX cl43 rfl hN (F0v k oM) L) rfl t1 t0 (swg (g:=88) rfl rfl (c_c hG hX cl17 rfl hN hus L) rfl t2 t0 (sw (Y4 rfl L) t2 t0 (mV L rfl (swg (g:=95) rfl rfl (n6 ag24 sz24 rF (by exact al2) rfl L) rfl t1 t1 ?_))))
     refine swg (g:=95) rfl rfl (Z1 un24 rfl sz3 dC rX L) rfl t1 t1 ?_
     refine swg (g:=95) rfl rfl (Y1 ag3 rF rF L) rfl t1 t1 ?_
     refine swg (g:=95) rfl rfl (c_c hG hX cl43 rfl hN (F0v k oM) L) rfl t1 t0 (swg (g:=95) rfl rfl (c_c hG hX cl17 rfl hN hus L) rfl t2 t0 (sw (Y4 rfl L) t2 t0 (aV L rfl ?_)))
     refine O1 ⟨b5 [⟨[],[],[87],[]⟩,⟨[87],[],[88],[]⟩,⟨[88,7],[7],[89],[]⟩,⟨[88,1],[1],[90],[]⟩,⟨[88,90],[1],[91],[]⟩,⟨[88,91],[],[92],[]⟩,⟨[88,89,92],[],[93],[]⟩,⟨[88,93],[],[94],[]⟩,⟨[94],[],[95],[]⟩,⟨[95,9],[9],[96],[]⟩,⟨[95,1],[1],[97],[]⟩,⟨[95,97],[1],[98],[]⟩,⟨[95,98],[],[99],[]⟩,⟨[95,96,99],[],[100],[]⟩,⟨[95,100],[],[101],[]⟩,⟨[101],[],[2],[]⟩] rF rF dC,[(2,_)],[],t1,trivial,?_⟩
     refine X1 ?_
     refine Q0 (.tmp rfl) ?_
     rfl
   ·rw [decide_eq_false (show ¬ (M.length:Int)=k by omega)] at hsq
    refine U1 (xq ?_)
    refine exr (lp2 ag24 sz24 L rfl rfl (cK hG hX cl42 hN (Y0v k 6 M hM hB dC hlk) L t1 (mV L rfl (sw (W3 rfl L) t1 t0 (sw (W3 rfl L) t1 t0 (swb (O3 (k:=3) (n:=2) zv24 (.cons rfl (.cons rfl .nil)) rfl (P0 _ rfl) L) t0 t0 ⟨rfl,rfl⟩ (sb (R2 sz24 rF pa2 rfl pu2) t2 t1 ?_)))))))
    refine aV L rfl (zn [(1,_),(3,_),(4,_)] [(1,_),(3,_)] t3 t2 (R1 (V1 (exr (lp2 ag24 sz24 L rfl rfl (cK hG hX cl15 hN hri L t1 (sw (m4 L) t1 t0 (aV L rfl (zn [(1,_),(3,_),(4,_),(20,_)] [(1,_),(3,_)] t4 t2 (P3 rfl rfl (exr ?_)))))))))))
    refine lp2 ag24 sz24 L rfl rfl (cK hG hX cl32 hN hsq L t1 (sw (m4 L) t1 t0 (aV L rfl (zn [(1,_),(3,_),(4,_),(29,_)] [(1,_),(3,_)] t4 t2 (Z8 rfl rfl (exr (cK hG hX cl12 hN f0a L t0 (mV L rfl (gV (g:=34) rfl rfl L rfl rfl (swg (g:=34) rfl rfl (c_e L) rfl t2 t0 (sw (Y4 rfl L) t2 t0 ?_)))))))))))
    refine aV L rfl (zn [(2,_)] [] t1 trivial (X1 ?_))
    refine Q0 (.tmp rfl) ?_
    rfl
  ·refine U1 (xq ?_)
   refine exr (lp2 ag24 sz24 L rfl rfl (cK hG hX cl42 hN (f1s c m hm hi) L t1 (mV L rfl (sw (W3 rfl L) t1 t0 (sw (W3 rfl L) t1 t0 (swb (O3 (k:=3) (n:=2) zv24 (.cons rfl (.cons rfl .nil)) rfl (P0 _ rfl) L) t0 t0 ⟨rfl,rfl⟩ (sb (R2 sz24 rF pa2 rfl pu2) t2 t1 ?_)))))))
   refine aV L rfl (zn [(1,_),(3,_),(4,_)] [(1,_),(3,_)] t3 t2 (R1 (V1 (exr (lp2 ag24 sz24 L rfl rfl (cK hG hX cl15 hN (k0v c m hm) L t1 (sw (m4 L) t1 t0 (aV L rfl (zn [(1,_),(3,_),(4,_),(20,_)] [(1,_),(3,_)] t4 t2 (Z8 rfl (by rw [hi]; rfl) ?_))))))))))
   refine exr (cK hG hX cl12 hN f0a L t0 (mV L rfl (gV (g:=25) rfl rfl L rfl rfl (swg (g:=25) rfl rfl (c_e L) rfl t2 t0 (sw (Y4 rfl L) t2 t0 (aV L rfl (zn [(2,_)] [] t1 trivial (X1 ?_))))))))
   refine Q0 (.tmp rfl) ?_
   rfl
end Go.Proofs.YtjagfionflbjbaaGreat.N
